/- The order of a ledger's accounts: by name. No conditions. -/
import Derived.Test.YtfaceeglocjkbaaSortF
import Derived.Test.YtfaceeglocjkbaaAccLay
import Derived.Test.YtfaceeglocjkbaaAmTab
import Derived.Test.YtfaceeglocjkbaaBase
import Derived.Lib.Strings
namespace Go.Proofs.Ytfaceeglocjkbaa.Am
open Go Go.Shelf Go.Proofs Go.RowKit

theorem bl_irrefl : ∀ (x : List UInt8), Op.bytesLess x x = false
  | [] => rfl
  | a :: x => by rw [Op.bytesLess, bl_irrefl x]; simp
theorem bl_cons (a b : UInt8) (x y : List UInt8) : Op.bytesLess (a :: x) (b :: y) = true ↔ a.toNat < b.toNat ∨ (a.toNat = b.toNat ∧ Op.bytesLess x y = true) := by
  rw [Op.bytesLess]
  simp only [Bool.or_eq_true, Bool.and_eq_true, decide_eq_true_eq, beq_iff_eq]
  rw [UInt8.lt_iff_toNat_lt, ← UInt8.toNat_inj]
theorem bl_trans : ∀ {x y z : List UInt8}, Op.bytesLess x y = true → Op.bytesLess y z = true → Op.bytesLess x z = true
  | x, [], z, h, _ => by cases x <;> cases h
  | x, _ :: _, [], _, h => by cases h
  | [], _ :: _, _ :: _, _, _ => rfl
  | a :: x, b :: y, c :: z, h, k => by
    rw [bl_cons] at h k ⊢
    rcases h with h | ⟨h1, h2⟩ <;> rcases k with k | ⟨k1, k2⟩
    · left; omega
    · left; omega
    · left; omega
    · right; exact ⟨by omega, bl_trans h2 k2⟩
theorem bl_tri : ∀ (x y : List UInt8), Op.bytesLess x y = true ∨ x = y ∨ Op.bytesLess y x = true
  | [], [] => .inr (.inl rfl)
  | [], _ :: _ => .inl rfl
  | _ :: _, [] => .inr (.inr rfl)
  | a :: x, b :: y => by
    rw [bl_cons, bl_cons]
    rcases Nat.lt_trichotomy a.toNat b.toNat with h | h | h
    · exact .inl (.inl h)
    · rcases bl_tri x y with k | k | k
      · exact .inl (.inr ⟨h, k⟩)
      · exact .inr (.inl (by rw [UInt8.toNat_inj.1 h, k]))
      · exact .inr (.inr (.inr ⟨h.symm, k⟩))
    · exact .inr (.inr (.inl h))
theorem bl_asymm {x y : List UInt8} (h : Op.bytesLess x y = true) : Op.bytesLess y x = false := by
  cases k : Op.bytesLess y x with
  | false => rfl
  | true => rw [bl_trans h k |>.symm, bl_irrefl]
/-- Names in their order. -/
def cmpS (x y : List UInt8) : Int := if Op.bytesLess x y = true then -1 else if Op.bytesLess y x = true then 1 else 0
def cfAcc (a b : List UInt8 × Int × Int) : Int := cmpS a.1 b.1
theorem cmpS_neg (x y : List UInt8) : cmpS x y < 0 ↔ Op.bytesLess x y = true := by unfold cmpS; split <;> (try split) <;> simp_all
theorem cmpS_zero (x y : List UInt8) : cmpS x y = 0 ↔ x = y := by
  unfold cmpS
  split
  · rename_i h
    constructor
    · intro e; cases e
    · intro e; subst e; rw [bl_irrefl] at h; cases h
  · split
    · rename_i h
      constructor
      · intro e; cases e
      · intro e; subst e; rw [bl_irrefl] at h; cases h
    · rename_i h k
      refine ⟨fun _ => ?_, fun _ => rfl⟩
      rcases bl_tri x y with e | e | e
      · exact absurd e h
      · exact e
      · exact absurd e k
theorem ltAcc (a b : List UInt8 × Int × Int) : ltOf cfAcc a b = Op.bytesLess a.1 b.1 := by
  unfold ltOf cfAcc
  cases h : Op.bytesLess a.1 b.1 with
  | true => exact decide_eq_true ((cmpS_neg _ _).2 h)
  | false => exact decide_eq_false fun k => by rw [cmpS_neg, h] at k; cases k
theorem swoAcc : Sort.SWO (ltOf cfAcc) := by
  refine ⟨fun x => ?_, fun x y z h k => ?_, fun x y z h k => ?_⟩
  · rw [ltAcc, bl_irrefl]
  · rw [ltAcc] at h k ⊢; exact bl_trans h k
  · rw [ltAcc] at h k ⊢
    rcases bl_tri y.1 x.1 with e | e | e
    · rcases bl_tri z.1 y.1 with f | f | f
      · exact bl_asymm (bl_trans f e)
      · rw [f]; exact bl_asymm e
      · rw [f] at k; cases k
    · rw [← e]; exact k
    · rw [e] at h; cases h
theorem nanS (x : ByteArray) (w : World) : Calls Try.prog 52 #[.string x] w fun e w' => e = .returned (.bool false) ∧ w' = w := by
  go_enter Try.func52, Try.ntmps52
  go_wp2
  go_ret
  exact ⟨by simp, rfl⟩
set_option maxHeartbeats 1000000 in
theorem compS (x y : List UInt8) (w : World) : Calls Try.prog 38 #[.string ⟨x.toArray⟩, .string ⟨y.toArray⟩] w fun e w' => e = .returned (.int .i64 (cmpS x y)) ∧ w' = w := by
  have hx : (ByteArray.mk x.toArray).toList = x := by rw [Lib.toList_data]
  have hy : (ByteArray.mk y.toArray).toList = y := by rw [Lib.toList_data]
  have hgt : (x == y) = (!Op.bytesLess x y && !Op.bytesLess y x) := by
    rcases bl_tri x y with e | e | e
    · rw [e]
      have : (x == y) = false := by rw [beq_eq_false_iff_ne]; rintro rfl; rw [bl_irrefl] at e; cases e
      rw [this]; rfl
    · subst e; rw [bl_irrefl]; simp
    · rw [e]
      have : (x == y) = false := by rw [beq_eq_false_iff_ne]; rintro rfl; rw [bl_irrefl] at e; cases e
      rw [this]; simp
  have hc : cmpS x y = if Op.bytesLess x y = true then -1 else if Op.bytesLess y x = true then 1 else 0 := rfl
  generalize cmpS x y = r at hc ⊢
  generalize hX : ByteArray.mk x.toArray = X at *
  generalize hY : ByteArray.mk y.toArray = Y at *
  have Hc := Lib.hid hc; clear hc
  clear hX hY
  cases h1 : Op.bytesLess x y with
  | true =>
    go_enter Try.func38, Try.ntmps38
    go_wp2_with (go_at_call 52; refine (nanS _ _).mono ?_; rintro e w' ⟨rfl, hw⟩; rw [hw])
    go_ret
    exact ⟨by rw [Hc.out, h1]; rfl, rfl⟩
  | false =>
    cases h2 : Op.bytesLess y x with
    | true =>
      rw [h1, h2] at hgt
      replace hgt : _ = false := hgt
      go_enter Try.func38, Try.ntmps38
      go_wp2_with (go_at_call 52; refine (nanS _ _).mono ?_; rintro e w' ⟨rfl, hw⟩; rw [hw])
      go_ret
      exact ⟨by rw [Hc.out, h1, h2]; rfl, rfl⟩
    | false =>
      rw [h1, h2] at hgt
      replace hgt : _ = true := hgt
      go_enter Try.func38, Try.ntmps38
      go_wp2_with (go_at_call 52; refine (nanS _ _).mono ?_; rintro e w' ⟨rfl, hw⟩; rw [hw])
      go_ret
      exact ⟨by rw [Hc.out, h1, h2]; rfl, rfl⟩
set_option maxHeartbeats 4000000 in
set_option maxRecDepth 100000 in
theorem closAcc (x1 y1 : List UInt8) (x2 x3 y2 y3 : Int) (W : World) : Calls Try.prog 37 #[.agg #[.string ⟨x1.toArray⟩, .int .u64 x2, .int .u64 x3], .agg #[.string ⟨y1.toArray⟩, .int .u64 y2, .int .u64 y3]] W
    fun o w' => o = .returned (.int .i64 (cmpS x1 y1)) ∧ ∃ q os, w' = Sort.grow (W.drewN q) os := by
  have hb2 : Box ((W.alloc (.cells #[.string ⟨x1.toArray⟩, .int .u64 x2, .int .u64 x3] 28)).alloc (.cells #[.string ⟨y1.toArray⟩, .int .u64 y2, .int .u64 y3] 28)) W.heap.size 28 [.string ⟨x1.toArray⟩, .int .u64 x2, .int .u64 x3] := (Box.new W 28 [.string ⟨x1.toArray⟩, .int .u64 x2, .int .u64 x3] rfl).alloc _
  have hb3 : Box ((W.alloc (.cells #[.string ⟨x1.toArray⟩, .int .u64 x2, .int .u64 x3] 28)).alloc (.cells #[.string ⟨y1.toArray⟩, .int .u64 y2, .int .u64 y3] 28)) (W.heap.size + 1) 28 [.string ⟨y1.toArray⟩, .int .u64 y2, .int .u64 y3] := Box.new (W.alloc (.cells #[.string ⟨x1.toArray⟩, .int .u64 x2, .int .u64 x3] 28)) 28 [.string ⟨y1.toArray⟩, .int .u64 y2, .int .u64 y3] (by simp)
  have hgr : ∃ os, ((W.alloc (.cells #[.string ⟨x1.toArray⟩, .int .u64 x2, .int .u64 x3] 28)).alloc (.cells #[.string ⟨y1.toArray⟩, .int .u64 y2, .int .u64 y3] 28)) = Sort.grow W os := ⟨_, by rw [Sort.alloc_eq_grow, Sort.alloc_eq_grow, Sort.grow_grow]⟩
  go_enter Try.func37, Try.ntmps37
  go_wp2_with fail
  generalize ((W.alloc (.cells #[.string ⟨x1.toArray⟩, .int .u64 x2, .int .u64 x3] 28)).alloc (.cells #[.string ⟨y1.toArray⟩, .int .u64 y2, .int .u64 y3] 28)) = W1 at hb2 hb3 hgr ⊢
  generalize W.heap.size + 1 = b3 at hb3 ⊢
  generalize W.heap.size = b2 at hb2 ⊢
  have k0 := hb2.cell 0 rfl
  have k3 := hb3.cell 0 rfl
  refine (compS _ _ _).mono ?_
  rintro e w' ⟨rfl, hw⟩
  rw [hw]
  go_wp2_with fail
  go_ret
  obtain ⟨os, rfl⟩ := hgr
  exact ⟨rfl, 0, os, rfl⟩
theorem sort_accounts : FnT Try.prog 36 (gSort (.pr .str (.pr (.int .u64) (.int .u64))) 28 37 cfAcc) :=
  fnT_sort Try.sortAccounts (fn := Try.f36) Try.func36 rfl rfl (.pr .str (.pr (.int .u64) (.int .u64))) rfl 28 (by decide) (fun w => tok28.isAgg w) (fun w => tok28.sizeOf w) cfAcc swoAcc 37 (enters_of Try.func37 (by kernel_rfl) rfl) fun x y W => closAcc x.1 y.1 x.2.1 x.2.2 y.2.1 y.2.2 W
end Go.Proofs.Ytfaceeglocjkbaa.Am
