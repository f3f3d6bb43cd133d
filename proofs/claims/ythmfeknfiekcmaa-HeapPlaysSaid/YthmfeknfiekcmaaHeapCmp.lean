/- The order of the heap's sorted list: its items are compared by priority, by order, by number. No conditions. -/
import Derived.Test.YthmfeknfiekcmaaSortF
import Derived.Test.YthmfeknfiekcmaaHeapLay
import Derived.Test.YthmfeknfiekcmaaAmTab
import Derived.Test.YthmfeknfiekcmaaBase
namespace Go.Proofs.Ythmfeknfiekcmaa.Am
open Go Go.Shelf Go.Proofs Go.RowKit

def cmpN (x y : Int) : Int := if x < y then -1 else if y < x then 1 else 0
def firstNZ : List Int → Int
  | [] => 0
  | x :: l => if x = 0 then firstNZ l else x
/-- The greater priority first, then the smaller order, then the smaller number. -/
def cfItem (a b : Int × Int × Int) : Int := firstNZ [cmpN b.2.1 a.2.1, cmpN a.2.2 b.2.2, cmpN a.1 b.1]
theorem cmpN_neg (x y : Int) : cmpN x y < 0 ↔ x < y := by unfold cmpN; split <;> (try split) <;> omega
theorem cmpN_zero (x y : Int) : cmpN x y = 0 ↔ x = y := by unfold cmpN; split <;> (try split) <;> omega
theorem ltItem (a b : Int × Int × Int) : ltOf cfItem a b = true ↔ b.2.1 < a.2.1 ∨ (a.2.1 = b.2.1 ∧ (a.2.2 < b.2.2 ∨ (a.2.2 = b.2.2 ∧ a.1 < b.1))) := by
  unfold ltOf cfItem
  rw [decide_eq_true_eq]
  have h1 := cmpN_neg b.2.1 a.2.1
  have h2 := cmpN_zero b.2.1 a.2.1
  have h3 := cmpN_neg a.2.2 b.2.2
  have h4 := cmpN_zero a.2.2 b.2.2
  have h5 := cmpN_neg a.1 b.1
  have h6 := cmpN_zero a.1 b.1
  simp only [firstNZ]
  generalize cmpN b.2.1 a.2.1 = p at *
  generalize cmpN a.2.2 b.2.2 = q at *
  generalize cmpN a.1 b.1 = r at *
  by_cases hp : p = 0
  · rw [if_pos hp]
    by_cases hq : q = 0
    · rw [if_pos hq]
      by_cases hr : r = 0
      · rw [if_pos hr]; omega
      · rw [if_neg hr]; omega
    · rw [if_neg hq]; omega
  · rw [if_neg hp]; omega
theorem swoItem : Sort.SWO (ltOf cfItem) := by
  refine ⟨fun x => ?_, fun x y z h k => ?_, fun x y z h k => ?_⟩
  · rw [← Bool.not_eq_true, ltItem]; omega
  · rw [ltItem] at h k ⊢; omega
  · rw [← Bool.not_eq_true, ltItem] at h k ⊢; omega
theorem nanI (x : Int) (w : World) : Calls Try.prog 69 #[.int .i64 x] w fun e w' => e = .returned (.bool false) ∧ w' = w := by
  go_enter Try.func69, Try.ntmps69
  go_wp2
  go_ret
  exact ⟨by simp, rfl⟩
theorem nanU (x : Int) (w : World) : Calls Try.prog 68 #[.int .u64 x] w fun e w' => e = .returned (.bool false) ∧ w' = w := by
  go_enter Try.func68, Try.ntmps68
  go_wp2
  go_ret
  exact ⟨by simp, rfl⟩
set_option maxHeartbeats 1000000 in
theorem compI (x y : Int) (w : World) : Calls Try.prog 53 #[.int .i64 x, .int .i64 y] w fun e w' => e = .returned (.int .i64 (cmpN x y)) ∧ w' = w := by
  go_enter Try.func53, Try.ntmps53
  go_wp2_with (go_at_call 69; refine (nanI _ _).mono ?_; rintro e w' ⟨rfl, hw⟩; rw [hw])
  all_goals (go_ret; refine ⟨?_, rfl⟩; unfold cmpN; (repeat' split) <;> first | rfl | (exfalso; omega))
set_option maxHeartbeats 1000000 in
theorem compU (x y : Int) (w : World) : Calls Try.prog 52 #[.int .u64 x, .int .u64 y] w fun e w' => e = .returned (.int .i64 (cmpN x y)) ∧ w' = w := by
  go_enter Try.func52, Try.ntmps52
  go_wp2_with (go_at_call 68; refine (nanU _ _).mono ?_; rintro e w' ⟨rfl, hw⟩; rw [hw])
  all_goals (go_ret; refine ⟨?_, rfl⟩; unfold cmpN; (repeat' split) <;> first | rfl | (exfalso; omega))
set_option maxHeartbeats 1000000 in
set_option maxRecDepth 100000 in
theorem orI (l : List Int) (b : Nat) (w : World) (hb : ∀ k, (h : k < l.length) → w.cell? ⟨b, k, none⟩ = some (.int .i64 l[k])) (hl : l.length < 1000) : Calls Try.prog 51 #[.slice (some ⟨b, 0, none⟩) l.length l.length] w fun e w' => e = .returned (.int .i64 (firstNZ l)) ∧ w' = w := by
  obtain ⟨n, hn⟩ : ∃ n, l.length = n := ⟨_, rfl⟩
  rw [hn] at hl ⊢
  have Hn := Lib.hid hn; clear hn
  go_enter Try.func51, Try.ntmps51
  go_wp2
  go_loop [8] (fun i => ∃ k : Nat, i = .int .i64 k ∧ k ≤ n ∧ firstNZ l = firstNZ (l.drop k)) (fun i => n - (intOf i).toNat)
  case atStart => exact ⟨0, rfl, by omega, by simp⟩
  case round =>
    obtain ⟨k, rfl, hk, hf⟩ := hrel
    have Hf := Lib.hid hf; clear hf
    by_cases hlt : (k : Int) < (n : Int)
    · have hkl : k < l.length := by rw [Hn.out]; omega
      have hc := hb k hkl
      have Hdrop := Lib.hid (List.drop_eq_getElem_cons hkl)
      clear hb
      generalize l[k] = x at *
      by_cases hx : x = 0
      · go_wp2_with fail
        go_round
        case rel => exact ⟨k + 1, by go_num, by omega, by rw [Hf.out, Hdrop.out, firstNZ, if_pos hx]⟩
        case measure => simp [intOf]; omega
      · go_wp2_with fail
        go_ret
        exact ⟨by rw [Hf.out, Hdrop.out, firstNZ, if_neg hx]; rfl, rfl⟩
    · have hkn : k = n := by omega
      go_wp2_with fail
      go_ret
      exact ⟨by rw [Hf.out, List.drop_of_length_le (by rw [Hn.out]; omega)]; rfl, rfl⟩
theorem orSl (a b c : Int) (W : World) : Calls Try.prog 51 #[.slice (some ⟨W.heap.size, 0, none⟩) 3 3] (W.alloc (.cells #[.int .i64 a, .int .i64 b, .int .i64 c] 3)).drew fun e w' => e = .returned (.int .i64 (firstNZ [a, b, c])) ∧ w' = (W.alloc (.cells #[.int .i64 a, .int .i64 b, .int .i64 c] 3)).drew :=
  orI [a, b, c] _ _ (fun k hk => (Box.new W 3 [.int .i64 a, .int .i64 b, .int .i64 c] rfl).drew.cell k (by
    have hk' : k = 0 ∨ k = 1 ∨ k = 2 := by simp at hk; omega
    rcases hk' with rfl | rfl | rfl <;> rfl)) (by simp)
set_option maxHeartbeats 4000000 in
set_option maxRecDepth 100000 in
theorem closItem (x1 x2 x3 y1 y2 y3 : Int) (W : World) : Calls Try.prog 62 #[.agg #[.int .i64 x1, .int .u64 x2, .int .i64 x3], .agg #[.int .i64 y1, .int .u64 y2, .int .i64 y3]] W
    fun o w' => o = .returned (.int .i64 (firstNZ [cmpN y2 x2, cmpN x3 y3, cmpN x1 y1])) ∧ ∃ q os, w' = Sort.grow (W.drewN q) os := by
  have hb2 : Box ((W.alloc (.cells #[.int .i64 x1, .int .u64 x2, .int .i64 x3] 55)).alloc (.cells #[.int .i64 y1, .int .u64 y2, .int .i64 y3] 55)) W.heap.size 55 [.int .i64 x1, .int .u64 x2, .int .i64 x3] := (Box.new W 55 [.int .i64 x1, .int .u64 x2, .int .i64 x3] rfl).alloc _
  have hb3 : Box ((W.alloc (.cells #[.int .i64 x1, .int .u64 x2, .int .i64 x3] 55)).alloc (.cells #[.int .i64 y1, .int .u64 y2, .int .i64 y3] 55)) (W.heap.size + 1) 55 [.int .i64 y1, .int .u64 y2, .int .i64 y3] := Box.new (W.alloc (.cells #[.int .i64 x1, .int .u64 x2, .int .i64 x3] 55)) 55 [.int .i64 y1, .int .u64 y2, .int .i64 y3] (by simp)
  have hgr : ∃ os, ((W.alloc (.cells #[.int .i64 x1, .int .u64 x2, .int .i64 x3] 55)).alloc (.cells #[.int .i64 y1, .int .u64 y2, .int .i64 y3] 55)) = Sort.grow W os := ⟨_, by rw [Sort.alloc_eq_grow, Sort.alloc_eq_grow, Sort.grow_grow]⟩
  go_enter Try.func62, Try.ntmps62
  go_wp2_with fail
  generalize ((W.alloc (.cells #[.int .i64 x1, .int .u64 x2, .int .i64 x3] 55)).alloc (.cells #[.int .i64 y1, .int .u64 y2, .int .i64 y3] 55)) = W1 at hb2 hb3 hgr ⊢
  generalize W.heap.size + 1 = b3 at hb3 ⊢
  generalize W.heap.size = b2 at hb2 ⊢
  have k0 := hb2.cell 0 rfl
  have k1 := hb2.cell 1 rfl
  have k2 := hb2.cell 2 rfl
  have k3 := hb3.cell 0 rfl
  have k4 := hb3.cell 1 rfl
  have k5 := hb3.cell 2 rfl
  go_region_held3 (fun w' => w'.cell? ⟨b2, 0, none⟩ = some (.int .i64 x1) ∧ w'.cell? ⟨b2, 1, none⟩ = some (.int .u64 x2) ∧ w'.cell? ⟨b2, 2, none⟩ = some (.int .i64 x3) ∧ w'.cell? ⟨b3, 0, none⟩ = some (.int .i64 y1) ∧ w'.cell? ⟨b3, 1, none⟩ = some (.int .u64 y2) ∧ w'.cell? ⟨b3, 2, none⟩ = some (.int .i64 y3))
    (first | exact ⟨k0, k1, k2, k3, k4, k5⟩ | exact ⟨(hb2.drew.alloc _).cell 0 rfl, (hb2.drew.alloc _).cell 1 rfl, (hb2.drew.alloc _).cell 2 rfl, (hb3.drew.alloc _).cell 0 rfl, (hb3.drew.alloc _).cell 1 rfl, (hb3.drew.alloc _).cell 2 rfl⟩)
    (first
      | (go_at_call 52; refine (compU _ _ _).mono ?_; rintro e w2 ⟨rfl, rfl⟩)
      | (go_at_call 53; refine (compI _ _ _).mono ?_; rintro e w2 ⟨rfl, rfl⟩)
      | (go_at_call 51; refine (orSl _ _ _ _).mono ?_; rintro e w2 ⟨rfl, rfl⟩))
  go_wp2
  go_ret
  obtain ⟨os, rfl⟩ := hgr
  exact ⟨rfl, 1, _, by rw [Sort.alloc_eq_grow, Sort.grow_grow]; rfl⟩
theorem sort_items : FnT Try.prog 61 (gSort (.pr (.int .i64) (.pr (.int .u64) (.int .i64))) 55 62 cfItem) :=
  fnT_sort Try.sortItems (fn := Try.f61) Try.func61 rfl rfl (.pr (.int .i64) (.pr (.int .u64) (.int .i64))) rfl 55 (by decide) (fun w => tok55.isAgg w) (fun w => tok55.sizeOf w) cfItem swoItem 62 (enters_of Try.func62 (by kernel_rfl) rfl) fun x y W => closItem x.1 x.2.1 x.2.2 y.1 y.2.1 y.2.2 W
end Go.Proofs.Ythmfeknfiekcmaa.Am
