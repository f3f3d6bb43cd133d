/- The statements about layer 9 hold of plain data. No conditions. -/
import Derived.Test.YthmfeknfiekcmaaPHeapJ
import Derived.Test.YthmfeknfiekcmaaPNum
import Derived.Test.YthmfeknfiekcmaaPWt
import Derived.Test.YthmfeknfiekcmaaFAllKmempoollaw9
namespace Go.Proofs.Ythmfeknfiekcmaa.Am
open Go

theorem known9 : Ok (F_mempoollaw9_known.bind fun r => some r) (· = true) := ⟨true, by rw [T_mempoollaw9_known]; rfl, rfl⟩
def sumL (ls : List (List Int)) : Nat := (ls.map List.length).sum
theorem sumL_take {ls : List (List Int)} {i : Nat} (h : i < ls.length) : sumL (ls.take (i + 1)) = sumL (ls.take i) + ls[i].length := by
  unfold sumL
  rw [take_succ' h, List.map_append, List.sum_append]
  simp
theorem sumL_le {ls : List (List Int)} {c : Nat} (h : ∀ l ∈ ls, l.length ≤ c) : sumL ls ≤ ls.length * c := by
  induction ls with
  | nil => simp [sumL]
  | cons l ls ih =>
    have h1 := ih fun x hx => h x (by simp [hx])
    have h2 := h l (by simp)
    have e : sumL (l :: ls) = l.length + sumL ls := by simp [sumL]
    rw [e, List.length_cons, Nat.succ_mul]
    omega
theorem long9_ok {ls : List (List Int)} (hn : ls.length ≤ 2) (hl : ∀ l ∈ ls, l.length ≤ 140737488351232) : F_mempoollaw9_long ls = some (decide (160 < ((sumL ls : Nat) : Int))) := by
  have hb : ∀ i, i ≤ ls.length → sumL (ls.take i) ≤ 2 * 140737488351232 := fun i hi => by
    have h1 := sumL_le (ls := ls.take i) (c := 140737488351232) fun x hx => hl x (List.mem_of_mem_take hx)
    have h2 : (ls.take i).length ≤ 2 := by rw [List.length_take]; omega
    exact Nat.le_trans h1 (Nat.mul_le_mul_right _ h2)
  refine ok_eq.1 ?_
  unfold F_mempoollaw9_long F_mempoollaw9_long_l1s
  refine ok_range ls (fun i (a : Int) => (a, ls, ((ls.length : Nat) : Int), ((i : Nat) : Int))) (fun i a => a = ((sumL (ls.take i) : Nat) : Int)) (fun i a hi ha => ?_) (fun a ha => ?_) (b0 := 0) (by simp [sumL]) (by omega)
  · subst ha
    have h1 := hb (i + 1) (by omega)
    have h2 := sumL_take hi
    have w : wi64 (((sumL (ls.take i) : Nat) : Int) + ((ls[i].length : Nat) : Int)) = ((sumL (ls.take (i + 1)) : Nat) : Int) := by rw [wi64_id] <;> omega
    simp only [F_mempoollaw9_long_l1, wi_succ (i := i) (by omega), ok_sel, ok_chk, ok_some, nxt_inl, nxt_inr, decide_eq_true_eq, decide_eq_false_iff_not, Int.toNat_natCast, getD_lt hi, w]
    exact ⟨fun _ => ⟨by omega, _, rfl, rfl⟩, fun h => by omega⟩
  · subst ha
    simp only [F_mempoollaw9_long_l1, ok_sel, ok_chk, ok_some, nxt_inl, nxt_inr, decide_eq_true_eq, decide_eq_false_iff_not, Int.toNat_natCast, List.take_length]
    exact ⟨fun h => by omega, fun _ => trivial⟩
theorem item_ok {L : List Int} {k : Int} {s : D_mempoolmake_Numbers} (hs : NumS L k s) (hk : k < 1000000000) : Ok (F_mempoollaw9_item s) fun r => NumS L (k + 3) r.1 ∧ s.2 < r.1.2 := by
  unfold F_mempoollaw9_item
  rw [ok_bind]
  refine (next_s hs (n := 9) (by omega) (by omega) (by omega)).mono fun r1 h1 => ?_
  rw [ok_bind]
  refine (next_s h1.1 (n := 4) (by omega) (by omega) (by omega)).mono fun r2 h2 => ?_
  rw [ok_bind]
  refine (next_s h2.1 (n := 5) (by omega) (by omega) (by omega)).mono fun r3 h3 => ?_
  rw [ok_some]
  have a1 := h1.2.1; have a2 := h2.2.1; have a3 := h3.2.1
  exact ⟨h3.1.le (by omega), by dsimp only; omega⟩
theorem sz_len {l : List Int} (z : szU (.sl (.int .i64)) l) : l.length ≤ 140737488351232 := by
  have h : l.length * 8 ≤ reachBytes := z.1
  have hr : reachBytes = 140737488351232 := rfl
  omega
theorem item_beq (x y : D_api_Item) : U.beq U_api_Item x y = decide ((x : Int × Int × Int) = y) := by
  have h : U.beq U_api_Item x y = true ↔ @Eq (Int × Int × Int) x y := U.beq_iff U_api_Item _ rfl x y
  cases hb : U.beq U_api_Item x y with
  | true => exact (decide_eq_true (h.1 hb)).symm
  | false => exact (decide_eq_false fun e => by rw [h.2 e] at hb; cases hb).symm
theorem heapOrders_law (x0 x1 x2 : D_api_Item) (x3 : List Int) (_ : wfU U_api_Item x0) (_ : wfU U_api_Item x1) (_ : wfU U_api_Item x2) (_ : wfU (.sl (.int .i64)) x3) (_ : szU U_api_Item x0) (_ : szU U_api_Item x1) (_ : szU U_api_Item x2) (z3 : szU (.sl (.int .i64)) x3) : F_mempoollaw9_HeapOrders x0 x1 x2 x3 = some true := by
  refine ok_eq.1 ?_
  unfold F_mempoollaw9_HeapOrders
  rw [long9_ok (ls := [x3]) (by simp) (fun l hl => by rw [List.mem_singleton.1 hl]; exact sz_len z3), Option.bind_some, ok_sel]
  refine ⟨fun _ => known9, fun _ => ?_⟩
  rw [from_ok, Option.bind_some, ok_bind]
  refine (item_ok (numS0 x3) (by omega)).mono fun r4 h4 => ?_
  rw [ok_bind]
  refine (item_ok h4.1 (by omega)).mono fun r5 h5 => ?_
  rw [ok_bind]
  refine (item_ok h5.1 (by omega)).mono fun r6 h6 => ?_
  unfold F_mempoollaw9_HeapOrders_l1s
  generalize (Vector.push (Vector.push #v[] (Vector.push (Vector.push (Vector.push #v[] x0) x1) x2)) (Vector.push (Vector.push (Vector.push #v[] r4.2) r5.2) r6.2)) = V
  refine ok_iterE (fun n v => ∃ i : Nat, i + n = 2 ∧ v = (V, (i : Int))) ?_ (n := 2) ⟨0, rfl, rfl⟩ (by omega)
  rintro n v ⟨i, hi, rfl⟩
  unfold F_mempoollaw9_HeapOrders_l1
  dsimp only
  rw [Int.toNat_natCast]
  obtain ⟨X, hX⟩ : ∃ X, vget (vget V i (Vector.replicate 3 d_api_Item)) 0 d_api_Item = X := ⟨_, rfl⟩
  obtain ⟨Y, hY⟩ : ∃ Y, vget (vget V i (Vector.replicate 3 d_api_Item)) 1 d_api_Item = Y := ⟨_, rfl⟩
  obtain ⟨Z, hZ⟩ : ∃ Z, vget (vget V i (Vector.replicate 3 d_api_Item)) 2 d_api_Item = Z := ⟨_, rfl⟩
  have hbq : U.beq U_api_Item (vget (vget V i (Vector.replicate 3 d_api_Item)) 0 d_api_Item) (vget (vget V i (Vector.replicate 3 d_api_Item)) 1 d_api_Item) = decide ((X : Int × Int × Int) = Y) := by
    subst hX hY
    exact item_beq _ _
  rw [hbq, hX, hY, hZ]
  simp only [before_ok, refBefore_ok, Option.bind_some]
  rw [ok_sel]
  refine ⟨fun h2 => ?_, fun h2 => ?_⟩
  · have h2 : i < 2 := by have := of_decide_eq_true h2; omega
    rw [decide_eq_true (show (0 : Int) ≤ (i : Int) ∧ (i : Int) < 2 by omega), chk_t, wi_succ (i := i) (by omega)]
    have fin : Ok (some (Sum.inl (V, ((i + 1 : Nat) : Int)) : (Vector (Vector D_api_Item 3) 2 × Int) ⊕ Bool)) (Nxt (· = true) fun z => ∃ m, m < n ∧ ∃ i : Nat, i + m = 2 ∧ z = (V, (i : Int))) := by
      rw [ok_some, nxt_inl]
      exact ⟨n - 1, by omega, i + 1, by omega, rfl⟩
    have hb : ∀ b : Bool, beqB b b = true := fun b => by cases b <;> rfl
    rw [hb]
    by_cases h1 : Bef X Y
    · have n1 : ¬ Bef Y X := h1.asymm
      have n2 : X ≠ Y := fun e => Bef.irrefl Y (by rw [e] at h1; exact h1)
      rw [decide_eq_true h1, decide_eq_false n1, decide_eq_false n2]
      by_cases h3 : Bef Y Z
      · rw [decide_eq_true h3, decide_eq_true (h1.trans h3)]
        exact fin
      · rw [decide_eq_false h3]
        exact fin
    · rw [decide_eq_false h1]
      by_cases h3 : Bef Y X
      · have n2 : X ≠ Y := fun e => Bef.irrefl Y (by rw [e] at h3; exact h3)
        rw [decide_eq_true h3, decide_eq_false n2]
        exact fin
      · rw [decide_eq_false h3, decide_eq_true (Bef.tri h1 h3)]
        exact fin
  · rw [ok_map]
    exact known9.mono fun r hr => by subst hr; rfl
theorem heapNil_law (x0 : D_api_Item) (_ : wfU U_api_Item x0) (_ : szU U_api_Item x0) : F_mempoollaw9_HeapNil x0 = some true := by
  have h : F_mempoollaw9_HeapNil x0 = (F_mempoollaw9_known.bind fun r => some r) := rfl
  rw [h]
  exact ok_eq.1 known9
end Go.Proofs.Ythmfeknfiekcmaa.Am
