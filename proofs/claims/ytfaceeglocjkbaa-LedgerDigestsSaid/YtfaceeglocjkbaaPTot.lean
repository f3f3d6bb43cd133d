/- Totals of ledgers, on plain data. No conditions. -/
import Derived.Test.YtfaceeglocjkbaaFAll
import Derived.Test.YtfaceeglocjkbaaPLoop
namespace Go.Proofs.Ytfaceeglocjkbaa.Am
open Go

def okU (n : Int) : Prop := 0 ≤ n ∧ n < 18446744073709551616
def balS (l : List D_api_Account) : Int := (l.map fun a => a.2.1).sum
def BalsU (l : List D_api_Account) : Prop := ∀ a ∈ l, okU a.2.1
theorem sum_nn : ∀ {l : List Int}, (∀ x ∈ l, 0 ≤ x) → 0 ≤ l.sum
  | [], _ => by simp
  | x :: l, h => by
    have h1 := h x List.mem_cons_self
    have h2 := sum_nn (l := l) fun y hy => h y (List.mem_cons_of_mem _ hy)
    rw [List.sum_cons]; omega
theorem sum_cut (l : List Int) (i : Nat) : l.sum = (l.take i).sum + (l.drop i).sum := by
  rw [← List.sum_append, List.take_append_drop]
theorem sum_take_le {l : List Int} (h : ∀ x ∈ l, 0 ≤ x) (i : Nat) : (l.take i).sum ≤ l.sum := by
  have h1 := sum_cut l i
  have h2 := sum_nn (l := l.drop i) fun y hy => h y (List.mem_of_mem_drop hy)
  omega
theorem sum_snoc {l : List Int} {i : Nat} (h : i < l.length) : (l.take (i + 1)).sum = (l.take i).sum + l[i] := by
  rw [take_succ' h, List.sum_append]; simp
/-- The sum, if it fits. -/
def sumF (s : Int) : Int × Bool := if s < 18446744073709551616 then (s, true) else (0, false)
theorem add_prog {x y : Int} (hx : 0 ≤ x) (hy : 0 ≤ y) : F_money_Add x y = some (sumF (x + y)) := by
  unfold F_money_Add sumF
  rw [decide_eq_true (⟨hx, hy⟩ : 0 ≤ x ∧ 0 ≤ y), chk_t]
  by_cases h : x + y < 18446744073709551616
  · rw [decide_eq_true h, if_pos h]; rfl
  · rw [decide_eq_false h, if_neg h]; rfl
theorem add_ref {x y : Int} (hx : okU x) (hy : okU y) : F_mempoolref1_Add x y = some (sumF (x + y)) := by
  unfold F_mempoolref1_Add sumF
  unfold okU at hx hy
  rw [wu64_id (n := 18446744073709551615 - y) (by omega) (by omega)]
  by_cases h : x + y < 18446744073709551616
  · rw [decide_eq_false (by omega), sel_f, if_pos h, wu64_id (by omega) (by omega)]
  · rw [decide_eq_true (by omega), sel_t, if_neg h]
theorem sum_prog {l : List Int} (h : ∀ x ∈ l, okU x) (hl : l.length ≤ 5000000000000) : F_money_Sum l = some (sumF l.sum) := by
  have hnn : ∀ x ∈ l, 0 ≤ x := fun x hx => (h x hx).1
  rw [← ok_eq]
  unfold F_money_Sum F_money_Sum_l1s
  refine ok_range l (fun i (b : Int) => (b, l, ((l.length : Nat) : Int), ((i : Nat) : Int))) (fun i b => b = (l.take i).sum ∧ okU b) (fun i b hi hv => ?_) (fun b hv => ?_) (b0 := 0) ⟨by simp, by unfold okU; omega⟩ (by omega)
  · obtain ⟨hb, hb1, hb2⟩ := hv
    have h1 := h l[i] (List.getElem_mem hi)
    have h2 := sum_take_le hnn (i + 1)
    have h3 := sum_snoc hi
    have h4 := h1.1
    unfold F_money_Sum_l1
    dsimp only
    rw [decide_eq_true (by omega : (i : Int) < ((l.length : Nat) : Int)), sel_t, decide_eq_true (by omega : (0 : Int) ≤ (i : Int) ∧ (i : Int) < ((l.length : Nat) : Int)), chk_t, Int.toNat_natCast, getD_lt hi, add_prog hb1 h1.1, Option.bind_some, wi_succ (by omega)]
    unfold sumF
    by_cases hs : b + l[i] < 18446744073709551616
    · rw [if_pos hs]
      simp only [Bool.not_true, sel_f, ok_some, nxt_inl]
      exact ⟨_, rfl, by rw [h3, hb], by unfold okU; omega⟩
    · rw [if_neg hs]
      simp only [Bool.not_false, sel_t, ok_some, nxt_inr]
      rw [if_neg (by omega)]
  · obtain ⟨hb, hb1⟩ := hv
    rw [List.take_length] at hb
    unfold F_money_Sum_l1
    dsimp only
    rw [decide_eq_false (by omega), sel_f, ok_some, nxt_inr]
    unfold sumF
    rw [if_pos (by rw [← hb]; exact hb1.2), hb]
theorem tot_prog {g : D_api_Ledger} (hc : okU g.2) (h : BalsU g.1) (hl : g.1.length ≤ 4398046511000) : F_ledger_Total g = some (sumF (g.2 + balS g.1)) := by
  obtain ⟨l, c⟩ := g
  dsimp only at hc h hl ⊢
  rw [← ok_eq]
  unfold F_ledger_Total F_ledger_Total_l2s
  dsimp only
  refine ok_range l (fun i (b : List Int) => (l, ((l.length : Nat) : Int), ((i : Nat) : Int), b)) (fun i b => b = c :: (l.take i).map fun a => a.2.1) (fun i b hi hv => ?_) (fun b hv => ?_) (b0 := [c]) rfl (by omega)
  · have hbl : b.length = i + 1 := by rw [hv]; simp only [List.length_cons, List.length_map, List.length_take]; omega
    unfold F_ledger_Total_l2
    dsimp only
    rw [decide_eq_true (by omega : (i : Int) < ((l.length : Nat) : Int)), sel_t, decide_eq_true (by omega : (0 : Int) ≤ (i : Int) ∧ (i : Int) < ((l.length : Nat) : Int)), chk_t, decide_eq_true (by rw [hbl]; exact ⟨by unfold LIM; omega, by unfold LEN; omega⟩), chk_t, Int.toNat_natCast, getD_lt hi, ok_some, nxt_inl, wi_succ (by omega)]
    exact ⟨_, rfl, by rw [take_succ' hi, List.map_append, hv]; rfl⟩
  · rw [List.take_length] at hv
    unfold F_ledger_Total_l2 F_ledger_Total_c1
    dsimp only
    rw [decide_eq_false (by omega), sel_f, sum_prog (l := b) (by
      rw [hv]
      intro x hx
      rcases List.mem_cons.1 hx with rfl | hx
      · exact hc
      · obtain ⟨a, ha, rfl⟩ := List.mem_map.1 hx
        exact h a ha) (by rw [hv]; simp only [List.length_cons, List.length_map]; omega), Option.bind_some, Option.map_some, ok_some, nxt_inr, hv, List.sum_cons]
    rfl
theorem tot_ref {g : D_api_Ledger} (hc : okU g.2) (h : BalsU g.1) (hl : g.1.length ≤ 4398046511000) : F_mempoolref10_Total g = some (sumF (g.2 + balS g.1)) := by
  obtain ⟨l, c⟩ := g
  dsimp only at hc h hl ⊢
  have hnn : ∀ x ∈ (l.map fun a => a.2.1), 0 ≤ x := fun x hx => by
    obtain ⟨a, ha, rfl⟩ := List.mem_map.1 hx
    exact (h a ha).1
  rw [← ok_eq]
  unfold F_mempoolref10_Total F_mempoolref10_Total_l1s
  dsimp only
  refine ok_range l (fun i (b : Int) => (b, l, ((l.length : Nat) : Int), ((i : Nat) : Int))) (fun i b => b = c + balS (l.take i) ∧ okU b) (fun i b hi hv => ?_) (fun b hv => ?_) (b0 := c) ⟨by simp [balS], hc⟩ (by omega)
  · obtain ⟨hb, hb1⟩ := hv
    have h1 := h l[i] (List.getElem_mem hi)
    have h2 := sum_take_le hnn (i + 1)
    have h3 : balS (l.take (i + 1)) = balS (l.take i) + l[i].2.1 := by unfold balS; rw [take_succ' hi, List.map_append, List.sum_append]; simp
    have h4 := h1.1
    have h5 : balS (l.take (i + 1)) ≤ balS l := by unfold balS; rw [List.map_take]; exact h2
    have h6 := hb1.1
    unfold F_mempoolref10_Total_l1
    dsimp only
    rw [decide_eq_true (by omega : (i : Int) < ((l.length : Nat) : Int)), sel_t, decide_eq_true (by omega : (0 : Int) ≤ (i : Int) ∧ (i : Int) < ((l.length : Nat) : Int)), chk_t, Int.toNat_natCast, getD_lt hi, add_ref hb1 h1, Option.bind_some, wi_succ (by omega)]
    unfold sumF
    by_cases hs : b + l[i].2.1 < 18446744073709551616
    · rw [if_pos hs]
      simp only [Bool.not_true, sel_f, ok_some, nxt_inl]
      exact ⟨_, rfl, by rw [h3, hb]; omega, by unfold okU; omega⟩
    · rw [if_neg hs]
      simp only [Bool.not_false, sel_t, ok_some, nxt_inr]
      rw [if_neg (by omega)]
  · obtain ⟨hb, hb1⟩ := hv
    rw [List.take_length] at hb
    unfold F_mempoolref10_Total_l1
    dsimp only
    rw [decide_eq_false (by omega), sel_f, ok_some, nxt_inr]
    unfold sumF
    rw [if_pos (by rw [← hb]; exact hb1.2), hb]
end Go.Proofs.Ytfaceeglocjkbaa.Am
