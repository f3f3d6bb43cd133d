/- slices.SortStableFunc at any type and comparison: insertion sort, swaps, rotations. No conditions. -/
import Derived.Test.YthmfeknfiekcmaaGSortDef
namespace Go.Proofs.Ythmfeknfiekcmaa.Am
open Go

section
variable {α : Type} {d : α} {cmp : α → α → Option Int} {c : α → α → Int}
def ltc (c : α → α → Int) (a b : α) : Bool := decide (c a b < 0)
theorem len_cast (l : List α) : ((List.length l : Nat) : Int) = (l.length : Int) := rfl
/-- One element moves to its place, from the right. -/
theorem gIns_inner (hc : ∀ a b, cmp a b = some (c a b)) {P Q : List α} {x : α} {b i : Int} {T : List α} : ∀ (s : List α), (P ++ s ++ x :: Q).length < 4611686018427387904 → P ++ insR (ltc c) x s ++ Q = T →
    gIns_l2s d cmp (P.length : Int) b i ((P.length + s.length : Nat) : Int) (P ++ s ++ x :: Q) = some (.inl ((P.length : Int), b, wi64 (i + 1), T)) := by
  intro s hlen hT
  refine ok_eq.1 (ok_iter (fun v => ∃ s R, v = ((P.length : Int), b, i, ((P.length + s.length : Nat) : Int), P ++ s ++ x :: R) ∧ P ++ insR (ltc c) x s ++ R = T ∧ (P ++ s ++ x :: R).length < 4611686018427387904) (fun v => v.2.2.2.1.toNat) ?_ ⟨s, Q, rfl, hT, hlen⟩ (by simp only [List.length_append, List.length_cons] at hlen ⊢; omega))
  rintro v ⟨s, R, rfl, hT, hlen⟩
  dsimp only
  rcases Nat.eq_zero_or_pos s.length with h0 | h0
  · have hs : s = [] := List.eq_nil_of_length_eq_zero h0
    subst hs
    simp only [gIns_l2, ok_sel, ok_some, nxt_inr, decide_eq_true_eq, decide_eq_false_iff_not]
    refine ⟨fun h => ?_, fun _ => ?_⟩
    · simp at h
    · rw [insR_nil] at hT
      simp at hT ⊢
      exact hT
  · obtain ⟨s2, y, rfl⟩ := cut_snoc h0
    simp only [List.length_append, List.length_cons, List.length_nil] at hlen
    have e0 : P ++ (s2 ++ [y]) ++ x :: R = (P ++ s2) ++ y :: ([] ++ x :: R) := by simp
    have hw : wi64 (((P.length + (s2 ++ [y]).length : Nat) : Int) - 1) = ((P.length + s2.length : Nat) : Int) := by
      rw [wi64_id] <;> simp <;> omega
    have hj : (((P.length + (s2 ++ [y]).length : Nat) : Int)).toNat = (P ++ s2).length + 1 + ([] : List α).length := by simp; omega
    have hj1 : (((P.length + s2.length : Nat) : Int)).toNat = (P ++ s2).length := by rw [Int.toNat_natCast, List.length_append]
    have g1 : (P ++ (s2 ++ [y]) ++ x :: R).getD (((P.length + (s2 ++ [y]).length : Nat) : Int)).toNat d = x := by
      have : P ++ (s2 ++ [y]) ++ x :: R = (P ++ (s2 ++ [y])) ++ x :: R := rfl
      exact getD_at (by simp only [Int.toNat_natCast, List.length_append])
    have g2 : (P ++ (s2 ++ [y]) ++ x :: R).getD (((P.length + s2.length : Nat) : Int)).toNat d = y := by
      rw [e0]; exact getD_at hj1
    simp only [gIns_l2, hw, g1, g2, hc, ok_sel, ok_chk, ok_bind, ok_some, nxt_inl, nxt_inr, decide_eq_true_eq, decide_eq_false_iff_not, List.length_set]
    have hL : (P ++ (s2 ++ [y]) ++ x :: R).length = P.length + s2.length + 1 + 1 + R.length := by simp; omega
    rw [hL]
    have hsl : (s2 ++ [y]).length = s2.length + 1 := by simp
    rw [hsl]
    refine ⟨fun _ => ?_, fun h => ?_⟩
    · refine ⟨by omega, by omega, by omega, by omega, fun hlt => ?_, fun hlt => ?_⟩
      · refine ⟨by omega, by omega, by omega, by omega, by omega, by omega, by omega, by omega, ⟨s2, y :: R, ?_, ?_, ?_⟩, ?_⟩
        · have := swap_at' (d := d) (A := P ++ s2) (M := []) (x := y) (y := x) (B := R) (i := ((P.length + s2.length : Nat) : Int).toNat) (j := ((P.length + (s2.length + 1) : Nat) : Int).toNat) hj1 (by simp; omega)
          rw [← e0] at this
          rw [← hsl, g1, g2] at this
          rw [← hsl, this]
          simp
        · rw [insR_snoc, if_pos (by simp [ltc, hlt])] at hT
          rw [← hT]; simp
        · simp; omega
        · simp; omega
      · rw [insR_snoc, if_neg (by simp [ltc, hlt])] at hT
        rw [← hT]; simp
    · omega
/-- Insertion sort of a part. -/
theorem gIns_ok (hc : ∀ a b, cmp a b = some (c a b)) {P A Q : List α} (hlen : (P ++ A ++ Q).length < 4611686018427387904) :
    gIns d cmp (P ++ A ++ Q) (P.length : Int) ((P.length + A.length : Nat) : Int) = some (P ++ ssort (ltc c) A ++ Q) := by
  simp only [List.length_append] at hlen
  have hw : wi64 ((P.length : Int) + 1) = ((P.length + 1 : Nat) : Int) := by rw [wi64_id] <;> omega
  unfold gIns gIns_l1s
  rw [hw]
  refine ok_eq.1 (ok_iter (fun v => ∃ A1 A2, A = A1 ++ A2 ∧ ((A1 = [] ∧ A2 = [] ∧ v = ((P.length : Int), ((P.length + A.length : Nat) : Int), ((P.length + 1 : Nat) : Int), P ++ A ++ Q)) ∨ v = ((P.length : Int), ((P.length + A.length : Nat) : Int), ((P.length + A1.length : Nat) : Int), P ++ ssort (ltc c) A1 ++ (A2 ++ Q)))) (fun v => (v.2.1 - v.2.2.1).toNat) ?_ ?_ (by dsimp only; omega))
  · rintro v ⟨A1, A2, rfl, h⟩
    rcases h with ⟨rfl, rfl, rfl⟩ | rfl
    · dsimp only
      simp only [gIns_l1, ok_sel, ok_some, nxt_inr, decide_eq_true_eq, decide_eq_false_iff_not, List.append_nil, List.length_nil]
      exact ⟨fun h => by omega, fun _ => by simp [ssort]⟩
    · dsimp only
      cases A2 with
      | nil =>
        simp only [gIns_l1, ok_sel, ok_some, nxt_inr, decide_eq_true_eq, decide_eq_false_iff_not, List.append_nil, List.nil_append]
        exact ⟨fun h => by omega, fun _ => trivial⟩
      | cons x A2 =>
        simp only [List.length_append, List.length_cons] at hlen
        have hs := ssort_len (ltc c) A1
        have hin := gIns_inner (d := d) hc (P := P) (Q := A2 ++ Q) (x := x) (b := ((P.length + (A1 ++ x :: A2).length : Nat) : Int)) (i := ((P.length + A1.length : Nat) : Int)) (ssort (ltc c) A1) (by simp only [List.length_append, List.length_cons, hs]; omega) rfl
        rw [hs, ← ssort_snoc] at hin
        have hw2 : wi64 (((P.length + A1.length : Nat) : Int) + 1) = ((P.length + (A1 ++ [x]).length : Nat) : Int) := by
          rw [wi64_id] <;> (try simp only [List.length_append, List.length_cons, List.length_nil]) <;> omega
        rw [hw2] at hin
        simp only [gIns_l1, ok_sel, ok_some, nxt_inr, decide_eq_true_eq, decide_eq_false_iff_not, List.cons_append, List.length_append, List.length_cons] at hin ⊢
        rw [hin]
        refine ⟨fun _ => ?_, fun h => by omega⟩
        rw [ok_some, nxt_inl]
        refine ⟨⟨A1 ++ [x], A2, by simp, .inr (by simp)⟩, ?_⟩
        dsimp only
        simp only [List.length_nil]
        omega
  · cases A with
    | nil => exact ⟨[], [], rfl, .inl ⟨rfl, rfl, rfl⟩⟩
    | cons x A => exact ⟨[x], A, rfl, .inr (by simp [ssort, insR_nil])⟩
/-- Two parts of equal length change places. -/
theorem gSwp_ok {P A M B Q : List α} {a b n : Int} (hAB : A.length = B.length) (ha : a = P.length) (hb : b = ((P.length + A.length + M.length : Nat) : Int)) (hn : n = A.length) (hlen : (P ++ A ++ M ++ B ++ Q).length < 4611686018427387904) :
    gSwp d cmp (P ++ A ++ M ++ B ++ Q) a b n = some (P ++ B ++ M ++ A ++ Q) := by
  subst ha hb hn
  simp only [List.length_append] at hlen
  unfold gSwp gSwp_l1s
  refine ok_eq.1 (ok_iter (fun v => ∃ A1 A2 B1 B2, A = A1 ++ A2 ∧ B = B1 ++ B2 ∧ A1.length = B1.length ∧ v = ((P.length : Int), ((P.length + A.length + M.length : Nat) : Int), (A.length : Int), (A1.length : Int), P ++ B1 ++ A2 ++ M ++ A1 ++ B2 ++ Q)) (fun v => (v.2.2.1 - v.2.2.2.1).toNat) ?_ ⟨[], A, [], B, rfl, rfl, rfl, by simp⟩ (by dsimp only; omega))
  rintro v ⟨A1, A2, B1, B2, rfl, rfl, h1, rfl⟩
  dsimp only
  simp only [List.length_append] at hAB hlen ⊢
  cases A2 with
  | nil =>
    have : B2 = [] := List.eq_nil_of_length_eq_zero (by simp at hAB; omega)
    subst this
    simp only [gSwp_l1, ok_sel, ok_some, nxt_inr, decide_eq_true_eq, decide_eq_false_iff_not, List.append_nil, List.length_nil]
    exact ⟨fun h => by omega, fun _ => trivial⟩
  | cons x A2 =>
    cases B2 with
    | nil => simp at hAB; omega
    | cons y B2 =>
      simp only [List.length_cons] at hAB hlen ⊢
      have e0 : P ++ B1 ++ x :: A2 ++ M ++ A1 ++ y :: B2 ++ Q = (P ++ B1) ++ x :: ((A2 ++ M ++ A1) ++ y :: (B2 ++ Q)) := by simp
      have w1 : wi64 (((P.length + (A1.length + (A2.length + 1)) + M.length : Nat) : Int) + (A1.length : Int)) = ((P.length + B1.length + 1 + (A2.length + M.length + A1.length) : Nat) : Int) := by rw [wi64_id] <;> omega
      have w2 : wi64 ((P.length : Int) + (A1.length : Int)) = ((P.length + B1.length : Nat) : Int) := by rw [wi64_id] <;> omega
      have w3 : wi64 ((A1.length : Int) + 1) = ((A1.length + 1 : Nat) : Int) := by rw [wi64_id] <;> omega
      have sw := swap_at (d := d) (A := P ++ B1) (M := A2 ++ M ++ A1) (x := x) (y := y) (B := B2 ++ Q) (i := P.length + B1.length) (j := P.length + B1.length + 1 + (A2.length + M.length + A1.length)) (by simp) (by simp; omega)
      simp only [gSwp_l1, w1, w2, w3, ok_sel, ok_chk, ok_some, nxt_inl, nxt_inr, decide_eq_true_eq, decide_eq_false_iff_not, List.length_set, Int.toNat_natCast]
      rw [e0, sw]
      have hL : ((P ++ B1) ++ x :: ((A2 ++ M ++ A1) ++ y :: (B2 ++ Q))).length = P.length + B1.length + 1 + (A2.length + M.length + A1.length) + 1 + (B2.length + Q.length) := by simp; omega
      rw [hL]
      refine ⟨fun _ => ⟨by omega, by omega, by omega, by omega, by omega, by omega, by omega, by omega, ⟨A1 ++ [x], A2, B1 ++ [y], B2, by simp, by simp, by simp [h1], by simp⟩, ?_⟩, fun h => by omega⟩
      omega
/-- Two parts that stand side by side change places. -/
theorem gRot_ok {P A B Q : List α} {a m b : Int} (ha : a = P.length) (hm : m = ((P.length + A.length : Nat) : Int)) (hb : b = ((P.length + A.length + B.length : Nat) : Int)) (hA : 0 < A.length) (hB : 0 < B.length) (hlen : (P ++ A ++ B ++ Q).length < 4611686018427387904) :
    gRot d cmp (P ++ A ++ B ++ Q) a m b = some (P ++ B ++ A ++ Q) := by
  subst ha hm hb
  simp only [List.length_append] at hlen
  unfold gRot gRot_l2s
  have w1 : wi64 (((P.length + A.length : Nat) : Int) - (P.length : Int)) = (A.length : Int) := by rw [wi64_id] <;> omega
  have w2 : wi64 (((P.length + A.length + B.length : Nat) : Int) - ((P.length + A.length : Nat) : Int)) = (B.length : Int) := by rw [wi64_id] <;> omega
  rw [w1, w2]
  refine ok_eq.1 (ok_iter (fun v => ∃ P' A' B' Q', 0 < A'.length ∧ 0 < B'.length ∧ P'.length + A'.length = P.length + A.length ∧ P'.length + A'.length + B'.length + Q'.length = P.length + A.length + B.length + Q.length ∧ P' ++ B' ++ A' ++ Q' = P ++ B ++ A ++ Q ∧ v = (((P.length + A.length : Nat) : Int), (A'.length : Int), (B'.length : Int), P' ++ A' ++ B' ++ Q')) (fun v => (v.2.1 + v.2.2.1).toNat) ?_ ⟨P, A, B, Q, hA, hB, rfl, rfl, rfl, rfl⟩ (by dsimp only; omega))
  rintro v ⟨P', A', B', Q', hA', hB', hm', hl', hT, rfl⟩
  dsimp only
  rw [← hm']
  have w3 : wi64 (((P'.length + A'.length : Nat) : Int) - (A'.length : Int)) = (P'.length : Int) := by rw [wi64_id] <;> omega
  have w4 : wi64 ((A'.length : Int) - (B'.length : Int)) = (A'.length : Int) - (B'.length : Int) := by rw [wi64_id] <;> omega
  have w5 : wi64 ((B'.length : Int) - (A'.length : Int)) = (B'.length : Int) - (A'.length : Int) := by rw [wi64_id] <;> omega
  have w6 : wi64 (((P'.length + A'.length : Nat) : Int) + (B'.length : Int)) = ((P'.length + A'.length + B'.length : Nat) : Int) := by rw [wi64_id] <;> omega
  have w7 : wi64 (((P'.length + A'.length + B'.length : Nat) : Int) - (A'.length : Int)) = ((P'.length + B'.length : Nat) : Int) := by rw [wi64_id] <;> omega
  simp only [gRot_l2, gRot_c1, w3, w4, w5, w6, w7, ok_sel, ok_bind, ok_some, ok_map, nxt_inl, nxt_inr, decide_eq_true_eq, decide_eq_false_iff_not, Bool.not_eq_eq_eq_not, Bool.not_true, Bool.not_false]
  refine ⟨fun hne => ⟨fun hlt => ?_, fun hlt => ?_⟩, fun he => ?_⟩
  · -- A' is longer
    obtain ⟨A1, A2, rfl, hA1⟩ := cut_at (l := A') (i := B'.length) (by omega)
    have hsw := gSwp_ok (d := d) (cmp := cmp) (P := P') (A := A1) (M := A2) (B := B') (Q := Q') (a := (P'.length : Int)) (b := ((P'.length + (A1 ++ A2).length : Nat) : Int)) (n := (B'.length : Int)) hA1 rfl (by simp; omega) (by omega) (by simp only [List.length_append] at hl' ⊢; omega)
    rw [← List.append_assoc P' A1 A2] at *
    rw [hsw, ok_some]
    simp only [List.length_append] at hlt hm' hl' ⊢
    refine ⟨⟨P' ++ B', A2, A1, Q', by omega, by omega, by simp only [List.length_append]; omega, by simp only [List.length_append]; omega, ?_, ?_⟩, by omega⟩
    · rw [← hT]; simp
    · simp; omega
  · obtain ⟨B1, B2, rfl, hB1⟩ := cut_at (l := B') (i := B'.length - A'.length) (by omega)
    simp only [List.length_append] at hB1 hlt hne hm' hl' ⊢
    have hsw := gSwp_ok (d := d) (cmp := cmp) (P := P') (A := A') (M := B1) (B := B2) (Q := Q') (a := (P'.length : Int)) (b := ((P'.length + (B1.length + B2.length) : Nat) : Int)) (n := (A'.length : Int)) (by omega) rfl (by omega) rfl (by simp only [List.length_append]; omega)
    rw [← List.append_assoc (P' ++ A') B1 B2, hsw, ok_some]
    refine ⟨⟨P', B2, B1, A' ++ Q', by omega, by omega, by omega, by simp only [List.length_append]; omega, ?_, ?_⟩, by omega⟩
    · rw [← hT]; simp
    · simp; omega
  · have hsw := gSwp_ok (d := d) (cmp := cmp) (P := P') (A := A') (M := []) (B := B') (Q := Q') (a := (P'.length : Int)) (b := ((P'.length + A'.length : Nat) : Int)) (n := (A'.length : Int)) (by omega) rfl (by simp) rfl (by simp only [List.length_append, List.length_nil]; omega)
    simp only [List.append_nil] at hsw
    rw [hsw, ok_some]
    exact hT
end
end Go.Proofs.Ythmfeknfiekcmaa.Am
