/- slices.SortStableFunc at any type and comparison: merging in place. No conditions. -/
import Derived.Test.YthmfeknfiekcmaaGSort
namespace Go.Proofs.Ythmfeknfiekcmaa.Am
open Go

section
variable {α : Type} {lt : α → α → Bool}
theorem srt_last (h : Swo lt) {l : List α} {z x : α} (hs : Srt lt (l ++ [z])) (hz : lt z x = true) : ∀ b ∈ l ++ [z], lt b x = true := fun b hb => by
  unfold Srt at hs
  rw [List.pairwise_append] at hs
  rcases List.mem_append.1 hb with hb | hb
  · cases hbx : lt b x with
    | true => rfl
    | false =>
      have := h.tr _ _ _ (hs.2.2 b hb z (by simp)) hbx
      rw [hz] at this; cases this
  · simp only [List.mem_singleton] at hb; subst hb; exact hz
theorem srt_head (h : Swo lt) {l : List α} {y x : α} (hs : Srt lt (y :: l)) (hy : lt y x = false) : ∀ b ∈ y :: l, lt b x = false := fun b hb => by
  unfold Srt at hs
  rw [List.pairwise_cons] at hs
  rcases List.mem_cons.1 hb with rfl | hb
  · exact hy
  · exact h.tr _ _ _ (hs.1 b hb) hy
theorem srt_last' (h : Swo lt) {l : List α} {z y : α} (hs : Srt lt (l ++ [z])) (hz : lt y z = false) : ∀ b ∈ l ++ [z], lt y b = false := fun b hb => by
  unfold Srt at hs
  rw [List.pairwise_append] at hs
  rcases List.mem_append.1 hb with hb | hb
  · exact h.tr _ _ _ hz (hs.2.2 b hb z (by simp))
  · simp only [List.mem_singleton] at hb; subst hb; exact hz
theorem srt_head' (h : Swo lt) {l : List α} {w y : α} (hs : Srt lt (w :: l)) (hw : lt y w = true) : ∀ b ∈ w :: l, lt y b = true := fun b hb => by
  unfold Srt at hs
  rw [List.pairwise_cons] at hs
  rcases List.mem_cons.1 hb with rfl | hb
  · exact hw
  · cases hyb : lt y b with
    | true => rfl
    | false =>
      have := h.tr _ _ _ hyb (hs.1 b hb)
      rw [hw] at this; cases this
theorem srt_app {l m : List α} (h1 : Srt lt l) (h2 : Srt lt m) (h : ∀ a ∈ l, ∀ b ∈ m, lt b a = false) : Srt lt (l ++ m) := by
  unfold Srt at *
  rw [List.pairwise_append]
  exact ⟨h1, h2, fun a ha b hb => h a ha b hb⟩
theorem srt_left {l m : List α} (h : Srt lt (l ++ m)) : Srt lt l := (List.pairwise_append.1 h).1
theorem srt_right {l m : List α} (h : Srt lt (l ++ m)) : Srt lt m := (List.pairwise_append.1 h).2.1
theorem srt_mid {l m : List α} (h : Srt lt (l ++ m)) : ∀ a ∈ l, ∀ b ∈ m, lt b a = false := fun a ha b hb => (List.pairwise_append.1 h).2.2 a ha b hb
/-- Two halves that are merged make the whole. -/
theorem merge_halves (h : Swo lt) {A1 A2 B1 B2 S1 S2 : List α} (hA : Srt lt (A1 ++ A2)) (hB : Srt lt (B1 ++ B2)) (h1 : Srt lt S1) (f1 : SameF (lt := lt) S1 (A1 ++ B1)) (h2 : Srt lt S2) (f2 : SameF (lt := lt) S2 (A2 ++ B2))
    (x1 : ∀ a ∈ A1, ∀ b ∈ B2, lt b a = false) (x2 : ∀ b ∈ B1, ∀ a ∈ A2, lt b a = true) : Srt lt (S1 ++ S2) ∧ SameF (lt := lt) (S1 ++ S2) ((A1 ++ A2) ++ (B1 ++ B2)) := by
  refine ⟨srt_app h1 h2 fun a ha b hb => ?_, ?_⟩
  · rcases List.mem_append.1 (f1.mem h ha) with ha | ha <;> rcases List.mem_append.1 (f2.mem h hb) with hb | hb
    · exact srt_mid hA a ha b hb
    · exact x1 a ha b hb
    · exact h.asy _ _ (x2 a ha b hb)
    · exact srt_mid hB a ha b hb
  · refine (f1.app f2).trans ?_
    have e1 : (A1 ++ B1) ++ (A2 ++ B2) = A1 ++ ((B1 ++ A2) ++ B2) := by simp
    have e2 : (A1 ++ A2) ++ (B1 ++ B2) = A1 ++ ((A2 ++ B1) ++ B2) := by simp
    rw [e1, e2]
    exact (SameF.refl A1).app ((SameF.comm h (A := A2) (B := B1) (fun a ha b hb => x2 b hb a ha)).symm.app (SameF.refl B2))
end
section
variable {α : Type} {d : α} {cmp : α → α → Option Int} {c : α → α → Int} {rec : List α → Int → Int → Int → Option (List α)}
theorem half {i j : Nat} (h : i + j < 9223372036854775808) : wi64 ((wu64 (wi64 ((i : Int) + (j : Int)))) / 2 ^ 1) = (((i + j) / 2 : Nat) : Int) := by
  rw [wi64_id (n := (i : Int) + (j : Int)) (by omega) (by omega), wu64_id (n := (i : Int) + (j : Int)) (by omega) (by omega), wi64_id] <;> omega
/-- One element moves to the right. -/
theorem gSym_right {P B R : List α} {x : α} (hlen : (P ++ x :: (B ++ R)).length < 4611686018427387904) :
    gSym_l12s d cmp rec ((P.length + 1 + B.length : Nat) : Int) (P.length : Int) (P ++ x :: (B ++ R)) = some (P ++ B ++ x :: R) := by
  simp only [List.length_append, List.length_cons] at hlen
  unfold gSym_l12s
  refine ok_eq.1 (ok_iter (fun v => ∃ B1 B2, B = B1 ++ B2 ∧ v = (((P.length + 1 + B.length : Nat) : Int), ((P.length + B1.length : Nat) : Int), P ++ B1 ++ x :: (B2 ++ R))) (fun v => (v.1 - v.2.1).toNat) ?_ ⟨[], B, rfl, by simp⟩ (by dsimp only; omega))
  rintro v ⟨B1, B2, rfl, rfl⟩
  dsimp only
  simp only [List.length_append] at hlen ⊢
  have w1 : wi64 (((P.length + 1 + (B1.length + B2.length) : Nat) : Int) - 1) = ((P.length + B1.length + B2.length : Nat) : Int) := by rw [wi64_id] <;> omega
  have w2 : wi64 (((P.length + B1.length : Nat) : Int) + 1) = ((P.length + B1.length + 1 : Nat) : Int) := by rw [wi64_id] <;> omega
  cases B2 with
  | nil =>
    simp only [List.length_nil, Nat.add_zero] at w1 ⊢
    simp only [gSym_l12, w1, w2, ok_sel, ok_chk, ok_some, nxt_inl, nxt_inr, decide_eq_true_eq, decide_eq_false_iff_not, List.append_nil, List.nil_append]
    exact ⟨fun h => by omega, fun _ => trivial⟩
  | cons y B2 =>
    simp only [List.length_cons] at hlen w1 ⊢
    have e0 : P ++ B1 ++ x :: (y :: B2 ++ R) = (P ++ B1) ++ x :: ([] ++ y :: (B2 ++ R)) := by simp
    have sw := swap_at (d := d) (A := P ++ B1) (M := []) (x := x) (y := y) (B := B2 ++ R) (i := P.length + B1.length) (j := P.length + B1.length + 1) (by simp) (by simp)
    simp only [gSym_l12, w1, w2, ok_sel, ok_chk, ok_some, nxt_inl, nxt_inr, decide_eq_true_eq, decide_eq_false_iff_not, List.length_set, Int.toNat_natCast]
    rw [e0, sw]
    have hL : ((P ++ B1) ++ x :: ([] ++ y :: (B2 ++ R))).length = P.length + B1.length + 1 + 1 + (B2.length + R.length) := by simp; omega
    rw [hL]
    refine ⟨fun _ => ⟨by omega, by omega, by omega, by omega, by omega, by omega, by omega, by omega, ⟨B1 ++ [y], B2, by simp, by simp; omega⟩, by omega⟩, fun h => by omega⟩
/-- One element moves to the left. -/
theorem gSym_left {P B R : List α} {y : α} (hlen : (P ++ B ++ y :: R).length < 4611686018427387904) :
    gSym_l9s d cmp rec (P.length : Int) ((P.length + B.length : Nat) : Int) (P ++ B ++ y :: R) = some (P ++ y :: (B ++ R)) := by
  simp only [List.length_append, List.length_cons] at hlen
  unfold gSym_l9s
  refine ok_eq.1 (ok_iter (fun v => ∃ B1 B2, B = B1 ++ B2 ∧ v = ((P.length : Int), ((P.length + B1.length : Nat) : Int), P ++ B1 ++ y :: (B2 ++ R))) (fun v => v.2.1.toNat) ?_ ⟨B, [], by simp, by simp⟩ (by dsimp only; omega))
  rintro v ⟨B1, B2, rfl, rfl⟩
  dsimp only
  simp only [List.length_append] at hlen ⊢
  rcases Nat.eq_zero_or_pos B1.length with h0 | h0
  · have : B1 = [] := List.eq_nil_of_length_eq_zero h0
    subst this
    simp only [gSym_l9, ok_sel, ok_chk, ok_some, nxt_inl, nxt_inr, decide_eq_true_eq, decide_eq_false_iff_not, List.length_nil, List.append_nil, List.nil_append]
    exact ⟨fun h => by omega, fun _ => trivial⟩
  · obtain ⟨B3, x, rfl⟩ := cut_snoc h0
    simp only [List.length_append, List.length_cons, List.length_nil] at hlen ⊢
    have w1 : wi64 (((P.length + (B3.length + (0 + 1)) : Nat) : Int) - 1) = ((P.length + B3.length : Nat) : Int) := by rw [wi64_id] <;> omega
    have e0 : P ++ (B3 ++ [x]) ++ y :: (B2 ++ R) = (P ++ B3) ++ x :: ([] ++ y :: (B2 ++ R)) := by simp
    have sw := swap_at' (d := d) (A := P ++ B3) (M := []) (x := x) (y := y) (B := B2 ++ R) (i := P.length + B3.length) (j := P.length + (B3.length + (0 + 1))) (by simp) (by simp; omega)
    simp only [gSym_l9, w1, ok_sel, ok_chk, ok_some, nxt_inl, nxt_inr, decide_eq_true_eq, decide_eq_false_iff_not, List.length_set, Int.toNat_natCast]
    rw [e0, sw]
    have hL : ((P ++ B3) ++ x :: ([] ++ y :: (B2 ++ R))).length = P.length + B3.length + 1 + 1 + (B2.length + R.length) := by simp; omega
    rw [hL]
    refine ⟨fun _ => ⟨by omega, by omega, by omega, by omega, by omega, by omega, by omega, by omega, ⟨B3, x :: B2, by simp, by simp⟩, by omega⟩, fun h => by omega⟩
/-- What is merged. -/
def Merged (lt : α → α → Bool) (A B S : List α) : Prop := Srt lt S ∧ SameF (lt := lt) S (A ++ B) ∧ S.length = A.length + B.length
/-- A single element ahead of a sorted part. -/
theorem gSym_one (hc : ∀ a b, cmp a b = some (c a b)) (h : Swo (ltc c)) {P B Q : List α} {x : α} (hB : Srt (ltc c) B) (hlen : (P ++ [x] ++ B ++ Q).length < 4611686018427387904) :
    Ok (gSym_l13s d cmp rec (P.length : Int) ((P.length + 1 : Nat) : Int) ((P.length + 1 + B.length : Nat) : Int) (P ++ [x] ++ B ++ Q)) fun r => ∃ S, r = P ++ S ++ Q ∧ Merged (ltc c) [x] B S := by
  simp only [List.length_append, List.length_cons, List.length_nil] at hlen
  unfold gSym_l13s
  refine ok_iter (fun v => ∃ i j : Nat, i ≤ j ∧ j ≤ B.length ∧ (i = 0 ∨ ltc c (B.getD (i - 1) d) x = true) ∧ (j = B.length ∨ ltc c (B.getD j d) x = false) ∧ v = ((P.length : Int), ((P.length + 1 + i : Nat) : Int), ((P.length + 1 + j : Nat) : Int), P ++ [x] ++ B ++ Q)) (fun v => (v.2.2.1 - v.2.1).toNat) ?_ ⟨0, B.length, by omega, by omega, .inl rfl, .inl rfl, rfl⟩ (by dsimp only; omega)
  rintro v ⟨i, j, hij, hj, hi0, hj0, rfl⟩
  dsimp only
  have hh := half (i := P.length + 1 + i) (j := P.length + 1 + j) (by omega)
  obtain ⟨k, hk⟩ : ∃ k, (P.length + 1 + i + (P.length + 1 + j)) / 2 = P.length + 1 + k := ⟨(P.length + 1 + i + (P.length + 1 + j)) / 2 - (P.length + 1), by omega⟩
  rw [hk] at hh
  have w3 : wi64 (((P.length + 1 + k : Nat) : Int) + 1) = ((P.length + 1 + (k + 1) : Nat) : Int) := by rw [wi64_id] <;> omega
  have hL : (P ++ [x] ++ B ++ Q).length = P.length + 1 + B.length + Q.length := by simp; omega
  have gx : (P ++ [x] ++ B ++ Q).getD P.length d = x := by
    have : P ++ [x] ++ B ++ Q = P ++ x :: (B ++ Q) := by simp
    rw [this]; exact getD_at rfl
  simp only [gSym_l13, hh, w3, hc, hL, ok_sel, ok_chk, ok_bind, ok_some, ok_map, nxt_inl, nxt_inr, decide_eq_true_eq, decide_eq_false_iff_not, Int.toNat_natCast, gx]
  refine ⟨fun hlt => ?_, fun hge => ?_⟩
  · have hkj : i ≤ k ∧ k < j := by omega
    have gk : (P ++ [x] ++ B ++ Q).getD (P.length + 1 + k) d = B.getD k d := by
      rw [List.getD_eq_getElem?_getD, List.getD_eq_getElem?_getD, List.getElem?_append_left (by simp; omega), List.getElem?_append_right (by simp)]
      simp
    rw [gk]
    refine ⟨by omega, by omega, by omega, by omega, fun hl => ⟨⟨k + 1, j, by omega, by omega, .inr ?_, hj0, rfl⟩, by omega⟩, fun hl => ⟨⟨i, k, by omega, by omega, hi0, .inr ?_, rfl⟩, by omega⟩⟩
    · simpa [ltc] using hl
    · simpa [ltc] using hl
  · have e : j = i := by omega
    subst e
    obtain ⟨B1, B2, rfl, rfl⟩ := cut_at hj
    simp only [List.length_append] at hlen hj0 ⊢
    unfold gSym_c11
    have hr := gSym_right (d := d) (cmp := cmp) (rec := rec) (P := P) (B := B1) (R := B2 ++ Q) (x := x) (by simp only [List.length_append, List.length_cons]; omega)
    have e1 : P ++ [x] ++ (B1 ++ B2) ++ Q = P ++ x :: (B1 ++ (B2 ++ Q)) := by simp
    rw [e1, hr, ok_some]
    have f1 : ∀ b ∈ B1, ltc c b x = true := by
      rcases Nat.eq_zero_or_pos B1.length with h0 | h0
      · have := List.eq_nil_of_length_eq_zero h0; subst this; simp
      · obtain ⟨B3, z, rfl⟩ := cut_snoc h0
        have hz : (B3 ++ [z] ++ B2).getD ((B3 ++ [z]).length - 1) d = z := by
          have : B3 ++ [z] ++ B2 = B3 ++ z :: B2 := by simp
          rw [this]; exact getD_at (by simp)
        rw [hz] at hi0
        exact srt_last h (srt_left hB) (hi0.resolve_left (by simp))
    have f2 : ∀ b ∈ B2, ltc c b x = false := by
      cases B2 with
      | nil => simp
      | cons y B2 =>
        have hz : (B1 ++ y :: B2).getD B1.length d = y := getD_at rfl
        rw [hz] at hj0
        exact srt_head h (srt_right hB) (hj0.resolve_left (by simp))
    refine ⟨B1 ++ x :: B2, by simp, ?_⟩
    have := merge_halves h (A1 := []) (A2 := [x]) (B1 := B1) (B2 := B2) (S1 := B1) (S2 := x :: B2) (by simp [Srt]) hB (srt_left hB) (SameF.refl _) (by
      unfold Srt; rw [List.pairwise_cons]; exact ⟨f2, srt_right hB⟩) (SameF.refl _) (by simp) (by simpa using f1)
    exact ⟨this.1, by simpa using this.2, by simp; omega⟩
/-- A single element behind a sorted part. -/
theorem gSym_two (hc : ∀ a b, cmp a b = some (c a b)) (h : Swo (ltc c)) {P A Q : List α} {y : α} (hA : Srt (ltc c) A) (hlen : (P ++ A ++ [y] ++ Q).length < 4611686018427387904) :
    Ok (gSym_l10s d cmp rec ((P.length + A.length : Nat) : Int) (P.length : Int) ((P.length + A.length : Nat) : Int) (P ++ A ++ [y] ++ Q)) fun r => ∃ S, r = P ++ S ++ Q ∧ Merged (ltc c) A [y] S := by
  simp only [List.length_append, List.length_cons, List.length_nil] at hlen
  unfold gSym_l10s
  refine ok_iter (fun v => ∃ i j : Nat, i ≤ j ∧ j ≤ A.length ∧ (i = 0 ∨ ltc c y (A.getD (i - 1) d) = false) ∧ (j = A.length ∨ ltc c y (A.getD j d) = true) ∧ v = (((P.length + A.length : Nat) : Int), ((P.length + i : Nat) : Int), ((P.length + j : Nat) : Int), P ++ A ++ [y] ++ Q)) (fun v => (v.2.2.1 - v.2.1).toNat) ?_ ⟨0, A.length, by omega, by omega, .inl rfl, .inl rfl, by simp⟩ (by dsimp only; omega)
  rintro v ⟨i, j, hij, hj, hi0, hj0, rfl⟩
  dsimp only
  have hh := half (i := P.length + i) (j := P.length + j) (by omega)
  obtain ⟨k, hk⟩ : ∃ k, (P.length + i + (P.length + j)) / 2 = P.length + k := ⟨(P.length + i + (P.length + j)) / 2 - P.length, by omega⟩
  rw [hk] at hh
  have w3 : wi64 (((P.length + k : Nat) : Int) + 1) = ((P.length + (k + 1) : Nat) : Int) := by rw [wi64_id] <;> omega
  have hL : (P ++ A ++ [y] ++ Q).length = P.length + A.length + 1 + Q.length := by simp; omega
  have gx : (P ++ A ++ [y] ++ Q).getD (P.length + A.length) d = y := by
    have : P ++ A ++ [y] ++ Q = (P ++ A) ++ y :: Q := by simp
    rw [this]; exact getD_at (by simp)
  simp only [gSym_l10, hh, w3, hc, hL, ok_sel, ok_chk, ok_bind, ok_some, ok_map, nxt_inl, nxt_inr, decide_eq_true_eq, decide_eq_false_iff_not, Bool.not_eq_true', Bool.not_eq_false', Int.toNat_natCast, gx]
  refine ⟨fun hlt => ?_, fun hge => ?_⟩
  · have hkj : i ≤ k ∧ k < j := by omega
    have gk : (P ++ A ++ [y] ++ Q).getD (P.length + k) d = A.getD k d := by
      rw [List.getD_eq_getElem?_getD, List.getD_eq_getElem?_getD, List.append_assoc, List.append_assoc, List.getElem?_append_right (by simp), List.getElem?_append_left (by simp; omega)]
      simp
    rw [gk]
    refine ⟨by omega, by omega, by omega, by omega, fun hl => ⟨⟨k + 1, j, by omega, by omega, .inr ?_, hj0, rfl⟩, by omega⟩, fun hl => ⟨⟨i, k, by omega, by omega, hi0, .inr ?_, rfl⟩, by omega⟩⟩
    · simpa [ltc] using hl
    · simpa [ltc] using hl
  · have e : j = i := by omega
    subst e
    obtain ⟨A1, A2, rfl, rfl⟩ := cut_at hj
    simp only [List.length_append] at hlen hj0 ⊢
    unfold gSym_c8
    have hr := gSym_left (d := d) (cmp := cmp) (rec := rec) (P := P ++ A1) (B := A2) (R := Q) (y := y) (by simp only [List.length_append, List.length_cons]; omega)
    have e1 : P ++ (A1 ++ A2) ++ [y] ++ Q = P ++ A1 ++ A2 ++ y :: Q := by simp
    simp only [List.length_append] at hr
    rw [e1, ← Nat.add_assoc, hr, ok_some]
    have f1 : ∀ a ∈ A1, ltc c y a = false := by
      rcases Nat.eq_zero_or_pos A1.length with h0 | h0
      · have := List.eq_nil_of_length_eq_zero h0; subst this; simp
      · obtain ⟨B3, z, rfl⟩ := cut_snoc h0
        have hz : (B3 ++ [z] ++ A2).getD ((B3 ++ [z]).length - 1) d = z := by
          have : B3 ++ [z] ++ A2 = B3 ++ z :: A2 := by simp
          rw [this]; exact getD_at (by simp)
        rw [hz] at hi0
        exact srt_last' h (srt_left hA) (hi0.resolve_left (by simp))
    have f2 : ∀ a ∈ A2, ltc c y a = true := by
      cases A2 with
      | nil => simp
      | cons z A2 =>
        have hz : (A1 ++ z :: A2).getD A1.length d = z := getD_at rfl
        rw [hz] at hj0
        exact srt_head' h (srt_right hA) (hj0.resolve_left (by simp))
    refine ⟨A1 ++ y :: A2, by simp, ?_⟩
    have := merge_halves h (A1 := A1) (A2 := A2) (B1 := [y]) (B2 := []) (S1 := A1 ++ [y]) (S2 := A2) hA (by simp [Srt]) (srt_app (srt_left hA) (by simp [Srt]) (by simpa using f1)) (SameF.refl _) (srt_right hA) (by simpa using SameF.refl A2) (by simp) (by simpa using f2)
    have e2 : A1 ++ [y] ++ A2 = A1 ++ y :: A2 := by simp
    rw [e2] at this
    exact ⟨this.1, by simpa using this.2, by simp; omega⟩
theorem Merged.left {A : List α} (h : Srt (ltc c) A) : Merged (ltc c) A [] A := ⟨h, by simpa using SameF.refl A, by simp⟩
theorem Merged.right {A : List α} (h : Srt (ltc c) A) : Merged (ltc c) [] A A := ⟨h, by simpa using SameF.refl A, by simp⟩
set_option maxHeartbeats 4000000 in
/-- Two sorted parts, merged in place. -/
theorem gSym_ok (hc : ∀ a b, cmp a b = some (c a b)) (h : Swo (ltc c)) : ∀ (n : Nat) {P A B Q : List α} {a m b : Int}, A.length + B.length ≤ n → 0 < A.length → 0 < B.length → Srt (ltc c) A → Srt (ltc c) B → (P ++ A ++ B ++ Q).length < 2305843009213693952 →
    a = P.length → m = ((P.length + A.length : Nat) : Int) → b = ((P.length + A.length + B.length : Nat) : Int) → Ok (gSym d cmp n (P ++ A ++ B ++ Q) a m b) fun r => ∃ S, r = P ++ S ++ Q ∧ Merged (ltc c) A B S := by
  intro n
  induction n with
  | zero => intro P A B Q a m b hn h0; omega
  | succ n ih =>
    intro P A B Q a m b hn h0 h1 hA hB hlen ha hm hb
    subst ha hm hb
    have hlen' := hlen
    simp only [List.length_append] at hlen'
    show Ok (gSym_body d cmp (gSym d cmp n) (P ++ A ++ B ++ Q) (P.length : Int) ((P.length + A.length : Nat) : Int) ((P.length + A.length + B.length : Nat) : Int)) _
    have w1 : wi64 (((P.length + A.length : Nat) : Int) - (P.length : Int)) = (A.length : Int) := by rw [wi64_id] <;> omega
    have w2 : wi64 (((P.length + A.length + B.length : Nat) : Int) - ((P.length + A.length : Nat) : Int)) = (B.length : Int) := by rw [wi64_id] <;> omega
    simp only [gSym_body, gSym_c1, w1, w2, ok_sel, decide_eq_true_eq, decide_eq_false_iff_not]
    refine ⟨fun hA1 => ?_, fun hA1 => ⟨fun hB1 => ?_, fun hB1 => ?_⟩⟩
    · obtain ⟨x, A', rfl⟩ := cut_cons h0
      have : A' = [] := List.eq_nil_of_length_eq_zero (by simp at hA1; omega)
      subst this
      exact gSym_one hc h hB (by simp only [List.length_append] at hlen ⊢; omega)
    · obtain ⟨y, B', rfl⟩ := cut_cons h1
      have : B' = [] := List.eq_nil_of_length_eq_zero (by simp at hB1; omega)
      subst this
      exact gSym_two hc h hA (by simp only [List.length_append] at hlen ⊢; omega)
    · have hh := half (i := P.length) (j := P.length + A.length + B.length) (by omega)
      obtain ⟨k, hk⟩ : ∃ k, (P.length + (P.length + A.length + B.length)) / 2 = P.length + k := ⟨(P.length + (P.length + A.length + B.length)) / 2 - P.length, by omega⟩
      rw [hk] at hh
      have hk1 : 2 * k ≤ A.length + B.length ∧ A.length + B.length ≤ 2 * k + 1 := by omega
      have w3 : wi64 (((P.length + k : Nat) : Int) + ((P.length + A.length : Nat) : Int)) = ((P.length + k + P.length + A.length : Nat) : Int) := by rw [wi64_id] <;> omega
      simp only [gSym_c2, hh, w3, ok_sel, decide_eq_true_eq, decide_eq_false_iff_not]
      -- the search
      have key : ∀ s0 r0 : Nat, s0 ≤ r0 → r0 ≤ A.length → r0 ≤ k → k ≤ s0 + B.length → (s0 = 0 ∨ s0 + B.length = k) → (r0 = A.length ∨ r0 = k) →
          Ok (gSym_c3 d cmp (gSym d cmp n) (P.length : Int) ((P.length + A.length : Nat) : Int) ((P.length + A.length + B.length : Nat) : Int) ((P.length + k : Nat) : Int) ((P.length + k + P.length + A.length : Nat) : Int) ((P.length + s0 : Nat) : Int) ((P.length + r0 : Nat) : Int) (P ++ A ++ B ++ Q)) fun r => ∃ S, r = P ++ S ++ Q ∧ Merged (ltc c) A B S := by
        intro s0 r0 hsr hrA hrk hks hs hr
        have w4 : wi64 (((P.length + k + P.length + A.length : Nat) : Int) - 1) = ((P.length + k + P.length + A.length : Nat) : Int) - 1 := by rw [wi64_id] <;> omega
        unfold gSym_c3 gSym_l7s
        rw [w4]
        refine ok_iter (fun v => ∃ i j : Nat, s0 ≤ i ∧ i ≤ j ∧ j ≤ r0 ∧ (i = s0 ∨ ltc c (B.getD (k - i) d) (A.getD (i - 1) d) = false) ∧ (j = r0 ∨ ltc c (B.getD (k - 1 - j) d) (A.getD j d) = true) ∧
          v = ((P.length : Int), ((P.length + A.length : Nat) : Int), ((P.length + A.length + B.length : Nat) : Int), ((P.length + k : Nat) : Int), ((P.length + k + P.length + A.length : Nat) : Int), ((P.length + i : Nat) : Int), ((P.length + j : Nat) : Int), ((P.length + k + P.length + A.length : Nat) : Int) - 1, P ++ A ++ B ++ Q)) (fun v => (v.2.2.2.2.2.2.1 - v.2.2.2.2.2.1).toNat) ?_ ⟨s0, r0, by omega, hsr, by omega, .inl rfl, .inl rfl, rfl⟩ (by dsimp only; omega)
        rintro v ⟨i, j, hsi, hij, hj, hi0, hj0, rfl⟩
        dsimp only
        have hh2 := half (i := P.length + i) (j := P.length + j) (by omega)
        obtain ⟨q, hq⟩ : ∃ q, (P.length + i + (P.length + j)) / 2 = P.length + q := ⟨(P.length + i + (P.length + j)) / 2 - P.length, by omega⟩
        rw [hq] at hh2
        have w5 : wi64 (((P.length + q : Nat) : Int) + 1) = ((P.length + (q + 1) : Nat) : Int) := by rw [wi64_id] <;> omega
        simp only [gSym_l7, hh2, w5, ok_sel, ok_chk, ok_bind, ok_some, ok_map, nxt_inl, nxt_inr, decide_eq_true_eq, decide_eq_false_iff_not, Bool.not_eq_true', Bool.not_eq_false']
        refine ⟨fun hlt => ?_, fun hge => ?_⟩
        · have hqj : i ≤ q ∧ q < j := by omega
          have w6 : wi64 (((P.length + k + P.length + A.length : Nat) : Int) - 1 - ((P.length + q : Nat) : Int)) = ((P.length + A.length + (k - 1 - q) : Nat) : Int) := by rw [wi64_id] <;> omega
          have hL : (P ++ A ++ B ++ Q).length = P.length + A.length + B.length + Q.length := by simp; omega
          have gA : (P ++ A ++ B ++ Q).getD (P.length + q) d = A.getD q d := by
            rw [List.getD_eq_getElem?_getD, List.getD_eq_getElem?_getD, List.append_assoc, List.append_assoc, List.getElem?_append_right (by simp), List.getElem?_append_left (by simp; omega)]
            simp
          have gB : (P ++ A ++ B ++ Q).getD (P.length + A.length + (k - 1 - q)) d = B.getD (k - 1 - q) d := by
            rw [List.getD_eq_getElem?_getD, List.getD_eq_getElem?_getD, List.append_assoc, List.getElem?_append_right (by simp), List.getElem?_append_left (by simp; omega)]
            congr 2; simp
          simp only [w6, hL, Int.toNat_natCast, gA, gB, hc, ok_some]
          refine ⟨by omega, by omega, by omega, by omega, fun hl => ⟨⟨q + 1, j, by omega, by omega, by omega, .inr ?_, hj0, rfl⟩, by omega⟩, fun hl => ⟨⟨i, q, by omega, by omega, by omega, hi0, .inr ?_, rfl⟩, by omega⟩⟩
          · rw [show k - (q + 1) = k - 1 - q by omega, Nat.add_sub_cancel]
            simpa [ltc] using hl
          · simpa [ltc] using hl
        · have e : j = i := by omega
          subst e
          -- the parts
          obtain ⟨A1, A2, rfl, rfl⟩ := cut_at (l := A) (i := j) (by omega)
          obtain ⟨B1, B2, rfl, hB1l⟩ := cut_at (l := B) (i := k - A1.length) (by omega)
          simp only [List.length_append] at *
          have hk2 : k = A1.length + B1.length := by omega
          have x1 : ∀ a ∈ A1, ∀ b ∈ B2, ltc c b a = false := by
            rcases Nat.eq_zero_or_pos A1.length with e0 | e0
            · have := List.eq_nil_of_length_eq_zero e0; subst this; simp
            cases B2 with
            | nil => simp
            | cons y B2 =>
              obtain ⟨A3, z, rfl⟩ := cut_snoc e0
              simp only [List.length_append, List.length_cons, List.length_nil] at *
              have hz : (A3 ++ [z] ++ A2).getD (A3.length + (0 + 1) - 1) d = z := by
                have : A3 ++ [z] ++ A2 = A3 ++ z :: A2 := by simp
                rw [this]; exact getD_at (by omega)
              have hy : (B1 ++ y :: B2).getD (k - (A3.length + (0 + 1))) d = y := getD_at (by omega)
              rw [hz, hy] at hi0
              have := hi0.resolve_left (by omega)
              exact fun a ha b hb => srt_head h (srt_right hB) (srt_last' h (srt_left hA) this a ha) b hb
          have x2 : ∀ b ∈ B1, ∀ a ∈ A2, ltc c b a = true := by
            rcases Nat.eq_zero_or_pos B1.length with e0 | e0
            · have := List.eq_nil_of_length_eq_zero e0; subst this; simp
            cases A2 with
            | nil => simp
            | cons w A2 =>
              obtain ⟨B3, z, rfl⟩ := cut_snoc e0
              simp only [List.length_append, List.length_cons, List.length_nil] at *
              have hz : (B3 ++ [z] ++ B2).getD (k - 1 - A1.length) d = z := by
                have : B3 ++ [z] ++ B2 = B3 ++ z :: B2 := by simp
                rw [this]; exact getD_at (by omega)
              have hy : (A1 ++ w :: A2).getD A1.length d = w := getD_at rfl
              rw [hz, hy] at hj0
              have := hj0.resolve_left (by omega)
              exact fun b hb a ha => srt_head' h (srt_right hA) (srt_last h (srt_left hB) this b hb) a ha
          have w7 : wi64 (((P.length + k + P.length + (A1.length + A2.length) : Nat) : Int) - ((P.length + A1.length : Nat) : Int)) = ((P.length + A1.length + A2.length + B1.length : Nat) : Int) := by rw [wi64_id] <;> omega
          -- behind the rotation
          have rest : Ok (gSym_c5 d cmp (gSym d cmp n) (P.length : Int) ((P.length + (A1.length + A2.length) + (B1.length + B2.length) : Nat) : Int) ((P.length + k : Nat) : Int) ((P.length + A1.length : Nat) : Int) ((P.length + A1.length + A2.length + B1.length : Nat) : Int) (P ++ A1 ++ B1 ++ A2 ++ B2 ++ Q)) fun r => ∃ S, r = P ++ S ++ Q ∧ Merged (ltc c) (A1 ++ A2) (B1 ++ B2) S := by
            have rest2 : ∀ S1, Merged (ltc c) A1 B1 S1 → Ok (gSym_c6 d cmp (gSym d cmp n) ((P.length + (A1.length + A2.length) + (B1.length + B2.length) : Nat) : Int) ((P.length + k : Nat) : Int) ((P.length + A1.length + A2.length + B1.length : Nat) : Int) (P ++ S1 ++ A2 ++ B2 ++ Q)) fun r => ∃ S, r = P ++ S ++ Q ∧ Merged (ltc c) (A1 ++ A2) (B1 ++ B2) S := by
              intro S1 hS1
              have done : ∀ S2, Merged (ltc c) A2 B2 S2 → ∃ S, P ++ S1 ++ S2 ++ Q = P ++ S ++ Q ∧ Merged (ltc c) (A1 ++ A2) (B1 ++ B2) S := fun S2 hS2 => by
                obtain ⟨m1, m2⟩ := merge_halves h hA hB hS1.1 hS1.2.1 hS2.1 hS2.2.1 x1 x2
                exact ⟨S1 ++ S2, by simp, m1, m2, by simp only [List.length_append, hS1.2.2, hS2.2.2]; omega⟩
              have triv : (A2 = [] ∨ B2 = []) → ∃ S, P ++ S1 ++ A2 ++ B2 ++ Q = P ++ S ++ Q ∧ Merged (ltc c) (A1 ++ A2) (B1 ++ B2) S := by
                rintro (rfl | rfl)
                · simpa using done B2 (Merged.right (srt_right hB))
                · simpa using done A2 (Merged.left (srt_right hA))
              simp only [gSym_c6, ok_sel, ok_bind, ok_some, decide_eq_true_eq, decide_eq_false_iff_not]
              refine ⟨fun c1 => ⟨fun c2 => ?_, fun c2 => ?_⟩, fun c1 => ?_⟩
              · have := ih (P := P ++ S1) (A := A2) (B := B2) (Q := Q) (a := ((P.length + k : Nat) : Int)) (m := ((P.length + A1.length + A2.length + B1.length : Nat) : Int)) (b := ((P.length + (A1.length + A2.length) + (B1.length + B2.length) : Nat) : Int)) (by omega) (by omega) (by omega) (srt_right hA) (srt_right hB) (by simp only [List.length_append, hS1.2.2]; omega) (by simp only [List.length_append, hS1.2.2]; omega) (by simp only [List.length_append, hS1.2.2]; omega) (by simp only [List.length_append, hS1.2.2]; omega)
                refine this.mono ?_
                rintro r ⟨S2, rfl, hS2⟩
                exact done S2 hS2
              · exact triv (.inr (List.eq_nil_of_length_eq_zero (by omega)))
              · exact triv (.inl (List.eq_nil_of_length_eq_zero (by omega)))
            have triv : (A1 = [] ∨ B1 = []) → Merged (ltc c) A1 B1 (A1 ++ B1) := by
              rintro (rfl | rfl)
              · simpa using Merged.right (srt_left hB)
              · simpa using Merged.left (srt_left hA)
            have e5 : P ++ A1 ++ B1 ++ A2 ++ B2 ++ Q = P ++ (A1 ++ B1) ++ A2 ++ B2 ++ Q := by simp
            simp only [gSym_c5, ok_sel, ok_bind, decide_eq_true_eq, decide_eq_false_iff_not]
            refine ⟨fun c1 => ⟨fun c2 => ?_, fun c2 => ?_⟩, fun c1 => ?_⟩
            · have e4 : P ++ A1 ++ B1 ++ A2 ++ B2 ++ Q = P ++ A1 ++ B1 ++ (A2 ++ B2 ++ Q) := by simp
              have := ih (P := P) (A := A1) (B := B1) (Q := A2 ++ B2 ++ Q) (a := (P.length : Int)) (m := ((P.length + A1.length : Nat) : Int)) (b := ((P.length + k : Nat) : Int)) (by omega) (by omega) (by omega) (srt_left hA) (srt_left hB) (by simp only [List.length_append]; omega) rfl rfl (by omega)
              rw [e4]
              refine this.mono ?_
              rintro r ⟨S1, rfl, hS1⟩
              have := rest2 S1 hS1
              rwa [show P ++ S1 ++ (A2 ++ B2 ++ Q) = P ++ S1 ++ A2 ++ B2 ++ Q by simp]
            · rw [e5]; exact rest2 _ (triv (.inr (List.eq_nil_of_length_eq_zero (by omega))))
            · rw [e5]; exact rest2 _ (triv (.inl (List.eq_nil_of_length_eq_zero (by omega))))
          have e6 : P ++ (A1 ++ A2) ++ (B1 ++ B2) ++ Q = P ++ A1 ++ A2 ++ B1 ++ (B2 ++ Q) := by simp
          have nil : (A2 = [] ∨ B1 = []) → P ++ (A1 ++ A2) ++ (B1 ++ B2) ++ Q = P ++ A1 ++ B1 ++ A2 ++ B2 ++ Q := by
            rintro (rfl | rfl) <;> simp
          simp only [gSym_c4, w7, ok_sel, ok_bind, decide_eq_true_eq, decide_eq_false_iff_not]
          refine ⟨fun c1 => ⟨fun c2 => ?_, fun c2 => ?_⟩, fun c1 => ?_⟩
          · have hr := gRot_ok (d := d) (cmp := cmp) (P := P ++ A1) (A := A2) (B := B1) (Q := B2 ++ Q) (a := ((P.length + A1.length : Nat) : Int)) (m := ((P.length + (A1.length + A2.length) : Nat) : Int)) (b := ((P.length + A1.length + A2.length + B1.length : Nat) : Int)) (by simp) (by simp; omega) (by simp) (by omega) (by omega) (by simp only [List.length_append]; omega)
            rw [e6, hr, ok_some]
            rwa [show P ++ A1 ++ B1 ++ A2 ++ (B2 ++ Q) = P ++ A1 ++ B1 ++ A2 ++ B2 ++ Q by simp]
          · rw [nil (.inr (List.eq_nil_of_length_eq_zero (by omega)))]; exact rest
          · rw [nil (.inl (List.eq_nil_of_length_eq_zero (by omega)))]; exact rest
      refine ⟨fun hlt => ?_, fun hge => ?_⟩
      · have w8 : wi64 (((P.length + k + P.length + A.length : Nat) : Int) - ((P.length + A.length + B.length : Nat) : Int)) = ((P.length + (k - B.length) : Nat) : Int) := by rw [wi64_id] <;> omega
        rw [w8]
        exact key (k - B.length) k (by omega) (by omega) (by omega) (by omega) (by omega) (.inr rfl)
      · have := key 0 A.length (by omega) (by omega) (by omega) (by omega) (.inl rfl) (.inl rfl)
        rwa [Nat.add_zero] at this
end
end Go.Proofs.Ythmfeknfiekcmaa.Am
