/- slices.SortStableFunc at any type and comparison: it sorts, and keeps the order of equals. No conditions. -/
import Derived.Test.YthmfeknfiekcmaaGSym
namespace Go.Proofs.Ythmfeknfiekcmaa.Am
open Go

section
variable {α : Type} {d : α} {cmp : α → α → Option Int} {c : α → α → Int}
theorem merged_ssort (h : Swo (ltc c)) {x y S : List α} (m : Merged (ltc c) (ssort (ltc c) x) (ssort (ltc c) y) S) : S = ssort (ltc c) (x ++ y) := by
  have h1 := ssort_srt h (x ++ y)
  refine srt_uniq h m.1 h1.1 (m.2.1.trans (SameF.trans ?_ h1.2.symm))
  exact (ssort_srt h x).2.app (ssort_srt h y).2
/-- Blocks of equal length, each sorted. -/
def blk (lt : α → α → Bool) (bs : Nat) (l : List α) : List α := if _h : l = [] ∨ bs = 0 then [] else ssort lt (l.take bs) ++ blk lt bs (l.drop bs)
termination_by l.length
decreasing_by
  have h1 : l ≠ [] := fun e => _h (.inl e)
  have h2 : bs ≠ 0 := fun e => _h (.inr e)
  have := List.length_pos_iff.2 h1
  simp only [List.length_drop]
  omega
theorem blk_step (lt : α → α → Bool) {bs : Nat} (hb : 0 < bs) (l : List α) : blk lt bs l = ssort lt (l.take bs) ++ blk lt bs (l.drop bs) := by
  by_cases h : l = []
  · subst h; simp [blk, ssort]
  · rw [blk, dif_neg (by simp [h]; omega)]
theorem blk_nil (lt : α → α → Bool) (bs : Nat) : blk lt bs [] = [] := by rw [blk, dif_pos (.inl rfl)]
theorem blk_short (lt : α → α → Bool) {bs : Nat} (hb : 0 < bs) {l : List α} (h : l.length ≤ bs) : blk lt bs l = ssort lt l := by
  rw [blk_step lt hb, List.take_of_length_le h, List.drop_of_length_le h, blk_nil, List.append_nil]
theorem blk_len (lt : α → α → Bool) {bs : Nat} (hb : 0 < bs) : ∀ (n : Nat) (l : List α), l.length ≤ n → (blk lt bs l).length = l.length := by
  intro n
  induction n with
  | zero => intro l h; have := List.eq_nil_of_length_eq_zero (Nat.le_zero.1 h); subst this; simp [blk_nil]
  | succ n ih =>
    intro l h
    by_cases e : l = []
    · subst e; simp [blk_nil]
    · have := List.length_pos_iff.2 e
      rw [blk_step lt hb, List.length_append, ssort_len, ih (l.drop bs) (by simp; omega)]
      simp; omega
theorem gStb_ok (hc : ∀ a b, cmp a b = some (c a b)) (h : Swo (ltc c)) {l : List α} (hlen : l.length < 1152921504606846976) : gStb d cmp l (l.length : Int) = some (ssort (ltc c) l) := by
  -- the passes
  have pass : ∀ bs : Nat, 0 < bs → bs < l.length → gStb_l4s d cmp (l.length : Int) (bs : Int) 0 ((2 * bs : Nat) : Int) (blk (ltc c) bs l) = some (.inl ((l.length : Int), ((2 * bs : Nat) : Int), blk (ltc c) (2 * bs) l)) := by
    intro bs hb hbn
    have w1 : wi64 ((bs : Int) * 2) = ((2 * bs : Nat) : Int) := by rw [wi64_id] <;> omega
    have w2 : wi64 (2 * (bs : Int)) = ((2 * bs : Nat) : Int) := by rw [wi64_id] <;> omega
    unfold gStb_l4s
    refine ok_eq.1 (ok_iter (fun v => ∃ D R, D.length + R.length = l.length ∧ blk (ltc c) (2 * bs) l = D ++ blk (ltc c) (2 * bs) R ∧ v = ((l.length : Int), (bs : Int), (D.length : Int), ((D.length + 2 * bs : Nat) : Int), D ++ blk (ltc c) bs R)) (fun v => (v.1 - v.2.2.1).toNat) ?_ ⟨[], l, by simp, rfl, by simp⟩ (by dsimp only; omega))
    rintro v ⟨D, R, hDR, hD, rfl⟩
    dsimp only
    have w3 : wi64 ((D.length : Int) + (bs : Int)) = ((D.length + bs : Nat) : Int) := by rw [wi64_id] <;> omega
    have w4 : wi64 (((D.length + 2 * bs : Nat) : Int) + ((2 * bs : Nat) : Int)) = ((D.length + 2 * bs + 2 * bs : Nat) : Int) := by rw [wi64_id] <;> omega
    simp only [gStb_l4, gStb_c3, w1, w2, w3, w4, ok_sel, ok_bind, ok_some, ok_map, nxt_inl, nxt_inr, decide_eq_true_eq, decide_eq_false_iff_not]
    have take_drop : (R.take bs) ++ (R.drop bs) = R := List.take_append_drop bs R
    refine ⟨fun h1 => ?_, fun h1 => ⟨fun h2 => ?_, fun h2 => ?_⟩⟩
    · have e2 : R.take (2 * bs) = R.take bs ++ (R.drop bs).take bs := by rw [show 2 * bs = bs + bs by omega, List.take_add]
      have e3 : R.drop (2 * bs) = (R.drop bs).drop bs := by rw [List.drop_drop]; congr 1; omega
      have hs := gSym_ok (d := d) hc h FUEL (P := D) (A := ssort (ltc c) (R.take bs)) (B := ssort (ltc c) ((R.drop bs).take bs)) (Q := blk (ltc c) bs (R.drop (2 * bs))) (a := (D.length : Int)) (m := ((D.length + bs : Nat) : Int)) (b := ((D.length + 2 * bs : Nat) : Int))
        (by rw [FUEL_eq]; simp only [ssort_len, List.length_take, List.length_drop]; omega) (by simp only [ssort_len, List.length_take]; omega) (by simp only [ssort_len, List.length_take, List.length_drop]; omega) (ssort_srt h _).1 (ssort_srt h _).1
        (by simp only [List.length_append, ssort_len, blk_len (ltc c) hb _ _ (Nat.le_refl _), List.length_take, List.length_drop]; omega) rfl (by simp only [ssort_len, List.length_take]; omega) (by simp only [ssort_len, List.length_take, List.length_drop]; omega)
      have e4 : D ++ blk (ltc c) bs R = D ++ ssort (ltc c) (R.take bs) ++ ssort (ltc c) ((R.drop bs).take bs) ++ blk (ltc c) bs (R.drop (2 * bs)) := by
        rw [blk_step (ltc c) hb R, blk_step (ltc c) hb (R.drop bs), e3]; simp
      rw [e4]
      refine hs.mono ?_
      rintro r ⟨S, rfl, hS⟩
      have hSe := merged_ssort h hS
      rw [← e2] at hSe
      refine ⟨⟨D ++ S, R.drop (2 * bs), ?_, ?_, ?_⟩, ?_⟩
      · rw [hSe, List.length_append, ssort_len]; simp; omega
      · rw [hD, blk_step (ltc c) (by omega) R, ← hSe]; simp
      · rw [hSe]
        simp only [List.length_append, ssort_len, List.length_take]
        rw [Nat.min_eq_left (by omega)]
      · simp only [Int.toNat_sub]; omega
    · have hs := gSym_ok (d := d) hc h FUEL (P := D) (A := ssort (ltc c) (R.take bs)) (B := ssort (ltc c) (R.drop bs)) (Q := []) (a := (D.length : Int)) (m := ((D.length + bs : Nat) : Int)) (b := (l.length : Int))
        (by rw [FUEL_eq]; simp only [ssort_len, List.length_take, List.length_drop]; omega) (by simp only [ssort_len, List.length_take]; omega) (by simp only [ssort_len, List.length_drop]; omega) (ssort_srt h _).1 (ssort_srt h _).1
        (by simp only [List.length_append, ssort_len, List.length_take, List.length_drop, List.length_nil]; omega) rfl (by simp only [ssort_len, List.length_take]; omega) (by simp only [ssort_len, List.length_take, List.length_drop]; omega)
      have e4 : D ++ blk (ltc c) bs R = D ++ ssort (ltc c) (R.take bs) ++ ssort (ltc c) (R.drop bs) ++ [] := by
        rw [blk_step (ltc c) hb R, blk_short (ltc c) hb (l := R.drop bs) (by simp; omega)]; simp
      rw [e4]
      refine hs.mono ?_
      rintro r ⟨S, rfl, hS⟩
      have hSe := merged_ssort h hS
      rw [take_drop] at hSe
      rw [hD, blk_short (ltc c) (by omega) (l := R) (by omega), hSe]
      simp
    · rw [hD, blk_short (ltc c) (bs := 2 * bs) (by omega) (l := R) (by omega), blk_short (ltc c) hb (l := R) (by omega)]
  have passes : gStb_l2s d cmp (l.length : Int) 20 (blk (ltc c) 20 l) = some (ssort (ltc c) l) := by
    unfold gStb_l2s
    refine ok_eq.1 (ok_iter (fun v => ∃ bs : Nat, 0 < bs ∧ bs < 2 * l.length + 40 ∧ v = ((l.length : Int), (bs : Int), blk (ltc c) bs l)) (fun v => (v.1 - v.2.1).toNat) ?_ ⟨20, by omega, by omega, rfl⟩ (by dsimp only; omega))
    rintro v ⟨bs, hb, hbn, rfl⟩
    dsimp only
    have w2 : wi64 (2 * (bs : Int)) = ((2 * bs : Nat) : Int) := by rw [wi64_id] <;> omega
    simp only [gStb_l2, w2, ok_sel, ok_some, nxt_inr, decide_eq_true_eq, decide_eq_false_iff_not]
    refine ⟨fun h1 => ?_, fun h1 => blk_short (ltc c) hb (by omega)⟩
    rw [pass bs hb (by omega), ok_some, nxt_inl]
    exact ⟨⟨2 * bs, by omega, by omega, rfl⟩, by dsimp only; omega⟩
  -- the first blocks
  unfold gStb gStb_l5s
  refine ok_eq.1 (ok_iter (fun v => ∃ D R, D.length + R.length = l.length ∧ blk (ltc c) 20 l = D ++ blk (ltc c) 20 R ∧ v = ((l.length : Int), 20, (D.length : Int), ((D.length + 20 : Nat) : Int), D ++ R)) (fun v => (v.1 - v.2.2.1).toNat) ?_ ⟨[], l, by simp, rfl, by simp⟩ (by dsimp only; omega))
  rintro v ⟨D, R, hDR, hD, rfl⟩
  dsimp only
  have w4 : wi64 (((D.length + 20 : Nat) : Int) + 20) = ((D.length + 20 + 20 : Nat) : Int) := by rw [wi64_id] <;> omega
  simp only [gStb_l5, gStb_c1, w4, ok_sel, ok_bind, ok_some, ok_map, nxt_inl, nxt_inr, decide_eq_true_eq, decide_eq_false_iff_not]
  refine ⟨fun h1 => ?_, fun h1 => ?_⟩
  · have hi := gIns_ok (d := d) hc (P := D) (A := R.take 20) (Q := R.drop 20) (by simp only [List.length_append, List.length_take, List.length_drop]; omega)
    have e1 : D ++ R.take 20 ++ R.drop 20 = D ++ R := by rw [List.append_assoc, List.take_append_drop]
    have e2 : (R.take 20).length = 20 := by simp; omega
    rw [e1, e2] at hi
    rw [hi, ok_some]
    refine ⟨⟨D ++ ssort (ltc c) (R.take 20), R.drop 20, ?_, ?_, ?_⟩, ?_⟩
    · rw [List.length_append, ssort_len, e2]; simp; omega
    · rw [hD, blk_step (ltc c) (by omega) R]; simp
    · rw [List.length_append, ssort_len, e2]
    · omega
  · have hi := gIns_ok (d := d) hc (P := D) (A := R) (Q := []) (by simp only [List.length_append, List.length_nil]; omega)
    rw [hDR, List.append_nil] at hi
    rw [hi, ok_some, List.append_nil, ← blk_short (ltc c) (bs := 20) (by omega) (l := R) (by omega), ← hD, passes]
    exact (ok_some _ _).2 rfl
/-- slices.SortStableFunc. -/
theorem gSortS_ok (hc : ∀ a b, cmp a b = some (c a b)) (h : Swo (ltc c)) {l : List α} (hlen : l.length < 1152921504606846976) : gSortS d cmp l = some (ssort (ltc c) l) := by
  unfold gSortS
  rw [gStb_ok hc h hlen]; rfl
end
end Go.Proofs.Ythmfeknfiekcmaa.Am
