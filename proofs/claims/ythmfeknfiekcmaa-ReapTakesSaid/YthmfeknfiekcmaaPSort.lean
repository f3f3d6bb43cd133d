/- Entries in order of priority, by the program and by the reference. No conditions. -/
import Derived.Test.YthmfeknfiekcmaaFAll
import Derived.Test.YthmfeknfiekcmaaPLoop
import Derived.Test.YthmfeknfiekcmaaGStable
import Derived.KernelRfl
namespace Go.Proofs.Ythmfeknfiekcmaa.Am
open Go

def cmpI (x y : Int) : Int := if x < y then -1 else if y < x then 1 else 0
theorem cmp_u64 (x y : Int) : F_cmp_Compare_uint64 x y = some (cmpI x y) := by
  refine ok_eq.1 ?_
  simp only [F_cmp_Compare_uint64, F_cmp_isNaN_uint64, ok_sel, ok_bind, ok_some, decide_eq_true_eq, decide_eq_false_iff_not, Bool.not_eq_true', Bool.not_eq_false', cmpI]
  refine ⟨fun h => (h trivial).elim, fun _ => ⟨fun h => (h trivial).elim, fun _ => ⟨fun h => by rw [if_pos h], fun h => ⟨fun h2 => by rw [if_neg h, if_pos h2], fun h2 => by rw [if_neg h, if_neg h2]⟩⟩⟩⟩
theorem cmp_int (x y : Int) : F_cmp_Compare_int x y = some (cmpI x y) := by
  refine ok_eq.1 ?_
  simp only [F_cmp_Compare_int, F_cmp_isNaN_int, ok_sel, ok_bind, ok_some, decide_eq_true_eq, decide_eq_false_iff_not, Bool.not_eq_true', Bool.not_eq_false', cmpI]
  refine ⟨fun h => (h trivial).elim, fun _ => ⟨fun h => (h trivial).elim, fun _ => ⟨fun h => by rw [if_pos h], fun h => ⟨fun h2 => by rw [if_neg h, if_pos h2], fun h2 => by rw [if_neg h, if_neg h2]⟩⟩⟩⟩
theorem or_two (a b : Int) : F_cmp_Or_int [a, b] = some (if a = 0 then b else a) := by
  refine ok_eq.1 ?_
  unfold F_cmp_Or_int F_cmp_Or_int_l1s
  refine ok_range [a, b] (fun i (_ : Unit) => ((0 : Int), [a, b], (([a, b].length : Nat) : Int), ((i : Nat) : Int))) (fun i _ => (0 < i → a = 0) ∧ (1 < i → b = 0)) (fun i _ hi hinv => ?_) (fun _ hinv => ?_) (b0 := ()) ⟨by omega, by omega⟩ (by simp)
  · have hi2 : i = 0 ∨ i = 1 := by simp at hi; omega
    simp only [F_cmp_Or_int_l1, wi_succ (i := i) (by omega), ok_sel, ok_chk, ok_some, nxt_inl, nxt_inr, decide_eq_true_eq, decide_eq_false_iff_not, Bool.not_eq_true', Bool.not_eq_false', Int.toNat_natCast]
    refine ⟨fun _ => ⟨by omega, fun h => ?_, fun h => ⟨(), by simp, ?_⟩⟩, fun h => by omega⟩
    · rcases hi2 with rfl | rfl
      · have h' : ¬ a = 0 := by simpa using h
        rw [if_neg h']; rfl
      · rw [if_pos (hinv.1 (by omega))]; rfl
    · rcases hi2 with rfl | rfl
      · have h' : a = 0 := by simpa using h
        exact ⟨fun _ => h', fun h => by omega⟩
      · have h' : b = 0 := by simpa using h
        exact ⟨fun _ => hinv.1 (by omega), fun _ => h'⟩
  · simp only [F_cmp_Or_int_l1, ok_sel, ok_chk, ok_some, nxt_inl, nxt_inr, decide_eq_true_eq, decide_eq_false_iff_not, Bool.not_eq_true', Bool.not_eq_false', Int.toNat_natCast]
    refine ⟨fun h => by omega, fun _ => ?_⟩
    have h1 := hinv.1 (by simp)
    have h2 := hinv.2 (by simp)
    rw [if_pos h1, h2]
def cE (a b : D_api_Entry) : Int := if cmpI b.2.2.2.2.2.1 a.2.2.2.2.2.1 = 0 then cmpI a.2.2.2.2.2.2.2.2.1 b.2.2.2.2.2.2.2.2.1 else cmpI b.2.2.2.2.2.1 a.2.2.2.2.2.1
theorem cmpE_ok (a b : D_api_Entry) : F_reap_Sorted_1 a b = some (cE a b) := by
  simp only [F_reap_Sorted_1, cmp_u64, cmp_int, Option.bind_some, or_two, cE]
theorem ltE_iff {a b : D_api_Entry} : ltc cE a b = true ↔ b.2.2.2.2.2.1 < a.2.2.2.2.2.1 ∨ (a.2.2.2.2.2.1 = b.2.2.2.2.2.1 ∧ a.2.2.2.2.2.2.2.2.1 < b.2.2.2.2.2.2.2.2.1) := by
  unfold ltc cE cmpI
  rw [decide_eq_true_eq]
  generalize a.2.2.2.2.2.1 = x
  generalize b.2.2.2.2.2.1 = y
  generalize a.2.2.2.2.2.2.2.2.1 = p
  generalize b.2.2.2.2.2.2.2.2.1 = q
  by_cases h1 : y < x
  · simp [h1]
  · by_cases h2 : x < y
    · simp [h1, h2]; omega
    · simp only [h1, h2, if_false, if_true]
      by_cases h3 : p < q
      · simp [h3]; omega
      · by_cases h4 : q < p <;> simp [h3, h4]
theorem ltE_iff' {a b : D_api_Entry} : ltc cE a b = false ↔ ¬ (b.2.2.2.2.2.1 < a.2.2.2.2.2.1 ∨ (a.2.2.2.2.2.1 = b.2.2.2.2.2.1 ∧ a.2.2.2.2.2.2.2.2.1 < b.2.2.2.2.2.2.2.2.1)) := by
  rw [← ltE_iff, Bool.not_eq_true]
theorem swoE : Swo (ltc cE) := ⟨fun a => by rw [ltE_iff']; omega, fun a b h => by rw [ltE_iff] at h; rw [ltE_iff']; omega, fun a b c h k => by rw [ltE_iff'] at h k ⊢; omega⟩
/-- The entries by priority; equals as they stand. -/
def sortE (l : List D_api_Entry) : List D_api_Entry := ssort (ltc cE) l
/-- An entry whose parts are not too long. -/
def EntB (e : D_api_Entry) : Prop := e.2.1.length ≤ 140737488351232 ∧ e.2.2.2.2.2.2.2.2.2.length * 8 ≤ 140737488351232
def EntsB (l : List D_api_Entry) : Prop := l.length * 144 ≤ 140737488351232 ∧ ∀ e ∈ l, EntB e
theorem cloneF_ok {u : U} {by_ : Nat} {l : List u.den} (h : l.length * by_ ≤ 140737488351232) (hb : 1 ≤ by_) : cloneF by_ l = some l := by
  unfold cloneF
  have h1 : l.length * 1 ≤ l.length * by_ := Nat.mul_le_mul_left _ hb
  rw [Nat.zero_add, decide_eq_true (by unfold LIM LEN; omega)]
  rfl
theorem lim144 {n : Nat} (h : n ≤ 977343669105) : n * 144 ≤ LIM ∧ n ≤ LEN := by unfold LIM LEN; omega
theorem ownEntry_ok {e : D_api_Entry} (h : EntB e) : F_own_Entry e = some e := by
  have h1 : F_slices_Clone_byte_byte e.2.1 = some e.2.1 := cloneF_ok (u := .byte) (by_ := 1) (by rw [Nat.mul_one]; exact h.1) (by omega)
  have h2 : F_slices_Clone_int_int e.2.2.2.2.2.2.2.2.2 = some e.2.2.2.2.2.2.2.2.2 := cloneF_ok (u := .int .i64) (by_ := 8) h.2 (by omega)
  simp only [F_own_Entry, h1, h2, Option.bind_some]
theorem ownEntries_ok {l : List D_api_Entry} (h : EntsB l) : F_own_Entries l = some l := by
  refine ok_eq.1 ?_
  obtain ⟨h1, h2⟩ := h
  unfold F_own_Entries F_own_Entries_l1s
  refine ok_range l (fun i (acc : List D_api_Entry) => (l, ((l.length : Nat) : Int), ((i : Nat) : Int), acc)) (fun i acc => acc = l.take i) (fun i acc hi hinv => ?_) (fun acc hinv => ?_) (b0 := []) rfl (by omega)
  · subst hinv
    have he : F_own_Entry (l.getD i d_api_Entry) = some (l.getD i d_api_Entry) := ownEntry_ok (h2 _ (by rw [getD_lt hi]; exact List.getElem_mem hi))
    simp only [F_own_Entries_l1, wi_succ (i := i) (by omega), he, ok_sel, ok_chk, ok_bind, ok_some, nxt_inl, nxt_inr, decide_eq_true_eq, decide_eq_false_iff_not, Int.toNat_natCast]
    refine ⟨fun _ => ⟨by omega, ⟨by rw [List.length_take]; unfold LIM; omega, by rw [List.length_take]; unfold LEN; omega⟩, _, rfl, ?_⟩, fun h => by omega⟩
    rw [take_succ' hi, getD_lt hi]
  · subst hinv
    simp only [F_own_Entries_l1, ok_sel, ok_chk, ok_bind, ok_some, nxt_inl, nxt_inr, decide_eq_true_eq, decide_eq_false_iff_not, Int.toNat_natCast]
    exact ⟨fun h => by omega, fun _ => by rw [List.take_length]⟩
theorem sortE_len (l : List D_api_Entry) : (sortE l).length = l.length := ssort_len _ l
theorem sortE_mem {l : List D_api_Entry} {e : D_api_Entry} : e ∈ sortE l ↔ e ∈ l := ssort_mem swoE
theorem EntsB.sort {l : List D_api_Entry} (h : EntsB l) : EntsB (sortE l) := ⟨by rw [sortE_len]; exact h.1, fun e he => h.2 e (sortE_mem.1 he)⟩
theorem stable_same (l : List D_api_Entry) : F_slices_SortStableFunc_api_Entry_api_Entry_of_reap_Sorted_1 l = gSortS d_api_Entry F_reap_Sorted_1 l := by kernel_rfl
theorem reapSorted_ok {l : List D_api_Entry} (h : EntsB l) : F_reap_Sorted l = some (sortE l) := by
  have hl := h.1
  unfold F_reap_Sorted
  rw [ownEntries_ok h, Option.bind_some, stable_same, gSortS_ok cmpE_ok swoE (by omega)]
  rfl
/-- One step of the reference: an entry to its place. -/
theorem refSorted_l3 {e : D_api_Entry} {v7 : List D_api_Entry} {v8 : Int} {i : Nat} {out : List D_api_Entry} (hl : out.length < 977343669105) (hi : i < 1000000000000) : F_mempoolref16_Sorted_l3s ((out.length : Nat) : Int) v7 v8 (i : Int) e out = some (.inl (v7, v8, ((i + 1 : Nat) : Int), insR (ltc cE) e out)) := by
  unfold F_mempoolref16_Sorted_l3s
  refine ok_eq.1 (ok_iterE (fun n v => ∃ s t, s.length = n ∧ out = s ++ t ∧ insR (ltc cE) e out = insR (ltc cE) e s ++ t ∧ v = (((s.length : Nat) : Int), v7, v8, (i : Int), e, out)) ?_ ⟨out, [], rfl, by simp, by simp, rfl⟩ (by omega))
  rintro n v ⟨s, t, rfl, rfl, hins, rfl⟩
  simp only [List.length_append] at hl
  have place : insR (ltc cE) e s = s ++ [e] → Ok (F_mempoolref16_Sorted_c2 ((s.length : Nat) : Int) v7 v8 (i : Int) e (s ++ t)) fun r => r = .inl (v7, v8, ((i + 1 : Nat) : Int), insR (ltc cE) e (s ++ t)) := fun hp => by
    have e1 : (s ++ t).take s.length = s := List.take_left
    have e2 : ((s ++ t).take (Int.toNat (((List.length (s ++ t)) : Nat) : Int))).drop s.length = t := by rw [Int.toNat_natCast, List.take_length, List.drop_left]
    have e3 : (s ++ [e]).length = s.length + 1 := by rw [List.length_append]; rfl
    have e4 : (s ++ t).length = s.length + t.length := List.length_append
    simp only [F_mempoolref16_Sorted_c2, wi_succ (i := i) (by omega), ok_chk, ok_some, decide_eq_true_eq]
    rw [Int.toNat_natCast (n := s.length), e2, e1, e3, e4]
    refine ⟨by omega, lim144 (by omega), lim144 (by omega), by omega, lim144 (by omega), ?_⟩
    rw [hins, hp]
  dsimp only
  rcases Nat.eq_zero_or_pos s.length with h0 | h0
  · have := List.eq_nil_of_length_eq_zero h0
    subst this
    simp only [F_mempoolref16_Sorted_l3, ok_sel, ok_map, decide_eq_true_eq, decide_eq_false_iff_not]
    exact ⟨fun h => by simp at h, fun _ => place (by rw [insR_nil]; rfl)⟩
  · obtain ⟨s2, y, rfl⟩ := cut_snoc h0
    have e3 : (s2 ++ [y]).length = s2.length + 1 := by rw [List.length_append]; rfl
    rw [e3] at hl
    have w0 : wi64 ((((s2 ++ [y]).length : Nat) : Int) - 1) = ((s2.length : Nat) : Int) := by rw [e3, wi64_id] <;> omega
    have e5 : (s2 ++ [y] ++ t) = s2 ++ y :: t := by rw [List.append_assoc]; rfl
    have gy : (s2 ++ [y] ++ t).getD s2.length d_api_Entry = y := by rw [e5]; exact getD_at rfl
    have e4 : (s2 ++ [y] ++ t).length = s2.length + 1 + t.length := by rw [List.length_append, e3]
    have hlt := ltE_iff (a := e) (b := y)
    have go : ltc cE e y = true → ∃ m, m < (s2 ++ [y]).length ∧ ∃ s t', s.length = m ∧ s2 ++ [y] ++ t = s ++ t' ∧ insR (ltc cE) e (s2 ++ [y] ++ t) = insR (ltc cE) e s ++ t' ∧ (((s2.length : Nat) : Int), v7, v8, (i : Int), e, s2 ++ [y] ++ t) = (((s.length : Nat) : Int), v7, v8, (i : Int), e, s2 ++ [y] ++ t) := fun hl => by
      refine ⟨s2.length, by omega, s2, y :: t, rfl, e5, ?_, rfl⟩
      rw [hins, insR_snoc, if_pos hl, List.append_assoc]
      rfl
    have stop : ltc cE e y = false → insR (ltc cE) e (s2 ++ [y]) = s2 ++ [y] ++ [e] := fun hl => by
      rw [insR_snoc, hl, List.append_assoc]
      rfl
    have stop' : ¬ (y.2.2.2.2.2.1 < e.2.2.2.2.2.1 ∨ (e.2.2.2.2.2.1 = y.2.2.2.2.2.1 ∧ e.2.2.2.2.2.2.2.2.1 < y.2.2.2.2.2.2.2.2.1)) → ltc cE e y = false := fun h => ltE_iff'.2 h
    simp only [F_mempoolref16_Sorted_l3, w0, ok_sel, ok_chk, ok_some, ok_map, nxt_inl, nxt_inr, decide_eq_true_eq, decide_eq_false_iff_not, Int.toNat_natCast, gy, e4]
    refine ⟨fun _ => ⟨by omega, by omega, fun h1 => go (hlt.2 (.inl h1)), fun h1 => ⟨by omega, by omega, fun h2 => ⟨by omega, by omega, fun h3 => go (hlt.2 (.inr ⟨h2.symm, h3⟩)), fun h3 => place (stop (stop' (by omega)))⟩, fun h2 => place (stop (stop' (by omega)))⟩⟩, fun h => by omega⟩
theorem refSorted_ok {l : List D_api_Entry} (h : l.length * 144 ≤ 140737488351232) : F_mempoolref16_Sorted l = some (sortE l) := by
  refine ok_eq.1 ?_
  unfold F_mempoolref16_Sorted F_mempoolref16_Sorted_l1s
  refine ok_range l (fun i (acc : List D_api_Entry) => (l, ((l.length : Nat) : Int), ((i : Nat) : Int), acc)) (fun i acc => acc = sortE (l.take i)) (fun i acc hi hinv => ?_) (fun acc hinv => ?_) (b0 := []) rfl (by omega)
  · subst hinv
    have hlen : (sortE (l.take i)).length = i := by rw [sortE_len, List.length_take]; omega
    have h3 := refSorted_l3 (e := l.getD i d_api_Entry) (v7 := l) (v8 := ((l.length : Nat) : Int)) (i := i) (out := sortE (l.take i)) (by omega) (by omega)
    simp only [F_mempoolref16_Sorted_l1, ok_sel, ok_chk, ok_some, nxt_inr, decide_eq_true_eq, decide_eq_false_iff_not, Int.toNat_natCast, h3]
    refine ⟨fun _ => ⟨by omega, ?_⟩, fun h => by omega⟩
    rw [nxt_inl]
    refine ⟨_, rfl, ?_⟩
    rw [take_succ' hi, getD_lt hi]
    show insR (ltc cE) l[i] (ssort (ltc cE) (l.take i)) = ssort (ltc cE) (l.take i ++ [l[i]])
    rw [ssort_snoc]
  · subst hinv
    simp only [F_mempoolref16_Sorted_l1, ok_sel, ok_chk, ok_some, nxt_inr, decide_eq_true_eq, decide_eq_false_iff_not, Int.toNat_natCast]
    exact ⟨fun h => by omega, fun _ => by rw [List.take_length]⟩
end Go.Proofs.Ythmfeknfiekcmaa.Am
