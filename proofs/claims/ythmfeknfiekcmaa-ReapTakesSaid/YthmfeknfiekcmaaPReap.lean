/- What is taken out of a list of entries, by the program and by the reference. No conditions. -/
import Derived.Test.YthmfeknfiekcmaaPSort
import Derived.Test.YthmfeknfiekcmaaPSize
namespace Go.Proofs.Ythmfeknfiekcmaa.Am
open Go

/-- The bytes of entries. -/
def raws (l : List D_api_Entry) : List (List UInt8) := l.map fun e => e.2.1
theorem raws_len (l : List D_api_Entry) : (raws l).length = l.length := List.length_map ..
theorem raws_snoc (l : List D_api_Entry) (e : D_api_Entry) : raws (l ++ [e]) = raws l ++ [e.2.1] := List.map_append
/-- The first 'n'; all, if 'n' is negative. -/
def firstN (n : Int) (l : List D_api_Entry) : List D_api_Entry := if n < 0 then l else l.take n.toNat
theorem firstN_le (n : Int) (l : List D_api_Entry) : (firstN n l).length ≤ l.length := by
  unfold firstN; split
  · exact Nat.le_refl _
  · rw [List.length_take]; omega
theorem countLoop_ok {l : List D_api_Entry} (hl : l.length * 144 ≤ 140737488351232) : F_reap_Count_l2s l ((l.length : Nat) : Int) 0 [] = some (raws l) := by
  refine ok_eq.1 ?_
  unfold F_reap_Count_l2s
  refine ok_range l (fun i (acc : List (List UInt8)) => (l, ((l.length : Nat) : Int), ((i : Nat) : Int), acc)) (fun i acc => acc = raws (l.take i)) (fun i acc hi hinv => ?_) (fun acc hinv => ?_) (b0 := []) rfl (by omega)
  · subst hinv
    simp only [F_reap_Count_l2, wi_succ (i := i) (by omega), ok_sel, ok_chk, ok_some, nxt_inl, nxt_inr, decide_eq_true_eq, decide_eq_false_iff_not, Int.toNat_natCast, raws_len, List.length_take]
    refine ⟨fun _ => ⟨by omega, ⟨by unfold LIM; omega, by unfold LEN; omega⟩, _, rfl, ?_⟩, fun h => by omega⟩
    rw [take_succ' hi, getD_lt hi, raws_snoc]
  · subst hinv
    simp only [F_reap_Count_l2, ok_sel, ok_chk, ok_some, nxt_inl, nxt_inr, decide_eq_true_eq, decide_eq_false_iff_not, Int.toNat_natCast]
    exact ⟨fun h => by omega, fun _ => by rw [List.take_length]⟩
theorem count_ok {l : List D_api_Entry} (h : EntsB l) (n : Int) : F_reap_Count l n = some (raws (firstN n (sortE l))) := by
  have hl := h.1
  have hs := sortE_len l
  have all : F_reap_Count_c1 (((sortE l).length : Nat) : Int) (sortE l) = some (raws (sortE l)) := by
    unfold F_reap_Count_c1
    rw [decide_eq_true (by omega), Int.toNat_natCast, List.take_length]
    exact countLoop_ok (by omega)
  unfold F_reap_Count firstN
  rw [reapSorted_ok h, Option.bind_some]
  by_cases h1 : n < 0
  · rw [decide_eq_true h1, if_pos h1]; exact all
  · rw [decide_eq_false h1, if_neg h1]
    by_cases h2 : (((sortE l).length : Nat) : Int) < n
    · show sel (decide ((((sortE l).length : Nat) : Int) < n)) _ _ = _
      rw [decide_eq_true h2, List.take_of_length_le (by omega)]; exact all
    · show sel (decide ((((sortE l).length : Nat) : Int) < n)) _ _ = _
      rw [decide_eq_false h2]
      show F_reap_Count_c1 n (sortE l) = _
      unfold F_reap_Count_c1
      rw [decide_eq_true (by omega)]
      exact countLoop_ok (by rw [List.length_take]; omega)
theorem first_ok {l : List D_api_Entry} (h : EntsB l) (n : Int) : F_mempoolref21_First l n = some (raws (firstN n (sortE l))) := by
  have hl := h.1
  have hs := sortE_len l
  have hb := h.sort.2
  refine ok_eq.1 ?_
  unfold F_mempoolref21_First
  rw [refSorted_ok hl, Option.bind_some]
  generalize sortE l = s at *
  unfold F_mempoolref21_First_l1s
  refine ok_range s (fun i (acc : List (List UInt8)) => (n, s, ((s.length : Nat) : Int), ((i : Nat) : Int), acc)) (fun i acc => acc = raws (firstN n (s.take i))) (fun i acc hi hinv => ?_) (fun acc hinv => ?_) (b0 := []) (by unfold firstN raws; split <;> simp) (by omega)
  · subst hinv
    have he := hb (s.getD i d_api_Entry) (by rw [getD_lt hi]; exact List.getElem_mem hi)
    have hle := firstN_le n (s.take i)
    rw [List.length_take] at hle
    have he1 := he.1
    have step : ∀ b : Bool, (b = true → raws (firstN n (s.take i)) ++ [(s.getD i d_api_Entry).2.1] = raws (firstN n (s.take (i + 1)))) → (b = false → raws (firstN n (s.take i)) = raws (firstN n (s.take (i + 1)))) →
        Ok (F_mempoolref21_First_c2 n s ((s.length : Nat) : Int) (i : Int) b (s.getD i d_api_Entry) (raws (firstN n (s.take i)))) (Nxt (fun x => x = raws (firstN n s)) fun z => ∃ b', z = (n, s, ((s.length : Nat) : Int), ((i + 1 : Nat) : Int), b') ∧ b' = raws (firstN n (s.take (i + 1)))) := fun b h1 h2 => by
      simp only [F_mempoolref21_First_c2, wi_succ (i := i) (by omega), ok_sel, ok_chk, ok_some, nxt_inl, decide_eq_true_eq, raws_len]
      exact ⟨fun hb => ⟨⟨by unfold LIM; omega, by unfold LEN; omega⟩, ⟨by unfold LIM; omega, by unfold LEN; omega⟩, _, rfl, h1 hb⟩, fun hb => ⟨_, rfl, h2 hb⟩⟩
    simp only [F_mempoolref21_First_l1, ok_sel, ok_chk, ok_some, nxt_inr, decide_eq_true_eq, decide_eq_false_iff_not, Int.toNat_natCast]
    refine ⟨fun _ => ⟨by omega, fun hn => step true (fun _ => ?_) (fun h => by cases h), fun hn => step (decide ((i : Int) < n)) (fun h => ?_) (fun h => ?_)⟩, fun h => by omega⟩
    · unfold firstN
      rw [if_pos hn, if_pos hn, take_succ' hi, raws_snoc, getD_lt hi]
    · have h' : (i : Int) < n := of_decide_eq_true h
      unfold firstN
      rw [if_neg hn, if_neg hn, List.take_of_length_le (l := s.take i) (by rw [List.length_take]; omega), List.take_of_length_le (l := s.take (i + 1)) (by rw [List.length_take]; omega), take_succ' hi, raws_snoc, getD_lt hi]
    · have h' : ¬ (i : Int) < n := of_decide_eq_false h
      unfold firstN
      rw [if_neg hn, if_neg hn, List.take_take, List.take_take, Nat.min_eq_left (by omega), Nat.min_eq_left (by omega)]
  · subst hinv
    simp only [F_mempoolref21_First_l1, ok_sel, ok_chk, ok_some, nxt_inr, decide_eq_true_eq, decide_eq_false_iff_not, Int.toNat_natCast]
    exact ⟨fun h => by omega, fun _ => by rw [List.take_length]⟩
/-- Whether an entry fits. -/
def fitsE (free : Bool) (b g : Int) (e : D_api_Entry) : Bool := decide ((fsz e.2.1.length : Int) ≤ b) && (free || decide (e.2.2.2.2.1 ≤ g))
/-- The entries that fit, one after another. -/
def takeE (free : Bool) : Int → Int → List D_api_Entry → List D_api_Entry
  | _, _, [] => []
  | b, g, e :: l => if fitsE free b g e then e :: takeE free (b - fsz e.2.1.length) (if free then g else g - e.2.2.2.2.1) l else takeE free b g l
theorem takeE_cons (free : Bool) (b g : Int) (e : D_api_Entry) (l : List D_api_Entry) : takeE free b g (e :: l) = if fitsE free b g e then e :: takeE free (b - fsz e.2.1.length) (if free then g else g - e.2.2.2.2.1) l else takeE free b g l := rfl
theorem takeE_le (free : Bool) : ∀ (l : List D_api_Entry) (b g : Int), (takeE free b g l).length ≤ l.length
  | [], _, _ => Nat.le_refl _
  | e :: l, b, g => by
    unfold takeE
    split
    · have := takeE_le free l (b - fsz e.2.1.length) (if free then g else g - e.2.2.2.2.1)
      simp only [List.length_cons]; omega
    · have := takeE_le free l b g
      simp only [List.length_cons]; omega
theorem takeE_sub (free : Bool) : ∀ (l : List D_api_Entry) (b g : Int), ∀ e ∈ takeE free b g l, e ∈ l
  | [], _, _, e, h => by simp [takeE] at h
  | x :: l, b, g, e, h => by
    unfold takeE at h
    split at h
    · rcases List.mem_cons.1 h with rfl | h
      · simp
      · exact List.mem_cons_of_mem _ (takeE_sub free l _ _ e h)
    · exact List.mem_cons_of_mem _ (takeE_sub free l _ _ e h)
/-- Gas in its range. -/
def GasB (l : List D_api_Entry) : Prop := ∀ e ∈ l, 0 ≤ e.2.2.2.2.1 ∧ e.2.2.2.2.1 < 18446744073709551616
theorem GasB.sort {l : List D_api_Entry} (h : GasB l) : GasB (sortE l) := fun e he => h e (sortE_mem.1 he)
theorem drop_cons' {α : Type} {l : List α} {i : Nat} (h : i < l.length) : l.drop i = l[i] :: l.drop (i + 1) := List.drop_eq_getElem_cons h
/-- What BytesGas takes. -/
def takenE (l : List D_api_Entry) (mb mg : Int) : List D_api_Entry := if mb < 0 ∨ mg < -1 then [] else takeE (decide (mg < 0)) mb (max mg 0) (sortE l)
theorem bytesGas_ok {l : List D_api_Entry} (h : EntsB l) (hg : GasB l) {mb mg : Int} (hmb : mb ≤ 9223372036854775807) (hmg : mg ≤ 9223372036854775807) : F_reap_BytesGas l mb mg = some (raws (takenE l mb mg)) := by
  have hl := h.1
  have hs := sortE_len l
  have hb := h.sort.2
  have hgs := hg.sort
  refine ok_eq.1 ?_
  unfold F_reap_BytesGas takenE
  simp only [ok_sel, ok_bind, ok_some, decide_eq_true_eq, decide_eq_false_iff_not]
  refine ⟨fun h1 => by rw [if_pos (.inl h1)]; rfl, fun h1 => ⟨fun h2 => by rw [if_pos (.inr h2)]; rfl, fun h2 => ?_⟩⟩
  rw [if_neg (by omega), reapSorted_ok h, ok_some]
  have w0 : wu64 (max mg 0) = max mg 0 := wu64_id (by omega) (by omega)
  rw [w0]
  generalize sortE l = s at *
  unfold F_reap_BytesGas_l1s
  refine ok_range s (fun i (v : Int × Int × List (List UInt8)) => (v.1, mg, v.2.1, ((s.length : Nat) : Int), ((i : Nat) : Int), v.2.2, s)) (fun i v => v.2.2.length ≤ i ∧ 0 ≤ v.1 ∧ v.1 ≤ mb ∧ 0 ≤ v.2.1 ∧ v.2.1 ≤ max mg 0 ∧ v.2.2 ++ raws (takeE (decide (mg < 0)) v.1 v.2.1 (s.drop i)) = raws (takeE (decide (mg < 0)) mb (max mg 0) s)) (fun i v hi hinv => ?_) (fun v hinv => ?_) (b0 := (mb, max mg 0, [])) ⟨by simp, by dsimp only; omega, by dsimp only; omega, by dsimp only; omega, by dsimp only; omega, by simp⟩ (by omega)
  · obtain ⟨b, g, acc⟩ := v
    obtain ⟨i1, i2, i3, i4, i5, i6⟩ := hinv
    dsimp only at i1 i2 i3 i4 i5 i6 ⊢
    rw [drop_cons' hi] at i6
    have he := hb s[i] (List.getElem_mem hi)
    have hge := hgs s[i] (List.getElem_mem hi)
    generalize hx : s[i] = e at *
    have hgd : s.getD i d_api_Entry = e := by rw [getD_lt hi, hx]
    have he1 := he.1
    have hf := fsz_le (n := e.2.1.length) (by omega)
    have hsz := sizeBytes_ok (n := e.2.1.length) (by omega)
    have w1 : (fsz e.2.1.length : Int) ≤ b → wi64 (b - (fsz e.2.1.length : Int)) = b - (fsz e.2.1.length : Int) := fun h => wi64_id (by omega) (by omega)
    have w2 : e.2.2.2.2.1 ≤ g → wu64 (g - e.2.2.2.2.1) = g - e.2.2.2.2.1 := fun h => wu64_id (by omega) (by omega)
    rw [takeE_cons] at i6
    simp only [F_reap_BytesGas_l1, hgd, hsz, wi_succ (i := i) (by omega), ok_sel, ok_chk, ok_bind, ok_some, nxt_inl, nxt_inr, decide_eq_true_eq, decide_eq_false_iff_not, Int.toNat_natCast]
    have no : fitsE (decide (mg < 0)) b g e = false → ∃ b' : Int × Int × List (List UInt8), (b, mg, g, ((s.length : Nat) : Int), ((i + 1 : Nat) : Int), acc, s) = (b'.1, mg, b'.2.1, ((s.length : Nat) : Int), ((i + 1 : Nat) : Int), b'.2.2, s) ∧ b'.2.2.length ≤ i + 1 ∧ 0 ≤ b'.1 ∧ b'.1 ≤ mb ∧ 0 ≤ b'.2.1 ∧ b'.2.1 ≤ max mg 0 ∧ b'.2.2 ++ raws (takeE (decide (mg < 0)) b'.1 b'.2.1 (s.drop (i + 1))) = raws (takeE (decide (mg < 0)) mb (max mg 0) s) := fun hf => by
      rw [hf] at i6
      exact ⟨(b, g, acc), rfl, by dsimp only; omega, i2, i3, i4, i5, i6⟩
    have yes : fitsE (decide (mg < 0)) b g e = true → ∀ g' v11 v36 v37 v38 v43, g' = (if decide (mg < 0) then g else g - e.2.2.2.2.1) → v11 = (fsz e.2.1.length : Int) → Ok (F_reap_BytesGas_c2 b mg g v11 ((s.length : Nat) : Int) (i : Int) v36 v37 v38 v43 e acc s) (Nxt (fun x => x = raws (takeE (decide (mg < 0)) mb (max mg 0) s)) fun z => ∃ b' : Int × Int × List (List UInt8), z = (b'.1, mg, b'.2.1, ((s.length : Nat) : Int), ((i + 1 : Nat) : Int), b'.2.2, s) ∧ b'.2.2.length ≤ i + 1 ∧ 0 ≤ b'.1 ∧ b'.1 ≤ mb ∧ 0 ≤ b'.2.1 ∧ b'.2.1 ≤ max mg 0 ∧ b'.2.2 ++ raws (takeE (decide (mg < 0)) b'.1 b'.2.1 (s.drop (i + 1))) = raws (takeE (decide (mg < 0)) mb (max mg 0) s)) := fun hf g' v11 v36 v37 v38 v43 hg' hv => by
      subst hv
      rw [hf, if_pos rfl, ← hg'] at i6
      simp only [fitsE, Bool.and_eq_true, Bool.or_eq_true, decide_eq_true_eq] at hf
      have i7 : acc ++ [e.2.1] ++ raws (takeE (decide (mg < 0)) (b - (fsz e.2.1.length : Int)) g' (s.drop (i + 1))) = raws (takeE (decide (mg < 0)) mb (max mg 0) s) := by
        rw [← i6, List.append_assoc]; rfl
      simp only [F_reap_BytesGas_c2, w1 hf.1, wi_succ (i := i) (by omega), ok_sel, ok_chk, ok_some, nxt_inl, decide_eq_true_eq, decide_eq_false_iff_not]
      refine ⟨fun h0 => ⟨⟨by unfold LIM; omega, by unfold LEN; omega⟩, (b - (fsz e.2.1.length : Int), g', acc ++ [e.2.1]), ?_, by simp; omega, by dsimp only; omega, by dsimp only; omega, ?_, ?_, i7⟩, fun h0 => ⟨⟨by unfold LIM; omega, by unfold LEN; omega⟩, (b - (fsz e.2.1.length : Int), g', acc ++ [e.2.1]), ?_, by simp; omega, by dsimp only; omega, by dsimp only; omega, ?_, ?_, i7⟩⟩
      · rw [w2 (by omega), hg', if_neg (by simp; omega)]
      · dsimp only; rw [hg', if_neg (by simp; omega)]; omega
      · dsimp only; rw [hg', if_neg (by simp; omega)]; omega
      · rw [hg', if_pos (by simp; omega)]
      · dsimp only; rw [hg', if_pos (by simp; omega)]; omega
      · dsimp only; rw [hg', if_pos (by simp; omega)]; omega
    refine ⟨fun _ => ⟨by omega, by omega, fun h3 => no (by simp [fitsE]; omega), fun h3 => ⟨fun h4 => ⟨fun h5 => no (by simp [fitsE]; omega), fun h5 => yes (by simp [fitsE]; omega) _ _ _ _ _ _ rfl rfl⟩, fun h4 => yes (by simp [fitsE]; omega) _ _ _ _ _ _ rfl rfl⟩⟩, fun h => by omega⟩
  · obtain ⟨b, g, acc⟩ := v
    obtain ⟨i1, i2, i3, i4, i5, i6⟩ := hinv
    dsimp only at i6 ⊢
    rw [List.drop_length] at i6
    simp only [F_reap_BytesGas_l1, ok_sel, ok_chk, ok_bind, ok_some, nxt_inl, nxt_inr, decide_eq_true_eq, decide_eq_false_iff_not, Int.toNat_natCast]
    exact ⟨fun h => by omega, fun _ => by rw [← i6]; simp [takeE, raws]⟩
theorem refTake_ok {r : D_mempoolref21_Rest} {e : D_api_Entry} (hb : EntB e) (h0 : 0 ≤ r.1) (h1 : r.1 ≤ 9223372036854775807) (hg0 : 0 ≤ r.2.1) (hg1 : r.2.1 < 18446744073709551616) (he : 0 ≤ e.2.2.2.2.1) :
    F_mempoolref21_Take r e = some (if fitsE r.2.2 r.1 r.2.1 e then ((r.1 - fsz e.2.1.length, (if r.2.2 then r.2.1 else r.2.1 - e.2.2.2.2.1), r.2.2), true) else (r, false)) := by
  obtain ⟨b, g, free⟩ := r
  dsimp only at h0 h1 hg0 hg1 ⊢
  have hb1 := hb.1
  have hf := fsz_le (n := e.2.1.length) (by omega)
  have hsz := refSizeBytes_ok (n := e.2.1.length) (by omega)
  have w1 : (fsz e.2.1.length : Int) ≤ b → wi64 (b - (fsz e.2.1.length : Int)) = b - (fsz e.2.1.length : Int) := fun h => wi64_id (by omega) (by omega)
  have w2 : e.2.2.2.2.1 ≤ g → wu64 (g - e.2.2.2.2.1) = g - e.2.2.2.2.1 := fun h => wu64_id (by omega) (by omega)
  refine ok_eq.1 ?_
  cases free
  · simp only [F_mempoolref21_Take, F_mempoolref21_Take_c1, hsz, Bool.not_false, sel_t, ok_sel, ok_bind, ok_some, decide_eq_true_eq, decide_eq_false_iff_not]
    refine ⟨fun h3 => ?_, fun h3 => ⟨fun h5 => ?_, fun h5 => ?_⟩⟩
    · rw [if_neg (by simp [fitsE]; omega)] <;> rfl
    · rw [if_neg (by simp [fitsE]; omega)] <;> rfl
    · rw [if_pos (by simp [fitsE]; omega), w1 (by omega), w2 (by omega)] <;> rfl
  · simp only [F_mempoolref21_Take, F_mempoolref21_Take_c1, hsz, Bool.not_true, sel_f, ok_sel, ok_bind, ok_some, decide_eq_true_eq, decide_eq_false_iff_not]
    refine ⟨fun h3 => ?_, fun h3 => ?_⟩
    · rw [if_neg (by simp [fitsE]; omega)] <;> rfl
    · rw [if_pos (by simp [fitsE]; omega), w1 (by omega)] <;> rfl
theorem refBytesGas_ok {l : List D_api_Entry} (h : EntsB l) (hg : GasB l) {mb mg : Int} (hmb : mb ≤ 9223372036854775807) (hmg : mg ≤ 9223372036854775807) : F_mempoolref21_BytesGas l mb mg = some (raws (takenE l mb mg)) := by
  have hl := h.1
  have hs := sortE_len l
  have hb := h.sort.2
  have hgs := hg.sort
  refine ok_eq.1 ?_
  have w0 : wu64 (max mg 0) = max mg 0 := wu64_id (by omega) (by omega)
  unfold F_mempoolref21_BytesGas takenE
  simp only [F_mempoolref21_Limits, w0, ok_sel, ok_bind, ok_some, decide_eq_true_eq, decide_eq_false_iff_not, Bool.not_true, Bool.not_false]
  refine ⟨fun h1 => ⟨fun _ => by rw [if_pos (.inl h1)]; rfl, fun h => Bool.noConfusion h⟩, fun h1 => ⟨fun h2 => ⟨fun _ => by rw [if_pos (.inr h2)]; rfl, fun h => Bool.noConfusion h⟩, fun h2 => ⟨fun h => Bool.noConfusion h, fun _ => ?_⟩⟩⟩
  rw [if_neg (by omega), refSorted_ok hl, ok_some]
  generalize sortE l = s at *
  unfold F_mempoolref21_BytesGas_l1s
  refine ok_range (S := List D_api_Entry × Int × Int × D_mempoolref21_Rest × List (List UInt8)) s (fun i (v : Int × Int × List (List UInt8)) => (s, ((s.length : Nat) : Int), ((i : Nat) : Int), ((v.1, v.2.1, decide (mg < 0)) : D_mempoolref21_Rest), v.2.2)) (fun i v => v.2.2.length ≤ i ∧ 0 ≤ v.1 ∧ v.1 ≤ mb ∧ 0 ≤ v.2.1 ∧ v.2.1 ≤ max mg 0 ∧ v.2.2 ++ raws (takeE (decide (mg < 0)) v.1 v.2.1 (s.drop i)) = raws (takeE (decide (mg < 0)) mb (max mg 0) s)) (fun i v hi hinv => ?_) (fun v hinv => ?_) (b0 := (mb, max mg 0, [])) ⟨by simp, by dsimp only; omega, by dsimp only; omega, by dsimp only; omega, by dsimp only; omega, by simp⟩ (by omega)
  · obtain ⟨b, g, acc⟩ := v
    obtain ⟨i1, i2, i3, i4, i5, i6⟩ := hinv
    dsimp only at i1 i2 i3 i4 i5 i6 ⊢
    rw [drop_cons' hi] at i6
    have he := hb s[i] (List.getElem_mem hi)
    have hge := hgs s[i] (List.getElem_mem hi)
    generalize hx : s[i] = e at *
    have hgd : s.getD i d_api_Entry = e := by rw [getD_lt hi, hx]
    have he1 := he.1
    have ht := refTake_ok (r := (b, g, decide (mg < 0))) he i2 (by dsimp only; omega) i4 (by dsimp only; omega) hge.1
    dsimp only at ht
    rw [takeE_cons] at i6
    simp only [F_mempoolref21_BytesGas_l1, hgd, wi_succ (i := i) (by omega), ok_sel, ok_chk, ok_bind, ok_some, nxt_inl, nxt_inr, decide_eq_true_eq, decide_eq_false_iff_not, Int.toNat_natCast]
    refine ⟨fun _ => ⟨by omega, _, ht, ?_⟩, fun h => by omega⟩
    cases hfit : fitsE (decide (mg < 0)) b g e with
    | true =>
      rw [hfit, if_pos rfl] at i6
      rw [if_pos rfl]
      simp only [fitsE, Bool.and_eq_true, Bool.or_eq_true, decide_eq_true_eq] at hfit
      refine ⟨fun _ => ⟨⟨by unfold LIM; omega, by unfold LEN; omega⟩, ⟨by unfold LIM; omega, by unfold LEN; omega⟩, (b - (fsz e.2.1.length : Int), (if decide (mg < 0) then g else g - e.2.2.2.2.1), acc ++ [e.2.1]), rfl, by simp; omega, by dsimp only; omega, by dsimp only; omega, ?_, ?_, ?_⟩, fun h => Bool.noConfusion h⟩
      · dsimp only
        split
        · omega
        · rename_i hq; simp at hq; omega
      · dsimp only
        split <;> omega
      · dsimp only
        rw [← i6, List.append_assoc]; rfl
    | false =>
      rw [hfit] at i6
      exact ⟨fun h => Bool.noConfusion h, fun _ => ⟨(b, g, acc), rfl, by dsimp only; omega, i2, i3, i4, i5, i6⟩⟩
  · obtain ⟨b, g, acc⟩ := v
    obtain ⟨i1, i2, i3, i4, i5, i6⟩ := hinv
    dsimp only at i6 ⊢
    rw [List.drop_length] at i6
    simp only [F_mempoolref21_BytesGas_l1, ok_sel, ok_chk, ok_bind, ok_some, nxt_inl, nxt_inr, decide_eq_true_eq, decide_eq_false_iff_not, Int.toNat_natCast]
    exact ⟨fun h => by omega, fun _ => by rw [← i6]; simp [takeE, raws]⟩
end Go.Proofs.Ythmfeknfiekcmaa.Am
