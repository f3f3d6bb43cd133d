/- Putting accounts into ledgers, beginning ledgers, on plain data. No conditions. -/
import Derived.Test.YtfaceeglocjkbaaPLedF
import Derived.Test.YtfaceeglocjkbaaPMap
namespace Go.Proofs.Ytfaceeglocjkbaa.Am
open Go

abbrev noLed : D_api_Ledger := ([], (0 : Int))
theorem err_some : ∀ {l : List D_api_Account} {q : D_api_Account}, errF (some q) l = 0 ↔ (∀ a ∈ l, isName a.1 = true ∧ less q a = true) ∧ Srt l
  | [], q => ⟨fun _ => ⟨fun a h => (by cases h), List.Pairwise.nil⟩, fun _ => rfl⟩
  | a :: l, q => by
    rw [err_eq]
    have ih := err_some (l := l) (q := a)
    dsimp only
    constructor
    · intro h
      by_cases h1 : isName a.1 = false
      · rw [if_pos h1] at h; cases h
      rw [if_neg h1] at h
      by_cases h2 : q.1 = a.1
      · rw [if_pos h2] at h; cases h
      rw [if_neg h2] at h
      by_cases h3 : less q a = false
      · rw [if_pos h3] at h; cases h
      rw [if_neg h3] at h
      have h3' : less q a = true := by simpa using h3
      obtain ⟨h4, h5⟩ := ih.1 h
      refine ⟨fun b hb => ?_, List.pairwise_cons.2 ⟨fun b hb => (h4 b hb).2, h5⟩⟩
      rcases List.mem_cons.1 hb with rfl | hb
      · exact ⟨by simpa using h1, h3'⟩
      · exact ⟨(h4 b hb).1, bl_trans h3' (h4 b hb).2⟩
    · rintro ⟨h1, h2⟩
      obtain ⟨h3, h4⟩ := List.pairwise_cons.1 h2
      have ha := h1 a List.mem_cons_self
      have hne : q.1 ≠ a.1 := fun e => by
        have := ha.2
        unfold less at this
        rw [e, bl_irrefl] at this
        cases this
      rw [if_neg (by rw [ha.1]; decide), if_neg hne, if_neg (by rw [ha.2]; decide)]
      exact ih.2 ⟨fun b hb => ⟨(h1 b (List.mem_cons_of_mem _ hb)).1, h3 b hb⟩, h4⟩
theorem err_none {l : List D_api_Account} : errF none l = 0 ↔ (∀ a ∈ l, isName a.1 = true) ∧ Srt l := by
  cases l with
  | nil => exact ⟨fun _ => ⟨fun a h => (by cases h), List.Pairwise.nil⟩, fun _ => rfl⟩
  | cons a l =>
    rw [err_eq]
    dsimp only
    constructor
    · intro h
      by_cases h1 : isName a.1 = false
      · rw [if_pos h1] at h; cases h
      rw [if_neg h1] at h
      obtain ⟨h4, h5⟩ := err_some.1 h
      refine ⟨fun b hb => ?_, List.pairwise_cons.2 ⟨fun b hb => (h4 b hb).2, h5⟩⟩
      rcases List.mem_cons.1 hb with rfl | hb
      · simpa using h1
      · exact (h4 b hb).1
    · rintro ⟨h1, h2⟩
      obtain ⟨h3, h4⟩ := List.pairwise_cons.1 h2
      rw [if_neg (by rw [h1 a List.mem_cons_self]; decide)]
      exact err_some.2 ⟨fun b hb => ⟨h1 b (List.mem_cons_of_mem _ hb), h3 b hb⟩, h4⟩
theorem err_ne3 : ∀ (l : List D_api_Account) (p : Option D_api_Account), errF p l = 0 ∨ errF p l = 10 ∨ errF p l = 8 ∨ errF p l = 1
  | [], _ => .inl rfl
  | a :: l, p => by
    rw [err_eq]
    by_cases h1 : isName a.1 = false
    · rw [if_pos h1]; exact .inr (.inl rfl)
    rw [if_neg h1]
    cases p with
    | none => exact err_ne3 l _
    | some q =>
      dsimp only
      by_cases h2 : q.1 = a.1
      · rw [if_pos h2]; exact .inr (.inr (.inl rfl))
      rw [if_neg h2]
      by_cases h3 : less q a = false
      · rw [if_pos h3]; exact .inr (.inr (.inr rfl))
      rw [if_neg h3]
      exact err_ne3 l _
/-- A valid ledger. -/
def Good (g : D_api_Ledger) : Prop := g.1.length ≤ 256 ∧ (∀ a ∈ g.1, isName a.1 = true) ∧ Srt g.1 ∧ (sumF (g.2 + balS g.1)).2 = true
theorem val_good {g : D_api_Ledger} : valF g = 0 ↔ Good g := by
  unfold valF Good
  constructor
  · intro h
    by_cases h1 : 256 < g.1.length
    · rw [if_pos h1] at h; cases h
    rw [if_neg h1] at h
    by_cases h2 : errF none g.1 = 0
    · rw [if_pos h2] at h
      obtain ⟨h3, h4⟩ := err_none.1 h2
      refine ⟨by omega, h3, h4, ?_⟩
      by_cases h5 : (sumF (g.2 + balS g.1)).2 = true
      · exact h5
      · rw [if_neg h5] at h; cases h
    · rw [if_neg h2] at h; exact absurd h h2
  · rintro ⟨h1, h2, h3, h4⟩
    rw [if_neg (by omega), if_pos (err_none.2 ⟨h2, h3⟩), if_pos h4]
theorem srt_mono {l : List D_api_Account} {n : List UInt8} (hs : Srt l) : ∀ i (hi : i < l.length), placeF l n ≤ i → Op.bytesLess l[i].1 n = false := fun i hi h => by
  have hp : (!Op.bytesLess l[placeF l n].1 n) = true := idx_yes (p := fun a : D_api_Account => !Op.bytesLess a.1 n) (by show placeF l n < l.length; omega)
  rcases Nat.lt_or_ge (placeF l n) i with h1 | h1
  · have h2 : Op.bytesLess l[placeF l n].1 l[i].1 = true := hs.lt (by omega) hi h1
    cases e : Op.bytesLess l[i].1 n with
    | false => rfl
    | true => rw [bl_trans h2 e] at hp; cases hp
  · have : i = placeF l n := by omega
    subst this
    simpa using hp
theorem place_less {l : List D_api_Account} {n : List UInt8} : ∀ i (hi : i < l.length), i < placeF l n → Op.bytesLess l[i].1 n = true := fun i hi h => by
  have := idx_before (p := fun a : D_api_Account => !Op.bytesLess a.1 n) hi h
  simpa using this
theorem find_name {l : List D_api_Account} {n : List UInt8} (h : findF l n < l.length) : l[findF l n].1 = n := of_decide_eq_true (idx_yes (p := fun a : D_api_Account => decide (a.1 = n)) h)
theorem find_place {l : List D_api_Account} {n : List UInt8} (hs : Srt l) (h : findF l n < l.length) : placeF l n = findF l n := by
  have hp := find_name h
  refine idx_at h (by rw [hp, bl_irrefl]; rfl) fun j hj hlt => ?_
  have := hs.lt hj h hlt
  unfold less at this
  rw [hp] at this
  rw [this]; rfl
theorem find_mem {l : List D_api_Account} {n : List UInt8} : findF l n < l.length ↔ n ∈ l.map fun a => a.1 := by
  rw [List.mem_map]
  constructor
  · intro h
    exact ⟨l[findF l n], List.getElem_mem h, find_name h⟩
  · rintro ⟨a, ha, rfl⟩
    unfold findF
    rw [List.findIdx_lt_length]
    exact ⟨a, ha, by simp⟩
theorem ins_perm {l : List D_api_Account} (k : Nat) (a : D_api_Account) : (l.take k ++ a :: l.drop k).Perm (a :: l) := by
  refine List.perm_middle.trans ?_
  rw [List.take_append_drop]
theorem ins_srt {l : List D_api_Account} {a : D_api_Account} (hs : Srt l) (h : ¬ findF l a.1 < l.length) : Srt (l.take (placeF l a.1) ++ a :: l.drop (placeF l a.1)) := by
  unfold Srt
  rw [List.pairwise_append]
  have hle : placeF l a.1 ≤ l.length := idx_le _ _
  refine ⟨hs.sublist (List.take_sublist _ _), List.pairwise_cons.2 ⟨fun b hb => ?_, hs.sublist (List.drop_sublist _ _)⟩, fun b hb c hc => ?_⟩
  · obtain ⟨j, hj, rfl⟩ := List.getElem_of_mem hb
    rw [List.length_drop] at hj
    rw [List.getElem_drop]
    have h1 := srt_mono (n := a.1) hs (placeF l a.1 + j) (by omega) (by omega)
    rcases bl_tri a.1 (l[placeF l a.1 + j]'(by omega)).1 with e | e | e
    · exact e
    · exact absurd (find_mem.2 (List.mem_map.2 ⟨l[placeF l a.1 + j]'(by omega), List.getElem_mem _, e.symm⟩)) h
    · rw [h1] at e; cases e
  · obtain ⟨j, hj, rfl⟩ := List.getElem_of_mem hb
    rw [List.length_take] at hj
    rw [List.getElem_take]
    rcases List.mem_cons.1 hc with rfl | hc
    · exact place_less j (by omega) (by omega)
    · obtain ⟨i, hi, rfl⟩ := List.getElem_of_mem hc
      rw [List.length_drop] at hi
      rw [List.getElem_drop]
      exact hs.lt (by omega) (by omega) (by omega)
theorem set_srt {l : List D_api_Account} {a : D_api_Account} (hs : Srt l) (h : findF l a.1 < l.length) : Srt (l.set (findF l a.1) a) := by
  have hn := find_name h
  unfold Srt
  rw [List.pairwise_iff_getElem]
  intro i j hi hj hij
  rw [List.length_set] at hi hj
  rw [List.getElem_set, List.getElem_set]
  have := hs.lt hi hj hij
  unfold less at this ⊢
  split
  · rename_i e
    rw [if_neg (by omega)]
    subst e
    rwa [hn] at this
  · split
    · rename_i e
      subst e
      rwa [hn] at this
    · exact this
theorem put_srt {l : List D_api_Account} {a : D_api_Account} (hs : Srt l) : Srt (putF l a) := by
  unfold putF
  split
  · exact set_srt hs (by assumption)
  · exact ins_srt hs (by assumption)
theorem put_mem {l : List D_api_Account} {a x : D_api_Account} (h : x ∈ putF l a) : x = a ∨ x ∈ l := by
  unfold putF at h
  split at h
  · exact (List.mem_or_eq_of_mem_set h).symm
  · rcases List.mem_cons.1 ((ins_perm _ a).mem_iff.1 h) with h | h
    · exact .inl h
    · exact .inr h
theorem put_len (l : List D_api_Account) (a : D_api_Account) : (putF l a).length = if findF l a.1 < l.length then l.length else l.length + 1 := by
  unfold putF
  split
  · exact List.length_set
  · exact (ins_perm _ a).length_eq
theorem clone_acc {l : List D_api_Account} (hl : l.length ≤ 4398046511000) : F_slices_Clone_api_Account_api_Account l = some l := by
  have h1 : (0 + l.length) * 32 ≤ LIM := by unfold LIM; omega
  have h2 : 0 + l.length ≤ LEN := by unfold LEN; omega
  unfold F_slices_Clone_api_Account_api_Account cloneF
  exact congrArg (fun b => chk b (some l)) (decide_eq_true ⟨h1, h2⟩)
theorem own_led {g : D_api_Ledger} (hl : g.1.length ≤ 4398046511000) : F_own_Ledger g = some (g.1, g.2) := by
  unfold F_own_Ledger; rw [clone_acc hl]; rfl
/-- What Set answers. -/
def setF (g : D_api_Ledger) (a : D_api_Account) : D_api_Ledger × Int :=
  if valF g = 0 then (if isName a.1 = false then (noLed, 10) else if 256 < (putF g.1 a).length then (noLed, 3) else if (sumF (g.2 + balS (putF g.1 a))).2 = true then ((putF g.1 a, g.2), 0) else (noLed, 6)) else (noLed, valF g)
theorem put_bals {l : List D_api_Account} {a : D_api_Account} (h : BalsU l) (ha : okU a.2.1) : BalsU (putF l a) := fun x hx => by
  rcases put_mem hx with rfl | hx
  · exact ha
  · exact h x hx
theorem set_ref {g : D_api_Ledger} {a : D_api_Account} (h : LedB g) (ha : okU a.2.1) (hn : a.1.length ≤ 1000000000000000) : F_mempoolref10_Set g a = some (setF g a) := by
  unfold F_mempoolref10_Set setF
  rw [val_ref h, Option.bind_some]
  by_cases hv : valF g = 0
  · have hlen := put_len g.1 a
    have hg := (val_good.1 hv).1
    rw [if_pos hv, decide_eq_true hv, Bool.not_true, sel_f, name_ref hn, Option.bind_some]
    cases hname : isName a.1 with
    | false => rw [if_pos rfl]; rfl
    | true =>
      rw [if_neg (by decide), Bool.not_true, sel_f, put_ref h.2.2.2, Option.bind_some]
      by_cases h3 : 256 < (putF g.1 a).length
      · rw [if_pos h3, decide_eq_true (by omega), sel_t]
      · rw [if_neg h3, decide_eq_false (by omega), sel_f, tot_ref (g := (putF g.1 a, g.2)) h.1 (put_bals h.2.1 ha) (by dsimp only; omega), Option.bind_some]
        cases hs : (sumF (g.2 + balS (putF g.1 a))).2 with
        | true => rw [if_pos rfl]; rfl
        | false => rw [if_neg (by decide)]; rfl
  · rw [if_neg hv, decide_eq_false hv]; rfl
theorem set_prog {g : D_api_Ledger} {a : D_api_Account} (h : LedB g) (ha : okU a.2.1) (hn : a.1.length ≤ 1000000000000000) : F_ledger_Set g a = some (setF g a) := by
  unfold F_ledger_Set setF
  rw [val_prog h, Option.bind_some]
  by_cases hv : valF g = 0
  · obtain ⟨hg, hg2, hs, hg4⟩ := val_good.1 hv
    have hlen := put_len g.1 a
    rw [if_pos hv, decide_eq_true hv, Bool.not_true, sel_f, name_tx hn, Option.bind_some]
    cases hname : isName a.1 with
    | false => rw [if_pos rfl]; rfl
    | true =>
      rw [if_neg (by decide), Bool.not_true, sel_f, search_prog hs (by omega), Option.bind_some]
      dsimp only
      have hc2 : ∀ b2 : D_api_Ledger, ¬ 256 < (putF g.1 a).length → F_ledger_Set_c2 b2 g.2 (putF g.1 a) = some (if (sumF (g.2 + balS (putF g.1 a))).2 = true then ((putF g.1 a, g.2), 0) else (noLed, 6)) := fun b2 hk => by
        unfold F_ledger_Set_c2
        rw [tot_prog (g := (putF g.1 a, g.2)) h.1 (put_bals h.2.1 ha) (by dsimp only; omega), Option.bind_some]
        cases hs : (sumF (g.2 + balS (putF g.1 a))).2 with
        | true => rw [if_pos rfl]; rfl
        | false => rw [if_neg (by decide)]; rfl
      by_cases hf : findF g.1 a.1 < g.1.length
      · rw [if_pos hf] at hlen
        have hp := find_place hs hf
        have h3 : ¬ 256 < (putF g.1 a).length := by omega
        have hput : putF g.1 a = g.1.set (placeF g.1 a.1) a := by unfold putF; rw [if_pos hf, hp]
        rw [decide_eq_true hf, Bool.not_true, sel_f]
        unfold F_ledger_Set_c1
        rw [own_led (by omega), Option.bind_some, sel_t]
        dsimp only
        rw [decide_eq_true (by omega : (0 : Int) ≤ ((placeF g.1 a.1 : Nat) : Int) ∧ ((placeF g.1 a.1 : Nat) : Int) < ((g.1.length : Nat) : Int)), chk_t, Int.toNat_natCast, decide_eq_true (by omega : placeF g.1 a.1 < g.1.length), chk_t, ← hput, hc2 _ h3, if_neg h3]
      · rw [if_neg hf] at hlen
        have hput : putF g.1 a = g.1.take (placeF g.1 a.1) ++ a :: g.1.drop (placeF g.1 a.1) := by unfold putF; rw [if_neg hf]
        have hple : placeF g.1 a.1 ≤ g.1.length := idx_le _ _
        rw [decide_eq_false hf, Bool.not_false, sel_t]
        by_cases h3 : g.1.length = 256
        · have h3' : 256 < (putF g.1 a).length := by omega
          rw [if_pos h3', decide_eq_true (by omega), sel_t]
        · have h3' : ¬ 256 < (putF g.1 a).length := by omega
          rw [if_neg h3', decide_eq_false (by omega), sel_f]
          unfold F_ledger_Set_c1
          rw [own_led (by omega), Option.bind_some, sel_f]
          dsimp only
          have hins : F_slices_Insert_api_Account_api_Account g.1 ((placeF g.1 a.1 : Nat) : Int) [a] = some (putF g.1 a) := by
            unfold F_slices_Insert_api_Account_api_Account insX
            dsimp only
            rw [decide_eq_true (by omega), chk_t, Int.toNat_natCast, hput]
          rw [hins, Option.bind_some, hc2 _ (by omega)]
  · rw [if_neg hv, decide_eq_false hv]; rfl
end Go.Proofs.Ytfaceeglocjkbaa.Am
