/- Queues of what waits: the program's map and the reference's sorted list. No conditions. -/
import Derived.Test.YtaminglbenglfaaPMap
import Derived.Test.YtaminglbenglfaaPNum
import Derived.Test.YtaminglbenglfaaPSameI
namespace Go.Proofs.Ytaminglbenglfaa.Am
open Go

abbrev W3 := D_mempoolref16_Wait
def lateB (now then_ limit : Int) : Bool := decide (0 < limit) && (decide (then_ < now) && decide (wu64 limit < wu64 (wu64 now - wu64 then_)))
theorem late_ok (a b c : Int) : F_mempoolref16_Late a b c = some (lateB a b c) := by
  unfold F_mempoolref16_Late lateB
  cases decide (0 < c) <;> cases decide (b < a) <;> rfl
theorem over_ok (a b c : Int) : F_expiry_over a b c = some (lateB a b c) := late_ok a b c
def expB (b s h t : Int) (w : W3) : Bool := lateB h w.2.1 b || lateB t w.2.2 s
def outE (b s h t : Int) (m : List W3) : List Int := (m.filter (expB b s h t)).map fun w => w.1
def SortW (m : List W3) : Prop := m.Pairwise fun a b => a.1 < b.1
theorem outE_len (b s h t : Int) (m : List W3) : (outE b s h t m).length ≤ m.length := by
  unfold outE; rw [List.length_map]; exact List.length_filter_le ..
theorem outE_snoc (b s h t : Int) (m : List W3) (w : W3) : outE b s h t (m ++ [w]) = outE b s h t m ++ (if expB b s h t w then [w.1] else []) := by
  unfold outE
  rw [List.filter_append, List.map_append]
  congr 1
  cases he : expB b s h t w <;> simp [List.filter, he]
theorem refExp_ok {m : List W3} (hl : m.length ≤ 1000000) (b s h t : Int) : F_mempoolref16_Expired m b s h t = some (outE b s h t m) := by
  refine ok_eq.1 ?_
  unfold F_mempoolref16_Expired F_mempoolref16_Expired_l1s
  refine ok_range m (fun i (acc : List Int) => (b, s, h, t, m, ((m.length : Nat) : Int), ((i : Nat) : Int), acc)) (fun i acc => acc = outE b s h t (m.take i)) (fun i acc hi hinv => ?_) (fun acc hinv => ?_) (b0 := []) rfl (by omega)
  · have hb := outE_len b s h t (m.take i)
    rw [List.length_take] at hb
    have hs : outE b s h t (m.take (i + 1)) = outE b s h t (m.take i) ++ (if expB b s h t m[i] then [m[i].1] else []) := by rw [take_succ' hi, outE_snoc]
    rw [← hinv] at hb hs
    simp only [F_mempoolref16_Expired_l1, late_ok, wi_succ (i := i) (by omega), ok_sel, ok_chk, ok_bind, ok_some, nxt_inl, nxt_inr, decide_eq_true_eq, decide_eq_false_iff_not, Int.toNat_natCast, getD_lt hi]
    refine ⟨fun _ => ⟨by omega, fun h1 => ⟨⟨by unfold LIM; omega, by unfold LEN; omega⟩, _, rfl, ?_⟩, fun h1 => ⟨fun h2 => ⟨⟨by unfold LIM; omega, by unfold LEN; omega⟩, _, rfl, ?_⟩, fun h2 => ⟨_, rfl, ?_⟩⟩⟩, fun h => by omega⟩
    · rw [hs, if_pos (by simp [expB, h1])]
    · rw [hs, if_pos (by simp [expB, h2])]
    · rw [hs, if_neg (by simp [expB, h1, h2]), List.append_nil]
  · subst hinv
    simp only [F_mempoolref16_Expired_l1, ok_sel, ok_chk, ok_bind, ok_some, nxt_inl, nxt_inr, decide_eq_true_eq, decide_eq_false_iff_not, Int.toNat_natCast]
    exact ⟨fun h => by omega, fun _ => by rw [List.take_length]⟩
theorem sortW_keys {m : List W3} (h : SortW m) : (keysOf m).Pairwise fun a b => a < b := List.pairwise_map.2 h
theorem sortW_nodup {m : List W3} (h : SortW m) : (keysOf m).Nodup := (sortW_keys h).imp fun h => by omega
theorem sorted_keys {l m : List W3} (hp : l.Perm m) (h : SortW m) : sortInts (keysOf l) = keysOf m :=
  sortL_of_perm leInt_tr leInt_to leInt_an ((sortW_keys h).imp fun h => decide_eq_true (by omega)) (keysOf_perm hp)
/-- The program's queue and the reference's list. -/
structure QJ (n : Nat) (l m : List W3) : Prop where
  perm : l.Perm m
  sort : SortW m
  len : m.length ≤ n
  ids : ∀ w ∈ m, -1000 ≤ w.1 ∧ w.1 ≤ 1000
theorem QJ.nodup {n : Nat} {l m : List W3} (h : QJ n l m) : (keysOf l).Nodup := (keysOf_perm h.perm).nodup_iff.2 (sortW_nodup h.sort)
theorem exp_ok {n : Nat} {l m : List W3} (hj : QJ n l m) (hn : n ≤ 1000000) (b s h t : Int) : F_expiry_Queue_Expired b s l h t = some (b, s, l, outE b s h t m) := by
  have hl := hj.len
  have hnd := hj.nodup
  have hg : goodInts (keysOf l) = true := decide_eq_true ⟨hnd, fun x hx => by
    obtain ⟨v, hv⟩ := mem_keysOf.1 hx
    have := hj.ids _ (hj.perm.mem_iff.1 hv)
    dsimp only at this
    omega, by rw [keysOf_len, hj.perm.length_eq]; unfold LIM; omega⟩
  refine ok_eq.1 ?_
  unfold F_expiry_Queue_Expired
  rw [hg, chk_t, sorted_keys hj.perm hj.sort, keysOf_len]
  unfold F_expiry_Queue_Expired_l1s
  refine ok_range m (fun i (acc : List Int) => (h, t, ((m.length : Nat) : Int), ((i : Nat) : Int), b, s, l, acc, keysOf m)) (fun i acc => acc = outE b s h t (m.take i)) (fun i acc hi hinv => ?_) (fun acc hinv => ?_) (b0 := []) rfl (by omega)
  · have hb := outE_len b s h t (m.take i)
    rw [List.length_take] at hb
    have hs : outE b s h t (m.take (i + 1)) = outE b s h t (m.take i) ++ (if expB b s h t m[i] then [m[i].1] else []) := by rw [take_succ' hi, outE_snoc]
    rw [← hinv] at hb hs
    have hk : (keysOf m).getD i 0 = m[i].1 := by rw [getD_lt (by rw [keysOf_len]; exact hi)]; simp [keysOf]
    have hget : mGet intEq m[i].1 d_expiry_stamp l = m[i].2 := mGet_mem intEq_ok hnd (hj.perm.mem_iff.2 (List.getElem_mem hi))
    have hkl := keysOf_len m
    simp only [F_expiry_Queue_Expired_l1, over_ok, wi_succ (i := i) (by omega), ok_sel, ok_chk, ok_bind, ok_some, nxt_inl, nxt_inr, decide_eq_true_eq, decide_eq_false_iff_not, Int.toNat_natCast, hk, hget]
    refine ⟨fun _ => ⟨by omega, by omega, fun h1 => ⟨⟨by unfold LIM; omega, by unfold LEN; omega⟩, _, rfl, ?_⟩, fun h1 => ⟨fun h2 => ⟨⟨by unfold LIM; omega, by unfold LEN; omega⟩, _, rfl, ?_⟩, fun h2 => ⟨_, rfl, ?_⟩⟩⟩, fun h => by omega⟩
    · rw [hs, if_pos (by simp [expB, h1])]
    · rw [hs, if_pos (by simp [expB, h2])]
    · rw [hs, if_neg (by simp [expB, h1, h2]), List.append_nil]
  · subst hinv
    simp only [F_expiry_Queue_Expired_l1, ok_sel, ok_chk, ok_bind, ok_some, nxt_inl, nxt_inr, decide_eq_true_eq, decide_eq_false_iff_not, Int.toNat_natCast]
    exact ⟨fun h => by omega, fun _ => by rw [List.take_length]⟩
/-! ### Additions, removals -/
def ltW (x : Int) (w : W3) : Bool := decide (w.1 < x)
theorem preW {m : List W3} (h : SortW m) (x : Int) : Pre (ltW x) m := h.imp fun hab hb => decide_eq_true (by have := of_decide_eq_true hb; omega)
def addW (m : List W3) (x : W3) : List W3 × Bool := if x.1 ∈ keysOf m then (m, false) else (m.filter (ltW x.1) ++ [x] ++ m.filter (fun y => !ltW x.1 y), true)
theorem mem_keys_getElem {α β : Type} {m : List (α × β)} {i : Nat} (hi : i < m.length) : m[i].1 ∈ keysOf m := mem_keysOf.2 ⟨m[i].2, List.getElem_mem hi⟩
theorem addW_ok {m : List W3} (hs : SortW m) (hl : m.length ≤ 1000000) (x : W3) : F_mempoolref16_AddWait m x = some (addW m x) := by
  refine ok_eq.1 ?_
  unfold F_mempoolref16_AddWait F_mempoolref16_AddWait_l2s
  refine ok_range m (fun i (k : Nat) => (m, ((k : Nat) : Int), m, ((m.length : Nat) : Int), ((i : Nat) : Int), x)) (fun i k => k = (m.take i).countP (ltW x.1) ∧ ∀ y ∈ m.take i, y.1 ≠ x.1) (fun i k hi hinv => ?_) (fun k hinv => ?_) (b0 := 0) ⟨rfl, by simp⟩ (by omega)
  · obtain ⟨hk, hne⟩ := hinv
    simp only [F_mempoolref16_AddWait_l2, wi_succ (i := i) (by omega), ok_sel, ok_chk, ok_some, ok_map, nxt_inl, nxt_inr, decide_eq_true_eq, decide_eq_false_iff_not, Int.toNat_natCast, getD_lt hi]
    refine ⟨fun _ => ⟨by omega, fun h1 => ?_, fun h1 => ⟨fun h2 => ⟨i + 1, rfl, ?_, ?_⟩, fun h2 => ⟨k, rfl, ?_, ?_⟩⟩⟩, fun h => by omega⟩
    · unfold addW; rw [if_pos (by rw [← h1]; exact mem_keys_getElem hi)]
    · rw [pre_count (preW hs x.1) hi (decide_eq_true h2)]
    · rw [take_succ' hi]; intro y hy
      rcases List.mem_append.1 hy with hy | hy
      · exact hne y hy
      · rw [List.mem_singleton.1 hy]; exact h1
    · rw [count_skip hi (decide_eq_false h2)]; exact hk
    · rw [take_succ' hi]; intro y hy
      rcases List.mem_append.1 hy with hy | hy
      · exact hne y hy
      · rw [List.mem_singleton.1 hy]; exact h1
  · obtain ⟨hk, hne⟩ := hinv
    rw [List.take_length] at hk hne
    have hkl : k ≤ m.length := by rw [hk]; exact List.countP_le_length
    obtain ⟨t1, t2⟩ := pre_take (preW hs x.1)
    rw [← hk] at t1 t2
    simp only [F_mempoolref16_AddWait_l2, F_mempoolref16_AddWait_c1, ok_sel, ok_chk, ok_some, ok_map, nxt_inl, nxt_inr, decide_eq_true_eq, decide_eq_false_iff_not, Int.toNat_natCast, List.take_length, List.length_append, List.length_take, List.length_drop, List.length_cons, List.length_nil]
    refine ⟨fun h => by omega, fun _ => ⟨by omega, ⟨by unfold LIM; omega, by unfold LEN; omega⟩, ⟨by unfold LIM; omega, by unfold LEN; omega⟩, by omega, ⟨by unfold LIM; omega, by unfold LEN; omega⟩, ?_⟩⟩
    unfold addW
    rw [if_neg (fun h => by obtain ⟨v, hv⟩ := mem_keysOf.1 h; exact hne _ hv rfl), t1, t2]
def remW (m : List W3) (id : Int) : List W3 × Bool := if id ∈ keysOf m then (m.filter (fun w => decide (w.1 ≠ id)), true) else (m, false)
theorem filter_ne {m : List W3} (hs : SortW m) {i : Nat} (hi : i < m.length) : m.filter (fun w => decide (w.1 ≠ m[i].1)) = m.take i ++ m.drop (i + 1) := by
  have e : m = m.take i ++ m[i] :: m.drop (i + 1) := by rw [List.getElem_cons_drop, List.take_append_drop]
  have hs' := hs
  unfold SortW at hs'
  rw [e, List.pairwise_append, List.pairwise_cons] at hs'
  obtain ⟨_, ⟨h2, _⟩, h3⟩ := hs'
  generalize hx : m[i] = x at *
  conv => lhs; rw [e]
  rw [List.filter_append, List.filter_cons_of_neg (by simp), List.filter_eq_self.2, List.filter_eq_self.2]
  · intro y hy; have := h2 y hy; simp; omega
  · intro y hy; have := h3 y hy x (by simp); simp; omega
theorem remW_ok {m : List W3} (hs : SortW m) (hl : m.length ≤ 1000000) (id : Int) : F_mempoolref16_RemoveWait m id = some (remW m id) := by
  refine ok_eq.1 ?_
  unfold F_mempoolref16_RemoveWait F_mempoolref16_RemoveWait_l1s
  refine ok_range m (fun i (_ : Unit) => (m, id, m, ((m.length : Nat) : Int), ((i : Nat) : Int))) (fun i _ => ∀ y ∈ m.take i, y.1 ≠ id) (fun i _ hi hne => ?_) (fun _ hne => ?_) (b0 := ()) (by simp) (by omega)
  · simp only [F_mempoolref16_RemoveWait_l1, wi_succ (i := i) (by omega), ok_sel, ok_chk, ok_some, nxt_inl, nxt_inr, decide_eq_true_eq, decide_eq_false_iff_not, Int.toNat_natCast, getD_lt hi, List.take_length, List.length_take, List.length_drop]
    refine ⟨fun _ => ⟨by omega, fun h1 => ⟨by omega, ⟨by unfold LIM; omega, by unfold LEN; omega⟩, by omega, ⟨by unfold LIM; omega, by unfold LEN; omega⟩, ?_⟩, fun h1 => ⟨(), trivial, ?_⟩⟩, fun h => by omega⟩
    · unfold remW
      rw [if_pos (by rw [← h1]; exact mem_keys_getElem hi), ← h1, filter_ne hs hi]
    · rw [take_succ' hi]; intro y hy
      rcases List.mem_append.1 hy with hy | hy
      · exact hne y hy
      · rw [List.mem_singleton.1 hy]; exact h1
  · rw [List.take_length] at hne
    simp only [F_mempoolref16_RemoveWait_l1, ok_sel, ok_chk, ok_some, nxt_inl, nxt_inr, decide_eq_true_eq, decide_eq_false_iff_not, Int.toNat_natCast]
    refine ⟨fun h => by omega, fun _ => ?_⟩
    unfold remW
    rw [if_neg (fun h => by obtain ⟨v, hv⟩ := mem_keysOf.1 h; exact hne _ hv rfl)]
theorem QJ.has {n : Nat} {l m : List W3} (h : QJ n l m) (id : Int) : (mIdx intEq id l).isSome = decide (id ∈ keysOf m) := by
  have h1 := mIdx_isSome intEq_ok id l
  have h2 := (keysOf_perm h.perm).mem_iff (a := id)
  cases hb : (mIdx intEq id l).isSome with
  | true => exact (decide_eq_true (h2.1 (h1.1 hb))).symm
  | false => exact (decide_eq_false (fun hm => by rw [h1.2 (h2.2 hm)] at hb; cases hb)).symm
theorem sort_add {m : List W3} (hs : SortW m) {x : W3} (hx : x.1 ∉ keysOf m) : SortW (m.filter (ltW x.1) ++ [x] ++ m.filter (fun y => !ltW x.1 y)) := by
  have lt1 : ∀ y ∈ m.filter (ltW x.1), y.1 < x.1 := fun y hy => of_decide_eq_true (List.mem_filter.1 hy).2
  have lt2 : ∀ y ∈ m.filter (fun y => !ltW x.1 y), x.1 < y.1 := fun y hy => by
    obtain ⟨h1, h2⟩ := List.mem_filter.1 hy
    have h3 : ¬ y.1 < x.1 := by simpa [ltW] using h2
    have : y.1 ≠ x.1 := fun e => hx (by rw [← e]; exact mem_keysOf.2 ⟨y.2, h1⟩)
    omega
  unfold SortW
  rw [List.append_assoc, List.pairwise_append, List.singleton_append, List.pairwise_cons]
  refine ⟨hs.filter _, ⟨lt2, hs.filter _⟩, fun a ha b hb => ?_⟩
  rcases List.mem_cons.1 hb with rfl | hb
  · exact lt1 a ha
  · have := lt1 a ha; have := lt2 b hb; omega
theorem QJ.add {n : Nat} {l m : List W3} (h : QJ n l m) {x : W3} (hx : -1000 ≤ x.1 ∧ x.1 ≤ 1000) : ∃ l', (∀ b s, F_expiry_Queue_Add b s l x.1 x.2.1 x.2.2 = some (b, s, l', (addW m x).2)) ∧ QJ (n + 1) l' (addW m x).1 := by
  have hh := h.has x.1
  unfold addW
  by_cases hm : x.1 ∈ keysOf m
  · rw [decide_eq_true hm] at hh
    refine ⟨l, fun b s => ?_, ?_⟩
    · unfold F_expiry_Queue_Add
      rw [hh, if_pos hm]; rfl
    · rw [if_pos hm]
      exact ⟨h.perm, h.sort, Nat.le_succ_of_le h.len, h.ids⟩
  · rw [decide_eq_false hm] at hh
    have hml : x.1 ∉ keysOf l := fun hl => hm ((keysOf_perm h.perm).mem_iff.1 hl)
    refine ⟨l ++ [x], fun b s => ?_, ?_⟩
    · unfold F_expiry_Queue_Add
      rw [hh, if_neg hm, mSet_new intEq_ok hml]; rfl
    · rw [if_neg hm]
      have hp := part_perm (ltW x.1) m x
      refine ⟨?_, sort_add h.sort hm, by rw [hp.length_eq]; simp; exact h.len, fun w hw => ?_⟩
      · refine List.Perm.trans ?_ hp.symm
        exact List.Perm.trans (List.perm_append_comm (l₁ := l) (l₂ := [x])) (h.perm.cons x)
      · rcases List.mem_cons.1 (hp.mem_iff.1 hw) with rfl | hw
        · exact hx
        · exact h.ids w hw
theorem QJ.rem {n : Nat} {l m : List W3} (h : QJ n l m) (id : Int) : ∃ l', (∀ b s, F_expiry_Queue_Remove b s l id = some (b, s, l', (remW m id).2)) ∧ QJ n l' (remW m id).1 := by
  have hh := h.has id
  unfold remW
  by_cases hm : id ∈ keysOf m
  · rw [decide_eq_true hm] at hh
    obtain ⟨v, hv⟩ := mem_keysOf.1 hm
    obtain ⟨i, hi, he⟩ := List.getElem_of_mem hv
    have hid : m[i].1 = id := by rw [he]
    refine ⟨mDel intEq id l, fun b s => ?_, ?_⟩
    · unfold F_expiry_Queue_Remove
      rw [hh, if_pos hm]
    · rw [if_pos hm]
      have hf := filter_ne h.sort hi
      rw [hid] at hf
      have hd := mDel_perm intEq_ok h.nodup (h.perm.mem_iff.2 hv)
      have hperm : ((id, v) :: m.filter (fun w => decide (w.1 ≠ id))).Perm m := by
        rw [hf]
        have e : m = m.take i ++ m[i] :: m.drop (i + 1) := by rw [List.getElem_cons_drop, List.take_append_drop]
        have e2 : m[i] = (id, v) := he
        rw [e2] at e
        conv => rhs; rw [e]
        exact List.perm_middle.symm
      refine ⟨(List.perm_cons (id, v)).1 ((hd.trans h.perm).trans hperm.symm), h.sort.filter _, Nat.le_trans (List.length_filter_le ..) h.len, fun w hw => h.ids w (List.mem_filter.1 hw).1⟩
  · rw [decide_eq_false hm] at hh
    have hml : id ∉ keysOf l := fun hl => hm ((keysOf_perm h.perm).mem_iff.1 hl)
    refine ⟨l, fun b s => ?_, ?_⟩
    · unfold F_expiry_Queue_Remove
      rw [hh, if_neg hm, mDel_none intEq_ok hml]
    · rw [if_neg hm]; exact h
end Go.Proofs.Ytaminglbenglfaa.Am
