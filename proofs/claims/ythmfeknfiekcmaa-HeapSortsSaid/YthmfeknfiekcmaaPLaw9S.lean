/- The statement about the heap as a way to sort holds of plain data. No conditions. -/
import Derived.Test.YthmfeknfiekcmaaPLaw9P
namespace Go.Proofs.Ythmfeknfiekcmaa.Am
open Go

theorem sortB_weak {m : List D_api_Item} (h : SortB m) : m.Pairwise fun x y => ¬ Bef y x := h.imp fun h => h.asymm
theorem sorts_pop {l l' : List D_api_Item} {p p' : List (Int × Int)} {m : List D_api_Item} (h : HH l p m) (h' : HH l' p' m) (hl : m.length < 900000) : Ok (F_mempoollaw9_HeapSorts_c3 l p l' p') (· = true) := by
  unfold F_mempoollaw9_HeapSorts_c3
  rw [h.sorted hl, Option.bind_some]
  unfold F_mempoollaw9_HeapSorts_l5s
  refine ok_range (β := (List D_api_Item × List (Int × Int)) × (List D_api_Item × List (Int × Int))) m (fun i b => (((m.length : Nat) : Int), ((i : Nat) : Int), b.1.1, b.1.2, b.2.1, b.2.2, m)) (fun i b => HH b.1.1 b.1.2 (m.drop i) ∧ HH b.2.1 b.2.2 (m.drop i)) (fun i b hi hinv => ?_) (fun b hinv => ?_) (b0 := ((l, p), (l', p'))) ⟨h, h'⟩ (by omega)
  · obtain ⟨⟨l, p⟩, ⟨l', p'⟩⟩ := b
    obtain ⟨q, q'⟩ := hinv
    dsimp only at q q' ⊢
    rw [List.drop_eq_getElem_cons hi] at q q'
    have hdl : (m.drop (i + 1)).length < 900000 := by rw [List.length_drop]; omega
    obtain ⟨l1, p1, e1, q1⟩ := q.pop hdl
    obtain ⟨l2, p2, e2, q2⟩ := q'.pop hdl
    have hg : ∀ v : List D_api_Item, v = m → U.beq U_api_Item (List.getD v i d_api_Item) m[i] = true := fun v e => by
      subst e
      exact (congrArg (fun z : D_api_Item => U.beq U_api_Item z v[i]) (getD_lt hi d_api_Item)).trans (item_self _)
    unfold F_mempoollaw9_HeapSorts_l5
    rw [ok_sel]
    refine ⟨fun _ => ?_, fun hx => by have := of_decide_eq_false hx; omega⟩
    rw [decide_eq_true (show (0 : Int) ≤ (i : Int) ∧ (i : Int) < ((m.length : Nat) : Int) by omega), chk_t, Int.toNat_natCast, decide_eq_true hi, chk_t, e1, Option.bind_some, e2, Option.bind_some, wi_succ (i := i) (by omega)]
    dsimp only
    rw [hg _ rfl]
    exact (ok_some _ _).2 ⟨((l1, p1), (l2, p2)), rfl, q1, q2⟩
  · obtain ⟨⟨l, p⟩, ⟨l', p'⟩⟩ := b
    obtain ⟨q, q'⟩ := hinv
    dsimp only at q q' ⊢
    rw [List.drop_length] at q q'
    unfold F_mempoollaw9_HeapSorts_l5
    rw [ok_sel]
    refine ⟨fun hx => by have := of_decide_eq_true hx; omega, fun _ => ?_⟩
    rw [ok_map]
    unfold F_mempoollaw9_HeapSorts_c4
    rw [q.pop0, Option.bind_some]
    dsimp only
    rw [q.len, Option.bind_some, q'.len, Option.bind_some]
    exact known9.mono fun r hr => by subst hr; rfl
theorem ids_app {a b : List D_api_Item} {x : D_api_Item} (h : Ids (a ++ b)) (hx : x ∈ b) : x.1 ∉ a.map fun x => x.1 := fun hm => by
  unfold Ids at h
  rw [List.map_append, List.nodup_append] at h
  exact h.2.2 x.1 hm x.1 (List.mem_map.2 ⟨x, hx, rfl⟩) rfl
theorem sorts_turn {k : List Int} (hk : k.length ≤ 200) {items : List D_api_Item} (hid : Ids items) (hl : items.length ≤ 200) {l : List D_api_Item} {p : List (Int × Int)} {m : List D_api_Item} (h : HH l p m) (hm : m.Perm items) : Ok (F_mempoollaw9_HeapSorts_c2 k items l p [] []) (· = true) := by
  have hml := hm.length_eq
  unfold F_mempoollaw9_HeapSorts_c2 F_mempoollaw9_HeapSorts_l6s
  refine ok_iterE (fun n v => ∃ (l0 lb : List D_api_Item) (pb : List (Int × Int)) (mb : List D_api_Item), v = (k, l0, l, p, lb, pb) ∧ l0.length = n ∧ HH lb pb mb ∧ (mb ++ l0).Perm items) ?_ (n := items.length) ⟨items, [], [], [], rfl, rfl, hh0, List.Perm.refl _⟩ (by omega)
  rintro n v ⟨l0, lb, pb, mb, rfl, rfl, hb, hp⟩
  have hplen := hp.length_eq
  rw [List.length_append] at hplen
  unfold F_mempoollaw9_HeapSorts_l6
  dsimp only
  have key : ∀ i : Nat, i < l0.length → Ok (F_mempoollaw9_HeapSorts_c7 k (i : Int) l0 l p lb pb) (Nxt (· = true) fun z => ∃ n', n' < l0.length ∧ ∃ (l0 lb : List D_api_Item) (pb : List (Int × Int)) (mb : List D_api_Item), z = (k, l0, l, p, lb, pb) ∧ l0.length = n' ∧ HH lb pb mb ∧ (mb ++ l0).Perm items) := fun i hi => by
    have hx : l0[i] ∈ l0 := List.getElem_mem hi
    have hnew := ids_app (hid.perm hp) hx
    obtain ⟨l', p', e, h'⟩ := hb.push (by omega) l0[i]
    rw [if_neg hnew] at h'
    have w : wi64 ((i : Int) + 1) = ((i + 1 : Nat) : Int) := wi_succ (by omega)
    have htl : (l0.take i).length = i := by rw [List.length_take]; omega
    have hdl : (l0.drop (i + 1)).length = l0.length - (i + 1) := List.length_drop ..
    unfold F_mempoollaw9_HeapSorts_c7
    rw [w, Int.toNat_natCast, Int.toNat_natCast, Int.toNat_natCast, List.take_length, getD_lt hi, e]
    simp only [ok_chk, ok_some, Option.bind_some, decide_eq_true_eq, nxt_inl, htl, hdl]
    refine ⟨by omega, hi, by omega, ⟨by unfold LIM; omega, by unfold LEN; omega⟩, by omega, ⟨by unfold LIM; omega, by unfold LEN; omega⟩, l0.length - 1, by omega, l0.take i ++ l0.drop (i + 1), l', p', insB mb l0[i], rfl, by rw [List.length_append, htl, hdl]; omega, h', ?_⟩
    refine ((ins_perm mb l0[i]).append_right _).trans (List.Perm.trans ?_ hp)
    have e2 : l0 = l0.take i ++ l0[i] :: l0.drop (i + 1) := by rw [List.getElem_cons_drop, List.take_append_drop]
    refine List.Perm.trans (List.perm_middle (a := l0[i]) (l₁ := mb) (l₂ := l0.take i ++ l0.drop (i + 1))).symm ?_
    refine List.Perm.append_left mb ?_
    conv => rhs; rw [e2]
    exact List.perm_middle.symm
  rw [ok_sel]
  refine ⟨fun h0 => ?_, fun h0 => ?_⟩
  · have h0 : 0 < l0.length := by have := of_decide_eq_true h0; omega
    rw [ok_sel]
    refine ⟨fun h1 => ?_, fun _ => key 0 h0⟩
    have h1 : 0 < k.length := by have := of_decide_eq_true h1; omega
    have ht : Int.tmod ((l0.length : Nat) : Int) ((k.length : Nat) : Int) = ((l0.length % k.length : Nat) : Int) := by
      rw [Int.tmod_eq_emod_of_nonneg (by omega)]; omega
    have hlt := Nat.mod_lt l0.length h1
    rw [ht, Int.toNat_natCast]
    rw [ok_chk, ok_chk, ok_bind]
    refine ⟨by rw [decide_eq_false (show ¬ ((k.length : Nat) : Int) = 0 by omega)]; rfl, decide_eq_true (by omega), ?_⟩
    refine (place_ok (by omega) (by omega)).mono fun r hr => ?_
    have e : r = ((r.toNat : Nat) : Int) := by have := hr.1; omega
    rw [e]
    exact key r.toNat (by have := hr.1; have := hr.2.1; omega)
  · have h0 : l0 = [] := List.eq_nil_of_length_eq_zero (by have := of_decide_eq_false h0; omega)
    subst h0
    rw [List.append_nil] at hp
    have e : mb = m := sorted_eq (hp.trans hm.symm) (sortB_weak hb.sort) h.sort
    subst e
    rw [ok_map]
    exact (sorts_pop h hb (by omega)).mono fun r hr => by subst hr; rfl
theorem sorts_fill {k : List Int} (hk : k.length ≤ 200) {items : List D_api_Item} (hid : Ids items) (hl : items.length ≤ 200) : Ok (F_mempoollaw9_HeapSorts_c1 k items) (· = true) := by
  unfold F_mempoollaw9_HeapSorts_c1 F_heap_New F_mempoollaw9_HeapSorts_l8s
  rw [Option.bind_some, Option.bind_some]
  refine ok_range (β := (List D_api_Item × List (Int × Int)) × List D_api_Item) items (fun i b => (k, ((items.length : Nat) : Int), ((i : Nat) : Int), items, b.1.1, b.1.2, [], [])) (fun i b => HH b.1.1 b.1.2 b.2 ∧ b.2.Perm (items.take i)) (fun i b hi hinv => ?_) (fun b hinv => ?_) (b0 := (([], []), [])) ⟨hh0, List.Perm.refl _⟩ (by omega)
  · obtain ⟨⟨l, p⟩, m⟩ := b
    obtain ⟨h, hp⟩ := hinv
    dsimp only at h hp ⊢
    have hml := hp.length_eq
    rw [List.length_take] at hml
    have e2 : items.take i ++ items.drop i = items := List.take_append_drop i items
    have hid' := hid
    rw [← e2] at hid'
    have hx : items[i] ∈ items.drop i := by rw [List.drop_eq_getElem_cons hi]; exact List.mem_cons_self
    have hnew := ids_app hid' hx
    have hnew' : items[i].1 ∉ m.map fun x => x.1 := fun e => hnew ((hp.map _).mem_iff.1 e)
    obtain ⟨l', p', e, h'⟩ := h.push (by omega) items[i]
    rw [if_neg hnew'] at h'
    unfold F_mempoollaw9_HeapSorts_l8
    rw [ok_sel]
    refine ⟨fun _ => ?_, fun hx => by have := of_decide_eq_false hx; omega⟩
    rw [decide_eq_true (show (0 : Int) ≤ (i : Int) ∧ (i : Int) < ((items.length : Nat) : Int) by omega), chk_t, Int.toNat_natCast, decide_eq_true hi, chk_t, getD_lt hi, e, Option.bind_some, wi_succ (i := i) (by omega)]
    refine (ok_some _ _).2 ⟨((l', p'), insB m items[i]), rfl, h', ?_⟩
    dsimp only
    rw [take_succ' hi]
    refine (ins_perm m items[i]).trans ((hp.cons _).trans ?_)
    exact List.perm_append_comm (l₁ := [items[i]]) (l₂ := items.take i)
  · obtain ⟨⟨l, p⟩, m⟩ := b
    obtain ⟨h, hp⟩ := hinv
    dsimp only at h hp ⊢
    rw [List.take_length] at hp
    unfold F_mempoollaw9_HeapSorts_l8
    rw [ok_sel]
    refine ⟨fun hx => by have := of_decide_eq_true hx; omega, fun _ => ?_⟩
    rw [ok_map]
    exact (sorts_turn hk hid hl h hp).mono fun r hr => by subst hr; rfl
theorem ids_count {l : List D_api_Item} (h : ∀ j, j < l.length → (nth l j).1 = (j : Int)) : Ids l := by
  unfold Ids
  rw [List.nodup_iff_pairwise_ne, List.pairwise_iff_getElem]
  intro i j hi hj hij
  simp only [List.length_map] at hi hj
  have h1 := h i hi
  have h2 := h j hj
  rw [nth_lt hi] at h1
  rw [nth_lt hj] at h2
  simp only [List.getElem_map]
  omega
theorem heapSorts_law (x0 x1 : List Int) (_ : wfU (.sl (.int .i64)) x0) (_ : wfU (.sl (.int .i64)) x1) (z0 : szU (.sl (.int .i64)) x0) (z1 : szU (.sl (.int .i64)) x1) : F_mempoollaw9_HeapSorts x0 x1 = some true := by
  refine ok_eq.1 ?_
  unfold F_mempoollaw9_HeapSorts
  rw [long9_ok (ls := [x0, x1]) (by simp) (fun l hl => by
    rcases List.mem_cons.1 hl with rfl | hl
    · exact sz_len z0
    · rw [List.mem_singleton.1 hl]; exact sz_len z1), Option.bind_some, ok_sel]
  refine ⟨fun _ => known9, fun hk => ?_⟩
  have hk : x0.length + x1.length ≤ 160 := by
    have h := of_decide_eq_false hk
    have e : sumL [x0, x1] = x0.length + x1.length := by simp [sumL]
    rw [e] at h
    omega
  rw [from_ok, Option.bind_some]
  unfold F_mempoollaw9_HeapSorts_l9s
  refine ok_iterE (fun n v => ∃ (u : D_mempoolmake_Numbers) (l : List D_api_Item), v = (x0, x1, ((l.length : Nat) : Int), u, l) ∧ NumS x0 2000 u ∧ n = 2000 - u.2.toNat ∧ (l.length : Int) ≤ u.2 ∧ l.length ≤ 170 ∧ ∀ j, j < l.length → (nth l j).1 = (j : Int)) ?_ (n := 2000) ⟨numOf x0, [], rfl, (numS0 x0).le (by omega), rfl, by simp [numOf], by simp, by simp⟩ (by omega)
  rintro n v ⟨u, l, rfl, hu, rfl, hl, hl2, hi⟩
  have hu0 := hu.2.1
  unfold F_mempoollaw9_HeapSorts_l9
  dsimp only
  rw [ok_sel]
  refine ⟨fun hlt => ?_, fun _ => ?_⟩
  · have hlt := of_decide_eq_true hlt
    have hu' : NumS x0 160 u := ⟨hu.1, hu.2.1, by omega⟩
    rw [ok_bind]
    refine (next_s hu' (n := 5) (by omega) (by omega) (by omega)).mono fun r16 h16 => ?_
    rw [ok_bind]
    refine (next_s h16.1 (n := 4) (by omega) (by omega) (by omega)).mono fun r17 h17 => ?_
    have a1 := h16.2.1; have a2 := h17.2.1; have a3 := h17.1.2.1; have a4 := h17.1.2.2
    rw [wi_succ (i := l.length) (by omega), ok_chk, ok_some, nxt_inl]
    refine ⟨decide_eq_true ⟨by unfold LIM; omega, by unfold LEN; omega⟩, _, by omega, r17.1, l ++ [(((l.length : Nat) : Int), wu64 r16.2, r17.2)], by rw [List.length_append]; rfl, h17.1.le (by omega), rfl, ?_, ?_, fun j hj => ?_⟩
    · rw [List.length_append, List.length_singleton]; omega
    · rw [List.length_append, List.length_singleton]; omega
    · rw [List.length_append, List.length_singleton] at hj
      by_cases e : j = l.length
      · rw [e, nth_new]
      · rw [nth_app _ (by omega)]
        exact hi j (by omega)
  · rw [ok_map]
    exact (sorts_fill (k := x1) (by omega) (ids_count hi) (by omega)).mono fun r hr => by subst hr; rfl
end Go.Proofs.Ythmfeknfiekcmaa.Am
