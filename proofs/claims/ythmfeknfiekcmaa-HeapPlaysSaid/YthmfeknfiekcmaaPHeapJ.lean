/- The program's heap and the reference's sorted list go together. No conditions. -/
import Derived.Test.YthmfeknfiekcmaaPHeap
namespace Go.Proofs.Ythmfeknfiekcmaa.Am
open Go Go.Proofs

structure HH (l : List D_api_Item) (p : List (Int × Int)) (m : List D_api_Item) : Prop where
  perm : l.Perm m
  sort : SortB m
  ids : Ids m
  heap : HeapO l
  pl : Pl l p
theorem hh0 : HH [] [] [] := ⟨List.Perm.refl _, List.Pairwise.nil, by simp [Ids], fun k k0 kl => by simp at kl, by simp [keysOf], fun k v => by simp⟩
section
variable {l m : List D_api_Item} {p : List (Int × Int)}
theorem HH.lids (h : HH l p m) : Ids l := h.ids.perm h.perm
theorem HH.has (h : HH l p m) (k : Int) : (mIdx intEq k p).isSome = decide (k ∈ m.map fun x => x.1) := by
  rw [h.pl.has k]
  exact decide_eq_decide.2 (h.perm.map _).mem_iff
theorem sort_ins (hs : SortB m) {x : D_api_Item} (hx : x.1 ∉ m.map fun x => x.1) : SortB (insB m x) := by
  have lt1 : ∀ y ∈ m.filter (befB x), Bef y x := fun y hy => of_decide_eq_true (List.mem_filter.1 hy).2
  have lt2 : ∀ y ∈ m.filter (fun y => !befB x y), Bef x y := fun y hy => by
    obtain ⟨h1, h2⟩ := List.mem_filter.1 hy
    have h3 : ¬ Bef y x := by simpa [befB] using h2
    rcases Classical.em (Bef x y) with h | h
    · exact h
    · have := Bef.tri h h3
      subst this
      exact (hx (List.mem_map.2 ⟨x, h1, rfl⟩)).elim
  unfold SortB insB
  rw [List.append_assoc, List.pairwise_append, List.singleton_append, List.pairwise_cons]
  refine ⟨hs.filter _, ⟨lt2, hs.filter _⟩, fun a ha b hb => ?_⟩
  rcases List.mem_cons.1 hb with rfl | hb
  · exact lt1 a ha
  · exact (lt1 a ha).trans (lt2 b hb)
theorem ins_perm (m : List D_api_Item) (x : D_api_Item) : (insB m x).Perm (x :: m) := part_perm (befB x) m x
theorem ins_len (m : List D_api_Item) (x : D_api_Item) : (insB m x).length = m.length + 1 := by rw [(ins_perm m x).length_eq]; rfl
theorem HH.push (h : HH l p m) (hl : m.length < 900000) (x : D_api_Item) : ∃ l' p', F_heap_Heap_Push l p x = some (l', p', !decide (x.1 ∈ m.map fun x => x.1)) ∧ HH l' p' (if x.1 ∈ m.map (fun x => x.1) then m else insB m x) := by
  have hlen := h.perm.length_eq
  have hh := h.has x.1
  unfold F_heap_Heap_Push
  rw [hh]
  by_cases hm : x.1 ∈ m.map fun x => x.1
  · rw [decide_eq_true hm, if_pos hm]
    exact ⟨l, p, rfl, h⟩
  · rw [decide_eq_false hm, if_neg hm, sel_f]
    have hml : x.1 ∉ l.map fun x => x.1 := fun e => hm ((h.perm.map _).mem_iff.1 e)
    have e1 : (l ++ ([x] : List D_api_Item)).length = l.length + 1 := by simp
    have w : wi64 ((((l ++ ([x] : List D_api_Item)).length : Nat) : Int) - 1) = ((l.length : Nat) : Int) := by rw [e1, wi64_id] <;> omega
    have hid : Ids (l ++ [x]) := by
      have : (l ++ [x]).Perm (x :: l) := List.perm_append_comm (l₁ := l) (l₂ := [x])
      refine Ids.perm ?_ this
      unfold Ids
      rw [List.map_cons, List.nodup_cons]
      exact ⟨hml, h.lids⟩
    have hpl := h.pl.push (x := x) fun k hk e => hml (List.mem_map.2 ⟨_, nth_mem hk, e⟩)
    obtain ⟨r, hr, a1, a2, a3⟩ := up_ok (show l.length < (l ++ [x]).length by omega) (by omega) hid hpl (h.heap.push x)
    rw [decide_eq_true (show (l.length + 1) * 24 ≤ LIM ∧ l.length + 1 ≤ LEN from ⟨by unfold LIM; omega, by unfold LEN; omega⟩), chk_t, w, hr, Option.bind_some]
    have hrl := a1.length_eq
    have hpm : r.1.Perm (insB m x) := a1.trans ((List.perm_append_comm (l₁ := l) (l₂ := [x])).trans ((h.perm.cons x).trans (ins_perm m x).symm))
    refine ⟨r.1, r.2, rfl, hpm, sort_ins h.sort hm, (hid.perm a1).perm hpm.symm, down_stop a3 fun c c0 cl cp => by omega, a2⟩
theorem HH.least (h : HH l p m) {x : D_api_Item} {m' : List D_api_Item} (hm : m = x :: m') : nth l 0 = x := by
  subst hm
  have hlen := h.perm.length_eq
  have h0 : 0 < l.length := by rw [hlen]; simp
  have h1 : x ∈ l := h.perm.mem_iff.2 (by simp)
  have h2 := h.perm.mem_iff.1 (nth_mem h0)
  obtain ⟨k, hk, hkx⟩ := List.getElem_of_mem h1
  have h3 := h.heap.least k hk
  rw [nth_lt hk, hkx] at h3
  rcases List.mem_cons.1 h2 with e | e
  · exact e
  · have hs := h.sort
    unfold SortB at hs
    rw [List.pairwise_cons] at hs
    exact (h3 (hs.1 _ e)).elim
theorem HH.peek0 (h : HH l p []) : F_heap_Heap_Peek l p = some (l, p, ((0 : Int), (0 : Int), (0 : Int)), false) := by
  have := h.perm.eq_nil
  subst this
  rfl
theorem HH.peek {x : D_api_Item} {m' : List D_api_Item} (h : HH l p (x :: m')) : F_heap_Heap_Peek l p = some (l, p, x, true) := by
  have hlen : l.length = m'.length + 1 := h.perm.length_eq
  refine ok_eq.1 ?_
  unfold F_heap_Heap_Peek
  simp only [ok_sel, ok_chk, ok_some, decide_eq_true_eq, decide_eq_false_iff_not, getD_nth, h.least rfl]
  exact ⟨fun h => by omega, fun _ => ⟨by omega, by omega, trivial⟩⟩
theorem HH.pop0 (h : HH l p []) : F_heap_Heap_Pop l p = some (l, p, ((0 : Int), (0 : Int), (0 : Int)), false) := by
  unfold F_heap_Heap_Pop
  rw [h.peek0]; rfl
theorem Ids.cons {x : D_api_Item} {l : List D_api_Item} (h : Ids (x :: l)) : Ids l := by
  unfold Ids at h ⊢
  rw [List.map_cons, List.nodup_cons] at h
  exact h.2
theorem HH.pop {x : D_api_Item} {m' : List D_api_Item} (h : HH l p (x :: m')) (hl : m'.length < 900000) : ∃ l' p', F_heap_Heap_Pop l p = some (l', p', x, true) ∧ HH l' p' m' := by
  have hlen : l.length = m'.length + 1 := h.perm.length_eq
  obtain ⟨r, hr, a1, a2, a3⟩ := take_ok (i := 0) (show 0 < l.length by omega) (by omega) h.lids h.pl h.heap
  rw [h.least rfl] at a1
  have hr' : F_heap_Heap_take l p 0 = some r := hr
  unfold F_heap_Heap_Pop
  rw [h.peek, Option.bind_some, sel_t, hr', Option.bind_some]
  have hs := h.sort
  unfold SortB at hs
  rw [List.pairwise_cons] at hs
  exact ⟨r.1, r.2, rfl, (List.perm_cons x).1 (a1.trans h.perm), hs.2, h.ids.cons, a3, a2⟩
theorem del_perm {id : Int} (hd : Ids m) {x : D_api_Item} (hx : x ∈ m) (e : x.1 = id) : (x :: delB m id).Perm m := by
  obtain ⟨i, hi, he⟩ := List.getElem_of_mem hx
  have hf := filterI hd hi
  have e2 : m = m.take i ++ m[i] :: m.drop (i + 1) := by rw [List.getElem_cons_drop, List.take_append_drop]
  rw [he, e] at hf
  rw [he] at e2
  unfold delB
  rw [hf]
  conv => rhs; rw [e2]
  exact List.perm_middle.symm
theorem HH.remove (h : HH l p m) (hl : m.length < 900000) (id : Int) : ∃ l' p', F_heap_Heap_Remove l p id = some (l', p', decide (id ∈ m.map fun x => x.1)) ∧ HH l' p' (if id ∈ m.map (fun x => x.1) then delB m id else m) := by
  have hlen := h.perm.length_eq
  have hh := h.has id
  unfold F_heap_Heap_Remove
  rw [hh]
  by_cases hm : id ∈ m.map fun x => x.1
  · rw [decide_eq_true hm, if_pos hm, sel_t]
    obtain ⟨x, hx, hid⟩ := List.mem_map.1 ((h.perm.map fun x => x.1).mem_iff.2 hm)
    obtain ⟨i, hi, he⟩ := List.getElem_of_mem hx
    have hni : nth l i = x := by rw [nth_lt hi, he]
    have hg := h.pl.get hi
    rw [hni, hid] at hg
    obtain ⟨r, hr, a1, a2, a3⟩ := take_ok hi (by omega) h.lids h.pl h.heap
    rw [hni] at a1
    rw [hg, hr, Option.bind_some]
    have hd := del_perm h.ids (h.perm.mem_iff.1 hx) hid
    exact ⟨r.1, r.2, rfl, (List.perm_cons x).1 ((a1.trans h.perm).trans hd.symm), h.sort.filter _, (h.ids.perm hd).cons, a3, a2⟩
  · rw [decide_eq_false hm, if_neg hm, sel_f]
    exact ⟨l, p, rfl, h⟩
theorem sorted_eq : ∀ {l m : List D_api_Item}, l.Perm m → l.Pairwise (fun x y => ¬ Bef y x) → m.Pairwise Bef → l = m
  | l, [], hp, _, _ => hp.eq_nil
  | [], x :: m, hp, _, _ => hp.symm.eq_nil.symm
  | y :: l, x :: m, hp, hl, hm => by
    rw [List.pairwise_cons] at hl hm
    have e : y = x := by
      rcases List.mem_cons.1 (hp.mem_iff.1 (List.mem_cons_self (a := y))) with e | h1
      · exact e
      · rcases List.mem_cons.1 (hp.mem_iff.2 (List.mem_cons_self (a := x))) with e | h2
        · exact e.symm
        · exact (hl.1 _ h2 (hm.1 _ h1)).elim
    subst e
    rw [sorted_eq ((List.perm_cons y).1 hp) hl.2 hm.2]
theorem HH.sorted (h : HH l p m) (hl : m.length < 900000) : F_heap_Heap_Sorted l p = some (l, p, m) := by
  have hlen := h.perm.length_eq
  have hc : F_slices_Clone_api_Item_api_Item_own l = some (l, l) := by
    have hb : (0 + List.length (α := U_api_Item.den) l) * 24 ≤ LIM ∧ 0 + List.length (α := U_api_Item.den) l ≤ LEN := (⟨by unfold LIM; omega, by unfold LEN; omega⟩ : (0 + l.length) * 24 ≤ LIM ∧ 0 + l.length ≤ LEN)
    have hcl : cloneF (u := U_api_Item) 24 l = some l := by
      unfold cloneF
      rw [decide_eq_true hb]; rfl
    unfold F_slices_Clone_api_Item_api_Item_own cloneX
    rw [hcl]; rfl
  have hsp := pdqL_spec d_api_Item cfItem swoItem l
  have hs : pdqL d_api_Item cfItem l = m := sorted_eq (hsp.1.trans h.perm) (hsp.2.imp fun {x y} hxy hb => by
    have := (ltItem y x).2 hb
    rw [hxy] at this; cases this) h.sort
  unfold F_heap_Heap_Sorted F_slices_SortFunc_api_Item_api_Item_of_heap_Heap_Sorted_1
  rw [hc, Option.bind_some, hs, show Nat.blt l.length 4611686018427387904 = true by simp [Nat.blt_eq]; omega, chk_t]
  rfl
theorem HH.len (h : HH l p m) : F_heap_Heap_Len l p = some (l, p, ((m.length : Nat) : Int)) := by unfold F_heap_Heap_Len; rw [h.perm.length_eq]
end
end Go.Proofs.Ythmfeknfiekcmaa.Am
