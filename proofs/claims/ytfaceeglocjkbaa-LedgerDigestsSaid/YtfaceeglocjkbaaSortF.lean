/- slices.SortFunc on plain data: by the library's contract, over any program in which it lies; the function that compares is met by a contract of its own. No conditions. -/
import Derived.Test.YtfaceeglocjkbaaKD
import Derived.Shelf.SlSortCmp.NoneTotal
namespace Go.Proofs.Ytfaceeglocjkbaa.Am
open Go Go.Shelf Go.Proofs Go.RowKit

/-- The sorted list. -/
def pdqL {α : Type} (d0 : α) (cf : α → α → Int) (l : List α) : List α :=
  haveI : Inhabited α := ⟨d0⟩
  (Sort.pdq (ltOf cf) l.toArray 0 l.length (Lib.bitLen l.length) true true).toList
theorem pdqL_spec {α : Type} (d0 : α) (cf : α → α → Int) (hO : haveI : Inhabited α := ⟨d0⟩; Sort.SWO (ltOf cf)) (l : List α) : (pdqL d0 cf l).Perm l ∧ (pdqL d0 cf l).Pairwise fun x y => ltOf cf y x = false := by
  letI : Inhabited α := ⟨d0⟩
  have h := Sort.pdq_sorts (ltOf cf) hO l.toArray 0 l.toArray.size (Lib.bitLen l.length) true true (Nat.zero_le _) (Nat.le_refl _) (Or.inl rfl)
  obtain ⟨⟨h1, h2, h3⟩, h4⟩ := h
  have e1 : l.toArray.size = l.length := List.size_toArray
  have hs : pdqL d0 cf l = (Sort.pdq (ltOf cf) l.toArray 0 l.toArray.size (Lib.bitLen l.length) true true).toList := by rw [e1]; rfl
  rw [hs]
  generalize Sort.pdq (ltOf cf) l.toArray 0 l.toArray.size (Lib.bitLen l.length) true true = d at h1 h2 h3 h4
  constructor
  · have e2 : d.extract 0 l.toArray.size = d := by rw [← h1, Array.extract_size]
    rw [e2, Array.extract_size] at h3
    exact h3
  · rw [List.pairwise_iff_getElem]
    intro i j hi hj hij
    have hj' : j < d.size := by simpa using hj
    have hi' : i < d.size := by simpa using hi
    have := h4 i j (Nat.zero_le _) hij (by rw [← h1]; exact hj')
    rwa [getElem!_pos d j hj', getElem!_pos d i hi'] at this
theorem pdqL_len {α : Type} (d0 : α) (cf : α → α → Int) (hO : haveI : Inhabited α := ⟨d0⟩; Sort.SWO (ltOf cf)) (l : List α) : (pdqL d0 cf l).length = l.length := (pdqL_spec d0 cf hO l).1.length_eq
def gSort (u : U) (e : TypeId) (g : FuncId) (cf : u.den → u.den → Int) : TFn := ⟨.cons (.rx u e) (.cons (.c (.fn g)) .nil), .rcons u e .nil, .nil, List u.den, fun a => chk (Nat.blt a.1.length 4611686018427387904) (some (pdqL u.dflt cf a.1)), fun r => ((r, ()), ()), .none⟩
theorem fnT_sort {P : Program} {ρ : Ren} (L : SlLaysF0.n6 P ρ) {fn : Func} (hf : P.funcs[ρ.f 6]? = some fn) (hb : fn.body.isSome = true) (hn : (fn.name == "runtime.NumGoroutine") = false) (u : U) (hu : u.flat = true) (e : TypeId) (he : e < mapF)
    (aE : ∀ w, (isAgg (ρ.t 24)).run P w = .ok true w) (zE : ∀ w, (Go.sizeOf (ρ.t 24)).run P w = .ok u.size w) (cf : u.den → u.den → Int) (hO : haveI : Inhabited u.den := ⟨u.dflt⟩; Sort.SWO (ltOf cf)) (g : FuncId) (eg : ∀ args w, (callFunc g args).run P w = .ok (.enter g args) w)
    (hc : ∀ (x y : u.den) (W : World), Calls P g #[.agg (u.encV x).toArray, .agg (u.encV y).toArray] W fun o w' => o = .returned (.int .i64 (cf x y)) ∧ ∃ q os, w' = Sort.grow (W.drewN q) os) : FnT P (ρ.f 6) (gSort u e g cf) :=
  ⟨rfl, rfl, ⟨trivial, ⟨fn, hf, hb, hn⟩, fun w I F args xs hIn hgl hargs hF hp => by
    letI : Inhabited u.den := ⟨u.dflt⟩
    obtain ⟨⟨l, u1, u2⟩, r, rfl, hr⟩ := hp
    change List u.den at l
    change List u.den at r
    replace hargs : OAs I w [.rx u.size e (l.map u.enc), .c (.d (.v (.func (.func g) #[] #[])))] args.toList F := hargs
    simp only [OAs, OAr, OCr, DVr] at hargs
    obtain ⟨v, r1, F1, F2, e1, ⟨hrow, rfl, hI⟩, ⟨x2, r2, F3, F4, rfl, ⟨rfl, rfl, _⟩, ⟨rfl, rfl⟩, rfl⟩, rfl⟩ := hargs
    have ha : args = #[v, .func (.func g) #[] #[]] := by
      cases args; simp only at e1; subst e1; rfl
    subst ha
    replace hr : chk (Nat.blt l.length 4611686018427387904) (some (pdqL u.dflt cf l)) = some r := hr
    obtain ⟨hlen, hr⟩ := chk_some hr
    injection hr with hr
    have hlen : l.length < 4611686018427387904 := by simpa [Nat.blt_eq] using hlen
    have epost : ((gSort u e g cf).spec.post ((gSort u e g cf).args.oas (l, u1, u2))) = [.rx u.size e (r.map u.enc)] := by
      rw [TFn.post_of (S := gSort u e g cf) (a := (l, u1, u2)) (r := r) rfl (by show chk _ _ = _; rw [show Nat.blt l.length 4611686018427387904 = true by simpa [Nat.blt_eq] using hlen, hr]; rfl)]; rfl
    have eres : ((gSort u e g cf).spec.res ((gSort u e g cf).args.oas (l, u1, u2))) = [] := by
      rw [TFn.res_of (S := gSort u e g cf) (a := (l, u1, u2)) (r := r) rfl (by show chk _ _ = _; rw [show Nat.blt l.length 4611686018427387904 = true by simpa [Nat.blt_eq] using hlen, hr]; rfl)]; rfl
    obtain ⟨hz, hes, xs, ho, hd⟩ := hrow.sl he
    simp only [List.length_map] at ho
    rcases ho.2 with ⟨rfl, hl0⟩ | ⟨b, cap, cur, rfl, _, hg, hcap, hmax, hcs, htk⟩
    · have hl : l = [] := List.eq_nil_of_length_eq_zero hl0
      subst hl
      have hr0 : r = [] := by
        rw [← hr]; exact List.eq_nil_of_length_eq_zero (pdqL_len u.dflt cf hO [])
      refine Calls.mono (AnyF.slices_SortFunc_none L none 0 _ w) fun o w' h => ?_
      obtain ⟨rfl, rfl⟩ := h
      refine ⟨I, [], [], [], rfl, ⟨⟨rfl, rfl, rfl, Nat.le_refl _, fun _ _ _ => rfl⟩, fun _ _ h => h, Keep.refl _ _, fun _ _ h => .inl h, hIn, ?_, ?_, by simp, by simp⟩⟩
      · rw [epost, hr0]
        exact ⟨.slice none 0 0, [], [], [], rfl, ⟨hrow, rfl, hI⟩, ⟨rfl, rfl⟩, rfl⟩
      · rw [eres]; exact ⟨rfl, rfl⟩
    · have hblk : b < w.heap.size := (Array.getElem?_eq_some_iff.1 hg).1
      have hbI : ∀ o, ¬ I b o := fun o => hI b o rfl
      have hcs' : l.length * u.size ≤ cur.size := by rw [hcs]; exact Nat.mul_le_mul_right _ hcap
      have hget : ∀ j, j < l.length * u.size → cur[j]? = some ((u.encV (l.toArray[j / u.size]!))[j % u.size]!) := fun j hj => by
        have hi : j / u.size < l.length := Nat.div_lt_of_lt_mul (by rw [Nat.mul_comm]; exact hj)
        have hm : j % u.size < u.size := Nat.mod_lt _ hz
        have h1 := DVee.get hd (z := u.size) (fun e' he' => by obtain ⟨x, _, rfl⟩ := List.mem_map.1 he'; exact U.enc_len u x) (i := j / u.size) (e := u.enc l[j / u.size]) (by simp [hi])
        have h2 := U.encV_of u hu _ h1
        have h3 : l.toArray[j / u.size]! = l[j / u.size] := by simp [hi]
        rw [h3, ← h2, ← htk]
        have h4 : j / u.size * u.size + j % u.size = j := Nat.div_add_mod' j u.size
        have hjc : j < cur.size := by omega
        have h5 : (((cur.toList.take (l.length * u.size)).drop (j / u.size * u.size)).take u.size)[j % u.size]? = some cur[j] := by
          rw [List.getElem?_take_of_lt hm, List.getElem?_drop, h4, List.getElem?_take_of_lt hj, Array.getElem?_toList, Array.getElem?_eq_getElem hjc]
        rw [Array.getElem?_eq_getElem hjc, List.getElem!_eq_getElem?_getD, h5]; rfl
      have hH : Sort.HoldsK u.encV u.size w b 0 l.toArray := fun j hj => by
        rw [Sort.size_flatK, List.size_toArray] at hj
        rw [Nat.zero_add, Sort.get_flatK _ _ _ _ (by rw [List.size_toArray]; exact hj)]
        refine ⟨?_, by simp [World.frozen?, hg]⟩
        simp only [World.cell?, hg, id]
        exact hget j hj
      have hcon := AnyQ.slices_SortFunc_eq L u.size aE zE u.encV u.encV_len u.encV_one cf hO g #[] b 0 cap l.toArray w eg (fun m os dk _ x y => by simpa using hc x y _) hH hblk hlen
      refine Calls.mono hcon fun o w' h => ?_
      obtain ⟨rfl, n, os, rfl⟩ := h
      have hr' : Sort.pdq (ltOf cf) l.toArray 0 l.toArray.size (Lib.bitLen l.toArray.size) true true = r.toArray := by
        rw [← hr]; exact (Array.toArray_toList).symm
      rw [hr']
      have hrl : r.length = l.length := by rw [← hr]; exact pdqL_len u.dflt cf hO l
      have hheap : ∀ x, x < w.heap.size → (sortWorldK u.encV u.size w b 0 n r.toArray os).heap[x]? = if b = x then (w.heap[x]?).map (Sort.onCells (Sort.putCells id 0 (Sort.flatK u.encV u.size r.toArray))) else w.heap[x]? := fun x hx => by
        unfold sortWorldK Sort.grow Sort.putRowK Sort.putRow Sort.mapBlock Sort.ahead
        simp only [Array.getElem?_append, Array.size_modify, hx, if_true, Array.getElem?_modify]
      have hsize : w.heap.size ≤ (sortWorldK u.encV u.size w b 0 n r.toArray os).heap.size := by
        unfold sortWorldK Sort.grow
        simp [Sort.putRowK, Sort.ahead]
      have hb' : (sortWorldK u.encV u.size w b 0 n r.toArray os).heap[b]? = some (.cells (Sort.putCells id 0 (Sort.flatK u.encV u.size r.toArray) cur) e (0, 0)) := by
        rw [hheap b hblk, if_pos rfl, hg]; rfl
      have hother : ∀ x, x < w.heap.size → x ≠ b → (sortWorldK u.encV u.size w b 0 n r.toArray os).heap[x]? = w.heap[x]? := fun x hx hne => by
        rw [hheap x hx, if_neg (fun h => hne h.symm)]
      have hos : (sortWorldK u.encV u.size w b 0 n r.toArray os).os = w.os := rfl
      have htp : (sortWorldK u.encV u.size w b 0 n r.toArray os).tape = w.tape := rfl
      have hou : (sortWorldK u.encV u.size w b 0 n r.toArray os).output = w.output := rfl
      generalize sortWorldK u.encV u.size w b 0 n r.toArray os = w' at hheap hsize hb' hother hos htp hou ⊢
      have hks : Keep I w w' := fun x o hi => World.cell?_of_block (a := ⟨x, o, none⟩) (hother x (hIn x o hi) (fun h => hbI o (h ▸ hi)))
      refine ⟨I, [], [b], [], rfl, ⟨⟨hos, htp, hou, hsize, fun x hx hne => hother x hx (fun h => hne (by subst h; simp [obk]))⟩, fun _ _ h => h, hks, fun _ _ h => .inl h, fun x o hi => Nat.lt_of_lt_of_le (hIn x o hi) hsize, ?_, ?_, by simp, by simp [obk]⟩⟩
      · rw [epost]
        refine ⟨_, [], [b], [], rfl, ⟨?_, rfl, hI⟩, ⟨rfl, rfl⟩, rfl⟩
        have hpc : (Sort.putCells id 0 (Sort.flatK u.encV u.size r.toArray) cur).size = cur.size := by simp [Sort.putCells]
        refine ⟨hz, fun e' he' => by obtain ⟨x, _, rfl⟩ := List.mem_map.1 he'; exact U.enc_len u x, .inl ⟨he, _, ⟨?_, .inr ⟨b, cap, _, ?_, Nat.zero_le _, hb', ?_, hmax, ?_, rfl⟩⟩, ?_⟩⟩
        · simp only [List.length_map, hrl]
          rw [List.length_take, show (Sort.putCells id 0 (Sort.flatK u.encV u.size r.toArray) cur).toList.length = cur.size from hpc]; omega
        · simp only [List.length_map, hrl]
        · simp only [List.length_map, hrl]; exact hcap
        · rw [hpc]; exact hcs
        · refine DVee.of_get (z := u.size) ?_ fun i e' hi => ?_
          · simp only [List.length_map, hrl]
            rw [List.length_take, show (Sort.putCells id 0 (Sort.flatK u.encV u.size r.toArray) cur).toList.length = cur.size from hpc]; omega
          · obtain ⟨hi', rfl⟩ := List.getElem?_eq_some_iff.1 hi
            simp only [List.length_map] at hi'
            simp only [List.getElem_map, List.length_map]
            have : (((Sort.putCells id 0 (Sort.flatK u.encV u.size r.toArray) cur).toList.take (r.length * u.size)).drop (i * u.size)).take u.size = u.encV r[i] := by
              refine List.ext_getElem? fun m => ?_
              by_cases hm : m < u.size
              · have hj : i * u.size + m < r.length * u.size := by
                  have : (i + 1) * u.size ≤ r.length * u.size := Nat.mul_le_mul_right _ hi'
                  rw [Nat.succ_mul] at this; omega
                have hjc : i * u.size + m < cur.size := by rw [hrl] at hj; omega
                rw [List.getElem?_take_of_lt hm, List.getElem?_drop, List.getElem?_take_of_lt hj, Array.getElem?_toList]
                simp only [Sort.putCells, Array.getElem?_mapIdx, Array.getElem?_eq_getElem hjc, Option.map_some, Nat.zero_le, true_and, Nat.zero_add, Sort.size_flatK, List.size_toArray, hj, if_true, Nat.sub_zero, id]
                rw [Sort.get_flatK _ _ _ _ (by rw [List.size_toArray]; exact hj)]
                have e1 : (i * u.size + m) / u.size = i := by rw [Nat.mul_comm, Nat.mul_add_div hz, Nat.div_eq_of_lt hm]; rfl
                have e2 : (i * u.size + m) % u.size = m := by rw [Nat.mul_comm, Nat.mul_add_mod, Nat.mod_eq_of_lt hm]
                rw [e1, e2]
                have e3 : r.toArray[i]! = r[i] := by simp [hi']
                have hm' : m < (u.encV r[i]).length := by rw [U.encV_len]; exact hm
                rw [e3, getElem!_pos _ m hm', List.getElem?_eq_getElem hm']
              · rw [List.getElem?_eq_none (by rw [List.length_take]; omega), List.getElem?_eq_none (by rw [U.encV_len]; omega)]
            rw [this]
            exact U.encV_to u hu _
      · rw [eres]; exact ⟨rfl, rfl⟩⟩⟩
end Go.Proofs.Ytfaceeglocjkbaa.Am
