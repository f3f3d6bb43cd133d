/- The library's contracts of slices.Sorted(maps.Keys(m)), in the machine's words. No conditions. -/
import Derived.Test.YtaminglbenglfaaAmTab
import Derived.Lib.SlKeysI
import Derived.Shelf.SlIterI.Sorted
import Derived.Shelf.SlIter.Sorted
namespace Go.Proofs.Ytaminglbenglfaa.Am
open Go Go.Proofs Go.RowKit Go.Maps Go.Sort Go.WideElems Go.WideShapes

def anyR (_ : Value) : Option (DataW Unit × List MemPlace) := some (.lit (.bool true), [])
theorem lt_of_cell {w : World} {b : Nat} {v : Value} (h : w.cell? ⟨b, 0, none⟩ = some v) : b < w.heap.size := by
  rcases Nat.lt_or_ge b w.heap.size with h1 | h1
  · exact h1
  · have : w.heap[b]? = none := Array.getElem?_eq_none h1
    simp [World.cell?, this] at h
theorem born_nodup {ms : List MapEntry} {c : Nat} (h : Born ms c) : (ms.map (·.born)).Nodup := by
  unfold List.Nodup
  rw [List.pairwise_map]
  exact h.1.imp fun hlt => Nat.ne_of_lt hlt
theorem cell_map {w : World} {b g : Nat} {ty : TypeId} (hb : w.heap[b]? = some (.cells #[.map (some g)] ty (0, 0))) : w.cell? ⟨b, 0, none⟩ = some (.map (some g)) := by
  simp [World.cell?, hb]
theorem rg_key {P : Program} {k : TypeId} {x : MapEntry} {kl : Lit} (h : keyOf P k x.key = some kl) : rg P k anyR x = (kl, .lit (.bool true)) := by
  simp [rg, rd, h, anyR]
/-- Entries with such keys read as a datum. -/
theorem fit_keys' {P : Program} {k : TypeId} {en : Array MapEntry} {clock : Nat} (hb : Born en.toList clock) (hnd : (en.toList.map (·.key)).Nodup) (hk : ∀ x ∈ en.toList, ∃ kl, keyOf P k x.key = some kl) (hsz : en.size ≤ maxLen) : Fit P k anyR en clock :=
  ⟨hsz, ⟨hb.2, born_nodup hb, hnd⟩, fun x hx => by
    obtain ⟨kl, h⟩ := hk x hx
    exact ⟨(kl, .lit (.bool true)), by simp [rd, h, anyR]⟩⟩
theorem key_i64 {P : Program} {k : TypeId} (hk : P.underlying k = some (.int .i64)) {x : Int} (hx : (Lit.int .i64 x).wf = true) : keyOf P k (.int .i64 x) = some (.int .i64 x) := by
  simp [keyOf, hk, mapKey, hx]
theorem key_str {P : Program} {k : TypeId} (hk : P.underlying k = some .string) {x : List UInt8} (hx : x.length ≤ maxLen) : keyOf P k (strV x) = some (.string x) := by
  simp [keyOf, hk, mapKey, strV, ByteArray.size, hx]
theorem perm_I {P : Program} {k : TypeId} (hk : P.underlying k = some (.int .i64)) : ∀ {ms : List MapEntry} {ks : List Int}, ms.map (·.key) = ks.map (Value.int .i64) → (∀ x ∈ ks, (Lit.int .i64 x).wf = true) → (ms.map (rg P k anyR)).map (fun p => intOf p.1) = ks
  | [], [], _, _ => rfl
  | m :: ms, x :: ks, h, hw => by
    simp only [List.map_cons, List.cons.injEq] at h
    have h1 : keyOf P k m.key = some (.int .i64 x) := by rw [h.1]; exact key_i64 hk (hw x (by simp))
    rw [List.map_cons, List.map_cons, rg_key h1, perm_I hk h.2 (fun y hy => hw y (by simp [hy]))]
    rfl
  | [], _ :: _, h, _ => by simp at h
  | _ :: _, [], h, _ => by simp at h
theorem perm_S {P : Program} {k : TypeId} (hk : P.underlying k = some .string) : ∀ {ms : List MapEntry} {ks : List (List UInt8)}, ms.map (·.key) = ks.map strV → (∀ x ∈ ks, x.length ≤ maxLen) → (ms.map (rg P k anyR)).map (fun p => strOf p.1) = ks
  | [], [], _, _ => rfl
  | m :: ms, x :: ks, h, hw => by
    simp only [List.map_cons, List.cons.injEq] at h
    have h1 : keyOf P k m.key = some (.string x) := by rw [h.1]; exact key_str hk (hw x (by simp))
    rw [List.map_cons, List.map_cons, rg_key h1, perm_S hk h.2 (fun y hy => hw y (by simp [hy]))]
    rfl
  | [], _ :: _, h, _ => by simp at h
  | _ :: _, [], h, _ => by simp at h
theorem nodup_of_map {α β : Type} {f : α → β} (hf : ∀ x y, f x = f y → x = y) {l : List α} (h : l.Nodup) : (l.map f).Nodup := by
  unfold List.Nodup at *
  rw [List.pairwise_map]
  exact h.imp fun hne e => hne (hf _ _ e)
theorem key_mem {α : Type} {f : α → Value} {ms : List MapEntry} {ks : List α} (h : ms.map (·.key) = ks.map f) {m : MapEntry} (hm : m ∈ ms) : ∃ x ∈ ks, m.key = f x := by
  have : m.key ∈ ms.map (·.key) := List.mem_map.2 ⟨m, hm, rfl⟩
  rw [h] at this
  obtain ⟨x, h1, h2⟩ := List.mem_map.1 this
  exact ⟨x, h1, h2.symm⟩
theorem size_eq {P : Program} {k : TypeId} (en : Array MapEntry) : Maps.size (DataW.map ((en.toList.map (rg P k anyR)).foldr DataW.insert [])) = en.size := by
  show ((en.toList.map (rg P k anyR)).foldr DataW.insert []).length = en.size
  rw [length_sorted]; simp
theorem sortI_of {P : Program} {f f1 : FuncId} {e : TypeId} (hk : P.underlying e = some (.int .i64))
    (h : ∀ (b g nn : Nat) (D0 : DataW Unit) (w : World), w.cell? ⟨b, 0, none⟩ = some (.map (some g)) → w.ownsMap P e anyR g nn D0 → Maps.size D0 ≤ maxLen → Maps.size D0 * 8 ≤ 140737488355328 →
      Calls P f #[closV f1 b] w fun o w' => ∃ (v : Value) (ss : List Int), o = .returned v ∧ ss.Perm (intKeys D0) ∧ w'.ownsRow w.heap.size e 1 v ss.length ((ss.mergeSort (fun x y => decide (x ≤ y))).map encZ) ∧ (v = .slice none 0 0 ↔ ss = []) ∧ RowKit.Below w.heap.size w w') : SortI P f f1 e := by
  intro w b g ty en clock ks hb hg hborn hkeys hnd hwf hmax hby
  have hlen : en.size = ks.length := by
    have := congrArg List.length hkeys
    simpa using this
  have hfit : Fit P e anyR en clock := fit_keys' hborn (by rw [hkeys]; exact nodup_of_map (fun x y h => by injection h) hnd) (fun m hm => by
    obtain ⟨x, hx, hxe⟩ := key_mem hkeys hm
    exact ⟨_, by rw [hxe]; exact key_i64 hk (hwf x hx)⟩) (by rw [hlen]; exact hmax)
  refine (h b g en.size _ w (cell_map hb) ⟨en, clock, hg, hfit, Nat.le_refl _, rfl⟩ (by rw [size_eq, hlen]; exact hmax) (by rw [size_eq, hlen]; exact hby)).mono ?_
  rintro o w' ⟨v, ss, rfl, hp, hown, _, hB⟩
  have hperm : ss.Perm ks := by
    refine hp.trans ?_
    show (((en.toList.map (rg P e anyR)).foldr DataW.insert []).map fun p => intOf p.1).Perm ks
    have := (sorted_perm (en.toList.map (rg P e anyR))).map (fun p => intOf p.1)
    rw [perm_I hk hkeys hwf] at this
    exact this
  refine ⟨v, rfl, ?_, hB⟩
  have e1 : ss.mergeSort (fun x y => decide (x ≤ y)) = ks.mergeSort (fun x y => decide (x ≤ y)) := mergeSort_of_perm_i hperm
  rw [e1, hperm.length_eq] at hown
  exact hown
theorem sortS_of {P : Program} {f f1 : FuncId} {e : TypeId} (hk : P.underlying e = some .string)
    (h : ∀ (b g nn : Nat) (D0 : DataW Unit) (w : World), w.cell? ⟨b, 0, none⟩ = some (.map (some g)) → w.ownsMap P e anyR g nn D0 → Maps.size D0 ≤ maxLen → Maps.size D0 * 16 ≤ 140737488355328 →
      Calls P f #[closV f1 b] w fun o w' => ∃ (v : Value) (ss : List (List UInt8)), o = .returned v ∧ ss.Perm (strKeys D0) ∧ w'.ownsRow w.heap.size e 1 v ss.length ((ss.mergeSort (fun x y => decide (x ≤ y))).map encStr) ∧ (v = .slice none 0 0 ↔ ss = []) ∧ RowKit.Below w.heap.size w w') : SortS P f f1 e := by
  intro w b g ty en clock ks hb hg hborn hkeys hnd hwf hmax hby
  have hlen : en.size = ks.length := by
    have := congrArg List.length hkeys
    simpa using this
  have hfit : Fit P e anyR en clock := fit_keys' hborn (by rw [hkeys]; exact nodup_of_map (fun x y h => by simpa [strV] using h) hnd) (fun m hm => by
    obtain ⟨x, hx, hxe⟩ := key_mem hkeys hm
    exact ⟨_, by rw [hxe]; exact key_str hk (hwf x hx)⟩) (by rw [hlen]; exact hmax)
  refine (h b g en.size _ w (cell_map hb) ⟨en, clock, hg, hfit, Nat.le_refl _, rfl⟩ (by rw [size_eq, hlen]; exact hmax) (by rw [size_eq, hlen]; exact hby)).mono ?_
  rintro o w' ⟨v, ss, rfl, hp, hown, _, hB⟩
  have hperm : ss.Perm ks := by
    refine hp.trans ?_
    show (((en.toList.map (rg P e anyR)).foldr DataW.insert []).map fun p => strOf p.1).Perm ks
    have := (sorted_perm (en.toList.map (rg P e anyR))).map (fun p => strOf p.1)
    rw [perm_S hk hkeys hwf] at this
    exact this
  refine ⟨v, rfl, ?_, hB⟩
  have e1 : ss.mergeSort (fun x y => decide (x ≤ y)) = ks.mergeSort (fun x y => decide (x ≤ y)) := mergeSort_of_perm hperm
  rw [e1, hperm.length_eq] at hown
  exact hown
end Go.Proofs.Ytaminglbenglfaa.Am
