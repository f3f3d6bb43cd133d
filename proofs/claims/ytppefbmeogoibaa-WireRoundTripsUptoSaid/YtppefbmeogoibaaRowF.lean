/- How a field that came in reads. -/
import Derived.Test.YtppefbmeogoibaaRow
import Derived.Test.YtppefbmeogoibaaWirePlain
import Derived.Test.YtppefbmeogoibaaProg
namespace Go.Proofs.Ytppefbmeogoibaa
open Go.ChangeShapes Go.WideShapes Go.ChangeAt Go.RowKit Go.ChangeMaps
section
variable {H : Type} {enc : TypeId × Value → H}
theorem Tr.fld (W : World) : Tr enc Try.prog W Rep.fld 41 (fun f => f.byt.length + 4) := by
  intro fuel cs y h
  obtain ⟨xs, n, _, rfl, hlen, hxl, hf⟩ := DataW.trod_struct Try.underlying41 h
  have hc4 : Try.prog.cellsOf 41 = 4 := by kernel_rfl
  have c1 : Try.prog.cellsOf 3 = 1 := by kernel_rfl
  have c2 : Try.prog.cellsOf 23 = 1 := by kernel_rfl
  have c3 : Try.prog.cellsOf 22 = 1 := by kernel_rfl
  rw [hc4] at hlen
  match cs, hlen, xs, hxl with
  | [v0, v1, v2, v3], _, [y0, y1, y2, y3], _ =>
    have f0 : DataW.trod enc Try.prog W 0 (fun _ => true) true n 3 [v0] = some y0 := by
      have h := hf 0 _ rfl
      simpa [c1] using h
    have f1 : DataW.trod enc Try.prog W 0 (fun _ => true) true n 3 [v1] = some y1 := by
      have h := hf 1 _ rfl
      simpa [c1] using h
    have f2 : DataW.trod enc Try.prog W 0 (fun _ => true) true n 23 [v2] = some y2 := by
      have h := hf 2 _ rfl
      simpa [c2] using h
    have f3 : DataW.trod enc Try.prog W 0 (fun _ => true) true n 22 [v3] = some y3 := by
      have h := hf 3 _ rfl
      simpa [c3] using h
    obtain ⟨a, h0, w0⟩ := Tr.int (W := W) (enc := enc) Try.underlying3 _ _ _ f0
    obtain ⟨b, h1, w1⟩ := Tr.int (W := W) (enc := enc) Try.underlying3 _ _ _ f1
    obtain ⟨c, h2, w2⟩ := Tr.u64 (W := W) (enc := enc) Try.underlying23 _ _ _ f2
    obtain ⟨l, h3, w3⟩ := Tr.slice (W := W) (enc := enc) Try.underlying22 (by kernel_rfl) (Tr.u8 Try.underlying5) _ _ _ f3
    obtain ⟨h0, h0'⟩ := h0
    obtain ⟨h1, h1'⟩ := h1
    obtain ⟨h2, h2'⟩ := h2
    obtain ⟨v, h3, h3'⟩ := h3
    simp at h0 h1 h2 h3
    subst h0; subst h1; subst h2; subst h3
    refine ⟨⟨a, b, c, l⟩, ⟨_, rfl, h3', h2', h0', h1'⟩, ?_⟩
    simp only [Rows.uptoBulk, Rows.uptoBulkAll, List.map_cons, List.map_nil]
    have e1 := sum_ones l
    have u0 : 1 ≤ Rows.uptoBulk y0.1 := w0
    have u1 : 1 ≤ Rows.uptoBulk y1.1 := w1
    have u2 : 1 ≤ Rows.uptoBulk y2.1 := w2
    have u3 : (l.map fun _ => 1).sum + 1 ≤ Rows.uptoBulk y3.1 := w3
    omega
theorem open_fld {W : World} {b0 : Nat} {v : Value} {d : DataW H} {p : List MemPlace} (hv : Value.okWide Try.prog W .any b0 41 v) (h : DataW.Trod enc Try.prog W 0 (fun _ => true) true 41 v d p) :
    ∃ A n c f, v = .agg #[.int .i64 f.num, .int .i64 f.kind, .int .u64 f.val, .slice A n c] ∧ FldIs W All A n c f ∧ f.byt.length + 4 ≤ Rows.uptoBulk d := by
  obtain ⟨cs, rfl, hsz⟩ := okWide_struct Try.underlying41 hv
  obtain ⟨fuel, hf⟩ := h
  obtain ⟨f, hf1, hw⟩ := Tr.fld W _ _ _ hf
  obtain ⟨A, n, c, he, hi⟩ := Rep.fld_open hf1
  refine ⟨A, n, c, f, ?_, hi, hw⟩
  have : cs.toList = _ := he
  rw [← Array.toArray_toList (xs := cs), this]
end
end Go.Proofs.Ytppefbmeogoibaa
