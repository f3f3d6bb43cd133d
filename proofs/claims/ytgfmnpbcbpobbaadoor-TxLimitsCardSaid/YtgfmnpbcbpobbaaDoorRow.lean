/- From a walk that ends in 'true' and leaves old memory alone to a law's statement; and how arguments that came in read as plain data. -/
import Derived.Test.YtgfmnpbcbpobbaaDoorBase
import Derived.ProofKit
import Derived.JoinedCond
import Derived.Deep.Slices
import Derived.Deep.Fields
import Derived.Lib.SmallJoins
import Derived.Test.YtgfmnpbcbpobbaaDoorRows
namespace Go.Proofs.YtgfmnpbcbpobbaaDoor
open Go.ChangeShapes Go.WideShapes Go.ChangeAt Go.RowKit Go.ChangeMaps

section
variable {H : Type} {enc : TypeId × Value → H} {P : Program}

theorem Below.trodAll (hl : laidOutB P = true) {W W' : World} (hb : Below W.heap.size W W') : ∀ {ts : List TypeId} {vs : List Value} {ds : List (DataW H)} {ps : List MemPlace},
    (ts.all fun t => P.readableRec t && decide (t < P.types.size)) = true → DataW.TrodAll enc P W 0 (fun _ => true) true ts vs ds ps → (∀ x ∈ ps, x.block < W.heap.size) →
    DataW.TrodAll enc P W' 0 (fun b => decide (b < W.heap.size)) true ts vs ds ps
  | [], [], [], _, _, h, _ => h
  | t :: ts, v :: vs, d :: ds, ps, hr, h, hlt => by
    obtain ⟨p, q, h1, h2, rfl⟩ := h
    simp only [List.all_cons, Bool.and_eq_true, decide_eq_true_eq] at hr
    exact ⟨p, q, Below.trod hl hr.1.1 hr.1.2 h1 hb (fun x hx => hlt x (by simp [hx])), Below.trodAll hl hb (by simpa using hr.2) h2 (fun x hx => hlt x (by simp [hx])), rfl⟩

/-- A law's 'post': the call answered true, and what was there before is as it was. -/
theorem law_post (hl : laidOutB P = true) {f : Func} (hrd : (f.params.toList.all fun t => P.readableRec t && decide (t < P.types.size)) = true) {tb : TypeId} (hres : f.resultTypes = #[tb]) (hub : P.underlying tb = some .bool)
    {s : ChangeSpec} {W W' : World} {args : Array Value} {ds gs : List (DataW H)} {before : List MemPlace} (hv : s.vars = []) (hW : DataW.Whole enc P f.params.toList s.vars false W args.toList ds gs before)
    (hfn : s.fn H ds = { results := [.lit (.bool true)], args := ds }) (hb : Below W.heap.size W W') :
    s.post enc P f false true false false W args (.bool true) W' := by
  have hW' := hW
  obtain ⟨p, q, hA, hV, rfl, hfz, hnd⟩ := hW
  rw [hv] at hV
  obtain ⟨rfl, rfl⟩ := trodVars_none hV
  have hlt : ∀ x ∈ p ++ [], x.block < W.heap.size := fun x hx => hW'.lt x hx
  refine ⟨ds, [], p ++ [], [], p, [], hW', ?_, ?_, ?_, World.keptBut_mono (fun x hx => ⟨hx, ?_⟩) (hb.frame (· ∈ p ++ [])), fun h => by cases h⟩
  · rw [List.append_nil, hfn, hres]
    exact trodAll_mk1 (shut_bool hub true)
  · rw [List.append_nil, hfn]
    exact Below.trodAll hl hb hrd hA (fun x hx => hlt x (by simpa using hx))
  · rw [hv, List.append_nil, hfn]
    rfl
  · right; simpa using hx

/-- A slice of bytes that came in. -/
theorem open_bytes {W : World} {b0 : Nat} {t e : TypeId} {v : Value} {d : DataW H} {p : List MemPlace} (ht : P.underlying t = some (.slice e)) (he : P.underlying e = some (.int .u8)) (hc : P.cellsOf e = 1)
    (hv : Value.okWide P W .any b0 t v) (h : DataW.Trod enc P W 0 (fun _ => true) true t v d p) :
    ∃ A n c l, v = .slice A n c ∧ Sl Rep.u8 W (fun b => b < W.heap.size) A n c l := by
  obtain ⟨a, len, cap, rfl⟩ := okWide_slice ht hv
  obtain ⟨fuel, hf⟩ := h
  rcases open_ints ht he hc hf with ⟨hcs, _⟩ | ⟨a', len', cap', zs, hcs, _, hl, hm, hz, hx, hcell, hwz⟩
  · simp [Value.cells] at hcs
    obtain ⟨rfl, rfl, rfl⟩ := hcs
    exact ⟨none, 0, 0, [], rfl, Sl.nil_ _ _ _⟩
  · simp [Value.cells] at hcs
    obtain ⟨rfl, rfl, rfl⟩ := hcs
    simp only [if_true] at hz
    have hnum : ∀ z ∈ zs, ∃ u : UInt8, z = (u.toNat : Int) := by
      intro z hz
      have := hwz z hz
      simp [Lit.wf, IntKind.min, IntKind.max, IntKind.signed, IntKind.bits] at this
      refine ⟨UInt8.ofNat z.toNat, ?_⟩
      rw [UInt8.toNat_ofNat']; omega
    refine ⟨some a', len, cap, (zs.take len).map fun z => UInt8.ofNat z.toNat, rfl, ?_, hl, hm, (zs.take len).map (Value.int .u8), ?_, ?_⟩
    · simp; omega
    · intro h0
      have h0' : 0 < zs.length := by simp at h0; omega
      refine ⟨a', rfl, ?_, ?_⟩
      · have hc0 := hcell 0 h0'
        rw [add_zero] at hc0
        exact block_lt_of_cell hc0
      · intro j u hu
        rw [List.getElem?_map] at hu
        have hj : j < (zs.take len).length := by
          rcases Nat.lt_or_ge j (zs.take len).length with hj | hj
          · exact hj
          · rw [List.getElem?_eq_none hj] at hu; cases hu
        rw [List.getElem?_eq_getElem hj] at hu
        simp at hu hj
        subst hu
        rw [hcell j (by omega)]
        simp [List.getD, List.getElem?_eq_getElem (show j < zs.length by omega)]
    · have : ((zs.take len).map (Value.int .u8)) = ((zs.take len).map fun z => UInt8.ofNat z.toNat).map fun a => .int .u8 (a.toNat : Int) := by
        rw [List.map_map]
        apply List.map_congr_left
        intro z hz
        obtain ⟨u, rfl⟩ := hnum z (List.mem_of_mem_take hz)
        simp
      rw [this]
      exact Rep.u8_mk _ _ _
theorem open_u64 {W : World} {b0 : Nat} {t : TypeId} {v : Value} {d : DataW H} {p : List MemPlace} (ht : P.underlying t = some (.int .u64)) (hv : Value.okWide P W .any b0 t v) (h : DataW.Trod enc P W 0 (fun _ => true) true t v d p) :
    ∃ a : Nat, v = .int .u64 a ∧ a < U64 := by
  obtain ⟨x, rfl, rfl, rfl, wx⟩ := open_int ht hv h
  simp [Lit.wf, IntKind.min, IntKind.max, IntKind.signed, IntKind.bits] at wx
  exact ⟨x.toNat, by rw [Int.toNat_of_nonneg wx.1], by unfold U64; omega⟩
theorem open_u8 {W : World} {b0 : Nat} {t : TypeId} {v : Value} {d : DataW H} {p : List MemPlace} (ht : P.underlying t = some (.int .u8)) (hv : Value.okWide P W .any b0 t v) (h : DataW.Trod enc P W 0 (fun _ => true) true t v d p) :
    ∃ a : Nat, v = .int .u8 a ∧ a < 256 := by
  obtain ⟨x, rfl, rfl, rfl, wx⟩ := open_int ht hv h
  simp [Lit.wf, IntKind.min, IntKind.max, IntKind.signed, IntKind.bits] at wx
  exact ⟨x.toNat, by rw [Int.toNat_of_nonneg wx.1], by omega⟩
theorem open_u16 {W : World} {b0 : Nat} {t : TypeId} {v : Value} {d : DataW H} {p : List MemPlace} (ht : P.underlying t = some (.int .u16)) (hv : Value.okWide P W .any b0 t v) (h : DataW.Trod enc P W 0 (fun _ => true) true t v d p) :
    ∃ a : Nat, v = .int .u16 a ∧ a < 65536 := by
  obtain ⟨x, rfl, rfl, rfl, wx⟩ := open_int ht hv h
  simp [Lit.wf, IntKind.min, IntKind.max, IntKind.signed, IntKind.bits] at wx
  exact ⟨x.toNat, by rw [Int.toNat_of_nonneg wx.1], by omega⟩
theorem open_i64 {W : World} {b0 : Nat} {t : TypeId} {v : Value} {d : DataW H} {p : List MemPlace} (ht : P.underlying t = some (.int .i64)) (hv : Value.okWide P W .any b0 t v) (h : DataW.Trod enc P W 0 (fun _ => true) true t v d p) :
    ∃ a : Int, v = .int .i64 a ∧ -9223372036854775808 ≤ a ∧ a ≤ 9223372036854775807 := by
  obtain ⟨x, rfl, rfl, rfl, wx⟩ := open_int ht hv h
  simp [Lit.wf, IntKind.min, IntKind.max, IntKind.signed, IntKind.bits] at wx
  exact ⟨x, rfl, wx⟩

/-- What a reading of the arguments gives: a value of the Lean type, whose weight the reading's bulk pays. -/
def Tr (enc : TypeId × Value → H) (P : Program) (W : World) {α : Type} (R : Rep α) (e : TypeId) (wt : α → Nat) : Prop :=
  ∀ (fuel : Nat) (cs : List Value) (y : DataW H × List MemPlace), DataW.trod enc P W 0 (fun _ => true) true fuel e cs = some y → ∃ a, R.At W All cs a ∧ wt a ≤ Rows.uptoBulk y.1
theorem bulk_pos (d : DataW H) : 1 ≤ Rows.uptoBulk d := by
  cases d with
  | lit l => cases l <;> simp [Rows.uptoBulk]
  | _ => simp [Rows.uptoBulk]
theorem bulk_app (l r : List (DataW H)) : Rows.uptoBulkAll (l ++ r) = Rows.uptoBulkAll l + Rows.uptoBulkAll r := by
  induction l with
  | nil => simp [Rows.uptoBulkAll]
  | cons x l ih => simp only [List.cons_append, Rows.uptoBulkAll, ih]; omega
theorem Tr.u8 {W : World} {e : TypeId} (ht : P.underlying e = some (.int .u8)) : Tr enc P W Rep.u8 e (fun _ => 1) := by
  intro fuel cs y h
  obtain ⟨n, rfl, rfl, hw⟩ := DataW.trod_int ht h
  simp [Lit.wf, IntKind.min, IntKind.max, IntKind.signed, IntKind.bits] at hw
  refine ⟨UInt8.ofNat n.toNat, ?_, by simp [Rows.uptoBulk]⟩
  show [_] = [_]
  congr 2
  rw [UInt8.toNat_ofNat']; omega
theorem Tr.u64 {W : World} {e : TypeId} (ht : P.underlying e = some (.int .u64)) : Tr enc P W Rep.u64 e (fun _ => 1) := by
  intro fuel cs y h
  obtain ⟨n, rfl, rfl, hw⟩ := DataW.trod_int ht h
  simp [Lit.wf, IntKind.min, IntKind.max, IntKind.signed, IntKind.bits] at hw
  exact ⟨n.toNat, ⟨by rw [Int.toNat_of_nonneg hw.1], by unfold U64; omega⟩, by simp [Rows.uptoBulk]⟩
theorem Tr.int {W : World} {e : TypeId} (ht : P.underlying e = some (.int .i64)) : Tr enc P W Rep.int e (fun _ => 1) := by
  intro fuel cs y h
  obtain ⟨n, rfl, rfl, hw⟩ := DataW.trod_int ht h
  simp [Lit.wf, IntKind.min, IntKind.max, IntKind.signed, IntKind.bits] at hw
  exact ⟨n, ⟨rfl, hw⟩, by simp [Rows.uptoBulk]⟩
theorem tr_row {W : World} {α : Type} {R : Rep α} {wt : α → Nat} (a : Addr) (D : Nat → DataW H) : ∀ len : Nat,
    (∀ i, i < len → ∃ cs, cs.length = R.sz ∧ (∀ j, j < R.sz → W.cell? ((a.add (i * R.sz)).add j) = cs[j]?) ∧ ∃ x, R.At W All cs x ∧ wt x ≤ Rows.uptoBulk (D i)) →
    ∃ (xs : List Value) (l : List α), l.length = len ∧ xs.length = len * R.sz ∧ (∀ j u, xs[j]? = some u → W.cell? (a.add j) = some u) ∧ R.all W All xs l ∧ (l.map wt).sum ≤ Rows.uptoBulkAll ((List.range len).map D)
  | 0, _ => ⟨[], [], rfl, by simp, by simp, rfl, by simp⟩
  | len + 1, h => by
    obtain ⟨xs, l, h1, h2, h3, h4, h5⟩ := tr_row a D len (fun i hi => h i (by omega))
    obtain ⟨cs, hc, hj, x, hx, hw⟩ := h len (by omega)
    refine ⟨xs ++ cs, l ++ [x], by simp [h1], by rw [List.length_append, h2, hc, Nat.succ_mul], ?_, Rep.all_append h4 (Rep.all_one hx), ?_⟩
    · intro j u hu
      rcases Nat.lt_or_ge j xs.length with hl | hl
      · rw [List.getElem?_append_left hl] at hu; exact h3 j u hu
      · rw [List.getElem?_append_right hl] at hu
        have hlt : j - xs.length < cs.length := by
          rcases Nat.lt_or_ge (j - xs.length) cs.length with h | h
          · exact h
          · rw [List.getElem?_eq_none h] at hu; cases hu
        have := hj (j - xs.length) (by omega)
        rw [add_add, ← h2, show xs.length + (j - xs.length) = j from by omega] at this
        rw [this]; exact hu
    · rw [List.range_succ, List.map_append, List.map_append, bulk_app, List.sum_append]
      simp [Rows.uptoBulkAll]
      omega
theorem Tr.slice {W : World} {α : Type} {R : Rep α} {t e : TypeId} {wt : α → Nat} (ht : P.underlying t = some (.slice e)) (hc : P.cellsOf e = R.sz) (h : Tr enc P W R e wt) : Tr enc P W R.slice t (fun l => (l.map wt).sum + 1) := by
  intro fuel cs y hy
  rcases Go.Deep.open_slice ht hy with ⟨rfl, rfl⟩ | ⟨a, len, cap, m, n, D, Pl, rfl, _, hl, hm, hmm, rfl, hx⟩
  · exact ⟨[], ⟨_, rfl, (Sl.nil_ R W All).shut⟩, by simp [Rows.uptoBulk]⟩
  · simp only [if_true] at hmm
    subst hmm
    obtain ⟨xs, l, h1, h2, h3, h4, h5⟩ := tr_row (R := R) (wt := wt) a D len (fun i hi => by
      obtain ⟨cs, hcs, hyi⟩ := hx i (by omega)
      obtain ⟨_, hcl, hat⟩ := World.cells?_some hcs
      rw [hc] at hcl hat
      obtain ⟨x, hx1, hx2⟩ := h _ _ _ hyi
      refine ⟨cs, hcl, fun j hj => ?_, x, hx1, hx2⟩
      exact hat j hj)
    refine ⟨l, ⟨_, rfl, some a, m, xs, by rw [h1], by omega, hm, fun h0 => ⟨a, rfl, trivial, h3⟩, h4⟩, ?_⟩
    simp only [Rows.uptoBulk]
    omega
theorem Tr.arg_slice {W : World} {b0 : Nat} {α : Type} {R : Rep α} {t e : TypeId} {wt : List α → Nat} {v : Value} {d : DataW H} {p : List MemPlace} (ht : P.underlying t = some (.slice e)) (hT : Tr enc P W R.slice t wt)
    (hv : Value.okWide P W .any b0 t v) (h : DataW.Trod enc P W 0 (fun _ => true) true t v d p) : ∃ A n c l, v = .slice A n c ∧ Sl R W All A n c l ∧ wt l ≤ Rows.uptoBulk d := by
  obtain ⟨a, len, cap, rfl⟩ := okWide_slice ht hv
  obtain ⟨fuel, hf⟩ := h
  obtain ⟨l, hl, hw⟩ := hT _ _ _ hf
  obtain ⟨A, n, c, hu, hs⟩ := Rep.slice_open (u := .slice a len cap) (by simpa [Value.cells] using hl)
  exact ⟨A, n, c, l, hu, hs, hw⟩
theorem sum_ones {α : Type} (l : List α) : (l.map fun _ => 1).sum = l.length := by
  induction l with
  | nil => rfl
  | cons x r ih => rw [List.map_cons, List.sum_cons, ih, List.length_cons]; omega
end
end Go.Proofs.YtgfmnpbcbpobbaaDoor
