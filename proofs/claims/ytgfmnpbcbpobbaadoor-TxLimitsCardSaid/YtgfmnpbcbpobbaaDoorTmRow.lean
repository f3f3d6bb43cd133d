/- A typed machine over the abstract machine: how arguments that came in read as plain data; from a law's function to the law's call. No conditions. -/
import Derived.Test.YtgfmnpbcbpobbaaDoorRow
import Derived.Test.YtgfmnpbcbpobbaaDoorKC
import Derived.SizedLaws
namespace Go.Proofs.YtgfmnpbcbpobbaaDoor.Am
open Go Go.ChangeShapes Go.WideShapes Go.ChangeAt Go.RowKit Go.ChangeMaps

/-- The type of data 'u' is the program's type 't'. -/
inductive FOk (f : TypeId → U → Prop) (P : Program) : U → List Field → Nat → Prop where
  | one {u : U} {x : Field} {off : Nat} (ho : x.offset = off) (hc : P.cellsOf x.type = u.size) (hu : f x.type u) : FOk f P u [x] off
  | cons {a b : U} {x y : Field} {xs : List Field} {off : Nat} (ho : x.offset = off) (hc : P.cellsOf x.type = a.size) (ha : f x.type a) (hb : FOk f P b (y :: xs) (off + a.size)) : FOk f P (.pr a b) (x :: y :: xs) off
def inK (k : IntKind) (n : Int) : Prop := k.min ≤ n ∧ n ≤ k.max
def allP {α : Type} (p : α → Prop) (l : List α) : Prop := ∀ x ∈ l, p x
def wfU : (u : U) → u.den → Prop
  | .int k, n => inK k n
  | .byte, _ => True
  | .bool, _ => True
  | .str, l => List.length l ≤ maxLen
  | .sl u, l => List.length l ≤ maxLen ∧ allP (wfU u) l
  | .pr a b, x => wfU a x.1 ∧ wfU b x.2
  | .arr _ u, v => allP (wfU u) (Vector.toList v)
def wtU : (u : U) → u.den → Nat
  | .int _, _ => 1
  | .byte, _ => 1
  | .bool, _ => 1
  | .str, l => List.length l + 1
  | .sl u, l => (List.map (wtU u) l).sum + 1
  | .pr a b, x => wtU a x.1 + wtU b x.2
  | .arr _ u, v => (List.map (wtU u) (Vector.toList v)).sum
/-- The bytes that a datum's cells take, at least; how much the form's own reach lets a string, a slice take. -/
def bytU : U → Nat
  | .int k => k.bits / 8
  | .byte => 1
  | .bool => 1
  | .str => 16
  | .sl _ => 24
  | .pr a b => bytU a + bytU b
  | .arr n u => n * bytU u
def szU : (u : U) → u.den → Prop
  | .int _, _ => True
  | .byte, _ => True
  | .bool, _ => True
  | .str, l => List.length l ≤ reachBytes
  | .sl u, l => List.length l * bytU u ≤ reachBytes ∧ allP (szU u) l
  | .pr a b, x => szU a x.1 ∧ szU b x.2
  | .arr _ u, v => allP (szU u) (Vector.toList v)
/-- Within the form's reach. -/
def InR (ns : List Nat) : Prop := ns.all (· ≤ reachBytes) = true
theorem InR.app {a b : List Nat} (h : InR (a ++ b)) : InR a ∧ InR b := by
  unfold InR at *
  rw [List.all_append, Bool.and_eq_true] at h
  exact h
section
variable {H : Type} (enc : TypeId × Value → H) (P : Program) (W : World)
def Old (b _o : Nat) : Prop := b < W.heap.size
/-- What is read as of type 't' is of the type of data 'u'. -/
def Rd' (t : TypeId) (u : U) : Prop := ∀ (fuel : Nat) (cs : List Value) (y : DataW H × List MemPlace), DataW.trod enc P W 0 (fun _ => true) true fuel t cs = some y → ∃ x : u.den, DVrs (Old W) W (u.enc x) cs ∧ wfU u x ∧ wtU u x ≤ Rows.uptoBulk y.1 ∧ (InR (y.1.weights P t) → szU u x)
end
section
variable {H : Type} {enc : TypeId × Value → H} {P : Program} {W : World}
theorem dv1 {I : Nat → Nat → Prop} {v : Value} (h : v.oneCell' = true) : DVrs I W [.v v] [v] := by
  simp only [DVrs]
  exact ⟨v, [], rfl, ⟨rfl, h⟩, rfl⟩
theorem Rd'.int {t : TypeId} {k : IntKind} (ht : P.underlying t = some (.int k)) : Rd' enc P W t (.int k) := by
  intro fuel cs y h
  obtain ⟨n, rfl, rfl, hw⟩ := DataW.trod_int ht h
  refine ⟨n, dv1 rfl, ?_, ?_⟩
  · show inK k n
    simpa [inK, Lit.wf] using hw
  · exact ⟨by simp [Rows.uptoBulk, wtU], fun _ => trivial⟩
theorem Rd'.byte {t : TypeId} (ht : P.underlying t = some (.int .u8)) : Rd' enc P W t .byte := by
  intro fuel cs y h
  obtain ⟨n, rfl, rfl, hw⟩ := DataW.trod_int ht h
  simp [Lit.wf, IntKind.min, IntKind.max, IntKind.signed, IntKind.bits] at hw
  refine ⟨UInt8.ofNat n.toNat, ?_, trivial, ?_⟩
  · have e : ((UInt8.toNat (UInt8.ofNat n.toNat) : Nat) : Int) = n := ofNat_toNat hw.1 (by omega)
    have : U.byte.enc (UInt8.ofNat n.toNat) = [DV.v (.int .u8 n)] := congrArg (fun m : Int => [DV.v (.int .u8 m)]) e
    rw [this]
    exact dv1 rfl
  · exact ⟨by simp [Rows.uptoBulk, wtU], fun _ => trivial⟩
theorem Rd'.bool {t : TypeId} (ht : P.underlying t = some .bool) : Rd' enc P W t .bool := by
  intro fuel cs y h
  obtain ⟨b, rfl, rfl⟩ := DataW.trod_bool ht h
  exact ⟨b, dv1 rfl, trivial, by simp [Rows.uptoBulk, wtU], fun _ => trivial⟩
theorem Rd'.str {t : TypeId} (ht : P.underlying t = some .string) : Rd' enc P W t .str := by
  intro fuel cs y h
  obtain ⟨s, rfl, rfl, hs⟩ := DataW.trod_string ht h
  refine ⟨s.data.toList, ?_, by show s.data.toList.length ≤ maxLen; rw [Array.length_toList]; exact hs, ?_⟩
  · have e : (⟨s.data.toList.toArray⟩ : ByteArray) = s := by rw [Array.toArray_toList]
    have : U.str.enc s.data.toList = [DV.v (.string s)] := congrArg (fun b => [DV.v (.string b)]) e
    rw [this]
    exact dv1 rfl
  · refine ⟨?_, fun h => ?_⟩
    · show List.length s.data.toList + 1 ≤ _
      simp [Rows.uptoBulk]
    · show s.data.toList.length ≤ reachBytes
      simpa [InR, DataW.weights] using h
theorem wt_sl (u : U) (g : u.den → Nat) (h : ∀ x, wtU u x = g x) (l : List u.den) : wtU (.sl u) l = (l.map g).sum + 1 := by
  show (l.map (wtU u)).sum + 1 = _
  rw [funext h]
theorem bulk_app' (l r : List (DataW H)) : Rows.uptoBulkAll (l ++ r) = Rows.uptoBulkAll l + Rows.uptoBulkAll r := bulk_app l r
theorem inr_all {e : TypeId} : ∀ {l : List (DataW H)}, InR (DataW.weightsAll P e l) → ∀ d ∈ l, InR (d.weights P e)
  | d :: l, h, x, hx => by
    simp only [DataW.weightsAll] at h
    rcases List.mem_cons.1 hx with rfl | hx
    · exact h.app.1
    · exact inr_all h.app.2 x hx
theorem rd_row {u : U} {e : TypeId} (a : Addr) (D : Nat → DataW H) : ∀ len : Nat,
    (∀ i, i < len → ∃ cs, cs.length = u.size ∧ (∀ j, j < u.size → W.cell? ((a.add (i * u.size)).add j) = cs[j]?) ∧ ∃ x : u.den, DVrs (Old W) W (u.enc x) cs ∧ wfU u x ∧ wtU u x ≤ Rows.uptoBulk (D i) ∧ (InR ((D i).weights P e) → szU u x)) →
    ∃ (xs : List Value) (l : List u.den), l.length = len ∧ xs.length = len * u.size ∧ (∀ j v, xs[j]? = some v → W.cell? (a.add j) = some v) ∧ DVee (Old W) W (l.map u.enc) xs ∧ (∀ x ∈ l, wfU u x) ∧ (l.map (wtU u)).sum ≤ Rows.uptoBulkAll ((List.range len).map D) ∧ ((∀ i, i < len → InR ((D i).weights P e)) → ∀ x ∈ l, szU u x)
  | 0, _ => ⟨[], [], rfl, by simp, by simp, rfl, by simp, by simp, by simp⟩
  | len + 1, h => by
    obtain ⟨xs, l, h1, h2, h3, h4, h6, h5, h7⟩ := rd_row a D len (fun i hi => h i (by omega))
    obtain ⟨cs, hc, hj, x, hx, hf, hw, hz⟩ := h len (by omega)
    refine ⟨xs ++ cs, l ++ [x], by simp [h1], by rw [List.length_append, h2, hc, Nat.succ_mul], ?_, ?_, ?_, ?_, ?_⟩
    · intro j v hv
      rcases Nat.lt_or_ge j xs.length with hl | hl
      · rw [List.getElem?_append_left hl] at hv; exact h3 j v hv
      · rw [List.getElem?_append_right hl] at hv
        have hlt : j - xs.length < cs.length := by
          rcases Nat.lt_or_ge (j - xs.length) cs.length with h | h
          · exact h
          · rw [List.getElem?_eq_none h] at hv; cases hv
        have := hj (j - xs.length) (by omega)
        rw [Am.add_add, ← h2, show xs.length + (j - xs.length) = j from by omega] at this
        rw [this]; exact hv
    · rw [List.map_append]
      exact h4.app ⟨cs, [], by simp, hx, rfl⟩
    · intro y hy
      rcases List.mem_append.1 hy with hy | hy
      · exact h6 y hy
      · simp only [List.mem_singleton] at hy; subst hy; exact hf
    · rw [List.range_succ, List.map_append, List.map_append, bulk_app', List.sum_append]
      simp [Rows.uptoBulkAll]
      omega
    · intro hi y hy
      rcases List.mem_append.1 hy with hy | hy
      · exact h7 (fun i hlt => hi i (by omega)) y hy
      · simp only [List.mem_singleton] at hy; subst hy; exact hz (hi len (by omega))
theorem Rd'.sl {u : U} {t e : TypeId} (ht : P.underlying t = some (.slice e)) (hc : P.cellsOf e = u.size) (hz : 0 < u.size) (hby : bytU u ≤ P.bytesOf e) (h : Rd' enc P W e u) : Rd' enc P W t (.sl u) := by
  intro fuel cs y hy
  rcases Go.Deep.open_slice ht hy with ⟨rfl, rfl⟩ | ⟨a, len, cap, m, n, D, Pl, rfl, _, hl, hm, hmm, rfl, hx⟩
  · refine ⟨([] : List u.den), ?_, ?_, ?_⟩
    · show DVrs (Old W) W [.sl []] [.slice none 0 0]
      refine ⟨_, [], rfl, ⟨none, 0, 1, [], rfl, Nat.le_refl _, by simp [maxLen], by omega, by simp, fun h0 => ?_, rfl⟩, rfl⟩
      simp at h0
    · exact ⟨by show (0 : Nat) ≤ maxLen; exact Nat.zero_le _, fun x hx => by cases hx⟩
    · refine ⟨?_, fun _ => ⟨by show 0 * bytU u ≤ reachBytes; omega, fun x hx => by cases hx⟩⟩
      show (List.map (wtU u) ([] : List u.den)).sum + 1 ≤ _
      simp [Rows.uptoBulk]
  · simp only [if_true] at hmm
    subst hmm
    obtain ⟨xs, l, h1, h2, h3, h4, h6, h5, h7⟩ := rd_row (P := P) (e := e) (u := u) a D len (fun i hi => by
      obtain ⟨cs, hcs, hyi⟩ := hx i (by omega)
      obtain ⟨_, hcl, hat⟩ := World.cells?_some hcs
      rw [hc] at hcl hat
      obtain ⟨x, hx1, hx2, hx3, hx4⟩ := h _ _ _ hyi
      exact ⟨cs, hcl, fun j hj => hat j hj, x, hx1, hx2, hx3, hx4⟩)
    refine ⟨l, ?_, ⟨by rw [h1]; exact Nat.le_trans hl hm, h6⟩, ?_⟩
    · show DVrs (Old W) W [.sl (l.map u.enc)] [.slice (some a) len m]
      have hlen : (l.map u.enc).length = len := by rw [List.length_map, h1]
      refine ⟨_, [], rfl, ⟨some a, m, u.size, xs, by rw [hlen], by rw [hlen]; exact hl, hm, hz, fun e he => ?_, fun h0 => ⟨a, rfl, fun j v hv => ⟨h3 j v hv, ?_⟩⟩, h4⟩, rfl⟩
      · obtain ⟨x, _, rfl⟩ := List.mem_map.1 he
        exact u.enc_len x
      · have := block_lt_of_cell (h3 j v hv)
        rw [add_block] at this
        exact this
    · refine ⟨?_, fun hr => ?_⟩
      · show (List.map (wtU u) l).sum + 1 ≤ _
        simp only [Rows.uptoBulk]
        omega
      · simp only [DataW.weights, ht] at hr
        have hr' := InR.app (a := [_]) hr
        have hr2 := hr'.2.app
        refine ⟨?_, h7 fun i hi => inr_all hr2.1 _ (List.mem_map.2 ⟨i, List.mem_range.2 hi, rfl⟩)⟩
        have h0 := hr'.1
        simp only [InR, List.all_cons, List.all_nil, Bool.and_true, decide_eq_true_eq, List.length_map, List.length_range] at h0
        rw [h1]
        refine Nat.le_trans (Nat.mul_le_mul (Nat.le_add_right len _) hby) h0
theorem DVrs.cut {I : Nat → Nat → Prop} {cs : List Value} {a : List DV} (n : Nat) (h : DVrs I W a (cs.take n)) {b : List DV} (k : DVrs I W b (cs.drop n)) : DVrs I W (a ++ b) cs := by
  have := DVrs.app h k
  rwa [List.take_append_drop] at this
theorem rd_fields {n : Nat} {cs : List Value} {u : U} {fs : List Field} {off : Nat} (hf : FOk (fun t u => Rd' enc P W t u) P u fs off) : ∀ {xs : List (DataW H × List MemPlace)}, fs.length = xs.length → off + u.size ≤ cs.length →
    (∀ (i : Nat) (f : Field), fs[i]? = some f → DataW.trod enc P W 0 (fun _ => true) true n f.type ((cs.drop f.offset).take (P.cellsOf f.type)) = xs[i]?) →
    ∃ x : u.den, DVrs (Old W) W (u.enc x) ((cs.drop off).take u.size) ∧ wfU u x ∧ wtU u x ≤ Rows.uptoBulkAll (xs.map (·.1)) ∧ (InR (DataW.weightsEach P (fs.map (·.type)) (xs.map (·.1))) → szU u x) := by
  induction hf with
  | one ho hc hu =>
    intro xs hl _ h
    match xs, hl with
    | [y], _ =>
      have h0 := h 0 _ rfl
      rw [ho, hc] at h0
      obtain ⟨x, h1, h2, h3, h4⟩ := hu _ _ _ h0
      refine ⟨x, h1, h2, by simp only [List.map_cons, List.map_nil, Rows.uptoBulkAll]; omega, fun hr => h4 ?_⟩
      simp only [List.map_cons, List.map_nil, DataW.weightsEach] at hr
      exact hr.app.1
  | @cons a b f g fs off ho hc ha hb ih =>
    intro xs hl hle h
    match xs, hl with
    | y :: ys, hl =>
      have h0 := h 0 _ rfl
      rw [ho, hc] at h0
      have hle' : off + (a.size + b.size) ≤ cs.length := hle
      obtain ⟨x, h1, h2, h3, h4⟩ := ha _ _ _ h0
      obtain ⟨z, k1, k2, k3, k4⟩ := ih (xs := ys) (by simpa using hl) (by omega) (fun i f' hf => h (i + 1) f' (by simpa using hf))
      refine ⟨(x, z), ?_, ⟨h2, k2⟩, ?_, fun hr => ?_⟩
      · show DVrs (Old W) W (a.enc x ++ b.enc z) ((cs.drop off).take (a.size + b.size))
        refine DVrs.cut a.size ?_ ?_
        · rw [List.take_take, Nat.min_eq_left (by omega)]; exact h1
        · rw [List.drop_take, List.drop_drop, Nat.add_sub_cancel_left]; exact k1
      · show wtU a x + wtU b z ≤ _
        simp only [List.map_cons, Rows.uptoBulkAll]
        omega
      · replace hr : InR (y.1.weights P f.type ++ DataW.weightsEach P ((g :: fs).map (·.type)) (ys.map (·.1))) := by
          simpa only [List.map_cons, DataW.weightsEach] using hr
        exact ⟨h4 hr.app.1, k4 hr.app.2⟩
theorem Rd'.st {u : U} {t : TypeId} {fs : Array Field} (ht : P.underlying t = some (.struct fs)) (hc : P.cellsOf t = u.size) (hf : FOk (fun t u => Rd' enc P W t u) P u fs.toList 0) : Rd' enc P W t u := by
  intro fuel cs y h
  obtain ⟨xs, n, _, rfl, hlen, hxl, hx⟩ := DataW.trod_struct ht h
  rw [hc] at hlen
  obtain ⟨x, h1, h2, h3, h4⟩ := rd_fields (n := n) (cs := cs) hf (by rw [hxl]; simp) (by omega) (fun i f hfi => hx i f (by simpa using hfi))
  rw [List.drop_zero, ← hlen, List.take_length] at h1
  refine ⟨x, h1, h2, ?_, fun hr => h4 ?_⟩
  · simp only [Rows.uptoBulk]
    omega
  · simp only [DataW.weights, ht] at hr
    exact hr
theorem rd_arr {u : U} {e : TypeId} {m : Nat} (hc : P.cellsOf e = u.size) (h : Rd' enc P W e u) {cs : List Value} : ∀ (n : Nat) {xs : List (DataW H × List MemPlace)}, xs.length = n → n * u.size ≤ cs.length →
    (∀ i, i < n → DataW.trod enc P W 0 (fun _ => true) true m e ((cs.drop (i * P.cellsOf e)).take (P.cellsOf e)) = xs[i]?) →
    ∃ v : Vector u.den n, DVrs (Old W) W (v.toList.flatMap u.enc) (cs.take (n * u.size)) ∧ (∀ x ∈ v.toList, wfU u x) ∧ (v.toList.map (wtU u)).sum ≤ Rows.uptoBulkAll (xs.map (·.1)) ∧ ((∀ d ∈ xs.map (·.1), InR (d.weights P e)) → ∀ x ∈ v.toList, szU u x)
  | 0, xs, hl, _, _ => ⟨#v[], by simp [DVrs], by simp, by simp, by simp⟩
  | n + 1, xs, hl, hle, hx => by
    rw [Nat.succ_mul] at hle
    have hxs : xs = xs.take n ++ [xs[n]'(by omega)] := by
      rw [← List.take_succ_eq_append_getElem, List.take_of_length_le (by omega)]
    obtain ⟨v, h1, h2, h3, h4⟩ := rd_arr (cs := cs) hc h n (xs := xs.take n) (by simp; omega) (by omega) (fun i hi => by rw [List.getElem?_take_of_lt hi]; exact hx i (by omega))
    have hn := hx n (by omega)
    rw [hc, List.getElem?_eq_getElem (by omega)] at hn
    obtain ⟨x, k1, k2, k3, k4⟩ := h _ _ _ hn
    refine ⟨v.push x, ?_, ?_, ?_, fun hr => ?_⟩
    · rw [Vector.toList_push, List.flatMap_append, List.flatMap_cons, List.flatMap_nil, List.append_nil]
      refine DVrs.cut (n * u.size) ?_ ?_
      · rw [List.take_take, Nat.min_eq_left (Nat.mul_le_mul_right _ (Nat.le_succ n))]; exact h1
      · rw [List.drop_take, Nat.succ_mul, Nat.add_sub_cancel_left]; exact k1
    · intro y hy
      rw [Vector.toList_push] at hy
      rcases List.mem_append.1 hy with hy | hy
      · exact h2 y hy
      · simp only [List.mem_singleton] at hy; subst hy; exact k2
    · rw [Vector.toList_push, List.map_append, List.sum_append]
      rw [hxs, List.map_append, bulk_app']
      simp only [List.map_cons, List.map_nil, List.sum_cons, List.sum_nil, Rows.uptoBulkAll]
      omega
    · intro y hy
      rw [Vector.toList_push] at hy
      rcases List.mem_append.1 hy with hy | hy
      · exact h4 (fun d hd => hr d (by rw [hxs, List.map_append]; exact List.mem_append_left _ hd)) y hy
      · simp only [List.mem_singleton] at hy; subst hy
        exact k4 (hr _ (List.mem_map.2 ⟨_, List.getElem_mem _, rfl⟩))
theorem Rd'.arr {u : U} {n : Nat} {t e : TypeId} (ht : P.underlying t = some (.array n e)) (hc : P.cellsOf e = u.size) (hct : P.cellsOf t = n * u.size) (h : Rd' enc P W e u) : Rd' enc P W t (.arr n u) := by
  intro fuel cs y hy
  obtain ⟨xs, m, _, rfl, hlen, hxl, hx⟩ := DataW.trod_array ht hy
  rw [hct] at hlen
  obtain ⟨v, h1, h2, h3, h4⟩ := rd_arr hc h n hxl (by omega) hx
  rw [← hlen, List.take_length] at h1
  refine ⟨v, h1, h2, ?_, fun hr => h4 ?_⟩
  · show (List.map (wtU u) (Vector.toList v)).sum ≤ _
    simp only [Rows.uptoBulk]
    omega
  · simp only [DataW.weights, ht] at hr
    exact inr_all hr
/-- An argument. -/
theorem arg_one {u : U} {t : TypeId} {v : Value} {d : DataW H} {p : List MemPlace} (hs : u.size = 1) (h : Rd' enc P W t u) (hv : v.cells.toList = [v]) (ht : DataW.Trod enc P W 0 (fun _ => true) true t v d p) :
    ∃ x : u.den, OAr (Old W) W (AT.oa (.c (.d u)) x) v [] ∧ wfU u x ∧ wtU u x ≤ Rows.uptoBulk d ∧ (InR (d.weights P t) → szU u x) := by
  obtain ⟨fuel, hf⟩ := ht
  obtain ⟨x, h1, h2, h3, h4⟩ := h _ _ _ hf
  refine ⟨x, ?_, h2, h3, h4⟩
  rw [hv] at h1
  have hl := u.enc_len x
  rw [hs] at hl
  match he : u.enc x, hl with
  | [c], _ =>
    rw [he] at h1
    simp only [DVrs] at h1
    obtain ⟨y, r, e, h6, h5⟩ := h1
    injection e with e1 e2
    subst e1
    show OAr (Old W) W (.c (oneOC ((u.enc x).map .d))) v []
    rw [he]
    exact ⟨rfl, by assumption⟩
theorem ocs_d {I : Nat → Nat → Prop} : ∀ {ds : List DV} {vs : List Value}, DVrs I W ds vs → OCs I W (ds.map .d) vs []
  | [], vs, h => by simp only [DVrs] at h; subst h; exact ⟨rfl, rfl⟩
  | d :: ds, vs, h => by
    simp only [DVrs] at h
    obtain ⟨x, r, rfl, h1, h2⟩ := h
    exact ⟨x, r, [], [], rfl, ⟨rfl, h1⟩, ocs_d h2, rfl⟩
theorem arg_agg {u : U} {t : TypeId} {v : Value} {d : DataW H} {p : List MemPlace} (h : Rd' enc P W t u) (hv : ∃ cs, v = .agg cs) (ht : DataW.Trod enc P W 0 (fun _ => true) true t v d p) :
    ∃ x : u.den, OAr (Old W) W (AT.oa (.agg (.cons (.d u) .nil)) (x, ())) v [] ∧ wfU u x ∧ wtU u x ≤ Rows.uptoBulk d ∧ (InR (d.weights P t) → szU u x) := by
  obtain ⟨fuel, hf⟩ := ht
  obtain ⟨x, h1, h2, h3, h4⟩ := h _ _ _ hf
  obtain ⟨cs, rfl⟩ := hv
  refine ⟨x, ?_, h2, h3, h4⟩
  show ∃ vs, Value.agg cs = .agg vs ∧ OCs (Old W) W ((u.enc x).map .d ++ []) vs.toList []
  rw [List.append_nil]
  exact ⟨cs, rfl, ocs_d h1⟩
theorem one_of {b0 : Nat} {t : TypeId} {v : Value} (ht : (∃ k, P.underlying t = some (.int k)) ∨ P.underlying t = some .bool ∨ P.underlying t = some .string ∨ ∃ e, P.underlying t = some (.slice e)) (hv : Value.okWide P W .any b0 t v) : v.cells.toList = [v] := by
  rcases ht with ⟨k, ht⟩ | ht | ht | ⟨e, ht⟩ <;> (simp only [Value.okWide, ht, Cell.okWide] at hv; cases v <;> simp_all [Cell.ok, Value.cells])
theorem agg_of {b0 : Nat} {t : TypeId} {v : Value} (ht : (∃ fs, P.underlying t = some (.struct fs)) ∨ ∃ p : Nat × TypeId, P.underlying t = some (.array p.1 p.2)) (hv : Value.okWide P W .any b0 t v) : ∃ cs, v = .agg cs := by
  rcases ht with ⟨fs, ht⟩ | ⟨p, ht⟩ <;> (simp only [Value.okWide, ht] at hv; obtain ⟨cs, h, _⟩ := hv; exact ⟨cs, h⟩)
theorem inr_at {ts : List TypeId} {ds : List (DataW H)} (h : (DataW.weightsEach P ts ds).all (· ≤ reachBytes) = true) {j : Nat} {t : TypeId} {d : DataW H} (ht : ts[j]? = some t) (hd : ds[j]? = some d) : InR (d.weights P t) := by
  unfold InR
  rw [List.all_eq_true]
  exact fun n hn => List.all_eq_true.1 h n (DataW.weights_mem_each ht hd n hn)
theorem oas_nil : OAs (Old W) W [] [] [] := ⟨rfl, rfl⟩
theorem oas_cons {x : OA} {v : Value} {xs : List OA} {vs : List Value} (h : OAr (Old W) W x v []) (k : OAs (Old W) W xs vs []) : OAs (Old W) W (x :: xs) (v :: vs) [] := ⟨v, vs, [], [], rfl, h, k, rfl⟩
/-- A law's function on data that answers true: the call answers true, and leaves old memory alone. -/
theorem law_call {f : FuncId} {S : TFn} (hS : FnT P f S) (_hres : S.res = .cons (.c (.d .bool)) .nil) (args : Array Value) (a : S.args.den) (hgl : Glob (Old W) W) (hargs : OAs (Old W) W (S.args.oas a) args.toList []) {r : S.R} (hr : S.G a = some r) (ht : S.res.oas (S.out r).2 = [.c (.d (.v (.bool true)))]) :
    Calls P f args W fun e W' => e = .returned (.bool true) ∧ Below W.heap.size W W' := by
  refine (hS.ok.calls W (Old W) [] args (S.args.oas a) (fun b o h => h) hgl hargs List.nodup_nil ⟨a, r, rfl, hr⟩).mono fun e W' h => ?_
  cases e with
  | returned v =>
    obtain ⟨I', vs, Fp, Fr', rfl, R⟩ := h
    have h1 := R.res
    rw [TFn.res_of hS.args hr, ht] at h1
    simp only [OAs] at h1
    obtain ⟨x, rs, F1, F2, rfl, h2, ⟨rfl, _⟩, _⟩ := h1
    obtain ⟨_, h3, _⟩ := h2
    subst h3
    exact ⟨rfl, ⟨R.fr.os, R.fr.tape, R.fr.output, R.fr.size, fun k hk => R.fr.block k hk (by simp)⟩⟩
  | panicked c => exact h.elim
  | _ => exact h.elim
end
end Go.Proofs.YtgfmnpbcbpobbaaDoor.Am
