/- 'WireReads' answers true, on plain data. No conditions. -/
import Derived.Test.YtppefbmeogoibaaFWirePlain
import Derived.Test.YtppefbmeogoibaaTmRow
namespace Go.Proofs.Ytppefbmeogoibaa.Am
open Go

theorem samef_refl (p : List D_api_Field) (hp : p.length ≤ 1000000000) : F_mempoolref1_SameFields p p = some true := by
  rw [← ok_eq]
  unfold F_mempoolref1_SameFields F_mempoolref1_SameFields_l1s
  simp only [ok_sel, ok_some, decide_eq_true_eq, decide_eq_false_iff_not, Bool.not_eq_true', Bool.not_eq_false']
  refine ⟨fun h => (h trivial).elim, fun _ => ?_⟩
  refine ok_iter (S := List D_api_Field × List D_api_Field × Int × Int) (inv := fun v => v.1 = p ∧ v.2.1 = p ∧ v.2.2.1 = p.length ∧ 0 ≤ v.2.2.2 ∧ v.2.2.2 ≤ p.length) (m := fun v => ((p.length : Int) - v.2.2.2).toNat) ?_ ⟨rfl, rfl, rfl, by simp, by simp⟩ (by simp; omega)
  rintro ⟨v0, v1, n, i⟩ ⟨h1, h2, h3, hi, hi2⟩
  simp only at h1 h2 h3 hi hi2
  subst h1; subst h2; subst h3
  have ew : i < v1.length → wi64 (i + 1) = i + 1 := fun h => wi64_id (by omega) (by omega)
  simp only [F_mempoolref1_SameFields_l1, F_mempoolref1_SameBytes, Option.bind_some, nxt_inl, nxt_inr, ok_sel, ok_chk, ok_some, decide_eq_true_eq, decide_eq_false_iff_not, Bool.not_eq_true', Bool.not_eq_false', Int.not_lt]
  refine ⟨fun h => ⟨⟨hi, h⟩, ⟨hi, h⟩, fun e => (e trivial).elim, fun _ => ⟨⟨hi, h⟩, ⟨hi, h⟩, fun e => (e trivial).elim, fun _ => ⟨⟨hi, h⟩, ⟨hi, h⟩, fun e => (e trivial).elim, fun _ => ⟨⟨hi, h⟩, ⟨hi, h⟩, fun e => (e trivial).elim, fun _ => ?_⟩⟩⟩⟩, fun _ => trivial⟩
  rw [ew h]
  exact ⟨⟨trivial, trivial, trivial, by omega, by omega⟩, by omega⟩
theorem varint_ok (b : List UInt8) (n : Int) (h0 : 0 ≤ n) (h1 : n < 18446744073709551616) (hb : b.length ≤ 1000000000) : Ok (F_mempoolref1_Varint b n) fun r => r.length ≤ b.length + 10 := by
  unfold F_mempoolref1_Varint F_mempoolref1_Varint_l2s
  simp only [ok_chk, decide_eq_true_eq]
  refine ⟨by unfold LIM LEN; omega, ?_⟩
  refine ok_iter (S := Int × List UInt8) (inv := fun v => ∃ k : Nat, k ≤ 9 ∧ v.2.length = b.length + k ∧ 0 ≤ v.1 ∧ v.1 < 2 ^ (64 - 7 * k)) (m := fun v => (b.length + 10) - v.2.length) ?_ ⟨0, by omega, rfl, h0, h1⟩ (by simp)
  rintro ⟨v, l⟩ ⟨k, hk, hl, hv0, hv⟩
  simp only at hl hv0 hv
  have hb1 := bits_u8 .or (wu8 v) 128
  have hw := wu8_range v
  simp only [F_mempoolref1_Varint_l2, F_mempoolref1_Varint_c1, nxt_inl, nxt_inr, ok_sel, ok_chk, ok_some, ok_map, decide_eq_true_eq, decide_eq_false_iff_not, Int.not_le]
  refine ⟨fun h => ⟨hb1, by unfold LIM LEN; omega, ?_⟩, fun _ => ⟨hw, by unfold LIM LEN; omega, ?_⟩⟩
  · simp only [List.length_append, List.length_cons, List.length_nil]
    have hk9 : k ≤ 8 ∧ v / 2 ^ 7 < 2 ^ (64 - 7 * (k + 1)) := by
      obtain rfl | rfl | rfl | rfl | rfl | rfl | rfl | rfl | rfl | rfl : k = 0 ∨ k = 1 ∨ k = 2 ∨ k = 3 ∨ k = 4 ∨ k = 5 ∨ k = 6 ∨ k = 7 ∨ k = 8 ∨ k = 9 := by omega
      all_goals (simp only [Nat.reduceMul, Nat.reduceSub, Nat.reduceAdd, Int.reducePow] at hv ⊢; omega)
    refine ⟨⟨k + 1, by omega, by omega, Int.ediv_nonneg hv0 (by decide), hk9.2⟩, by omega⟩
  · simp only [List.length_append, List.length_cons, List.length_nil]
    omega
theorem right_ok (f : D_api_Field) : Ok (F_mempoolref1_right f) fun _ => True := by
  unfold F_mempoolref1_right
  simp only [ok_sel, ok_some, decide_eq_true_eq, decide_eq_false_iff_not, Int.not_lt, implies_true, and_self]
theorem fieldF_ok (b : List UInt8) (f : D_api_Field) (hb : b.length ≤ 900000000) (hf : f.2.2.2.length ≤ 50000000) (h0 : 0 ≤ f.2.2.1) (h1 : f.2.2.1 < 18446744073709551616) : Ok (F_mempoolref1_Field b f) fun r => r.1.length ≤ b.length + 20 + f.2.2.2.length := by
  unfold F_mempoolref1_Field
  obtain ⟨r, hr, _⟩ := right_ok f
  have hw1 := wu64_range (wu64 (wu64 f.1 * 8) + wu64 f.2.1)
  have hw2 := wu64_range ((List.length f.2.2.2 : Nat) : Int)
  obtain ⟨r2, hr2, hl2⟩ := varint_ok b _ hw1.1 hw1.2 (by omega)
  obtain ⟨r3, hr3, hl3⟩ := varint_ok r2 _ h0 h1 (by omega)
  obtain ⟨r4, hr4, hl4⟩ := varint_ok r2 _ hw2.1 hw2.2 (by omega)
  simp only [hr, hr2, hr3, hr4, Option.bind_some, ok_sel, ok_chk, ok_some, decide_eq_true_eq, decide_eq_false_iff_not, Bool.not_eq_true', Bool.not_eq_false', List.length_append, List.length_nil]
  refine ⟨fun _ => by omega, fun _ => ⟨fun _ => by omega, fun _ => ⟨by unfold LIM LEN; omega, by omega⟩⟩⟩
def FP (f r : D_api_Field) : Prop := r.2.2.2.length ≤ f.2.2.2.length ∧ (r.2.2.1 = f.2.2.1 ∨ r.2.2.1 = 0)
theorem FP.refl (f : D_api_Field) : FP f f := ⟨Nat.le_refl _, .inl rfl⟩
theorem near3_ok (f : D_api_Field) (x : UInt8) (b d : D_api_Field) (h : FP f b) : Ok (F_mempoollaw3_near_c3 x b d) (FP f) := by
  unfold F_mempoollaw3_near_c3
  simp only [ok_sel, ok_some, decide_eq_true_eq, decide_eq_false_iff_not]
  refine ⟨fun _ => ⟨fun _ => ?_, fun _ => ?_⟩, fun _ => ?_⟩
  · exact ⟨_, rfl, h.1, .inr rfl⟩
  · first | exact h | exact ⟨_, rfl, h⟩
  · first | exact h | exact ⟨_, rfl, h⟩
theorem near_ok (f : D_api_Field) (x : UInt8) : Ok (F_mempoollaw3_near f x) (FP f) := by
  have h2 : ∀ b d, FP f b → Ok (F_mempoollaw3_near_c2 x b d) (FP f) := fun b d h => by
    unfold F_mempoollaw3_near_c2
    simp only [ok_sel, decide_eq_true_eq, decide_eq_false_iff_not]
    exact ⟨fun _ => ⟨fun _ => near3_ok f x _ _ ⟨Nat.zero_le _, h.2⟩, fun _ => near3_ok f x _ _ h⟩, fun _ => near3_ok f x _ _ h⟩
  have h1 : ∀ b d, FP f b → Ok (F_mempoollaw3_near_c1 x b d) (FP f) := fun b d h => by
    unfold F_mempoollaw3_near_c1
    simp only [ok_sel, decide_eq_true_eq, decide_eq_false_iff_not]
    exact ⟨fun _ => h2 _ _ h, fun _ => h2 _ _ h⟩
  unfold F_mempoollaw3_near
  simp only [ok_sel, decide_eq_true_eq, decide_eq_false_iff_not]
  exact ⟨fun _ => h1 _ _ (FP.refl f), fun _ => h1 _ _ (FP.refl f)⟩
theorem big_ok (l : List D_api_Field) (hl : l.length ≤ 1000000000) : Ok (F_mempoollaw3_big l) fun _ => True := by
  unfold F_mempoollaw3_big F_mempoollaw3_big_l1s
  refine ok_iter (S := Int × List D_api_Field × Int × Int) (inv := fun v => v.2.1 = l ∧ v.2.2.1 = l.length ∧ 0 ≤ v.2.2.2 ∧ v.2.2.2 ≤ l.length) (m := fun v => ((l.length : Int) - v.2.2.2).toNat) ?_ ⟨rfl, rfl, by simp, by simp⟩ (by simp; omega)
  rintro ⟨s, v, n, i⟩ ⟨h1, h2, hi, hi2⟩
  simp only at h1 h2 hi hi2
  subst h1; subst h2
  simp only [F_mempoollaw3_big_l1, nxt_inl, nxt_inr, ok_sel, ok_chk, ok_some, decide_eq_true_eq, decide_eq_false_iff_not, Int.not_lt]
  refine ⟨fun h => ⟨⟨hi, h⟩, ?_⟩, fun _ => trivial⟩
  rw [wi64_id (n := i + 1) (by omega) (by omega)]
  exact ⟨⟨trivial, trivial, by omega, by omega⟩, by omega⟩
theorem reads4 (L : List (List UInt8)) (hL : L.length = 4) (h : ∀ x ∈ L, x.length ≤ 1000000000) : F_mempoollaw3_WireReads_l4s 4 0 L = some true := by
  rw [← ok_eq]
  unfold F_mempoollaw3_WireReads_l4s
  refine ok_iter (S := Int × Int × List (List UInt8)) (inv := fun v => v.1 = 4 ∧ 0 ≤ v.2.1 ∧ v.2.1 ≤ 4 ∧ v.2.2 = L) (m := fun v => (4 - v.2.1).toNat) ?_ ⟨rfl, by simp, by simp, rfl⟩ (by simp)
  rintro ⟨n, i, l⟩ ⟨h1, hi, hi2, h2⟩
  simp only at h1 hi hi2 h2
  subst h1; subst h2
  have hx : (List.getD l (Int.toNat i) []).length ≤ 1000000000 := by
    rw [List.getD_eq_getElem?_getD]
    cases e : l[i.toNat]? with
    | none => simp
    | some y => exact h y (List.mem_of_getElem? e)
  obtain ⟨e, r, hr, hr2⟩ := fields_same _ hx
  have hs := samef_refl r.1 (by omega)
  simp only [F_mempoollaw3_WireReads_l4, e, hr, hs, Option.bind_some, F_mempoollaw3_known, nxt_inl, nxt_inr, ok_sel, ok_chk, ok_some, ok_map, decide_eq_true_eq, decide_eq_false_iff_not, Bool.not_eq_true', Bool.not_eq_false', Int.not_lt]
  refine ⟨fun h => ⟨⟨hi, by omega⟩, by omega, fun e => (e trivial).elim, fun _ => ⟨fun e => (e trivial).elim, fun _ => ⟨fun e => by simp at e, fun _ => ?_⟩⟩⟩, fun _ => trivial⟩
  rw [wi64_id (n := i + 1) (by omega) (by omega)]
  exact ⟨⟨trivial, by omega, by omega, trivial⟩, by omega⟩
theorem reads3 (v0 l0 l1 : List UInt8) (h0 : v0.length ≤ 100000000) (h1 : l0.length ≤ 100000000) (h2 : l1.length ≤ 300000000) : F_mempoollaw3_WireReads_c3 v0 l0 l1 = some true := by
  rw [← ok_eq]
  unfold F_mempoollaw3_WireReads_c3
  simp only [ok_chk, decide_eq_true_eq]
  refine ⟨by unfold LIM LEN; omega, by unfold LIM LEN; omega, ?_⟩
  rw [ok_eq]
  refine reads4 _ rfl fun x hx => ?_
  simp only [List.mem_cons, List.not_mem_nil, or_false] at hx
  rcases hx with rfl | rfl | rfl | rfl
  · omega
  · omega
  · omega
  · rw [List.length_append]; omega
theorem reads5 (v0 : List UInt8) (x : UInt8) (k : Int) (c : Bool) (l0 l1 : List UInt8) (h0 : v0.length ≤ 100000000) (h1 : l0.length ≤ 100000000) (h2 : l1.length ≤ 300000000) (hk : 0 ≤ k) (hc : c = true → k < l0.length) (hk2 : k ≤ l0.length) : F_mempoollaw3_WireReads_c5 v0 x k c l0 l1 = some true := by
  rw [← ok_eq]
  unfold F_mempoollaw3_WireReads_c5
  have ew : wi64 (k + 1) = k + 1 := wi64_id (by omega) (by omega)
  simp only [ok_sel, ok_chk, decide_eq_true_eq, ew, drop_take_len, List.length_append, List.length_cons, List.length_nil, List.length_take, List.length_drop]
  refine ⟨fun h => ?_, fun _ => by rw [ok_eq]; exact reads3 v0 l0 l1 h0 h1 h2⟩
  have := hc h
  refine ⟨by omega, by unfold LIM LEN; omega, by unfold LIM LEN; omega, by omega, by unfold LIM LEN; omega, ?_⟩
  rw [ok_eq]
  refine reads3 v0 l0 _ h0 h1 ?_
  simp only [List.length_append, List.length_cons, List.length_nil, List.length_take, List.length_drop]
  omega
theorem reads2 (v0 : List UInt8) (x y : UInt8) (k : Int) (l0 l1 : List UInt8) (h0 : v0.length ≤ 100000000) (h1 : l0.length ≤ 100000000) (h2 : l1.length ≤ 300000000) (hk : 0 ≤ k) (hk2 : k ≤ l0.length) : F_mempoollaw3_WireReads_c2 v0 x y k l0 l1 = some true := by
  rw [← ok_eq]
  unfold F_mempoollaw3_WireReads_c2
  simp only [ok_sel, decide_eq_true_eq, decide_eq_false_iff_not]
  refine ⟨fun _ => ?_, fun _ => ?_⟩
  · rw [ok_eq]; exact reads5 v0 x k _ l0 l1 h0 h1 h2 hk (fun h => of_decide_eq_true h) hk2
  · rw [ok_eq]; exact reads5 v0 x k _ l0 l1 h0 h1 h2 hk (fun h => by cases h) hk2
theorem reads1 (v0 : List UInt8) (a : Int) (x y : UInt8) (l0 : List UInt8) (h0 : v0.length ≤ 100000000) (h1 : l0.length ≤ 100000000) (ha : 0 ≤ a) (ha2 : a ≤ 65535) : F_mempoollaw3_WireReads_c1 v0 a x y l0 = some true := by
  rw [← ok_eq]
  unfold F_mempoollaw3_WireReads_c1
  have e1 : wi64 (((List.length l0 : Nat) : Int) + 1) = l0.length + 1 := wi64_id (by omega) (by omega)
  have e2 : wi64 a = a := wi64_id (by omega) (by omega)
  have e3 : Int.tmod a (l0.length + 1) = a % (l0.length + 1) := Int.tmod_eq_emod_of_nonneg ha
  have e4 := Int.emod_nonneg a (show ((l0.length : Int) + 1) ≠ 0 by omega)
  have e5 := Int.emod_lt_of_pos a (show (0 : Int) < (l0.length : Int) + 1 by omega)
  simp only [ok_sel, ok_chk, decide_eq_true_eq, decide_eq_false_iff_not, Bool.not_eq_true', e1, e2, e3, drop_take_len, List.length_append, List.length_cons, List.length_nil, List.length_take, List.length_drop]
  generalize a % ((l0.length : Int) + 1) = k at *
  refine ⟨by omega, by omega, by unfold LIM LEN; omega, fun _ => ⟨by unfold LIM LEN; omega, by omega, by unfold LIM LEN; omega, ?_⟩, fun _ => ?_⟩
  · rw [ok_eq]
    refine reads2 v0 x y k l0 _ h0 h1 ?_ e4 (by omega)
    simp only [List.length_append, List.length_cons, List.length_nil, List.length_take, List.length_drop]
    omega
  · rw [ok_eq]
    refine reads2 v0 x y k l0 _ h0 h1 ?_ e4 (by omega)
    rw [List.length_take]; omega
def WF (l : List D_api_Field) : Nat := (l.map fun f => f.2.2.2.length + 21).sum
theorem WF_drop {l : List D_api_Field} {i : Nat} (h : i < l.length) : WF (l.drop i) = (List.getD l i d_api_Field).2.2.2.length + 21 + WF (l.drop (i + 1)) := by
  rw [List.drop_eq_getElem_cons h, List.getD_eq_getElem?_getD, List.getElem?_eq_getElem h]
  simp only [WF, List.map_cons, List.sum_cons, Option.getD_some]
theorem reads_true (a0 : List UInt8) (a1 : List D_api_Field) (a2 : Int) (a3 a4 : UInt8) (h0 : a0.length ≤ 100000000) (h1 : a1.length ≤ 1000000000) (hw : WF a1 ≤ 30000000) (hf : ∀ f ∈ a1, 0 ≤ f.2.2.1 ∧ f.2.2.1 < 18446744073709551616) (h2 : 0 ≤ a2) (h3 : a2 ≤ 65535) : F_mempoollaw3_WireReads a0 a1 a2 a3 a4 = some true := by
  rw [← ok_eq]
  unfold F_mempoollaw3_WireReads F_mempoollaw3_WireReads_l6s
  obtain ⟨r, hr, _⟩ := big_ok a1 h1
  simp only [hr, Option.bind_some, F_mempoollaw3_known, ok_sel, ok_some, decide_eq_true_eq, decide_eq_false_iff_not, Int.not_lt]
  refine ⟨fun _ => trivial, fun _ => ⟨fun _ => trivial, fun _ => ?_⟩⟩
  refine ok_iter (S := List UInt8 × Int × UInt8 × UInt8 × List D_api_Field × Int × Int × List UInt8) (inv := fun v => v.1 = a0 ∧ v.2.1 = a2 ∧ v.2.2.1 = a3 ∧ v.2.2.2.1 = a4 ∧ v.2.2.2.2.1 = a1 ∧ v.2.2.2.2.2.1 = a1.length ∧ 0 ≤ v.2.2.2.2.2.2.1 ∧ v.2.2.2.2.2.2.1 ≤ a1.length ∧ v.2.2.2.2.2.2.2.length + WF (a1.drop v.2.2.2.2.2.2.1.toNat) ≤ WF a1)
    (m := fun v => ((a1.length : Int) - v.2.2.2.2.2.2.1).toNat) ?_ ⟨rfl, rfl, rfl, rfl, rfl, rfl, by simp, by simp, by simp⟩ (by simp; omega)
  rintro ⟨v0, v2, v3, v4, v32, v33, i, l⟩ ⟨k1, k2, k3, k4, k5, k6, hi, hi2, hl⟩
  simp only at k1 k2 k3 k4 k5 k6 hi hi2 hl
  subst k1; subst k2; subst k3; subst k4; subst k5; subst k6
  simp only [F_mempoollaw3_WireReads_l6, nxt_inr, ok_sel, ok_chk, ok_map, decide_eq_true_eq, decide_eq_false_iff_not, Int.not_lt]
  refine ⟨fun h => ⟨⟨hi, h⟩, ?_⟩, fun _ => ?_⟩
  · have hlt : i.toNat < v32.length := by omega
    have hd := WF_drop hlt
    have hmem : List.getD v32 i.toNat d_api_Field ∈ v32 := by
      rw [List.getD_eq_getElem?_getD, List.getElem?_eq_getElem hlt]
      exact List.getElem_mem hlt
    obtain ⟨q, hq, hq1, hq2⟩ := near_ok (List.getD v32 i.toNat d_api_Field) 0
    have hv := hf _ hmem
    obtain ⟨w, hw1, hw2⟩ := fieldF_ok l q (by omega) (by omega) (by rcases hq2 with e | e <;> omega) (by rcases hq2 with e | e <;> omega)
    simp only [hq, hw1, Option.bind_some, nxt_inl, ok_some]
    have ew : wi64 (i + 1) = i + 1 := wi64_id (by omega) (by omega)
    rw [ew]
    refine ⟨⟨trivial, trivial, trivial, trivial, trivial, trivial, by omega, by omega, ?_⟩, by omega⟩
    rw [show (i + 1).toNat = i.toNat + 1 from by omega]
    omega
  · rw [reads1 v0 v2 v3 v4 l h0 (by omega) h2 h3, ok_some]

theorem sum_one {α : Type} (l : List α) : (l.map fun _ => 1).sum = l.length := by
  induction l with
  | nil => rfl
  | cons x l ih => rw [List.map_cons, List.sum_cons, ih, List.length_cons]; omega
theorem wt_bytes (l : List UInt8) : wtU (.sl .byte) l = l.length + 1 := congrArg (· + 1) (sum_one l)
theorem wt_field (f : D_api_Field) : wtU U_api_Field f = f.2.2.2.length + 4 := by
  show 1 + (1 + (1 + wtU (.sl .byte) f.2.2.2)) = _
  rw [wt_bytes]; omega
theorem wt_fields (l : List D_api_Field) : l.length ≤ wtU (.sl U_api_Field) l ∧ WF l ≤ 21 * wtU (.sl U_api_Field) l := by
  have e : wtU (.sl U_api_Field) l = (l.map fun f : D_api_Field => f.2.2.2.length + 4).sum + 1 := wt_sl U_api_Field (fun f : D_api_Field => f.2.2.2.length + 4) wt_field l
  rw [e]
  clear e
  unfold WF
  induction l with
  | nil => simp
  | cons x l ih =>
    simp only [List.map_cons, List.sum_cons, List.length_cons]
    omega
theorem reads_law (x0 : List UInt8) (x1 : List D_api_Field) (x2 : Int) (x3 x4 : UInt8) (_ : wfU (.sl .byte) x0) (w1 : wfU (.sl U_api_Field) x1) (w2 : wfU (.int .u16) x2) (_ : wfU .byte x3) (_ : wfU .byte x4)
    (b : wtU (.sl .byte) x0 + (wtU (.sl U_api_Field) x1 + (wtU (.int .u16) x2 + (wtU .byte x3 + wtU .byte x4))) ≤ 1048576) : F_mempoollaw3_WireReads x0 x1 x2 x3 x4 = some true := by
  rw [wt_bytes] at b
  have h1 := wt_fields x1
  have w2 : IntKind.u16.min ≤ x2 ∧ x2 ≤ IntKind.u16.max := w2
  simp [IntKind.min, IntKind.max, IntKind.signed, IntKind.bits] at w2
  refine reads_true x0 x1 x2 x3 x4 (by omega) (by omega) (by omega) (fun f hf => ?_) w2.1 (by omega)
  have h2 : wfU U_api_Field f := w1 f hf
  have h3 : IntKind.u64.min ≤ f.2.2.1 ∧ f.2.2.1 ≤ IntKind.u64.max := h2.2.2.1
  simp [IntKind.min, IntKind.max, IntKind.signed, IntKind.bits] at h3
  omega
end Go.Proofs.Ytppefbmeogoibaa.Am
