/- Messages of fields: the program's leaves and the document's messages are the same. No conditions. -/
import Derived.Test.YtfaceeglocjkbaaPShaR
namespace Go.Proofs.Ytfaceeglocjkbaa.Am
open Go

theorem varint_eq (a : List UInt8) (n : Int) : F_varint_Append a n = F_mempoolref1_Varint a n := by
  have h : F_varint_Append_l2 = F_mempoolref1_Varint_l2 := by kernel_rfl
  unfold F_varint_Append F_mempoolref1_Varint F_varint_Append_l2s F_mempoolref1_Varint_l2s
  rw [h, Nat.zero_add]
theorem bits_u8r (op : BinOp) (a b : Int) : 0 ≤ bits op .u8 a b ∧ bits op .u8 a b < 256 := by
  unfold bits
  rw [IntKind.wrap_u8]
  omega
theorem varint_ok {a : List UInt8} {n : Int} (h0 : 0 ≤ n) (h1 : n < 18446744073709551616) (hl : a.length ≤ 140737488355300) : Ok (F_mempoolref1_Varint a n) fun r => r.length ≤ a.length + 10 := by
  unfold F_mempoolref1_Varint
  rw [decide_eq_true ⟨by unfold LIM; omega, by unfold LEN; omega⟩, chk_t]
  unfold F_mempoolref1_Varint_l2s
  refine ok_iterE (fun k v => ∃ (i m : Nat) (l : List UInt8), v = ((m : Int), l) ∧ i ≤ 9 ∧ k = 10 - i ∧ l.length = a.length + i ∧ m < 2 ^ (64 - 7 * i)) ?_ (n := 10) ⟨0, n.toNat, a, by rw [Int.toNat_of_nonneg h0], by omega, rfl, rfl, by omega⟩ (by omega)
  rintro k v ⟨i, m, l, rfl, hi, rfl, hll, hm⟩
  unfold F_mempoolref1_Varint_l2
  dsimp only
  rw [ok_sel]
  refine ⟨fun hc => ?_, fun hc => ?_⟩
  · have hc := of_decide_eq_true hc
    have hi8 : i ≤ 8 := by
      rcases Nat.lt_or_ge 8 i with h | h
      · have e : i = 9 := by omega
        subst e
        simp only [Nat.reduceMul, Nat.reduceSub, Nat.reducePow] at hm
        omega
      · exact h
    have hdiv : m / 2 ^ 7 < 2 ^ (64 - 7 * (i + 1)) := by
      refine Nat.div_lt_of_lt_mul ?_
      rw [← Nat.pow_add, show 7 + (64 - 7 * (i + 1)) = 64 - 7 * i by omega]
      exact hm
    rw [decide_eq_true (bits_u8r _ _ _), chk_t, decide_eq_true ⟨by unfold LIM; omega, by unfold LEN; omega⟩, chk_t, ok_some, nxt_inl, shr_nat]
    exact ⟨10 - (i + 1), by omega, i + 1, m / 2 ^ 7, _, rfl, by omega, rfl, by rw [List.length_append, List.length_singleton]; omega, hdiv⟩
  · rw [ok_map]
    unfold F_mempoolref1_Varint_c1
    rw [decide_eq_true (wu8_range _), chk_t, decide_eq_true ⟨by unfold LIM; omega, by unfold LEN; omega⟩, chk_t, ok_some, nxt_inr, List.length_append, List.length_singleton]
    omega
/-- Fields with small numbers. -/
def FdOk (f : D_api_Field) : Prop := (1 ≤ f.1 ∧ f.1 ≤ 100) ∧ (f.2.1 = 0 ∨ f.2.1 = 2) ∧ (0 ≤ f.2.2.1 ∧ f.2.2.1 < 18446744073709551616)
theorem fieldB_eq (a : List UInt8) {f : D_api_Field} (h : FdOk f) : F_wire_Append a f = F_mempoolref1_Field a f := by
  obtain ⟨n, k, v, b⟩ := f
  obtain ⟨⟨h1, h2⟩, h3, _⟩ := h
  dsimp only at h1 h2 h3
  have hv : F_wire_valid = F_mempoolref1_right := by kernel_rfl
  have ht : wu64 (wi64 (wi64 (8 * n) + k)) = wu64 (wu64 (wu64 n * 8) + wu64 k) := by
    have hk : 0 ≤ k ∧ k ≤ 2 := by omega
    rw [wi64_id (n := 8 * n) (by omega) (by omega), wi64_id (by omega) (by omega), wu64_id (n := n) (by omega) (by omega), wu64_id (n := n * 8) (by omega) (by omega), wu64_id (n := k) (by omega) (by omega)]
    congr 1
    omega
  unfold F_wire_Append F_mempoolref1_Field F_wire_tag
  dsimp only
  rw [hv, Option.bind_some, ht]
  simp only [varint_eq]
theorem right_ok (f : D_api_Field) : Ok (F_mempoolref1_right f) fun _ => True := by
  unfold F_mempoolref1_right
  simp only [ok_sel, ok_some]
  refine ⟨fun _ => trivial, fun _ => ⟨fun _ => trivial, fun _ => ⟨fun _ => ⟨fun _ => trivial, fun _ => ⟨fun _ => trivial, fun _ => trivial⟩⟩, fun _ => ⟨fun _ => trivial, fun _ => trivial⟩⟩⟩⟩
theorem fieldB_ok {a : List UInt8} {f : D_api_Field} (h : FdOk f) (hl : a.length + f.2.2.2.length ≤ 140737488355100) : Ok (F_mempoolref1_Field a f) fun r => r.1.length ≤ a.length + f.2.2.2.length + 20 := by
  unfold F_mempoolref1_Field
  rw [ok_bind]
  refine (right_ok f).mono fun r1 _ => ?_
  rw [ok_sel]
  refine ⟨fun _ => ?_, fun _ => ?_⟩
  · rw [ok_some]; exact Nat.zero_le _
  rw [ok_bind]
  have hw := wu64_range (wu64 (wu64 f.1 * 8) + wu64 f.2.1)
  refine (varint_ok hw.1 hw.2 (by omega)).mono fun r2 h2 => ?_
  rw [ok_sel]
  refine ⟨fun _ => ?_, fun _ => ?_⟩
  · rw [ok_bind]
    refine (varint_ok h.2.2.1 h.2.2.2 (by omega)).mono fun r3 h3 => ?_
    rw [ok_some]
    dsimp only
    omega
  · rw [ok_bind]
    have hw := wu64_range (((List.length f.2.2.2) : Nat) : Int)
    refine (varint_ok hw.1 hw.2 (by omega)).mono fun r3 h3 => ?_
    rw [decide_eq_true ⟨by unfold LIM; omega, by unfold LEN; omega⟩, chk_t, ok_some]
    dsimp only
    rw [List.length_append]
    omega
theorem leaf_msg {l : List D_api_Field} (h : ∀ f ∈ l, FdOk f) (hl : l.length ≤ 1000) : F_ledger_leaf l = F_mempoolref4_Message l := by
  unfold F_ledger_leaf F_mempoolref4_Message F_ledger_leaf_l1s F_mempoolref4_Message_l1s
  have := iter_bind (G1 := fun v : List D_api_Field × Int × Int × List UInt8 => F_ledger_leaf_l1 v.1 v.2.1 v.2.2.1 v.2.2.2) (G2 := fun v : List D_api_Field × Int × Int × List UInt8 => F_mempoolref4_Message_l1 v.1 v.2.1 v.2.2.1 v.2.2.2) (fun x => x) some (fun v => v.1 = l) (fun x hx => ?_) (x := (l, ((l.length : Nat) : Int), 0, [])) rfl
  · rw [this]
    cases iterO _ _ <;> rfl
  · obtain ⟨l', n, i, b⟩ := x
    have hx : l' = l := hx
    subst hx
    dsimp only
    unfold F_ledger_leaf_l1 F_mempoolref4_Message_l1
    by_cases hi : i < n
    · rw [decide_eq_true hi, sel_t, sel_t]
      by_cases hj : 0 ≤ i ∧ i < ((l'.length : Nat) : Int)
      · have hk : Int.toNat i < l'.length := by omega
        rw [decide_eq_true hj, chk_t, chk_t, getD_lt hk, fieldB_eq b (h _ (List.getElem_mem hk))]
        cases F_mempoolref1_Field b l'[Int.toNat i] with
        | none => exact ⟨rfl, fun y hy => by cases hy⟩
        | some r => exact ⟨rfl, fun y hy => by injection hy with hy; injection hy with hy; subst hy; rfl⟩
      · rw [decide_eq_false hj]
        exact ⟨rfl, fun y hy => by cases hy⟩
    · rw [decide_eq_false hi, sel_f, sel_f]
      exact ⟨rfl, fun y hy => by cases hy⟩
def wtF (l : List D_api_Field) : Nat := (l.map fun f => f.2.2.2.length + 20).sum
theorem wtF_snoc {l : List D_api_Field} {i : Nat} (h : i < l.length) : wtF (l.take (i + 1)) = wtF (l.take i) + (l[i].2.2.2.length + 20) := by
  unfold wtF
  rw [take_succ' h, List.map_append, List.sum_append]
  simp
theorem wtF_le (l : List D_api_Field) (i : Nat) : wtF (l.take i) ≤ wtF l := by
  have : wtF l = wtF (l.take i) + wtF (l.drop i) := by
    unfold wtF
    rw [← List.sum_append, ← List.map_append, List.take_append_drop]
  omega
theorem msg_ok {l : List D_api_Field} (h : ∀ f ∈ l, FdOk f) (hl : l.length ≤ 1000) (hw : wtF l ≤ 140737488355000) : Ok (F_mempoolref4_Message l) fun r => r.length ≤ wtF l := by
  unfold F_mempoolref4_Message F_mempoolref4_Message_l1s
  refine ok_range l (fun i (b : List UInt8) => (l, ((l.length : Nat) : Int), ((i : Nat) : Int), b)) (fun i b => b.length ≤ wtF (l.take i)) (fun i b hi hv => ?_) (fun b hv => ?_) (b0 := []) (Nat.zero_le _) (by omega)
  · have h1 := wtF_snoc hi
    have h2 := wtF_le l (i + 1)
    unfold F_mempoolref4_Message_l1
    dsimp only
    rw [decide_eq_true (by omega : (i : Int) < ((l.length : Nat) : Int)), sel_t, decide_eq_true (by omega : (0 : Int) ≤ (i : Int) ∧ (i : Int) < ((l.length : Nat) : Int)), chk_t, Int.toNat_natCast, getD_lt hi, ok_bind]
    refine (fieldB_ok (h _ (List.getElem_mem hi)) (by omega)).mono fun r hr => ?_
    rw [ok_some, nxt_inl, wi_succ (by omega)]
    exact ⟨_, rfl, by omega⟩
  · rw [List.take_length] at hv
    unfold F_mempoolref4_Message_l1
    dsimp only
    rw [decide_eq_false (by omega), sel_f, ok_some, nxt_inr]
    exact hv
end Go.Proofs.Ytfaceeglocjkbaa.Am
