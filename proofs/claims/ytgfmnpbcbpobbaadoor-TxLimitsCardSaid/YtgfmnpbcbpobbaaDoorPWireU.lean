/- Fields as the program reads and writes them, on plain data. No conditions. -/
import Derived.Test.YtgfmnpbcbpobbaaDoorPWireT
namespace Go.Proofs.YtgfmnpbcbpobbaaDoor.Am
open Go

def toF (f : Fld) : D_api_Field := (f.num, f.kind, ((f.val : Nat) : Int), f.byt)
theorem read_same (b : List UInt8) : F_varint_Read b = F_mempoolref1_Read b := by kernel_rfl
theorem read_rd' (b : List UInt8) (hb : b.length ≤ 1000000000000) : F_varint_Read b = some ((((rd b).1 : Nat) : Int), (((rd b).2.1 : Nat) : Int), (((rd b).2.2 : Nat) : Int)) := (read_same b).trans (read_rd b hb)
theorem bits_u64 (op : BinOp) (a b : Int) : 0 ≤ bits op .u64 a b ∧ bits op .u64 a b < 18446744073709551616 := by
  unfold bits
  rw [IntKind.wrap_u64]
  omega
theorem and7 {n : Int} (h0 : 0 ≤ n) (h1 : n < 18446744073709551616) : bits .and .u64 n 7 = n % 8 := by
  obtain ⟨m, rfl⟩ : ∃ m : Nat, n = m := ⟨n.toNat, by omega⟩
  have hm : m < 2 ^ 64 := by omega
  unfold bits
  rw [IntKind.wrap_u64]
  have e : (BitVec.ofInt IntKind.u64.bits (m : Int) &&& BitVec.ofInt IntKind.u64.bits 7).toNat = m % 8 := by
    have e1 : (BitVec.ofInt IntKind.u64.bits (m : Int)).toNat = m := by
      rw [BitVec.toNat_ofInt]
      show ((m : Int) % ((2 ^ 64 : Nat) : Int)).toNat = m
      omega
    have e2 : (BitVec.ofInt IntKind.u64.bits 7).toNat = 7 := by rfl
    rw [BitVec.toNat_and, e1, e2]
    exact Nat.and_two_pow_sub_one_eq_mod m 3
  simp only [e]
  omega
theorem fld_zero : toF Fld.zero = ((0 : Int), (0 : Int), (0 : Int), []) := rfl
/-- One field is read. -/
theorem read_fld (b : List UInt8) (hb : b.length ≤ 1000000000000) : F_wire_read b = some (toF (rdFld b).1, (((rdFld b).2.1 : Nat) : Int), (((rdFld b).2.2 : Nat) : Int)) := by
  rw [← ok_eq]
  have l1 := rd_lt b
  have l2 := rd_lt (b.drop (rd b).2.1)
  rw [List.length_drop] at l2
  have hr2 := read_rd' (b.drop (rd b).2.1) (by rw [List.length_drop]; omega)
  have e1 := read_rd' b hb
  unfold rdFld
  generalize hq : rd b = q at *
  obtain ⟨t, z, e⟩ := q
  simp only at l1 l2 hr2 e1 ⊢
  generalize hq2 : rd (b.drop z) = q2 at *
  obtain ⟨t2, z2, e2⟩ := q2
  simp only at l2 hr2 ⊢
  unfold U64 at l1 l2
  have e7 : wi64 (bits .and .u64 ((t : Nat) : Int) 7) = ((t % 8 : Nat) : Int) := by rw [and7 (by omega) (by omega), wi64_id] <;> omega
  have e8 : ((t : Nat) : Int) / 2 ^ 3 = ((t / 8 : Nat) : Int) := by omega
  have ez : wi64 (((z : Nat) : Int) + ((z2 : Nat) : Int)) = ((z + z2 : Nat) : Int) := by rw [wi64_id] <;> omega
  have ew : wi64 (((t / 8 : Nat) : Nat) : Int) = ((t / 8 : Nat) : Int) := by rw [wi64_id] <;> omega
  have el : wu64 (((b.length - (z + z2) : Nat) : Nat) : Int) = ((b.length - (z + z2) : Nat) : Int) := by rw [wu64_id] <;> omega
  have c1 : ¬ (t / 8 < 1 ∨ 536870911 < t / 8 ∨ (t % 8 ≠ 0 ∧ t % 8 ≠ 2)) → e = 0 → Ok (F_wire_read_c1 b ((z : Nat) : Int) ((t % 8 : Nat) : Int) ((t / 8 : Nat) : Int) ((0 : Int), (0 : Int), (0 : Int), [])) (· = (toF (if e2 ≠ 0 then (Fld.zero, 0, e2) else if t % 8 = 0 then (⟨(t / 8 : Nat), 0, t2, []⟩, z + z2, 0) else if b.length - z - z2 < t2 then (Fld.zero, 0, 5) else (⟨(t / 8 : Nat), 2, 0, (b.drop (z + z2)).take t2⟩, z + z2 + t2, 0)).1,
      (((if e2 ≠ 0 then (Fld.zero, 0, e2) else if t % 8 = 0 then (⟨(t / 8 : Nat), 0, t2, []⟩, z + z2, 0) else if b.length - z - z2 < t2 then (Fld.zero, 0, 5) else (⟨(t / 8 : Nat), 2, 0, (b.drop (z + z2)).take t2⟩, z + z2 + t2, 0) : Fld × Nat × Nat).2.1 : Nat) : Int),
      (((if e2 ≠ 0 then (Fld.zero, 0, e2) else if t % 8 = 0 then (⟨(t / 8 : Nat), 0, t2, []⟩, z + z2, 0) else if b.length - z - z2 < t2 then (Fld.zero, 0, 5) else (⟨(t / 8 : Nat), 2, 0, (b.drop (z + z2)).take t2⟩, z + z2 + t2, 0) : Fld × Nat × Nat).2.2 : Nat) : Int))) := by
    intro hc he
    simp only [F_wire_read_c1, ok_sel, ok_chk, ok_bind, ok_some, decide_eq_true_eq, decide_eq_false_iff_not, Bool.not_eq_true', Bool.not_eq_false', Int.toNat_natCast, List.take_length, hr2, ez, ew, List.length_drop, el]
    refine ⟨by omega, fun h => ?_, fun h => ⟨fun h1 => ?_, fun h1 => ⟨by omega, fun h2 => ?_, fun h2 => ?_⟩⟩⟩
    · rw [if_pos (by omega)]; rfl
    · rw [if_neg (by omega), if_pos (by omega)]
      rw [show ((t % 8 : Nat) : Int) = 0 from h1]; rfl
    · rw [if_neg (by omega), if_neg (by omega), if_pos (by omega)]; rfl
    · have ht2 : wi64 ((t2 : Nat) : Int) = ((t2 : Nat) : Int) := by rw [wi64_id] <;> omega
      have et : wi64 (((z + z2 : Nat) : Int) + ((t2 : Nat) : Int)) = ((z + z2 + t2 : Nat) : Int) := by rw [wi64_id] <;> omega
      have e82 : t % 8 = 2 := by omega
      simp only [ht2, et, List.length_take, List.length_drop]
      rw [if_neg (by omega), if_neg (by omega), if_neg (by omega)]
      refine ⟨by omega, ⟨by unfold LIM; omega, by unfold LEN; omega⟩, ?_⟩
      rw [e82]; rfl
  simp only [F_wire_read, e1, e7, e8, ok_sel, ok_bind, ok_some, decide_eq_true_eq, decide_eq_false_iff_not, Bool.not_eq_true', Bool.not_eq_false']
  refine ⟨fun h => ?_, fun h => ⟨fun h1 => ?_, fun h1 => ⟨fun h2 => ?_, fun h2 => ⟨fun h3 => ⟨fun h4 => ?_, fun h4 => ?_⟩, fun h3 => ?_⟩⟩⟩⟩
  · rw [if_pos (by omega)]; rfl
  · rw [if_neg (by omega), if_pos (by omega)]; rfl
  · rw [if_neg (by omega), if_pos (by omega)]; rfl
  · rw [if_neg (by omega), if_pos (by omega)]; rfl
  · rw [if_neg (by omega), if_neg (by omega)]; exact c1 (by omega) (by omega)
  · rw [if_neg (by omega), if_neg (by omega)]; exact c1 (by omega) (by omega)
/-- All fields are read. -/
theorem fields_flds (b : List UInt8) (hb : b.length ≤ 1000000000000) : F_wire_Fields b = some ((flds b).1.map toF, (((flds b).2.1 : Nat) : Int), (((flds b).2.2 : Nat) : Int)) := by
  rw [← ok_eq]
  unfold F_wire_Fields F_wire_Fields_l2s
  refine ok_iter (S := List UInt8 × Int × List D_api_Field) (inv := fun v => ∃ (k a : Nat) (acc : List Fld), v = (b, ((a : Nat) : Int), acc.map toF) ∧ a ≤ b.length ∧ b.length < a + k ∧ acc.length ≤ 1024 ∧ fldsF k (b.drop a) a acc = flds b) (m := fun v => ((b.length : Int) - v.2.1).toNat) ?_ ⟨b.length + 1, 0, [], rfl, by omega, by omega, by simp, rfl⟩ (by simp; omega)
  rintro v ⟨k, a, acc, rfl, ha, hk, hacc, hr⟩
  have hone := read_fld (b.drop a) (by rw [List.length_drop]; omega)
  have hbd := rdFld_bounds (b.drop a)
  rw [List.length_drop] at hbd
  cases k with
  | zero => exact absurd hk (by omega)
  | succ k =>
    rw [fldsF] at hr
    simp only [F_wire_Fields_l2, F_wire_Fields_c1, ok_sel, ok_chk, ok_bind, ok_some, ok_map, nxt_inl, nxt_inr, decide_eq_true_eq, decide_eq_false_iff_not, Bool.not_eq_true', Bool.not_eq_false', Int.toNat_natCast, List.take_length, List.length_map, hone]
    refine ⟨fun h => ⟨fun h1 => ?_, fun h1 => ⟨by omega, fun h2 => ?_, fun h2 => ⟨⟨by unfold LIM; omega, by unfold LEN; omega⟩, ?_⟩⟩⟩, fun h => ?_⟩
    · rw [if_neg (by rw [List.length_drop]; omega), if_pos (by omega)] at hr
      rw [← hr]; rfl
    · rw [if_neg (by rw [List.length_drop]; omega), if_neg (by omega), if_pos (by omega)] at hr
      rw [← hr]; rfl
    · rw [if_neg (by rw [List.length_drop]; omega), if_neg (by omega), if_neg (by omega), List.drop_drop] at hr
      have hz := hbd.2.1 (by omega)
      have ew : wi64 (((a : Nat) : Int) + (((rdFld (b.drop a)).2.1 : Nat) : Int)) = ((a + (rdFld (b.drop a)).2.1 : Nat) : Int) := by rw [wi64_id] <;> omega
      rw [ew]
      refine ⟨⟨k, _, acc ++ [(rdFld (b.drop a)).1], by rw [List.map_append]; rfl, by omega, by omega, by simp; omega, hr⟩, by omega⟩
    · rw [if_pos (by rw [List.length_drop]; omega)] at hr
      rw [← hr]; rfl
/-- A field is written. -/
theorem right_ok' (f : Fld) (h : f.ok = true) : F_mempoolref1_right (toF f) = some true ∧ F_wire_valid (toF f) = some true := by
  simp only [Fld.ok, decide_eq_true_eq] at h
  obtain ⟨num, kind, val, byt⟩ := f
  simp only at h
  have d1 : decide (num < 1) = false := decide_eq_false (by omega)
  have d2 : decide (536870911 < num) = false := decide_eq_false (by omega)
  obtain ⟨_, _, ⟨rfl, hl⟩ | ⟨rfl, rfl⟩⟩ := h
  · have hb : byt = [] := List.eq_nil_of_length_eq_zero hl
    subst hb
    unfold F_mempoolref1_right F_wire_valid toF
    simp only [d1, d2, sel_f]
    exact ⟨rfl, rfl⟩
  · unfold F_mempoolref1_right F_wire_valid toF
    simp only [d1, d2, sel_f]
    exact ⟨rfl, rfl⟩
theorem field_ref (b : List UInt8) (f : Fld) (h : f.ok = true) (hv : f.val < U64) (hb : b.length ≤ 100000000000) (hl : f.byt.length ≤ 100000000000) : F_mempoolref1_Field b (toF f) = some (b ++ f.enc, 0) := by
  rw [← ok_eq]
  have ht := Fld.tag_lt f h
  have hr := (right_ok' f h).1
  have h' := h
  simp only [Fld.ok, decide_eq_true_eq] at h'
  have q1 : (toF f).1 = f.num := rfl
  have e1 : wu64 (wu64 (wu64 f.num * 8) + wu64 f.kind) = ((f.tag : Nat) : Int) := by
    rw [ht.2.1, wu64_id (n := f.num) (by omega) (by omega), wu64_id (n := f.kind) (by omega) (by omega), wu64_id (n := f.num * 8) (by omega) (by omega), wu64_id (by omega) (by omega)]
    omega
  have e2 := append_ok b f.tag ht.1 (by omega)
  have l2 := enc_len10 f.tag ht.1
  have e3 := append_ok (b ++ enc f.tag) f.val hv (by rw [List.length_append]; omega)
  have e4 : wu64 ((List.length f.byt : Nat) : Int) = ((f.byt.length : Nat) : Int) := wu64_id (by omega) (by omega)
  have e5 := append_ok (b ++ enc f.tag) f.byt.length (by unfold U64; omega) (by rw [List.length_append]; omega)
  have l5 := enc_len10 f.byt.length (by unfold U64; omega)
  have q3 : (toF f).2.2.1 = ((f.val : Nat) : Int) := rfl
  have q4 : (toF f).2.2.2 = f.byt := rfl
  have q2 : (toF f).2.1 = f.kind := rfl
  simp only [F_mempoolref1_Field, hr, e1, e2, e4, e5, q1, q2, q3, q4, e3, ok_sel, ok_chk, ok_bind, ok_some, decide_eq_true_eq, decide_eq_false_iff_not, Bool.not_eq_true', Bool.not_eq_false', List.length_append]
  refine ⟨fun h => (by cases h), fun _ => ⟨fun hk => ?_, fun hk => ⟨⟨by unfold LIM; omega, by unfold LEN; omega⟩, ?_⟩⟩⟩
  · unfold Fld.enc; rw [if_pos hk, List.append_assoc]
  · unfold Fld.enc; rw [if_neg hk]; simp only [List.append_assoc]
theorem field_wire (b : List UInt8) (f : Fld) (h : f.ok = true) (hv : f.val < U64) (hb : b.length ≤ 100000000000) (hl : f.byt.length ≤ 100000000000) : F_wire_Append b (toF f) = some (b ++ f.enc, 0) := by
  rw [← ok_eq]
  have ht := Fld.tag_lt f h
  have hr := (right_ok' f h).2
  have h' := h
  simp only [Fld.ok, decide_eq_true_eq] at h'
  have e1 : F_wire_tag (toF f) = some ((f.tag : Nat) : Int) := by
    have q1 : (toF f).1 = f.num := rfl
    have q2 : (toF f).2.1 = f.kind := rfl
    unfold F_wire_tag
    rw [q1, q2, ht.2.1, wi64_id (n := 8 * f.num) (by omega) (by omega), wi64_id (by omega) (by omega), wu64_id (by omega) (by omega)]
  have e2 := append_ok b f.tag ht.1 (by omega)
  have l2 := enc_len10 f.tag ht.1
  have e3 := append_ok (b ++ enc f.tag) f.val hv (by rw [List.length_append]; omega)
  have e4 : wu64 ((List.length f.byt : Nat) : Int) = ((f.byt.length : Nat) : Int) := wu64_id (by omega) (by omega)
  have e5 := append_ok (b ++ enc f.tag) f.byt.length (by unfold U64; omega) (by rw [List.length_append]; omega)
  have l5 := enc_len10 f.byt.length (by unfold U64; omega)
  have q3 : (toF f).2.2.1 = ((f.val : Nat) : Int) := rfl
  have q4 : (toF f).2.2.2 = f.byt := rfl
  have q2 : (toF f).2.1 = f.kind := rfl
  simp only [F_wire_Append, hr, e1, append_same, e2, e4, e5, q2, q3, q4, e3, ok_sel, ok_chk, ok_bind, ok_some, decide_eq_true_eq, decide_eq_false_iff_not, Bool.not_eq_true', Bool.not_eq_false', List.length_append]
  refine ⟨fun h => (by cases h), fun _ => ⟨fun hk => ?_, fun hk => ⟨⟨by unfold LIM; omega, by unfold LEN; omega⟩, ?_⟩⟩⟩
  · unfold Fld.enc; rw [if_pos hk, List.append_assoc]
  · unfold Fld.enc; rw [if_neg hk]; simp only [List.append_assoc]
end Go.Proofs.YtgfmnpbcbpobbaaDoor.Am
