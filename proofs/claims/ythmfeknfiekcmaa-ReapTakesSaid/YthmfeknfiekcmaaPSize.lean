/- How many bytes a number and a field take. No conditions. -/
import Derived.Test.YthmfeknfiekcmaaFAll
import Derived.Test.YthmfeknfiekcmaaPLoop
namespace Go.Proofs.Ythmfeknfiekcmaa.Am
open Go

/-- Bytes of a number. -/
def vsz (n : Nat) : Nat := if n < 128 then 1 else vsz (n / 128) + 1
termination_by n
decreasing_by omega
theorem vsz_lt {n : Nat} (h : n < 128) : vsz n = 1 := by rw [vsz, if_pos h]
theorem vsz_ge {n : Nat} (h : ¬ n < 128) : vsz n = vsz (n / 128) + 1 := by rw [vsz, if_neg h]
theorem vsz_le : ∀ (k n : Nat), n < 128 ^ k → 1 ≤ k → vsz n ≤ k := by
  intro k
  induction k with
  | zero => intro n _ h; omega
  | succ k ih =>
    intro n h _
    by_cases h1 : n < 128
    · rw [vsz_lt h1]; omega
    · rw [vsz_ge h1]
      have hk : 1 ≤ k := by
        cases k with
        | zero => simp at h; omega
        | succ k => omega
      have := ih (n / 128) (by rw [Nat.pow_succ] at h; omega) hk
      omega
theorem vsz_pos (n : Nat) : 1 ≤ vsz n := by rw [vsz]; split <;> omega
theorem vsz_64 {n : Nat} (h : n < 18446744073709551616) : vsz n ≤ 10 := vsz_le 10 n (by have : (128 : Nat) ^ 10 = 1180591620717411303424 := by rfl
                                                                                        omega) (by omega)
theorem size_ok {n : Nat} (h : n < 18446744073709551616) : F_varint_Size (n : Int) = some (vsz n : Int) := by
  unfold F_varint_Size F_varint_Size_l1s
  refine ok_eq.1 (ok_iterE (fun k v => ∃ m j : Nat, m = k ∧ m < 18446744073709551616 ∧ j + vsz m = vsz n + 1 ∧ v = ((m : Int), (j : Int))) ?_ ⟨n, 1, rfl, h, by omega, rfl⟩ (by omega))
  rintro k v ⟨m, j, rfl, hm, hj, rfl⟩
  have h10 := vsz_64 h
  have hp := vsz_pos m
  dsimp only
  have w : wi64 ((j : Int) + 1) = ((j + 1 : Nat) : Int) := wi_succ (by omega)
  have e : (m : Int) / 2 ^ 7 = ((m / 128 : Nat) : Int) := by omega
  simp only [F_varint_Size_l1, w, e, ok_sel, ok_some, nxt_inl, nxt_inr, decide_eq_true_eq, decide_eq_false_iff_not]
  refine ⟨fun h1 => ⟨m / 128, by omega, m / 128, j + 1, rfl, by omega, ?_, rfl⟩, fun h1 => ?_⟩
  · rw [vsz_ge (by omega)] at hj; omega
  · rw [vsz_lt (by omega)] at hj; omega
theorem varint_ok {n : Nat} (h : n < 18446744073709551616) : Ok (F_mempoolref1_Varint [] (n : Int)) fun r => r.length = vsz n := by
  unfold F_mempoolref1_Varint
  rw [ok_chk]
  refine ⟨by rfl, ?_⟩
  unfold F_mempoolref1_Varint_l2s
  refine ok_iterE (fun k v => ∃ (m : Nat) (l : List UInt8), m = k ∧ m < 18446744073709551616 ∧ l.length + vsz m = vsz n ∧ v = ((m : Int), l)) ?_ ⟨n, [], rfl, h, by simp, rfl⟩ (by omega)
  rintro k v ⟨m, l, rfl, hm, hj, rfl⟩
  have h10 := vsz_64 h
  have hp := vsz_pos m
  dsimp only
  have e : (m : Int) / 2 ^ 7 = ((m / 128 : Nat) : Int) := by omega
  have hb := IntKind.wrap_u8 (BitVec.toNat (BitVec.ofInt IntKind.u8.bits (wu8 (m : Int)) ||| BitVec.ofInt IntKind.u8.bits 128) : Int)
  have hb2 : 0 ≤ bits .or .u8 (wu8 (m : Int)) 128 ∧ bits .or .u8 (wu8 (m : Int)) 128 < 256 := by
    unfold bits
    rw [IntKind.wrap_u8]
    omega
  have hu := wu8_range (m : Int)
  simp only [F_mempoolref1_Varint_l2, F_mempoolref1_Varint_c1, e, ok_sel, ok_chk, ok_some, ok_map, nxt_inl, nxt_inr, decide_eq_true_eq, decide_eq_false_iff_not]
  refine ⟨fun h1 => ⟨hb2, ⟨by unfold LIM; omega, by unfold LEN; omega⟩, m / 128, by omega, m / 128, _, rfl, by omega, ?_, rfl⟩, fun h1 => ⟨hu, ⟨by unfold LIM; omega, by unfold LEN; omega⟩, ?_⟩⟩
  · rw [vsz_ge (by omega)] at hj; simp; omega
  · rw [vsz_lt (by omega)] at hj; simp; omega
/-- Bytes of a field with 'n' bytes. -/
def fsz (n : Nat) : Nat := 1 + vsz n + n
theorem fsz_le {n : Nat} (h : n < 18446744073709551616) : fsz n ≤ n + 11 := by have := vsz_64 h; unfold fsz; omega
theorem sizeBytes_ok {n : Nat} (h : n < 4611686018427387904) : F_wire_SizeBytes (n : Int) = some (fsz n : Int) := by
  have h1 := vsz_64 (n := n) (by omega)
  have w1 : wu64 (n : Int) = (n : Int) := wu64_id (by omega) (by omega)
  have w2 : wi64 (1 + (vsz n : Int)) = 1 + (vsz n : Int) := wi64_id (by omega) (by omega)
  have w3 : wi64 (1 + (vsz n : Int) + (n : Int)) = 1 + (vsz n : Int) + (n : Int) := wi64_id (by omega) (by omega)
  refine ok_eq.1 ?_
  simp only [F_wire_SizeBytes, w1, size_ok (n := n) (by omega), w2, w3, ok_sel, ok_bind, ok_some, decide_eq_true_eq, decide_eq_false_iff_not]
  refine ⟨fun h => by omega, fun _ => ?_⟩
  unfold fsz; omega
theorem refSizeBytes_ok {n : Nat} (h : n < 4611686018427387904) : F_mempoolref1_SizeBytes (n : Int) = some (fsz n : Int) := by
  have h1 := vsz_64 (n := n) (by omega)
  have w1 : wu64 (n : Int) = (n : Int) := wu64_id (by omega) (by omega)
  have w2 : wi64 (1 + (vsz n : Int)) = 1 + (vsz n : Int) := wi64_id (by omega) (by omega)
  have w3 : wi64 (1 + (vsz n : Int) + (n : Int)) = 1 + (vsz n : Int) + (n : Int) := wi64_id (by omega) (by omega)
  obtain ⟨r, hr, hl⟩ := varint_ok (n := n) (by omega)
  refine ok_eq.1 ?_
  simp only [F_mempoolref1_SizeBytes, F_mempoolref1_SizeVarint, w1, hr, hl, w2, w3, ok_sel, ok_bind, ok_some, decide_eq_true_eq, decide_eq_false_iff_not]
  refine ⟨fun h => by omega, fun _ => ?_⟩
  unfold fsz; omega
end Go.Proofs.Ythmfeknfiekcmaa.Am
