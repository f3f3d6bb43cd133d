/- Numbers and fields as the program reads and writes them, on plain data. No conditions. -/
import Derived.Test.YtgfmnpbcbpobbaaDoorFAll
import Derived.Test.YtgfmnpbcbpobbaaDoorPLoop
import Derived.Test.YtgfmnpbcbpobbaaDoorPFld
import Derived.KernelRfl
namespace Go.Proofs.YtgfmnpbcbpobbaaDoor.Am
open Go

theorem u8_back (x : UInt8) : UInt8.ofNat (Int.toNat ((UInt8.toNat x : Nat) : Int)) = x := by rw [Int.toNat_natCast, UInt8.ofNat_toNat]
theorem u8_back' (x : UInt8) : UInt8.ofNat (Int.toNat ((UInt8.toNat x : Nat) : Int)) = x := u8_back x
theorem append_same (b : List UInt8) (n : Int) : F_varint_Append b n = F_mempoolref1_Varint b n := by
  unfold F_varint_Append F_mempoolref1_Varint
  rw [Nat.zero_add]
  rfl
/-- A number is appended. -/
theorem append_ok (b : List UInt8) (n : Nat) (hn : n < U64) (hb : b.length ≤ 1000000000000) : F_mempoolref1_Varint b ((n : Nat) : Int) = some (b ++ enc n) := by
  rw [← ok_eq]
  have h10 := enc_len10 n hn
  unfold F_mempoolref1_Varint F_mempoolref1_Varint_l2s
  rw [ok_chk]
  refine ⟨decide_eq_true (by unfold LIM LEN; omega), ?_⟩
  refine ok_iter (S := Int × List UInt8) (inv := fun v => ∃ m : Nat, v.1 = ((m : Nat) : Int) ∧ m < U64 ∧ v.2 ++ enc m = b ++ enc n) (m := fun v => v.1.toNat) ?_ ⟨n, rfl, hn, rfl⟩ (by unfold U64 at hn; simp only [Int.toNat_natCast]; omega)
  rintro ⟨v, l⟩ ⟨m, rfl, hm, he⟩
  simp only at he
  have hl : l.length + (enc m).length = b.length + (enc n).length := by rw [← List.length_append, he, List.length_append]
  have hw : wu8 ((m : Nat) : Int) = ((m : Nat) : Int) % 256 := by rw [wu8, IntKind.wrap_u8]
  have hx := u8_range (UInt8.ofNat (m % 128 + 128))
  unfold U64 at hm
  simp only [F_mempoolref1_Varint_l2, F_mempoolref1_Varint_c1, hw, or128, ok_sel, ok_chk, ok_some, ok_map, nxt_inl, nxt_inr, decide_eq_true_eq, decide_eq_false_iff_not, Int.toNat_natCast]
  refine ⟨fun h => ⟨hx, ⟨by unfold LIM; omega, by unfold LEN; omega⟩, ?_⟩, fun h => ⟨⟨by omega, by omega⟩, ⟨by unfold LIM; omega, by unfold LEN; omega⟩, ?_⟩⟩
  · have e7 : ((m : Nat) : Int) / 2 ^ 7 = ((m / 128 : Nat) : Int) := by omega
    rw [e7, UInt8.ofNat_toNat]
    rw [enc_ge m (by omega)] at he
    refine ⟨⟨m / 128, rfl, by unfold U64; omega, by rw [← he, List.append_assoc, List.singleton_append]⟩, by simp only [Int.toNat_natCast]; omega⟩
  · have e8 : UInt8.ofNat (Int.toNat (((m : Nat) : Int) % 256)) = UInt8.ofNat m := by
      congr 1; omega
    rw [e8, ← he, enc_lt m (by omega)]
/-- A number is read. -/
theorem read_rd (b : List UInt8) (hb : b.length ≤ 1000000000000) : F_mempoolref1_Read b = some ((((rd b).1 : Nat) : Int), (((rd b).2.1 : Nat) : Int), (((rd b).2.2 : Nat) : Int)) := by
  rw [← ok_eq]
  unfold F_mempoolref1_Read F_mempoolref1_Read_l1s
  refine ok_iter (S := List UInt8 × Int × Int) (inv := fun v => ∃ n i : Nat, v = (b, ((n : Nat) : Int), ((i : Nat) : Int)) ∧ i ≤ 9 ∧ i ≤ b.length ∧ n < 128 ^ i ∧ rdF i n (b.drop i) = rd b) (m := fun v => (10 - v.2.2).toNat) ?_ ⟨0, 0, rfl, by omega, by omega, by simp, rfl⟩ (by simp)
  rintro v ⟨n, i, rfl, hi, hib, hn, hr⟩
  have hw : wi64 (7 * ((i : Nat) : Int)) = ((7 * i : Nat) : Int) := by rw [wi64_id] <;> omega
  have hmin : min (7 * i) 64 = 7 * i := by omega
  by_cases hlt : i < b.length
  · have hd := List.drop_eq_getElem_cons hlt
    rw [hd] at hr
    have hx := (b[i]).toNat_lt
    have hc2 : ∀ (h9 : i = 9 → (b[i]).toNat ≤ 1), ¬ (i = 9 ∧ 1 < (b[i]).toNat) → ¬ (0 < i ∧ (b[i]).toNat = 0) → Ok (F_mempoolref1_Read_c2 b ((n : Nat) : Int) ((i : Nat) : Int)) (Nxt (fun r => r = ((((rd b).1 : Nat) : Int), (((rd b).2.1 : Nat) : Int), (((rd b).2.2 : Nat) : Int))) fun z => (∃ n i : Nat, z = (b, ((n : Nat) : Int), ((i : Nat) : Int)) ∧ i ≤ 9 ∧ i ≤ b.length ∧ n < 128 ^ i ∧ rdF i n (b.drop i) = rd b) ∧ (10 - z.2.2).toNat < (10 - ((i : Nat) : Int)).toNat) := by
      intro h9 c1 c2
      have ho := orshift n (b[i]).toNat i hn hi (by omega) h9
      have ho' : bits .or .u64 ((n : Nat) : Int) (wu64 (wu64 (bits .and .u8 ((UInt8.toNat b[i] : Nat) : Int) 127) * 2 ^ (7 * i))) = ((n + (b[i]).toNat % 128 * 128 ^ i : Nat) : Int) := ho
      rw [rdF, if_neg c1, if_neg c2] at hr
      simp only [F_mempoolref1_Read_c2, hw, hmin, ok_sel, ok_chk, ok_some, nxt_inl, nxt_inr, decide_eq_true_eq, decide_eq_false_iff_not, Int.toNat_natCast, getD_lt hlt, ho', wi_succ (i := i) (by omega)]
      refine ⟨⟨by omega, by omega⟩, by omega, ⟨by omega, by omega⟩, fun h => ?_, fun h => ?_⟩
      · rw [if_pos (by omega)] at hr
        rw [← hr]
        rfl
      · rw [if_neg (by omega)] at hr
        have hi9 : i ≠ 9 := fun e => by have := h9 e; omega
        have h2 : (b[i]).toNat % 128 * 128 ^ i ≤ 127 * 128 ^ i := Nat.mul_le_mul_right _ (by omega)
        refine ⟨⟨_, i + 1, rfl, by omega, by omega, by rw [Nat.pow_succ]; omega, hr⟩, by omega⟩
    have hc3 : ∀ c : Bool, (c = true ↔ (i = 9 ∧ 1 < (b[i]).toNat)) → Ok (F_mempoolref1_Read_c3 b ((n : Nat) : Int) ((i : Nat) : Int) c) (Nxt (fun r => r = ((((rd b).1 : Nat) : Int), (((rd b).2.1 : Nat) : Int), (((rd b).2.2 : Nat) : Int))) fun z => (∃ n i : Nat, z = (b, ((n : Nat) : Int), ((i : Nat) : Int)) ∧ i ≤ 9 ∧ i ≤ b.length ∧ n < 128 ^ i ∧ rdF i n (b.drop i) = rd b) ∧ (10 - z.2.2).toNat < (10 - ((i : Nat) : Int)).toNat) := by
      intro c hc
      simp only [F_mempoolref1_Read_c3, ok_sel, ok_chk, ok_some, nxt_inr, decide_eq_true_eq, decide_eq_false_iff_not, Int.toNat_natCast, getD_lt hlt]
      refine ⟨fun h => ?_, fun h => ⟨fun h0 => ⟨⟨by omega, by omega⟩, fun h1 => ?_, fun h1 => ?_⟩, fun h0 => ?_⟩⟩
      · rw [rdF, if_pos (hc.1 h)] at hr
        rw [← hr]; rfl
      · rw [rdF, if_neg (fun q => by rw [hc.2 q] at h; cases h), if_pos ⟨by omega, by omega⟩] at hr
        rw [← hr]; rfl
      · have q : ¬ (i = 9 ∧ 1 < (b[i]).toNat) := fun q => by rw [hc.2 q] at h; cases h
        exact hc2 (fun e => by omega) q (fun q2 => h1 (by omega))
      · have q : ¬ (i = 9 ∧ 1 < (b[i]).toNat) := fun q => by rw [hc.2 q] at h; cases h
        exact hc2 (fun e => by omega) q (fun q2 => h0 (by omega))
    simp only [F_mempoolref1_Read_l1, ok_sel, ok_chk, ok_some, nxt_inr, decide_eq_true_eq, decide_eq_false_iff_not, Int.toNat_natCast, getD_lt hlt]
    refine ⟨fun h => absurd h (by omega), fun _ => ⟨fun h9 => ⟨⟨by omega, by omega⟩, hc3 _ ?_⟩, fun h9 => hc3 _ ?_⟩⟩
    · rw [decide_eq_true_eq]; omega
    · exact ⟨(fun h => by cases h), fun h => absurd h.1 (by omega)⟩
  · simp only [F_mempoolref1_Read_l1, ok_sel, ok_chk, ok_some, nxt_inr, decide_eq_true_eq, decide_eq_false_iff_not, Int.toNat_natCast]
    refine ⟨fun _ => ?_, fun h => absurd h (by omega)⟩
    rw [List.drop_of_length_le (by omega), rdF] at hr
    rw [← hr]; rfl
end Go.Proofs.YtgfmnpbcbpobbaaDoor.Am
