/- Law 10, words, on plain data. No conditions. -/
import Derived.Test.YtaminglbenglfaaDoorPName
import Derived.Test.YtaminglbenglfaaDoorPMemo2
import Derived.Test.YtaminglbenglfaaDoorTmRow
import Derived.Test.YtaminglbenglfaaDoorFAllKmempoollaw10
namespace Go.Proofs.YtaminglbenglfaaDoor.Am
open Go

theorem known10 : Ok (F_mempoollaw10_known.bind fun r => some r) (· = true) := ⟨true, by rw [T_mempoollaw10_known]; rfl, rfl⟩
theorem getD_mem {α : Type} {l : List α} {i : Nat} (d : α) (h : i < l.length) : l.getD i d ∈ l := by
  rw [getD_lt h]; exact List.getElem_mem h
theorem beqB_self (b : Bool) : beqB b b = true := by cases b <;> rfl
theorem words_l2 (L : List (List UInt8)) (hL : L.length = 9) (h : ∀ x ∈ L, x.length ≤ 1000000000000000) : F_mempoollaw10_TxWords_l2s 9 0 L = some true := by
  rw [← ok_eq]
  unfold F_mempoollaw10_TxWords_l2s
  refine ok_range L (fun i (_ : Unit) => (9, ((i : Nat) : Int), L)) (fun i _ => i ≤ 9) (fun i _ hi hv => ?_) (fun _ hv => ?_) (b0 := ()) (by omega) (by omega)
  · have hx := h _ (getD_mem [] hi)
    simp only [F_mempoollaw10_TxWords_l2, name_tx hx, name_ref hx, memo_tx hx, memo_ref hx, beqB_self, wi_succ (i := i) (by omega), ok_sel, ok_chk, ok_bind, ok_some, ok_map, nxt_inl, nxt_inr, decide_eq_true_eq, decide_eq_false_iff_not, Bool.not_eq_true', Bool.not_eq_false', Int.toNat_natCast]
    exact ⟨fun _ => ⟨by omega, by omega, fun h => (by cases h), fun _ => ⟨fun h => (by cases h), fun _ => ⟨(), trivial, by omega⟩⟩⟩, fun h => absurd h (by omega)⟩
  · simp only [F_mempoollaw10_TxWords_l2, ok_sel, ok_chk, ok_bind, ok_some, ok_map, nxt_inl, nxt_inr, decide_eq_true_eq, decide_eq_false_iff_not, Bool.not_eq_true', Bool.not_eq_false', Int.toNat_natCast, hL]
    refine ⟨fun h => absurd h (by omega), fun _ => ?_⟩
    obtain ⟨r, h1, h2⟩ := known10
    rw [T_mempoollaw10_known, ok_some]
theorem four_len (k : Nat) : (List.getD [[(97 : UInt8)], [(195 : UInt8), (169 : UInt8)], [(228 : UInt8), (184 : UInt8), (150 : UInt8)], [(240 : UInt8), (159 : UInt8), (152 : UInt8), (128 : UInt8)]] k []).length ≤ 4 := by
  match k with
  | 0 | 1 | 2 | 3 => decide
  | k + 4 => simp
theorem words_c1 (a0 a1 : List UInt8) (a2 : UInt8) (v : List UInt8) (h0 : a0.length ≤ 100000) (h1 : a1.length ≤ 100000) (hv : v.length ≤ 100000) : Ok (F_mempoollaw10_TxWords_c1 a0 a1 a2 v) (· = true) := by
  have hb := u8_range a2
  have h2 : Int.tmod ((UInt8.toNat a2 : Nat) : Int) 25 = ((UInt8.toNat a2 : Nat) : Int) % 25 := Int.tmod_eq_emod_of_nonneg hb.1
  simp only [F_mempoollaw10_TxWords_c1, h2, ok_chk, decide_eq_true_eq]
  refine ⟨by omega, by omega, by omega, ?_⟩
  rw [ok_eq]
  refine words_l2 _ rfl fun x hx => ?_
  simp only [List.mem_cons, List.not_mem_nil, or_false] at hx
  rcases hx with rfl | rfl | rfl | rfl | rfl | rfl | rfl | rfl | rfl
  · omega
  · omega
  · rw [List.length_append]; omega
  · omega
  · rw [List.length_append]; omega
  · rw [List.length_take]; simp; omega
  · simp
  · simp
  · simp
theorem words_true (a0 a1 : List UInt8) (a2 : UInt8) (_w0 : wfU .str a0) (_w1 : wfU .str a1) (_w2 : wfU .byte a2) (z0 : szU .str a0) (z1 : szU .str a1) (_z2 : szU .byte a2) : F_mempoollaw10_TxWords a0 a1 a2 = some true := by
  rw [← ok_eq]
  have hb := u8_range a2
  have l0 : a0.length ≤ reachBytes := z0
  have l1 : a1.length ≤ reachBytes := z1
  simp only [reachBytes] at l0 l1
  simp only [F_mempoollaw10_TxWords, ok_sel, ok_bind, ok_some, decide_eq_true_eq, decide_eq_false_iff_not]
  refine ⟨fun _ => by rw [T_mempoollaw10_known, ok_some], fun hn => ?_⟩
  have hsum : a0.length + a1.length ≤ 600 := by
    rw [wi64] at hn
    rw [IntKind.wrap_i64] at hn
    omega
  have h2 : Int.tmod ((UInt8.toNat a2 : Nat) : Int) 10 = ((UInt8.toNat a2 : Nat) : Int) % 10 := Int.tmod_eq_emod_of_nonneg hb.1
  have h3 : wi64 (((UInt8.toNat a2 : Nat) : Int) % 10) = ((UInt8.toNat a2 : Nat) : Int) % 10 := by rw [wi64_id] <;> omega
  have h4 : wi64 (60 + ((UInt8.toNat a2 : Nat) : Int) % 10) = 60 + ((UInt8.toNat a2 : Nat) : Int) % 10 := by rw [wi64_id] <;> omega
  have h5 : wi64 ((UInt8.toNat a2 : Nat) : Int) = ((UInt8.toNat a2 : Nat) : Int) := by rw [wi64_id] <;> omega
  unfold F_mempoollaw10_TxWords_l3s
  refine ok_iter (S := List UInt8 × List UInt8 × UInt8 × List UInt8 × Int) (inv := fun v => ∃ (i : Nat) (m : List UInt8), v = (a0, a1, a2, m, ((i : Nat) : Int)) ∧ i ≤ 70 ∧ m.length ≤ 4 * i) (m := fun v => 70 - v.2.2.2.2.toNat) ?_ ⟨0, [], rfl, by omega, by simp⟩ (by simp)
  rintro v ⟨i, m, rfl, hi, hm⟩
  simp only [F_mempoollaw10_TxWords_l3, h2, h3, h4, h5, ok_sel, ok_chk, ok_some, ok_map, nxt_inl, nxt_inr, decide_eq_true_eq, decide_eq_false_iff_not, Int.toNat_natCast]
  refine ⟨fun h => ?_, fun h => ?_⟩
  · have hmul : (0 : Int) ≤ ((i : Nat) : Int) * ((UInt8.toNat a2 : Nat) : Int) ∧ ((i : Nat) : Int) * ((UInt8.toNat a2 : Nat) : Int) ≤ 70 * 256 := by
      refine ⟨Int.mul_nonneg (by omega) (by omega), Int.mul_le_mul (by omega) (by omega) (by omega) (by omega)⟩
    have e1 : wi64 (((i : Nat) : Int) * ((UInt8.toNat a2 : Nat) : Int)) = ((i : Nat) : Int) * ((UInt8.toNat a2 : Nat) : Int) := by rw [wi64_id] <;> omega
    have e2 : Int.tmod (((i : Nat) : Int) * ((UInt8.toNat a2 : Nat) : Int)) 4 = (((i : Nat) : Int) * ((UInt8.toNat a2 : Nat) : Int)) % 4 := Int.tmod_eq_emod_of_nonneg hmul.1
    rw [e1, e2, wi_succ (i := i) (by omega)]
    generalize ((i : Nat) : Int) * ((UInt8.toNat a2 : Nat) : Int) = q at *
    have hf := four_len (Int.toNat (q % 4))
    refine ⟨by omega, by omega, by omega, ⟨i + 1, _, rfl, by omega, ?_⟩, ?_⟩
    · rw [List.length_append]; omega
    · simp only [Int.toNat_natCast]; omega
  · exact words_c1 a0 a1 a2 m (by omega) (by omega) (by omega)
end Go.Proofs.YtaminglbenglfaaDoor.Am
