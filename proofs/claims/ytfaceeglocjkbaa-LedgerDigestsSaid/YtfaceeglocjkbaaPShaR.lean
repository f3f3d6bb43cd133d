/- Leaves, halves, roots: the program's and the document's are the same. No conditions. -/
import Derived.Test.YtfaceeglocjkbaaPShaS
namespace Go.Proofs.Ytfaceeglocjkbaa.Am
open Go

theorem prog_sum {m : List UInt8} (hm : m.length ≤ 140737488354000) : F_sha_Sum m = some (shaF m) := by
  obtain ⟨d0, h0, g0⟩ := new_dig
  obtain ⟨d1, h1, g1⟩ := write_dig (b := m) g0 (by simp only [List.length_nil]; omega)
  rw [List.nil_append] at g1
  unfold F_sha_Sum
  rw [h0, Option.bind_some, h1, Option.bind_some, sum_dig g1 (by omega)]; rfl
def leafF (b : List UInt8) : Vector UInt8 32 := shaF ([(0 : UInt8)] ++ b)
theorem leaf_prog {b : List UInt8} (hm : b.length ≤ 140737488354000) : F_merkle_Leaf b = some (leafF b) := by
  obtain ⟨d0, h0, g0⟩ := new_dig
  obtain ⟨d1, h1, g1⟩ := write_dig (b := [(0 : UInt8)]) g0 (by simp)
  obtain ⟨d2, h2, g2⟩ := write_dig (b := b) g1 (by simp only [List.nil_append, List.length_singleton]; omega)
  unfold F_merkle_Leaf
  rw [h0, Option.bind_some, h1, Option.bind_some, h2, Option.bind_some, sum_dig g2 (by simp only [List.nil_append, List.length_append, List.length_singleton]; omega)]; rfl
theorem leaf_ref {b : List UInt8} (hm : b.length ≤ 140737488354000) : F_mempoolref4_Leaf b = some (leafF b) := by
  unfold F_mempoolref4_Leaf
  rw [decide_eq_true ⟨by unfold LIM; omega, by unfold LEN; omega⟩, chk_t, sha_ref (by simp only [List.length_append, List.length_singleton]; omega)]; rfl
def innerF (a b : Vector UInt8 32) : Vector UInt8 32 := shaF (([(1 : UInt8)] ++ Vector.toList a) ++ Vector.toList b)
theorem inner_prog (a b : Vector UInt8 32) : F_merkle_Inner a b = some (innerF a b) := by
  have la : (Vector.toList a).length = 32 := Vector.length_toList
  have lb : (Vector.toList b).length = 32 := Vector.length_toList
  obtain ⟨d0, h0, g0⟩ := new_dig
  obtain ⟨d1, h1, g1⟩ := write_dig (b := [(1 : UInt8)]) g0 (by simp)
  obtain ⟨d2, h2, g2⟩ := write_dig (b := Vector.toList a) g1 (by rw [la]; simp)
  obtain ⟨d3, h3, g3⟩ := write_dig (b := Vector.toList b) g2 (by rw [List.length_append, la, lb]; simp)
  unfold F_merkle_Inner
  rw [h0, Option.bind_some, h1, Option.bind_some, h2, Option.bind_some, h3, Option.bind_some, sum_dig g3 (by rw [List.length_append, List.length_append, la, lb]; simp)]; rfl
theorem inner_ref (a b : Vector UInt8 32) : F_mempoolref4_Inner a b = some (innerF a b) := by
  have la : (Vector.toList a).length = 32 := Vector.length_toList
  have lb : (Vector.toList b).length = 32 := Vector.length_toList
  have l1 : ([(1 : UInt8)] ++ Vector.toList a).length = 33 := by rw [List.length_append, la]; rfl
  unfold F_mempoolref4_Inner
  rw [la, l1, lb, decide_eq_true ⟨by unfold LIM; omega, by unfold LEN; omega⟩, chk_t, decide_eq_true ⟨by unfold LIM; omega, by unfold LEN; omega⟩, chk_t, sha_ref (by rw [List.length_append, l1, lb]; omega)]; rfl
/-- The number of a number's bits. -/
def BL (n t : Nat) : Prop := 2 ^ (t - 1) ≤ n ∧ n < 2 ^ t ∧ 1 ≤ t
theorem len_c3 : ∃ tab : List UInt8, (∀ v0 v2 : Int, F_math_bits_Len64_c3 v0 v2 = chk (decide ((0 : Int) ≤ (wu8 v0) ∧ (wu8 v0) < 256)) (some (wi64 (v2 + (wi64 ((UInt8.toNat (List.getD tab (Int.toNat (wu8 v0)) (0 : UInt8)) : Nat) : Int)))))) ∧ ∀ k, k < 256 → 1 ≤ k → 2 ^ ((tab.getD k 0).toNat - 1) ≤ k ∧ k < 2 ^ (tab.getD k 0).toNat ∧ 1 ≤ (tab.getD k 0).toNat := ⟨_, fun _ _ => rfl, of_decide_eq_true (by kernel_rfl)⟩
theorem bl_c3 {n : Nat} (h1 : 1 ≤ n) (h2 : n < 256) {c : Nat} (hc : c ≤ 1000) : ∃ t, F_math_bits_Len64_c3 (n : Int) (c : Int) = some ((c + t : Nat) : Int) ∧ BL n t := by
  obtain ⟨tab, e, h⟩ := len_c3
  have hu : wu8 (n : Int) = (n : Int) := wu8_id (by omega) (by omega)
  have hb := h n h2 h1
  have hlt := (tab.getD n 0).toNat_lt
  refine ⟨(tab.getD n 0).toNat, ?_, hb⟩
  rw [e, hu, decide_eq_true (by omega), chk_t, Int.toNat_natCast, wi64_id (n := (((tab.getD n 0).toNat : Nat) : Int)) (by omega) (by omega), wi64_id (by omega) (by omega)]
  congr 1
theorem BL.up {n t : Nat} (s : Nat) (h : BL (n / 2 ^ s) t) : BL n (s + t) := by
  obtain ⟨h1, h2, h3⟩ := h
  have hp : 0 < 2 ^ s := Nat.pow_pos (by omega)
  refine ⟨?_, ?_, by omega⟩
  · have h4 := (Nat.le_div_iff_mul_le hp).1 h1
    rw [← Nat.pow_add] at h4
    rwa [show s + t - 1 = t - 1 + s by omega]
  · have h4 := (Nat.div_lt_iff_lt_mul hp).1 h2
    rw [← Nat.pow_add] at h4
    rwa [Nat.add_comm]
theorem shr_nat (n s : Nat) : (n : Int) / 2 ^ s = ((n / 2 ^ s : Nat) : Int) := by
  rw [Int.natCast_ediv, Int.natCast_pow]; rfl
theorem bl_c2 {n : Nat} (h1 : 1 ≤ n) (h2 : n < 65536) {c : Nat} (hc : c ≤ 900) : ∃ t, F_math_bits_Len64_c2 (n : Int) (c : Int) = some ((c + t : Nat) : Int) ∧ BL n t := by
  unfold F_math_bits_Len64_c2
  by_cases h : 256 ≤ n
  · obtain ⟨t, e, hb⟩ := bl_c3 (n := n / 2 ^ 8) (by omega) (by omega) (c := c + 8) (by omega)
    refine ⟨8 + t, ?_, hb.up 8⟩
    have e0 : (n : Int) / 2 ^ 8 = ((n / 2 ^ 8 : Nat) : Int) := shr_nat n 8
    have e1 : wi64 ((c : Int) + 8) = ((c + 8 : Nat) : Int) := by rw [wi64_id] <;> omega
    have e2 : c + 8 + t = c + (8 + t) := by omega
    rw [decide_eq_true (by omega), sel_t, e0, e1, e, e2]
  · rw [decide_eq_false (by omega), sel_f]
    exact bl_c3 h1 (by omega) (by omega)
theorem bl_c1 {n : Nat} (h1 : 1 ≤ n) (h2 : n < 4294967296) {c : Nat} (hc : c ≤ 800) : ∃ t, F_math_bits_Len64_c1 (n : Int) (c : Int) = some ((c + t : Nat) : Int) ∧ BL n t := by
  unfold F_math_bits_Len64_c1
  by_cases h : 65536 ≤ n
  · obtain ⟨t, e, hb⟩ := bl_c2 (n := n / 2 ^ 16) (by omega) (by omega) (c := c + 16) (by omega)
    refine ⟨16 + t, ?_, hb.up 16⟩
    have e0 : (n : Int) / 2 ^ 16 = ((n / 2 ^ 16 : Nat) : Int) := shr_nat n 16
    have e1 : wi64 ((c : Int) + 16) = ((c + 16 : Nat) : Int) := by rw [wi64_id] <;> omega
    have e2 : c + 16 + t = c + (16 + t) := by omega
    rw [decide_eq_true (by omega), sel_t, e0, e1, e, e2]
  · rw [decide_eq_false (by omega), sel_f]
    exact bl_c2 h1 (by omega) (by omega)
theorem bl_len {n : Nat} (h1 : 1 ≤ n) (h2 : n < 18446744073709551616) : ∃ t, F_math_bits_Len64 (n : Int) = some ((t : Nat) : Int) ∧ BL n t := by
  unfold F_math_bits_Len64
  by_cases h : 4294967296 ≤ n
  · obtain ⟨t, e, hb⟩ := bl_c1 (n := n / 2 ^ 32) (by omega) (by omega) (c := 32) (by omega)
    refine ⟨32 + t, ?_, hb.up 32⟩
    have e0 : (n : Int) / 2 ^ 32 = ((n / 2 ^ 32 : Nat) : Int) := shr_nat n 32
    rw [decide_eq_true (by omega), sel_t, e0]
    exact e
  · rw [decide_eq_false (by omega), sel_f]
    obtain ⟨t, e, hb⟩ := bl_c1 (n := n) h1 (by omega) (c := 0) (by omega)
    refine ⟨t, ?_, hb⟩
    rw [Nat.zero_add] at e
    exact e
theorem pow_uniq {n a b : Nat} (ha : 2 ^ a < n) (ha2 : n ≤ 2 * 2 ^ a) (hb : 2 ^ b < n) (hb2 : n ≤ 2 * 2 ^ b) : a = b := by
  rcases Nat.lt_trichotomy a b with h | h | h
  · have : 2 ^ (a + 1) ≤ 2 ^ b := Nat.pow_le_pow_right (by omega) h
    rw [Nat.pow_succ] at this; omega
  · exact h
  · have : 2 ^ (b + 1) ≤ 2 ^ a := Nat.pow_le_pow_right (by omega) h
    rw [Nat.pow_succ] at this; omega
theorem half_prog {n : Nat} (h1 : 2 ≤ n) (h2 : n ≤ 1000000000000000) : ∃ t, F_merkle_half (n : Int) = some ((2 ^ t : Nat) : Int) ∧ 2 ^ t < n ∧ n ≤ 2 * 2 ^ t := by
  obtain ⟨t, e, b1, b2, b3⟩ := bl_len (n := n - 1) (by omega) (by omega)
  have ht : t - 1 < 60 := by
    rcases Nat.lt_or_ge (t - 1) 60 with h | h
    · exact h
    · have : 2 ^ 60 ≤ 2 ^ (t - 1) := Nat.pow_le_pow_right (by omega) h
      omega
  have hpow : 2 ^ t = 2 * 2 ^ (t - 1) := by
    obtain ⟨q, rfl⟩ : ∃ q, t = q + 1 := ⟨t - 1, by omega⟩
    rw [Nat.add_sub_cancel, Nat.pow_succ]; omega
  have hb : 2 ^ (t - 1) ≤ 2 ^ 59 := Nat.pow_le_pow_right (by omega) (by omega)
  refine ⟨t - 1, ?_, by omega, by omega⟩
  unfold F_merkle_half F_math_bits_Len
  rw [show wu64 (wi64 ((n : Int) - 1)) = ((n - 1 : Nat) : Int) by rw [wi64_id (by omega) (by omega), wu64_id (by omega) (by omega)]; omega, e, Option.bind_some, Option.bind_some, show wi64 (((t : Nat) : Int) - 1) = ((t - 1 : Nat) : Int) by rw [wi64_id] <;> omega, decide_eq_true (by omega), chk_t, Int.toNat_natCast, show min (t - 1) 64 = t - 1 by omega, Int.one_mul]
  rw [show ((2 : Int) ^ (t - 1)) = ((2 ^ (t - 1) : Nat) : Int) by rw [Int.natCast_pow]; rfl, wi64_id (by omega) (by omega)]
theorem half_ref {n : Nat} (h1 : 2 ≤ n) (h2 : n ≤ 1000000000000000) : ∃ t, F_mempoolref4_half (n : Int) = some ((2 ^ t : Nat) : Int) ∧ 2 ^ t < n ∧ n ≤ 2 * 2 ^ t := by
  have : Ok (F_mempoolref4_half (n : Int)) fun r => ∃ t : Nat, r = ((2 ^ t : Nat) : Int) ∧ 2 ^ t < n ∧ n ≤ 2 * 2 ^ t := by
    unfold F_mempoolref4_half F_mempoolref4_half_l1s
    refine ok_iterE (fun k v => ∃ t : Nat, v = ((n : Int), ((2 ^ t : Nat) : Int)) ∧ 2 ^ t < n ∧ k = n - 2 ^ t) ?_ (n := n - 1) ⟨0, rfl, by omega, rfl⟩ (by omega)
    rintro k v ⟨t, rfl, ht, rfl⟩
    have hp : 0 < 2 ^ t := Nat.pow_pos (by omega)
    unfold F_mempoolref4_half_l1
    dsimp only
    rw [wi64_id (n := (n : Int) - ((2 ^ t : Nat) : Int)) (by omega) (by omega), wi64_id (n := ((2 ^ t : Nat) : Int) * 2) (by omega) (by omega), ok_sel]
    refine ⟨fun hc => ?_, fun hc => ?_⟩
    · have hc := of_decide_eq_true hc
      rw [ok_some, nxt_inl]
      have hs : 2 ^ (t + 1) = 2 ^ t * 2 := Nat.pow_succ ..
      exact ⟨n - 2 ^ (t + 1), by omega, t + 1, by rw [hs]; rfl, by omega, rfl⟩
    · have hc := of_decide_eq_false hc
      rw [ok_some, nxt_inr]
      exact ⟨t, rfl, ht, by omega⟩
  obtain ⟨r, e, t, rfl, h⟩ := this
  exact ⟨t, e, h⟩
theorem half_eq {n : Nat} (h1 : 2 ≤ n) (h2 : n ≤ 1000000000000000) : ∃ k : Nat, F_merkle_half (n : Int) = some (k : Int) ∧ F_mempoolref4_half (n : Int) = some (k : Int) ∧ 1 ≤ k ∧ k < n := by
  obtain ⟨a, e1, a1, a2⟩ := half_prog h1 h2
  obtain ⟨b, e2, b1, b2⟩ := half_ref h1 h2
  have := pow_uniq a1 a2 b1 b2
  subst this
  exact ⟨2 ^ a, e1, e2, Nat.pow_pos (by omega), a1⟩
theorem root_eq : ∀ (f : Nat) (l : List (List UInt8)), l.length < f → l.length ≤ 1000000000000000 → (∀ b ∈ l, b.length ≤ 140737488354000) → ∃ r, F_merkle_Root f l = some r ∧ F_mempoolref4_Root f l = some r
  | 0, l, h, _, _ => by omega
  | f + 1, l, h, hl, hb => by
    show ∃ r, F_merkle_Root_body (F_merkle_Root f) l = some r ∧ F_mempoolref4_Root_body (F_mempoolref4_Root f) l = some r
    unfold F_merkle_Root_body F_mempoolref4_Root_body
    by_cases h0 : l.length = 0
    · rw [decide_eq_true (by omega), sel_t, sel_t, prog_sum (by simp), sha_ref (by simp)]
      exact ⟨_, rfl, rfl⟩
    rw [decide_eq_false (by omega), sel_f, sel_f]
    by_cases h1 : l.length = 1
    · have hb0 : (l.getD 0 []).length ≤ 140737488354000 := by rw [getD_lt (by omega)]; exact hb _ (List.getElem_mem _)
      rw [decide_eq_true (by omega), sel_t, sel_t, decide_eq_true (by omega), chk_t, chk_t, leaf_prog hb0, leaf_ref hb0]
      exact ⟨_, rfl, rfl⟩
    rw [decide_eq_false (by omega), sel_f, sel_f]
    obtain ⟨k, e1, e2, k1, k2⟩ := half_eq (n := l.length) (by omega) hl
    have lt : (l.take k).length = k := by rw [List.length_take]; omega
    have ld : (l.drop k).length = l.length - k := List.length_drop
    obtain ⟨r1, p1, q1⟩ := root_eq f (l.take k) (by omega) (by omega) (fun b hx => hb b (List.mem_of_mem_take hx))
    obtain ⟨r2, p2, q2⟩ := root_eq f (l.drop k) (by omega) (by omega) (fun b hx => hb b (List.mem_of_mem_drop hx))
    rw [e1, e2, Option.bind_some, Option.bind_some, decide_eq_true (by omega), chk_t, chk_t, Int.toNat_natCast, Int.toNat_natCast, List.take_length, p1, q1, Option.bind_some, Option.bind_some, decide_eq_true (by omega), chk_t, chk_t, p2, q2, Option.bind_some, Option.bind_some, inner_prog, inner_ref]
    exact ⟨_, rfl, rfl⟩
end Go.Proofs.Ytfaceeglocjkbaa.Am
