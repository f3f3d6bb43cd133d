/- Numbers as bytes: the plain laws of the encoding (no program in sight). No conditions. -/
import Derived.Laws.BitsAllLaws
import Derived.Laws.Bits64
import Derived.Test.YtgfmnpbcbpobbaaDoorKC
namespace Go.Proofs.YtgfmnpbcbpobbaaDoor.Am
open Go

def U64 : Nat := 18446744073709551616

/-- The encoding of a number. -/
def encF : Nat → Nat → List UInt8
  | 0, _ => []
  | k + 1, n => if n < 128 then [UInt8.ofNat n] else UInt8.ofNat (n % 128 + 128) :: encF k (n / 128)
def enc (n : Nat) : List UInt8 := encF (n + 1) n
theorem encF_more : ∀ (k j n : Nat), n < k → n < j → encF k n = encF j n
  | 0, _, _, h, _ => by omega
  | _, 0, _, _, h => by omega
  | k + 1, j + 1, n, h, h' => by
    simp only [encF]
    by_cases h1 : n < 128
    · rw [if_pos h1, if_pos h1]
    · rw [if_neg h1, if_neg h1, encF_more k j (n / 128) (by omega) (by omega)]
theorem or128 (m : Nat) : bits .or .u8 ((m : Int) % 256) 128 = ((UInt8.ofNat (m % 128 + 128)).toNat : Int) := by
  have h : ∀ x : Fin 256, bits .or .u8 ((x.val : Nat) : Int) 128 = ((x.val % 128 + 128 : Nat) : Int) := by decide +kernel
  have := h ⟨m % 256, by omega⟩
  have e : ((m : Int) % 256) = ((m % 256 : Nat) : Int) := by omega
  rw [e, this]
  have e2 : m % 256 % 128 = m % 128 := by omega
  rw [UInt8.toNat_ofNat']
  simp only [e2]
  omega
theorem toNat_small (m : Nat) (h : m < 256) : (m : Int) = ((UInt8.ofNat m).toNat : Int) := by
  rw [UInt8.toNat_ofNat']; omega
theorem mod256 (m : Nat) : ((m : Int) % 256) = ((UInt8.ofNat m).toNat : Int) := by
  rw [UInt8.toNat_ofNat']; omega
theorem enc_ge (n : Nat) (h : 128 ≤ n) : enc n = UInt8.ofNat (n % 128 + 128) :: enc (n / 128) := by
  rw [enc, encF, if_neg (by omega), enc, encF_more n (n / 128 + 1) (n / 128) (by omega) (by omega)]
theorem enc_lt (n : Nat) (h : n < 128) : enc n = [UInt8.ofNat n] := by rw [enc, encF, if_pos h]
theorem enc_len : ∀ (k n : Nat), 0 < k → n < 128 ^ k → (enc n).length ≤ k := by
  intro k
  induction k with
  | zero => intro n h; omega
  | succ k ih =>
    intro n _ h
    by_cases h1 : n < 128
    · rw [enc_lt n h1]; simp
    · rw [enc_ge n (by omega), List.length_cons]
      have : n / 128 < 128 ^ k := by rw [Nat.pow_succ] at h; omega
      have hk : 0 < k := by
        rcases Nat.eq_zero_or_pos k with h0 | h0
        · subst h0; simp at this; omega
        · exact h0
      have := ih (n / 128) hk this
      omega
theorem enc_len10 (n : Nat) (h : n < U64) : (enc n).length ≤ 10 := enc_len 10 n (by omega) (by unfold U64 at h; omega)

/-- What 'Read' returns: the number, the size, the error. -/
def rdF : Nat → Nat → List UInt8 → Nat × Nat × Nat
  | _, _, [] => (0, 0, 5)
  | i, n, x :: r => if i = 9 ∧ 1 < x.toNat then (0, 0, 6) else if 0 < i ∧ x.toNat = 0 then (0, 0, 4) else
    if x.toNat < 128 then (n + x.toNat % 128 * 128 ^ i, i + 1, 0) else rdF (i + 1) (n + x.toNat % 128 * 128 ^ i) r
def rd (l : List UInt8) : Nat × Nat × Nat := rdF 0 0 l

theorem pow128 (k : Nat) : 2 ^ (7 * k) = 128 ^ k := by rw [Nat.pow_mul]
theorem pow128_le (k : Nat) (hk : k ≤ 9) : 128 ^ k ≤ 9223372036854775808 := by
  have := Nat.pow_le_pow_right (n := 128) (by omega) hk
  exact Nat.le_trans this (by decide)
theorem part_le (y k : Nat) (hk : k ≤ 9) (h9 : k = 9 → y ≤ 1) : y % 128 * 128 ^ k ≤ 9223372036854775808 := by
  by_cases h : k = 9
  · subst h
    have := h9 rfl
    have h2 : y % 128 ≤ 1 := by omega
    calc y % 128 * 128 ^ 9 ≤ 1 * 128 ^ 9 := Nat.mul_le_mul_right _ h2
      _ ≤ _ := by decide
  · have h1 : 128 ^ k ≤ 128 ^ 8 := Nat.pow_le_pow_right (by omega) (by omega)
    calc y % 128 * 128 ^ k ≤ 128 * 128 ^ 8 := Nat.mul_le_mul (by omega) h1
      _ ≤ _ := by decide
theorem orshift (m y k : Nat) (hm : m < 128 ^ k) (hk : k ≤ 9) (hy : y < 256) (h9 : k = 9 → y ≤ 1) :
    bits .or .u64 (m : Int) (IntKind.u64.wrap (IntKind.u64.wrap (bits .and .u8 (y : Int) 127) * 2 ^ (7 * k))) = ((m + y % 128 * 128 ^ k : Nat) : Int) := by
  have h1 := part_le y k hk h9
  have h2 := pow128_le k hk
  have e1 : bits .and .u8 (y : Int) 127 = ((y % 128 : Nat) : Int) := by
    have := u8_and_nat y 127 hy (by omega)
    rw [nat_mask7] at this
    exact this
  rw [e1, IntKind.wrap_u64, IntKind.wrap_u64]
  have e2 : ((y % 128 : Nat) : Int) % 18446744073709551616 = ((y % 128 : Nat) : Int) := by omega
  rw [e2]
  have e3 : ((y % 128 : Nat) : Int) * 2 ^ (7 * k) = ((y % 128 * 128 ^ k : Nat) : Int) := by
    rw [← pow128]; simp
  rw [e3]
  have e4 : ((y % 128 * 128 ^ k : Nat) : Int) % 18446744073709551616 = ((y % 128 * 128 ^ k : Nat) : Int) := by
    generalize y % 128 * 128 ^ k = q at *
    omega
  rw [e4, u64_or_nat m _ (by omega) (by omega), Nat.or_comm, nat_join (7 * k) _ _ (by rw [pow128]; exact Nat.mul_mod_left _ _) (by rw [pow128]; exact hm), Nat.add_comm]

theorem u8_128 (m : Nat) : (UInt8.ofNat (m % 128 + 128)).toNat = m % 128 + 128 := by rw [UInt8.toNat_ofNat']; omega
theorem u8_small (m : Nat) (h : m < 128) : (UInt8.ofNat m).toNat = m := by rw [UInt8.toNat_ofNat']; omega
theorem digits (m p : Nat) : m % 128 * p + m / 128 * (p * 128) = m * p := by
  have h : m = 128 * (m / 128) + m % 128 := by omega
  have : m / 128 * (p * 128) = 128 * (m / 128) * p := by rw [Nat.mul_comm p 128, ← Nat.mul_assoc, Nat.mul_comm (m / 128) 128]
  rw [this, ← Nat.add_mul, Nat.add_comm]
  conv => rhs; rw [h]
theorem nine (m : Nat) (h : m * 128 ^ 9 < U64) : m ≤ 1 := by
  have : (128 : Nat) ^ 9 = 9223372036854775808 := by decide
  rw [this] at h; unfold U64 at h; omega
/-- Read inverts the encoding, whatever follows. -/
theorem rdF_enc (t : List UInt8) : ∀ (k m i n : Nat), m < k → i ≤ 9 → (i = 0 ∨ 0 < m) → m * 128 ^ i < U64 → rdF i n (enc m ++ t) = (n + m * 128 ^ i, i + (enc m).length, 0)
  | 0, _, _, _, h, _, _, _ => by omega
  | k + 1, m, i, n, hk, hi, h0, hb => by
    by_cases h1 : m < 128
    · rw [enc_lt m h1, List.singleton_append, rdF, u8_small m h1]
      have h9 : ¬ (i = 9 ∧ 1 < m) := by rintro ⟨rfl, h⟩; have := nine m hb; omega
      rw [if_neg h9, if_neg (by omega), if_pos h1, Nat.mod_eq_of_lt h1]
      rfl
    · rw [enc_ge m (by omega), List.cons_append, rdF, u8_128]
      have hi9 : i ≠ 9 := by rintro rfl; have := nine m hb; omega
      rw [if_neg (by omega), if_neg (by omega), if_neg (by omega)]
      have e : (m % 128 + 128) % 128 = m % 128 := by omega
      have hd := digits m (128 ^ i)
      rw [e, rdF_enc t k (m / 128) (i + 1) _ (by omega) (by omega) (by omega) (by rw [Nat.pow_succ]; omega), Nat.pow_succ, List.length_cons, Nat.add_assoc, hd, Nat.add_assoc, Nat.add_comm 1]
theorem rd_enc (n : Nat) (t : List UInt8) (h : n < U64) : rd (enc n ++ t) = (n, (enc n).length, 0) := by
  rw [rd, rdF_enc t (n + 1) n 0 0 (by omega) (by omega) (.inl rfl) (by simpa using h)]; simp
/-- Shorter prefixes cannot be read. -/
theorem rdF_cut : ∀ (k m i n j : Nat), m < k → i ≤ 9 → (i = 0 ∨ 0 < m) → m * 128 ^ i < U64 → j < (enc m).length → rdF i n ((enc m).take j) = (0, 0, 5)
  | 0, _, _, _, _, h, _, _, _, _ => by omega
  | k + 1, m, i, n, 0, hk, hi, h0, hb, hj => by rw [List.take_zero, rdF]
  | k + 1, m, i, n, j + 1, hk, hi, h0, hb, hj => by
    by_cases h1 : m < 128
    · rw [enc_lt m h1] at hj; simp at hj
    · rw [enc_ge m (by omega)] at hj ⊢
      rw [List.take_succ_cons, rdF, u8_128]
      have hi9 : i ≠ 9 := by rintro rfl; have := nine m hb; omega
      rw [if_neg (by omega), if_neg (by omega), if_neg (by omega)]
      have hd := digits m (128 ^ i)
      exact rdF_cut k (m / 128) (i + 1) _ j (by omega) (by omega) (by omega) (by rw [Nat.pow_succ]; omega) (by simpa using hj)
theorem rd_cut (n j : Nat) (h : n < U64) (hj : j < (enc n).length) : rd ((enc n).take j) = (0, 0, 5) :=
  rdF_cut (n + 1) n 0 0 j (by omega) (by omega) (.inl rfl) (by simpa using h) hj
/-- What can be read is the encoding of the number; an error leaves no number. -/
theorem rdF_inv : ∀ (l : List UInt8) (i n : Nat), i ≤ 9 → n < 128 ^ i → ((rdF i n l).2.2 ≠ 0 → rdF i n l = (0, 0, (rdF i n l).2.2)) ∧
    ((rdF i n l).2.2 = 0 → ∃ m k, rdF i n l = (n + m * 128 ^ i, i + k, 0) ∧ 1 ≤ k ∧ k ≤ l.length ∧ enc m = l.take k ∧ (i = 0 ∨ 0 < m) ∧ n + m * 128 ^ i < U64)
  | [], i, n, _, _ => by simp [rdF]
  | x :: r, i, n, hi, hn => by
    rw [rdF]
    by_cases h1 : i = 9 ∧ 1 < x.toNat
    · rw [if_pos h1]; simp
    rw [if_neg h1]
    by_cases h2 : 0 < i ∧ x.toNat = 0
    · rw [if_pos h2]; simp
    rw [if_neg h2]
    have hpart := part_le x.toNat i hi (by omega)
    have hpow := pow128_le i hi
    by_cases h3 : x.toNat < 128
    · rw [if_pos h3]
      refine ⟨fun h => absurd rfl h, fun _ => ⟨x.toNat, 1, by rw [Nat.mod_eq_of_lt h3], by omega, by simp, ?_, by omega, ?_⟩⟩
      · rw [enc_lt _ h3]; simp
      · rw [Nat.mod_eq_of_lt h3] at hpart; unfold U64; omega
    · rw [if_neg h3]
      have hx := x.toNat_lt
      have hlt : n + x.toNat % 128 * 128 ^ i < 128 ^ (i + 1) := by
        have h2 : x.toNat % 128 * 128 ^ i ≤ 127 * 128 ^ i := Nat.mul_le_mul_right _ (by omega)
        rw [Nat.pow_succ]; omega
      have ih := rdF_inv r (i + 1) (n + x.toNat % 128 * 128 ^ i) (by omega) hlt
      refine ⟨ih.1, fun h => ?_⟩
      obtain ⟨m, k, h4, h5, h6, h7, h8, h9⟩ := ih.2 h
      have hm : 0 < m := by omega
      have e1 : (m * 128 + x.toNat % 128) % 128 = x.toNat % 128 := by omega
      have e2 : (m * 128 + x.toNat % 128) / 128 = m := by omega
      have hd := digits (m * 128 + x.toNat % 128) (128 ^ i)
      rw [e1, e2] at hd
      rw [Nat.pow_succ, Nat.add_assoc, hd] at h4 h9
      refine ⟨m * 128 + x.toNat % 128, k + 1, by rw [h4]; congr 2; omega, by omega, by simp; omega, ?_, by omega, h9⟩
      rw [enc_ge _ (by omega), e1, e2, h7, List.take_succ_cons]
      congr 1
      apply UInt8.toNat_inj.1
      rw [UInt8.toNat_ofNat']; omega
theorem rd_inv (l : List UInt8) : ((rd l).2.2 ≠ 0 → rd l = (0, 0, (rd l).2.2)) ∧
    ((rd l).2.2 = 0 → 1 ≤ (rd l).2.1 ∧ (rd l).2.1 ≤ l.length ∧ enc (rd l).1 = l.take (rd l).2.1 ∧ (rd l).1 < U64) := by
  have h := rdF_inv l 0 0 (by omega) (by simp)
  refine ⟨h.1, fun h0 => ?_⟩
  obtain ⟨m, k, h1, h2, h3, h4, _, h6⟩ := h.2 h0
  have e : rd l = (m, k, 0) := by rw [rd, h1]; simp
  rw [e]
  exact ⟨h2, h3, h4, by simpa using h6⟩
theorem rd_lt (l : List UInt8) : (rd l).1 < U64 ∧ (rd l).2.1 ≤ l.length ∧ (rd l).2.2 < 7 := by
  by_cases h : (rd l).2.2 = 0
  · obtain ⟨_, h2, _, h4⟩ := (rd_inv l).2 h
    exact ⟨h4, h2, by omega⟩
  · have e := (rd_inv l).1 h
    have h7 : ∀ (l : List UInt8) (i n : Nat), (rdF i n l).2.2 < 7 := by
      intro l
      induction l with
      | nil => intro i n; simp [rdF]
      | cons x r ih => intro i n; rw [rdF]; split <;> (try split) <;> (try split) <;> first | (simp; done) | exact ih _ _
    have h8 := h7 l 0 0
    refine ⟨by rw [e]; unfold U64; simp, by rw [e]; simp, h8⟩
end Go.Proofs.YtgfmnpbcbpobbaaDoor.Am
