/- Numbers as bytes: the plain laws of the encoding (no program in sight). No conditions. -/
import Derived.Laws.BitsAllLaws
import Derived.Laws.Bits64
import Derived.Test.YtppefbmeogoibaaBase
namespace Go.Proofs.Ytppefbmeogoibaa

/-- The encoding of a number. -/
def enc (n : Nat) : List UInt8 := if n < 128 then [UInt8.ofNat n] else UInt8.ofNat (n % 128 + 128) :: enc (n / 128)
termination_by n
decreasing_by omega
theorem or128 (m : Nat) : bits .or .u8 ((m : Int) % 256) 128 = ((UInt8.ofNat (m % 128 + 128)).toNat : Int) := by
  have h : ∀ x : Fin 256, bits .or .u8 ((x.val : Nat) : Int) 128 = ((x.val % 128 + 128 : Nat) : Int) := by decide +kernel
  have := h ⟨m % 256, by omega⟩
  have e : ((m : Int) % 256) = ((m % 256 : Nat) : Int) := by omega
  rw [e, this]
  have e2 : m % 256 % 128 = m % 128 := by omega
  rw [UInt8.toNat_ofNat']
  simp only [e2]
  omega
theorem toNat_small (m : Nat) (h : m < 256) : (m : Int) = ((UInt8.ofNat m).toNat : Int) := by
  rw [UInt8.toNat_ofNat']; omega
theorem mod256 (m : Nat) : ((m : Int) % 256) = ((UInt8.ofNat m).toNat : Int) := by
  rw [UInt8.toNat_ofNat']; omega
theorem enc_ge (n : Nat) (h : 128 ≤ n) : enc n = UInt8.ofNat (n % 128 + 128) :: enc (n / 128) := by rw [enc, if_neg (by omega)]
theorem enc_lt (n : Nat) (h : n < 128) : enc n = [UInt8.ofNat n] := by rw [enc, if_pos h]
theorem enc_len : ∀ (k n : Nat), 0 < k → n < 128 ^ k → (enc n).length ≤ k := by
  intro k
  induction k with
  | zero => intro n h; omega
  | succ k ih =>
    intro n _ h
    by_cases h1 : n < 128
    · rw [enc_lt n h1]; simp
    · rw [enc_ge n (by omega), List.length_cons]
      have : n / 128 < 128 ^ k := by rw [Nat.pow_succ] at h; omega
      have hk : 0 < k := by
        rcases Nat.eq_zero_or_pos k with h0 | h0
        · subst h0; simp at this; omega
        · exact h0
      have := ih (n / 128) hk this
      omega
theorem enc_len10 (n : Nat) (h : n < U64) : (enc n).length ≤ 10 := enc_len 10 n (by omega) (by unfold U64 at h; omega)

/-- What 'Read' returns: the number, the size, the error. -/
def rdF : Nat → Nat → List UInt8 → Nat × Nat × Nat
  | _, _, [] => (0, 0, 5)
  | i, n, x :: r => if i = 9 ∧ 1 < x.toNat then (0, 0, 6) else if 0 < i ∧ x.toNat = 0 then (0, 0, 4) else
    if x.toNat < 128 then (n + x.toNat % 128 * 128 ^ i, i + 1, 0) else rdF (i + 1) (n + x.toNat % 128 * 128 ^ i) r
def rd (l : List UInt8) : Nat × Nat × Nat := rdF 0 0 l

theorem pow128 (k : Nat) : 2 ^ (7 * k) = 128 ^ k := by rw [Nat.pow_mul]
theorem pow128_le (k : Nat) (hk : k ≤ 9) : 128 ^ k ≤ 9223372036854775808 := by
  have := Nat.pow_le_pow_right (n := 128) (by omega) hk
  exact Nat.le_trans this (by decide)
theorem part_le (y k : Nat) (hk : k ≤ 9) (h9 : k = 9 → y ≤ 1) : y % 128 * 128 ^ k ≤ 9223372036854775808 := by
  by_cases h : k = 9
  · subst h
    have := h9 rfl
    have h2 : y % 128 ≤ 1 := by omega
    calc y % 128 * 128 ^ 9 ≤ 1 * 128 ^ 9 := Nat.mul_le_mul_right _ h2
      _ ≤ _ := by decide
  · have h1 : 128 ^ k ≤ 128 ^ 8 := Nat.pow_le_pow_right (by omega) (by omega)
    calc y % 128 * 128 ^ k ≤ 128 * 128 ^ 8 := Nat.mul_le_mul (by omega) h1
      _ ≤ _ := by decide
theorem orshift (m y k : Nat) (hm : m < 128 ^ k) (hk : k ≤ 9) (hy : y < 256) (h9 : k = 9 → y ≤ 1) :
    bits .or .u64 (m : Int) (IntKind.u64.wrap (IntKind.u64.wrap (bits .and .u8 (y : Int) 127) * 2 ^ (7 * k))) = ((m + y % 128 * 128 ^ k : Nat) : Int) := by
  have h1 := part_le y k hk h9
  have h2 := pow128_le k hk
  have e1 : bits .and .u8 (y : Int) 127 = ((y % 128 : Nat) : Int) := by
    have := u8_and_nat y 127 hy (by omega)
    rw [nat_mask7] at this
    exact this
  rw [e1, IntKind.wrap_u64, IntKind.wrap_u64]
  have e2 : ((y % 128 : Nat) : Int) % 18446744073709551616 = ((y % 128 : Nat) : Int) := by omega
  rw [e2]
  have e3 : ((y % 128 : Nat) : Int) * 2 ^ (7 * k) = ((y % 128 * 128 ^ k : Nat) : Int) := by
    rw [← pow128]; simp
  rw [e3]
  have e4 : ((y % 128 * 128 ^ k : Nat) : Int) % 18446744073709551616 = ((y % 128 * 128 ^ k : Nat) : Int) := by
    generalize y % 128 * 128 ^ k = q at *
    omega
  rw [e4, u64_or_nat m _ (by omega) (by omega), Nat.or_comm, nat_join (7 * k) _ _ (by rw [pow128]; exact Nat.mul_mod_left _ _) (by rw [pow128]; exact hm), Nat.add_comm]

end Go.Proofs.Ytppefbmeogoibaa
