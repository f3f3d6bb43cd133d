/- Memos, on plain data: strings of characters. No conditions. -/
import Derived.Test.YtgfmnpbcbpobbaaDoorFAll
import Derived.Test.YtgfmnpbcbpobbaaDoorPLoop
namespace Go.Proofs.YtgfmnpbcbpobbaaDoor.Am
open Go

/-- A byte of a string; 0 beyond the end. -/
def byt (s : List UInt8) (p : Nat) : Nat := (s.getD p 0).toNat
theorem byt_lt (s : List UInt8) (p : Nat) : byt s p < 256 := (s.getD p 0).toNat_lt
theorem get_byt (s : List UInt8) (p : Nat) : ((⟨s.toArray⟩ : ByteArray).get! p).toNat = byt s p := by
  unfold byt
  congr 1
  show s.toArray[p]! = _
  rw [Array.getElem!_eq_getD]
  simp [List.getD_eq_getElem?_getD]
  rfl
def dec4 (s : List UInt8) (p : Nat) : Nat × Nat := Lib.decodeN (s.length - p) (byt s p) (byt s (p + 1)) (byt s (p + 2)) (byt s (p + 3))
theorem decode_list (s : List UInt8) (p : Nat) : Utf8.decode ⟨s.toArray⟩ p = dec4 s p := by
  rw [Lib.decode_at]
  simp only [get_byt]
  rfl
theorem byt_drop (s : List UInt8) (p j : Nat) : byt (s.drop p) j = byt s (p + j) := by
  simp [byt, List.getD_eq_getElem?_getD, List.getElem?_drop]
theorem decodeGo_drop {s : List UInt8} {p : Nat} (h : p < s.length) : Lib.decodeGo ⟨(s.drop p).toArray⟩ = dec4 s p := by
  unfold Lib.decodeGo
  have h0 : ¬ (⟨(s.drop p).toArray⟩ : ByteArray).size = 0 := by
    show ¬ (s.drop p).toArray.size = 0
    simp; omega
  rw [if_neg h0, decode_list]
  unfold dec4
  simp only [byt_drop, List.length_drop, Nat.sub_zero, Nat.add_zero, Nat.zero_add]
/-- The size of the character at a place; 0 if there is none. -/
def width (s : List UInt8) (p : Nat) : Nat := if (dec4 s p).1 = 65533 ∧ (dec4 s p).2 = 1 then 0 else (dec4 s p).2
abbrev fol (n j b : Nat) : Prop := j < n ∧ 128 ≤ b ∧ b < 192
def runeN (n b0 b1 b2 b3 : Nat) : Nat :=
  if b0 < 128 then 1
  else if (194 ≤ b0 ∧ b0 < 224) ∧ fol n 1 b1 then 2
  else if (224 ≤ b0 ∧ b0 < 240) ∧ fol n 1 b1 ∧ fol n 2 b2 then (if (b0 = 224 ∧ b1 < 160) ∨ (b0 = 237 ∧ 160 ≤ b1) then 0 else 3)
  else if (240 ≤ b0 ∧ b0 < 245) ∧ fol n 1 b1 ∧ fol n 2 b2 ∧ fol n 3 b3 then (if (b0 = 240 ∧ b1 < 144) ∨ (b0 = 244 ∧ 144 ≤ b1) then 0 else 4)
  else 0
set_option maxHeartbeats 4000000 in
theorem runeN_eq (n b0 b1 b2 b3 : Nat) (h0 : b0 < 256) (h1 : b1 < 256) (h2 : b2 < 256) (h3 : b3 < 256) :
    runeN n b0 b1 b2 b3 = if (Lib.decodeN n b0 b1 b2 b3).1 = 65533 ∧ (Lib.decodeN n b0 b1 b2 b3).2 = 1 then 0 else (Lib.decodeN n b0 b1 b2 b3).2 := by
  by_cases c1 : b0 < 128
  · simp [runeN, Lib.decodeN, c1]
    omega
  by_cases c2 : b0 < 224
  · simp only [runeN, Lib.decodeN, fol, c1, if_false, show b0 / 16 ≠ 14 by omega, show b0 / 8 ≠ 30 by omega, show ¬ 224 ≤ b0 by omega, show ¬ 240 ≤ b0 by omega, false_and]
    repeat' split
    all_goals omega
  by_cases c3 : b0 < 240
  · simp only [runeN, Lib.decodeN, fol, c1, if_false, show b0 / 32 ≠ 6 by omega, show b0 / 8 ≠ 30 by omega, show ¬ b0 < 224 by omega, show ¬ 240 ≤ b0 by omega, false_and, and_false]
    repeat' split
    all_goals omega
  · simp only [runeN, Lib.decodeN, fol, c1, if_false, show b0 / 32 ≠ 6 by omega, show b0 / 16 ≠ 14 by omega, show ¬ b0 < 224 by omega, show ¬ b0 < 240 by omega, false_and, and_false]
    repeat' split
    all_goals omega
theorem width_rune (s : List UInt8) (p : Nat) : width s p = runeN (s.length - p) (byt s p) (byt s (p + 1)) (byt s (p + 2)) (byt s (p + 3)) := by
  rw [runeN_eq _ _ _ _ _ (byt_lt _ _) (byt_lt _ _) (byt_lt _ _) (byt_lt _ _)]
  rfl
theorem width_le (s : List UInt8) (p : Nat) : width s p ≤ 4 := by
  rw [width_rune]
  unfold runeN
  repeat' split
  all_goals omega
end Go.Proofs.YtgfmnpbcbpobbaaDoor.Am
