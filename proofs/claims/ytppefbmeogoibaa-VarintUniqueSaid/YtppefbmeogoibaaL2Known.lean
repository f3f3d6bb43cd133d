/- The example of the statements about varint. -/
import Derived.Test.YtppefbmeogoibaaVarRef
namespace Go.Proofs.Ytppefbmeogoibaa
open Go.RowKit

theorem rd_ex1 : rd [172, 2, 9] = (300, 2, 0) := by decide
theorem rd_ex2 : rd [128, 0] = (0, 0, 4) := by decide
theorem rd_ex3 : rd [128] = (0, 0, 5) := by decide
theorem enc_300 : enc 300 = [172, 2] := by rw [enc_ge 300 (by omega), enc_lt _ (by omega)]; decide
theorem enc_max : (enc 18446744073709551615).length = 10 := by
  rw [enc_ge _ (by omega), enc_ge _ (by omega), enc_ge _ (by omega), enc_ge _ (by omega), enc_ge _ (by omega), enc_ge _ (by omega), enc_ge _ (by omega), enc_ge _ (by omega), enc_ge _ (by omega), enc_lt _ (by omega)]
  rfl
set_option maxHeartbeats 400000 in
set_option maxRecDepth 100000 in
theorem known2 (w : World) : Calls Try.prog 12 #[] w fun e w' => e = .returned (.bool true) ∧ Below w.heap.size w w' := by
  have E1 := Lib.hid rd_ex1
  have E2 := Lib.hid rd_ex2
  have E3 := Lib.hid rd_ex3
  go_enter Try.func12, Try.ntmps12
  go_wp2_with fail
  refine (read_any _ (Sl.litB [172, 2, 9] (by rfl) (by rfl) (by simp [maxLen]) (by simp))).mono ?_
  rintro e w1 ⟨rfl, rfl⟩
  rw [E1.out]
  go_wp2_with fail
  refine (read_any _ (Sl.litB [128, 0] (by rfl) (by rfl) (by simp [maxLen]) (by simp))).mono ?_
  rintro e w1 ⟨rfl, rfl⟩
  rw [E2.out]
  go_wp2_with fail
  refine (read_any _ (Sl.litB [128] (by rfl) (by rfl) (by simp [maxLen]) (by simp))).mono ?_
  rintro e w1 ⟨rfl, rfl⟩
  rw [E3.out]
  go_wp2_with fail
  refine (append_any _ (Sl.litB [7] (by rfl) (by rfl) (by simp [maxLen]) (by simp)) (by omega) 300 (by unfold U64; omega)).mono ?_
  rintro e w1 ⟨A1, n1, c1, rfl, hown, hb⟩
  rw [enc_300] at hown
  have hs1 := (hown.sl (S' := fun _ => True) (fun _ _ => trivial) (fun _ _ _ => trivial)).keep (Same.alloc (fun _ => True) w1 (.cells #[.int .u8 7, .int .u8 172, .int .u8 2] 5))
  go_wp2_with fail
  refine (same_yes _ hs1 (Sl.litB [7, 172, 2] (by rfl) (by rfl) (by simp [maxLen]) (by simp)) rfl).mono ?_
  rintro e w2 ⟨rfl, rfl⟩
  go_wp2_with fail
  refine (size_any 18446744073709551615 _ (by unfold U64; omega)).mono ?_
  rintro e w2 ⟨rfl, rfl⟩
  rw [enc_max]
  go_wp2_with fail
  go_ret
  exact ⟨rfl, Grw.alloc (Grw.step (Grw.alloc (Grw.alloc (Grw.alloc (Grw.alloc (Below.refl _ _) _) _) _) _) hb) _⟩
end Go.Proofs.Ytppefbmeogoibaa
