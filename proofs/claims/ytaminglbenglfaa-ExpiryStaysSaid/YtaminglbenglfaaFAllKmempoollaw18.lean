/- A fixed example holds: by reckoning. No conditions. -/
import Derived.Test.YtaminglbenglfaaFAll
import Derived.KernelRfl
namespace Go.Proofs.Ytaminglbenglfaa.Am
open Go
set_option maxRecDepth 100000
namespace Kmempoollaw18
def K_expiry_New (_m : Nat) (a0 : Int) (a1 : Int) : Option (Int × Int × List D_mempoolref16_Wait) :=
  some (a0, a1, [])
def K_expiry_Queue_Add (_m : Nat) (a0_0 : Int) (a0_1 : Int) (a0_2 : List D_mempoolref16_Wait) (a1 : Int) (a2 : Int) (a3 : Int) : Option (Int × Int × List D_mempoolref16_Wait × Bool) :=
  sel (Option.isSome (mIdx intEq a1 a0_2)) (
    some (a0_0, a0_1, a0_2, false)) (
    some (a0_0, a0_1, (mSet intEq a1 (a2, a3) a0_2), true))
def K_expiry_over (_m : Nat) (a0 : Int) (a1 : Int) (a2 : Int) : Option (Bool) :=
  sel (decide (0 < a2)) (
    sel (decide (a1 < a0)) (
      some (decide ((wu64 a2) < (wu64 ((wu64 a0) - (wu64 a1)))))) (
      some false)) (
    some false)
def K_expiry_Queue_Expired_l1 (m : Nat) (v1 : Int) (v2 : Int) (v19 : Int) (v20 : Int) (b0_0 : Int) (b0_1 : Int) (l0 : List D_mempoolref16_Wait) (l1 : List Int) (l2 : List Int) : Option ((Int × Int × Int × Int × Int × Int × List D_mempoolref16_Wait × List Int × List Int) ⊕ (Int × Int × List D_mempoolref16_Wait × List Int)) :=
  sel (decide (v20 < v19)) (
    chk (decide ((0 : Int) ≤ v20 ∧ v20 < (((List.length l2) : Nat) : Int))) <|
    chk (decide ((Int.toNat v20) < (List.length l2))) <|
    ((K_expiry_over m) v1 (mGet intEq (List.getD l2 (Int.toNat v20) (0 : Int)) d_expiry_stamp l0).1 b0_0).bind fun r1 =>
    sel r1 (
      chk (decide (((List.length l1) + 1) * 8 ≤ LIM ∧ (List.length l1) + 1 ≤ LEN)) <|
      some (.inl (v1, v2, v19, (wi64 (v20 + 1)), b0_0, b0_1, l0, (l1 ++ [(List.getD l2 (Int.toNat v20) (0 : Int))]), l2))) (
      ((K_expiry_over m) v2 (mGet intEq (List.getD l2 (Int.toNat v20) (0 : Int)) d_expiry_stamp l0).2 b0_1).bind fun r2 =>
      sel r2 (
        chk (decide (((List.length l1) + 1) * 8 ≤ LIM ∧ (List.length l1) + 1 ≤ LEN)) <|
        some (.inl (v1, v2, v19, (wi64 (v20 + 1)), b0_0, b0_1, l0, (l1 ++ [(List.getD l2 (Int.toNat v20) (0 : Int))]), l2))) (
        some (.inl (v1, v2, v19, (wi64 (v20 + 1)), b0_0, b0_1, l0, l1, l2))))) (
    some (.inr (b0_0, b0_1, l0, l1)))
def K_expiry_Queue_Expired_l1s (m : Nat) (v1 : Int) (v2 : Int) (v19 : Int) (v20 : Int) (b0_0 : Int) (b0_1 : Int) (l0 : List D_mempoolref16_Wait) (l1 : List Int) (l2 : List Int) : Option (Int × Int × List D_mempoolref16_Wait × List Int) :=
  iter m (fun v => (K_expiry_Queue_Expired_l1 m) v.1 v.2.1 v.2.2.1 v.2.2.2.1 v.2.2.2.2.1 v.2.2.2.2.2.1 v.2.2.2.2.2.2.1 v.2.2.2.2.2.2.2.1 v.2.2.2.2.2.2.2.2) (v1, v2, v19, v20, b0_0, b0_1, l0, l1, l2)
def K_expiry_Queue_Expired (m : Nat) (a0_0 : Int) (a0_1 : Int) (a0_2 : List D_mempoolref16_Wait) (a1 : Int) (a2 : Int) : Option (Int × Int × List D_mempoolref16_Wait × List Int) :=
  chk (goodInts (keysOf a0_2)) <|
  (K_expiry_Queue_Expired_l1s m) a1 a2 (((List.length (sortInts (keysOf a0_2))) : Nat) : Int) 0 a0_0 a0_1 a0_2 [] (sortInts (keysOf a0_2))
def K_mempoolref1_SameInts_l1 (_m : Nat) (v0 : List Int) (v1 : List Int) (v12 : Int) (v13 : Int) : Option ((List Int × List Int × Int × Int) ⊕ (Bool)) :=
  sel (decide (v13 < v12)) (
    chk (decide ((0 : Int) ≤ v13 ∧ v13 < (((List.length v0) : Nat) : Int))) <|
    chk (decide ((0 : Int) ≤ v13 ∧ v13 < (((List.length v1) : Nat) : Int))) <|
    sel (!decide ((List.getD v0 (Int.toNat v13) (0 : Int)) = (List.getD v1 (Int.toNat v13) (0 : Int)))) (
      some (.inr false)) (
      some (.inl (v0, v1, v12, (wi64 (v13 + 1)))))) (
    some (.inr true))
def K_mempoolref1_SameInts_l1s (m : Nat) (v0 : List Int) (v1 : List Int) (v12 : Int) (v13 : Int) : Option (Bool) :=
  iter m (fun v => (K_mempoolref1_SameInts_l1 m) v.1 v.2.1 v.2.2.1 v.2.2.2) (v0, v1, v12, v13)
def K_mempoolref1_SameInts (m : Nat) (a0 : List Int) (a1 : List Int) : Option (Bool) :=
  sel (!decide ((((List.length a0) : Nat) : Int) = (((List.length a1) : Nat) : Int))) (
    some false) (
    (K_mempoolref1_SameInts_l1s m) a0 a1 (((List.length a0) : Nat) : Int) 0)
def K_expiry_Queue_Len (_m : Nat) (a0_0 : Int) (a0_1 : Int) (a0_2 : List D_mempoolref16_Wait) : Option (Int × Int × List D_mempoolref16_Wait × Int) :=
  some (a0_0, a0_1, a0_2, (((List.length a0_2) : Nat) : Int))
def K_mempoollaw18_known (m : Nat) : Option (Bool) :=
  ((K_expiry_New m) 2 0).bind fun r1 =>
  ((K_expiry_Queue_Add m) r1.1 r1.2.1 r1.2.2 1 5 0).bind fun r2 =>
  ((K_expiry_Queue_Add m) r2.1 r2.2.1 r2.2.2.1 1 9 0).bind fun r3 =>
  sel r2.2.2.2 (
    sel (!r3.2.2.2) (
      ((K_expiry_Queue_Expired m) r3.1 r3.2.1 r3.2.2.1 7 1000).bind fun r4 =>
      sel (decide ((((List.length r4.2.2.2) : Nat) : Int) = 0)) (
        ((K_expiry_Queue_Expired m) r4.1 r4.2.1 r4.2.2.1 8 0).bind fun r5 =>
        ((K_mempoolref1_SameInts m) r5.2.2.2 [1]).bind fun r6 =>
        sel r6 (
          ((K_expiry_Queue_Len m) r5.1 r5.2.1 r5.2.2.1).bind fun r7 =>
          some (decide (r7.2.2.2 = 1))) (
          some false)) (
        some false)) (
      some false)) (
    some false)
theorem same : F_mempoollaw18_known = K_mempoollaw18_known FUEL := by kernel_rfl
theorem at_ : K_mempoollaw18_known 1180591620717411303424 = some true := by kernel_rfl
end Kmempoollaw18
theorem T_mempoollaw18_known : F_mempoollaw18_known = some true := by rw [Kmempoollaw18.same, FUEL_eq]; exact Kmempoollaw18.at_
end Go.Proofs.Ytaminglbenglfaa.Am
