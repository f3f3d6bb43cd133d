/- A fixed example holds: by reckoning. No conditions. -/
import Derived.Test.YthmfeknfiekcmaaFAll
import Derived.KernelRfl
namespace Go.Proofs.Ythmfeknfiekcmaa.Am
open Go
set_option maxRecDepth 100000
namespace Kmempoollaw9
def K_heap_New (_m : Nat) : Option (List D_api_Item × (List (Int × Int))) :=
  some ([], [])
def K_heap_Before (_m : Nat) (a0 : D_api_Item) (a1 : D_api_Item) : Option (Bool) :=
  sel (!decide (a0.2.1 = a1.2.1)) (
    some (decide (a1.2.1 < a0.2.1))) (
    sel (!decide (a0.2.2 = a1.2.2)) (
      some (decide (a0.2.2 < a1.2.2))) (
      some (decide (a0.1 < a1.1))))
def K_heap_Heap_swap (_m : Nat) (a0_0 : List D_api_Item) (a0_1 : List (Int × Int)) (a1 : Int) (a2 : Int) : Option (List D_api_Item × (List (Int × Int))) :=
  chk (decide ((0 : Int) ≤ a2 ∧ a2 < (((List.length a0_0) : Nat) : Int))) <|
  chk (decide ((Int.toNat a2) < (List.length a0_0))) <|
  chk (decide ((0 : Int) ≤ a1 ∧ a1 < (((List.length a0_0) : Nat) : Int))) <|
  chk (decide ((Int.toNat a1) < (List.length a0_0))) <|
  chk (decide ((0 : Int) ≤ a1 ∧ a1 < (((List.length a0_0) : Nat) : Int))) <|
  chk (decide ((Int.toNat a1) < (List.length a0_0))) <|
  chk (decide ((0 : Int) ≤ a2 ∧ a2 < (((List.length (List.set a0_0 (Int.toNat a1) (List.getD a0_0 (Int.toNat a2) d_api_Item))) : Nat) : Int))) <|
  chk (decide ((Int.toNat a2) < (List.length (List.set a0_0 (Int.toNat a1) (List.getD a0_0 (Int.toNat a2) d_api_Item))))) <|
  chk (decide ((0 : Int) ≤ a1 ∧ a1 < (((List.length (List.set (List.set a0_0 (Int.toNat a1) (List.getD a0_0 (Int.toNat a2) d_api_Item)) (Int.toNat a2) (List.getD a0_0 (Int.toNat a1) d_api_Item))) : Nat) : Int))) <|
  chk (decide ((Int.toNat a1) < (List.length (List.set (List.set a0_0 (Int.toNat a1) (List.getD a0_0 (Int.toNat a2) d_api_Item)) (Int.toNat a2) (List.getD a0_0 (Int.toNat a1) d_api_Item))))) <|
  chk (decide ((0 : Int) ≤ a2 ∧ a2 < (((List.length (List.set (List.set a0_0 (Int.toNat a1) (List.getD a0_0 (Int.toNat a2) d_api_Item)) (Int.toNat a2) (List.getD a0_0 (Int.toNat a1) d_api_Item))) : Nat) : Int))) <|
  chk (decide ((Int.toNat a2) < (List.length (List.set (List.set a0_0 (Int.toNat a1) (List.getD a0_0 (Int.toNat a2) d_api_Item)) (Int.toNat a2) (List.getD a0_0 (Int.toNat a1) d_api_Item))))) <|
  some ((List.set (List.set a0_0 (Int.toNat a1) (List.getD a0_0 (Int.toNat a2) d_api_Item)) (Int.toNat a2) (List.getD a0_0 (Int.toNat a1) d_api_Item)), (mSet intEq (List.getD (List.set (List.set a0_0 (Int.toNat a1) (List.getD a0_0 (Int.toNat a2) d_api_Item)) (Int.toNat a2) (List.getD a0_0 (Int.toNat a1) d_api_Item)) (Int.toNat a2) d_api_Item).1 a2 (mSet intEq (List.getD (List.set (List.set a0_0 (Int.toNat a1) (List.getD a0_0 (Int.toNat a2) d_api_Item)) (Int.toNat a2) (List.getD a0_0 (Int.toNat a1) d_api_Item)) (Int.toNat a2) d_api_Item).1 (mGet intEq (List.getD (List.set (List.set a0_0 (Int.toNat a1) (List.getD a0_0 (Int.toNat a2) d_api_Item)) (Int.toNat a2) (List.getD a0_0 (Int.toNat a1) d_api_Item)) (Int.toNat a2) d_api_Item).1 (0 : Int) (mSet intEq (List.getD (List.set (List.set a0_0 (Int.toNat a1) (List.getD a0_0 (Int.toNat a2) d_api_Item)) (Int.toNat a2) (List.getD a0_0 (Int.toNat a1) d_api_Item)) (Int.toNat a1) d_api_Item).1 a1 (mSet intEq (List.getD (List.set (List.set a0_0 (Int.toNat a1) (List.getD a0_0 (Int.toNat a2) d_api_Item)) (Int.toNat a2) (List.getD a0_0 (Int.toNat a1) d_api_Item)) (Int.toNat a1) d_api_Item).1 (mGet intEq (List.getD (List.set (List.set a0_0 (Int.toNat a1) (List.getD a0_0 (Int.toNat a2) d_api_Item)) (Int.toNat a2) (List.getD a0_0 (Int.toNat a1) d_api_Item)) (Int.toNat a1) d_api_Item).1 (0 : Int) a0_1) a0_1))) (mSet intEq (List.getD (List.set (List.set a0_0 (Int.toNat a1) (List.getD a0_0 (Int.toNat a2) d_api_Item)) (Int.toNat a2) (List.getD a0_0 (Int.toNat a1) d_api_Item)) (Int.toNat a1) d_api_Item).1 a1 (mSet intEq (List.getD (List.set (List.set a0_0 (Int.toNat a1) (List.getD a0_0 (Int.toNat a2) d_api_Item)) (Int.toNat a2) (List.getD a0_0 (Int.toNat a1) d_api_Item)) (Int.toNat a1) d_api_Item).1 (mGet intEq (List.getD (List.set (List.set a0_0 (Int.toNat a1) (List.getD a0_0 (Int.toNat a2) d_api_Item)) (Int.toNat a2) (List.getD a0_0 (Int.toNat a1) d_api_Item)) (Int.toNat a1) d_api_Item).1 (0 : Int) a0_1) a0_1)))))
def K_heap_Heap_up_l1 (m : Nat) (v1 : Int) (l0 : List D_api_Item) (l1 : List (Int × Int)) : Option ((Int × List D_api_Item × List (Int × Int)) ⊕ (List D_api_Item × (List (Int × Int)))) :=
  sel (decide (0 < v1)) (
    chk (decide ((0 : Int) ≤ v1 ∧ v1 < (((List.length l0) : Nat) : Int))) <|
    chk (decide ((Int.toNat v1) < (List.length l0))) <|
    chk (decide ((0 : Int) ≤ (wi64 (Int.tdiv (wi64 (v1 - 1)) 2)) ∧ (wi64 (Int.tdiv (wi64 (v1 - 1)) 2)) < (((List.length l0) : Nat) : Int))) <|
    chk (decide ((Int.toNat (wi64 (Int.tdiv (wi64 (v1 - 1)) 2))) < (List.length l0))) <|
    ((K_heap_Before m) (List.getD l0 (Int.toNat v1) d_api_Item) (List.getD l0 (Int.toNat (wi64 (Int.tdiv (wi64 (v1 - 1)) 2))) d_api_Item)).bind fun r1 =>
    sel r1 (
      ((K_heap_Heap_swap m) l0 l1 v1 (wi64 (Int.tdiv (wi64 (v1 - 1)) 2))).bind fun r2 =>
      some (.inl ((wi64 (Int.tdiv (wi64 (v1 - 1)) 2)), r2.1, r2.2))) (
      some (.inr (l0, l1)))) (
    some (.inr (l0, l1)))
def K_heap_Heap_up_l1s (m : Nat) (v1 : Int) (l0 : List D_api_Item) (l1 : List (Int × Int)) : Option (List D_api_Item × (List (Int × Int))) :=
  iter m (fun v => (K_heap_Heap_up_l1 m) v.1 v.2.1 v.2.2) (v1, l0, l1)
def K_heap_Heap_up (m : Nat) (a0_0 : List D_api_Item) (a0_1 : List (Int × Int)) (a1 : Int) : Option (List D_api_Item × (List (Int × Int))) :=
  (K_heap_Heap_up_l1s m) a1 a0_0 a0_1
def K_heap_Heap_Push (m : Nat) (a0_0 : List D_api_Item) (a0_1 : List (Int × Int)) (a1 : D_api_Item) : Option (List D_api_Item × (List (Int × Int)) × Bool) :=
  sel (Option.isSome (mIdx intEq a1.1 a0_1)) (
    some (a0_0, a0_1, false)) (
    chk (decide (((List.length a0_0) + 1) * 24 ≤ LIM ∧ (List.length a0_0) + 1 ≤ LEN)) <|
    ((K_heap_Heap_up m) (a0_0 ++ ([a1] : List D_api_Item)) (mSet intEq a1.1 (wi64 ((((List.length (a0_0 ++ ([a1] : List D_api_Item))) : Nat) : Int) - 1)) a0_1) (wi64 ((((List.length (a0_0 ++ ([a1] : List D_api_Item))) : Nat) : Int) - 1))).bind fun r1 =>
    some (r1.1, r1.2, true))
def K_heap_Heap_Peek (_m : Nat) (a0_0 : List D_api_Item) (a0_1 : List (Int × Int)) : Option (List D_api_Item × (List (Int × Int)) × D_api_Item × Bool) :=
  sel (decide ((((List.length a0_0) : Nat) : Int) = 0)) (
    some (a0_0, a0_1, ((0 : Int), (0 : Int), (0 : Int)), false)) (
    chk (decide ((0 : Int) ≤ 0 ∧ 0 < (((List.length a0_0) : Nat) : Int))) <|
    chk (decide (0 < (List.length a0_0))) <|
    some (a0_0, a0_1, (List.getD a0_0 0 d_api_Item), true))
def K_heap_Heap_down_c2 (m : Nat) (v1 : Int) (v4 : Int) (l0 : List D_api_Item) (l1 : List (Int × Int)) : Option ((Int × List D_api_Item × List (Int × Int)) ⊕ (List D_api_Item × (List (Int × Int)))) :=
  sel (decide (v4 = v1)) (
    some (.inr (l0, l1))) (
    ((K_heap_Heap_swap m) l0 l1 v1 v4).bind fun r1 =>
    some (.inl (v4, r1.1, r1.2)))
def K_heap_Heap_down_l3 (m : Nat) (v1 : Int) (v4 : Int) (v14_0 : Int) (v14_1 : Int) (v15 : Int) (l0 : List D_api_Item) (l1 : List (Int × Int)) : Option ((Int × Int × Int × Int × Int × List D_api_Item × List (Int × Int)) ⊕ ((Int × List D_api_Item × List (Int × Int)) ⊕ (List D_api_Item × (List (Int × Int))))) :=
  sel (decide (v15 < 2)) (
    chk (decide ((0 : Int) ≤ v15 ∧ v15 < 2)) <|
    sel (decide ((vget (Vector.push (Vector.push #v[] v14_0) v14_1) (Int.toNat v15) (0 : Int)) < (((List.length l0) : Nat) : Int))) (
      chk (decide ((0 : Int) ≤ (vget (Vector.push (Vector.push #v[] v14_0) v14_1) (Int.toNat v15) (0 : Int)) ∧ (vget (Vector.push (Vector.push #v[] v14_0) v14_1) (Int.toNat v15) (0 : Int)) < (((List.length l0) : Nat) : Int))) <|
      chk (decide ((Int.toNat (vget (Vector.push (Vector.push #v[] v14_0) v14_1) (Int.toNat v15) (0 : Int))) < (List.length l0))) <|
      chk (decide ((0 : Int) ≤ v4 ∧ v4 < (((List.length l0) : Nat) : Int))) <|
      chk (decide ((Int.toNat v4) < (List.length l0))) <|
      ((K_heap_Before m) (List.getD l0 (Int.toNat (vget (Vector.push (Vector.push #v[] v14_0) v14_1) (Int.toNat v15) (0 : Int))) d_api_Item) (List.getD l0 (Int.toNat v4) d_api_Item)).bind fun r2 =>
      sel r2 (
        some (.inl (v1, (vget (Vector.push (Vector.push #v[] v14_0) v14_1) (Int.toNat v15) (0 : Int)), v14_0, v14_1, (wi64 (v15 + 1)), l0, l1))) (
        some (.inl (v1, v4, v14_0, v14_1, (wi64 (v15 + 1)), l0, l1)))) (
      some (.inl (v1, v4, v14_0, v14_1, (wi64 (v15 + 1)), l0, l1)))) (
    Option.map .inr (
      (K_heap_Heap_down_c2 m) v1 v4 l0 l1))
def K_heap_Heap_down_l3s (m : Nat) (v1 : Int) (v4 : Int) (v14_0 : Int) (v14_1 : Int) (v15 : Int) (l0 : List D_api_Item) (l1 : List (Int × Int)) : Option ((Int × List D_api_Item × List (Int × Int)) ⊕ (List D_api_Item × (List (Int × Int)))) :=
  iter m (fun v => (K_heap_Heap_down_l3 m) v.1 v.2.1 v.2.2.1 v.2.2.2.1 v.2.2.2.2.1 v.2.2.2.2.2.1 v.2.2.2.2.2.2) (v1, v4, v14_0, v14_1, v15, l0, l1)
def K_heap_Heap_down_l1 (m : Nat) (v1 : Int) (l0 : List D_api_Item) (l1 : List (Int × Int)) : Option ((Int × List D_api_Item × List (Int × Int)) ⊕ (List D_api_Item × (List (Int × Int)))) :=
  (K_heap_Heap_down_l3s m) v1 v1 (wi64 ((wi64 (2 * v1)) + 1)) (wi64 ((wi64 (2 * v1)) + 2)) 0 l0 l1
def K_heap_Heap_down_l1s (m : Nat) (v1 : Int) (l0 : List D_api_Item) (l1 : List (Int × Int)) : Option (List D_api_Item × (List (Int × Int))) :=
  iter m (fun v => (K_heap_Heap_down_l1 m) v.1 v.2.1 v.2.2) (v1, l0, l1)
def K_heap_Heap_down (m : Nat) (a0_0 : List D_api_Item) (a0_1 : List (Int × Int)) (a1 : Int) : Option (List D_api_Item × (List (Int × Int))) :=
  (K_heap_Heap_down_l1s m) a1 a0_0 a0_1
def K_heap_Heap_take (m : Nat) (a0_0 : List D_api_Item) (a0_1 : List (Int × Int)) (a1 : Int) : Option (List D_api_Item × (List (Int × Int))) :=
  ((K_heap_Heap_swap m) a0_0 a0_1 a1 (wi64 ((((List.length a0_0) : Nat) : Int) - 1))).bind fun r1 =>
  chk (decide ((0 : Int) ≤ (wi64 ((((List.length a0_0) : Nat) : Int) - 1)) ∧ (wi64 ((((List.length a0_0) : Nat) : Int) - 1)) < (((List.length r1.1) : Nat) : Int))) <|
  chk (decide ((Int.toNat (wi64 ((((List.length a0_0) : Nat) : Int) - 1))) < (List.length r1.1))) <|
  chk (decide ((0 : Int) ≤ (wi64 ((((List.length a0_0) : Nat) : Int) - 1)) ∧ (wi64 ((((List.length a0_0) : Nat) : Int) - 1)) ≤ (((List.length r1.1) : Nat) : Int))) <|
  sel (decide (a1 < (wi64 ((((List.length a0_0) : Nat) : Int) - 1)))) (
    ((K_heap_Heap_up m) (List.take (Int.toNat (wi64 ((((List.length a0_0) : Nat) : Int) - 1))) r1.1) (mDel intEq (List.getD r1.1 (Int.toNat (wi64 ((((List.length a0_0) : Nat) : Int) - 1))) d_api_Item).1 r1.2) a1).bind fun r2 =>
    ((K_heap_Heap_down m) r2.1 r2.2 a1).bind fun r3 =>
    some (r3.1, r3.2)) (
    some ((List.take (Int.toNat (wi64 ((((List.length a0_0) : Nat) : Int) - 1))) r1.1), (mDel intEq (List.getD r1.1 (Int.toNat (wi64 ((((List.length a0_0) : Nat) : Int) - 1))) d_api_Item).1 r1.2)))
def K_heap_Heap_Pop (m : Nat) (a0_0 : List D_api_Item) (a0_1 : List (Int × Int)) : Option (List D_api_Item × (List (Int × Int)) × D_api_Item × Bool) :=
  ((K_heap_Heap_Peek m) a0_0 a0_1).bind fun r1 =>
  sel r1.2.2.2 (
    ((K_heap_Heap_take m) r1.1 r1.2.1 0).bind fun r2 =>
    some (r2.1, r2.2, r1.2.2.1, r1.2.2.2)) (
    some (r1.1, r1.2.1, r1.2.2.1, r1.2.2.2))
def K_heap_Heap_Len (_m : Nat) (a0_0 : List D_api_Item) (a0_1 : List (Int × Int)) : Option (List D_api_Item × (List (Int × Int)) × Int) :=
  some (a0_0, a0_1, (((List.length a0_0) : Nat) : Int))
def K_heap_Heap_Remove (m : Nat) (a0_0 : List D_api_Item) (a0_1 : List (Int × Int)) (a1 : Int) : Option (List D_api_Item × (List (Int × Int)) × Bool) :=
  sel (Option.isSome (mIdx intEq a1 a0_1)) (
    ((K_heap_Heap_take m) a0_0 a0_1 (mGet intEq a1 (0 : Int) a0_1)).bind fun r1 =>
    some (r1.1, r1.2, (Option.isSome (mIdx intEq a1 a0_1)))) (
    some (a0_0, a0_1, (Option.isSome (mIdx intEq a1 a0_1))))
def K_slices_Clone_api_Item_api_Item_own (_m : Nat) (a0 : List D_api_Item) : Option ((List D_api_Item) × List D_api_Item) := cloneX (u := U_api_Item) 24 a0
def K_slices_SortFunc_api_Item_api_Item_of_heap_Heap_Sorted_1 (_m : Nat) (a0 : List D_api_Item) : Option (List D_api_Item) := chk (Nat.blt a0.length 4611686018427387904) (some (pdqL (d_api_Item) cfItem a0))
def K_heap_Heap_Sorted (m : Nat) (a0_0 : List D_api_Item) (a0_1 : List (Int × Int)) : Option (List D_api_Item × (List (Int × Int)) × List D_api_Item) :=
  ((K_slices_Clone_api_Item_api_Item_own m) a0_0).bind fun r1 =>
  ((K_slices_SortFunc_api_Item_api_Item_of_heap_Heap_Sorted_1 m) r1.2).bind fun r2 =>
  some (r1.1, a0_1, r2)
def K_mempoollaw9_known (m : Nat) : Option (Bool) :=
  ((K_heap_New m)).bind fun r1 =>
  ((K_heap_Heap_Push m) r1.1 r1.2 (1, 5, 1)).bind fun r2 =>
  ((K_heap_Heap_Push m) r2.1 r2.2.1 (3, 7, 3)).bind fun r3 =>
  ((K_heap_Heap_Push m) r3.1 r3.2.1 (2, 7, 2)).bind fun r4 =>
  ((K_heap_Heap_Push m) r4.1 r4.2.1 (2, (0 : Int), (0 : Int))).bind fun r5 =>
  ((K_heap_Heap_Pop m) r5.1 r5.2.1).bind fun r6 =>
  ((K_heap_Heap_Peek m) r6.1 r6.2.1).bind fun r7 =>
  sel r2.2.2 (
    sel r3.2.2 (
      sel r4.2.2 (
        sel (!r5.2.2) (
          sel r6.2.2.2 (
            sel (decide (r6.2.2.1.1 = 2)) (
              sel r7.2.2.2 (
                sel (decide (r7.2.2.1.1 = 3)) (
                  ((K_heap_Heap_Len m) r7.1 r7.2.1).bind fun r8 =>
                  sel (decide (r8.2.2 = 2)) (
                    ((K_heap_Heap_Remove m) r8.1 r8.2.1 3).bind fun r9 =>
                    sel r9.2.2 (
                      ((K_heap_Heap_Sorted m) r9.1 r9.2.1).bind fun r10 =>
                      some (decide ((((List.length r10.2.2) : Nat) : Int) = 1))) (
                      some false)) (
                    some false)) (
                  some false)) (
                some false)) (
              some false)) (
            some false)) (
          some false)) (
        some false)) (
      some false)) (
    some false)
theorem same : F_mempoollaw9_known = K_mempoollaw9_known FUEL := by kernel_rfl
theorem at_ : K_mempoollaw9_known 1180591620717411303424 = some true := by kernel_rfl
end Kmempoollaw9
theorem T_mempoollaw9_known : F_mempoollaw9_known = some true := by rw [Kmempoollaw9.same, FUEL_eq]; exact Kmempoollaw9.at_
end Go.Proofs.Ythmfeknfiekcmaa.Am
