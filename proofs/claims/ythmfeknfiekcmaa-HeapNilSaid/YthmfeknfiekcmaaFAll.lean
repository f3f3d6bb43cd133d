/- What functions of the program compute on plain data. No conditions. -/
import Derived.Test.YthmfeknfiekcmaaHeapCmp
import Derived.Test.YthmfeknfiekcmaaAmTab
import Derived.Test.YthmfeknfiekcmaaKC
namespace Go.Proofs.Ythmfeknfiekcmaa.Am
open Go
def U_runtime_errorAddressString : U := (.pr .str (.int .u64))
abbrev D_runtime_errorAddressString : Type := List UInt8 × Int
def d_runtime_errorAddressString : D_runtime_errorAddressString := ([], (0 : Int))
def U_mempoolmake_Numbers : U := (.pr (.sl (.int .i64)) (.int .i64))
abbrev D_mempoolmake_Numbers : Type := List Int × Int
def d_mempoolmake_Numbers : D_mempoolmake_Numbers := ([], (0 : Int))
def U_mempoolref21_Rest : U := (.pr (.int .i64) (.pr (.int .u64) .bool))
abbrev D_mempoolref21_Rest : Type := Int × Int × Bool
def d_mempoolref21_Rest : D_mempoolref21_Rest := ((0 : Int), (0 : Int), false)
def U_api_Item : U := (.pr (.int .i64) (.pr (.int .u64) (.int .i64)))
abbrev D_api_Item : Type := Int × Int × Int
def d_api_Item : D_api_Item := ((0 : Int), (0 : Int), (0 : Int))
def U_runtime_boundsError : U := (.pr (.int .i64) (.pr (.int .i64) (.pr .bool .byte)))
abbrev D_runtime_boundsError : Type := Int × Int × Bool × UInt8
def d_runtime_boundsError : D_runtime_boundsError := ((0 : Int), (0 : Int), false, (0 : UInt8))
def U_api_Entry : U := (.pr (.arr 32 .byte) (.pr (.sl .byte) (.pr .str (.pr (.int .u64) (.pr (.int .u64) (.pr (.int .u64) (.pr (.int .i64) (.pr (.int .i64) (.pr (.int .i64) (.sl (.int .i64)))))))))))
abbrev D_api_Entry : Type := Vector UInt8 32 × List UInt8 × List UInt8 × Int × Int × Int × Int × Int × Int × List Int
def d_api_Entry : D_api_Entry := ((Vector.replicate 32 (0 : UInt8)), [], [], (0 : Int), (0 : Int), (0 : Int), (0 : Int), (0 : Int), (0 : Int), [])
def F_mempoollaw9_long_l1 (v3 : Int) (v6 : List (List Int)) (v7 : Int) (v8 : Int) : Option ((Int × List (List Int) × Int × Int) ⊕ (Bool)) :=
  sel (decide (v8 < v7)) (
    chk (decide ((0 : Int) ≤ v8 ∧ v8 < (((List.length v6) : Nat) : Int))) <|
    some (.inl ((wi64 (v3 + (((List.length (List.getD v6 (Int.toNat v8) [])) : Nat) : Int))), v6, v7, (wi64 (v8 + 1))))) (
    some (.inr (decide (160 < v3))))
def F_mempoollaw9_long_l1s (v3 : Int) (v6 : List (List Int)) (v7 : Int) (v8 : Int) : Option (Bool) :=
  iterO (fun v => F_mempoollaw9_long_l1 v.1 v.2.1 v.2.2.1 v.2.2.2) (v3, v6, v7, v8)
def F_mempoollaw9_long (a0 : List (List Int)) : Option (Bool) :=
  F_mempoollaw9_long_l1s 0 a0 (((List.length a0) : Nat) : Int) 0
def F_heap_New : Option (List D_api_Item × (List (Int × Int))) :=
  some ([], [])
def F_heap_Before (a0 : D_api_Item) (a1 : D_api_Item) : Option (Bool) :=
  sel (!decide (a0.2.1 = a1.2.1)) (
    some (decide (a1.2.1 < a0.2.1))) (
    sel (!decide (a0.2.2 = a1.2.2)) (
      some (decide (a0.2.2 < a1.2.2))) (
      some (decide (a0.1 < a1.1))))
def F_heap_Heap_swap (a0_0 : List D_api_Item) (a0_1 : List (Int × Int)) (a1 : Int) (a2 : Int) : Option (List D_api_Item × (List (Int × Int))) :=
  chk (decide ((0 : Int) ≤ a2 ∧ a2 < (((List.length a0_0) : Nat) : Int))) <|
  chk (decide ((Int.toNat a2) < (List.length a0_0))) <|
  chk (decide ((0 : Int) ≤ a1 ∧ a1 < (((List.length a0_0) : Nat) : Int))) <|
  chk (decide ((Int.toNat a1) < (List.length a0_0))) <|
  chk (decide ((0 : Int) ≤ a1 ∧ a1 < (((List.length a0_0) : Nat) : Int))) <|
  chk (decide ((Int.toNat a1) < (List.length a0_0))) <|
  chk (decide ((0 : Int) ≤ a2 ∧ a2 < (((List.length (List.set a0_0 (Int.toNat a1) (List.getD a0_0 (Int.toNat a2) d_api_Item))) : Nat) : Int))) <|
  chk (decide ((Int.toNat a2) < (List.length (List.set a0_0 (Int.toNat a1) (List.getD a0_0 (Int.toNat a2) d_api_Item))))) <|
  chk (decide ((0 : Int) ≤ a1 ∧ a1 < (((List.length (List.set (List.set a0_0 (Int.toNat a1) (List.getD a0_0 (Int.toNat a2) d_api_Item)) (Int.toNat a2) (List.getD a0_0 (Int.toNat a1) d_api_Item))) : Nat) : Int))) <|
  chk (decide ((Int.toNat a1) < (List.length (List.set (List.set a0_0 (Int.toNat a1) (List.getD a0_0 (Int.toNat a2) d_api_Item)) (Int.toNat a2) (List.getD a0_0 (Int.toNat a1) d_api_Item))))) <|
  chk (decide ((0 : Int) ≤ a2 ∧ a2 < (((List.length (List.set (List.set a0_0 (Int.toNat a1) (List.getD a0_0 (Int.toNat a2) d_api_Item)) (Int.toNat a2) (List.getD a0_0 (Int.toNat a1) d_api_Item))) : Nat) : Int))) <|
  chk (decide ((Int.toNat a2) < (List.length (List.set (List.set a0_0 (Int.toNat a1) (List.getD a0_0 (Int.toNat a2) d_api_Item)) (Int.toNat a2) (List.getD a0_0 (Int.toNat a1) d_api_Item))))) <|
  some ((List.set (List.set a0_0 (Int.toNat a1) (List.getD a0_0 (Int.toNat a2) d_api_Item)) (Int.toNat a2) (List.getD a0_0 (Int.toNat a1) d_api_Item)), (mSet intEq (List.getD (List.set (List.set a0_0 (Int.toNat a1) (List.getD a0_0 (Int.toNat a2) d_api_Item)) (Int.toNat a2) (List.getD a0_0 (Int.toNat a1) d_api_Item)) (Int.toNat a2) d_api_Item).1 a2 (mSet intEq (List.getD (List.set (List.set a0_0 (Int.toNat a1) (List.getD a0_0 (Int.toNat a2) d_api_Item)) (Int.toNat a2) (List.getD a0_0 (Int.toNat a1) d_api_Item)) (Int.toNat a2) d_api_Item).1 (mGet intEq (List.getD (List.set (List.set a0_0 (Int.toNat a1) (List.getD a0_0 (Int.toNat a2) d_api_Item)) (Int.toNat a2) (List.getD a0_0 (Int.toNat a1) d_api_Item)) (Int.toNat a2) d_api_Item).1 (0 : Int) (mSet intEq (List.getD (List.set (List.set a0_0 (Int.toNat a1) (List.getD a0_0 (Int.toNat a2) d_api_Item)) (Int.toNat a2) (List.getD a0_0 (Int.toNat a1) d_api_Item)) (Int.toNat a1) d_api_Item).1 a1 (mSet intEq (List.getD (List.set (List.set a0_0 (Int.toNat a1) (List.getD a0_0 (Int.toNat a2) d_api_Item)) (Int.toNat a2) (List.getD a0_0 (Int.toNat a1) d_api_Item)) (Int.toNat a1) d_api_Item).1 (mGet intEq (List.getD (List.set (List.set a0_0 (Int.toNat a1) (List.getD a0_0 (Int.toNat a2) d_api_Item)) (Int.toNat a2) (List.getD a0_0 (Int.toNat a1) d_api_Item)) (Int.toNat a1) d_api_Item).1 (0 : Int) a0_1) a0_1))) (mSet intEq (List.getD (List.set (List.set a0_0 (Int.toNat a1) (List.getD a0_0 (Int.toNat a2) d_api_Item)) (Int.toNat a2) (List.getD a0_0 (Int.toNat a1) d_api_Item)) (Int.toNat a1) d_api_Item).1 a1 (mSet intEq (List.getD (List.set (List.set a0_0 (Int.toNat a1) (List.getD a0_0 (Int.toNat a2) d_api_Item)) (Int.toNat a2) (List.getD a0_0 (Int.toNat a1) d_api_Item)) (Int.toNat a1) d_api_Item).1 (mGet intEq (List.getD (List.set (List.set a0_0 (Int.toNat a1) (List.getD a0_0 (Int.toNat a2) d_api_Item)) (Int.toNat a2) (List.getD a0_0 (Int.toNat a1) d_api_Item)) (Int.toNat a1) d_api_Item).1 (0 : Int) a0_1) a0_1)))))
def F_heap_Heap_up_l1 (v1 : Int) (l0 : List D_api_Item) (l1 : List (Int × Int)) : Option ((Int × List D_api_Item × List (Int × Int)) ⊕ (List D_api_Item × (List (Int × Int)))) :=
  sel (decide (0 < v1)) (
    chk (decide ((0 : Int) ≤ v1 ∧ v1 < (((List.length l0) : Nat) : Int))) <|
    chk (decide ((Int.toNat v1) < (List.length l0))) <|
    chk (decide ((0 : Int) ≤ (wi64 (Int.tdiv (wi64 (v1 - 1)) 2)) ∧ (wi64 (Int.tdiv (wi64 (v1 - 1)) 2)) < (((List.length l0) : Nat) : Int))) <|
    chk (decide ((Int.toNat (wi64 (Int.tdiv (wi64 (v1 - 1)) 2))) < (List.length l0))) <|
    (F_heap_Before (List.getD l0 (Int.toNat v1) d_api_Item) (List.getD l0 (Int.toNat (wi64 (Int.tdiv (wi64 (v1 - 1)) 2))) d_api_Item)).bind fun r1 =>
    sel r1 (
      (F_heap_Heap_swap l0 l1 v1 (wi64 (Int.tdiv (wi64 (v1 - 1)) 2))).bind fun r2 =>
      some (.inl ((wi64 (Int.tdiv (wi64 (v1 - 1)) 2)), r2.1, r2.2))) (
      some (.inr (l0, l1)))) (
    some (.inr (l0, l1)))
def F_heap_Heap_up_l1s (v1 : Int) (l0 : List D_api_Item) (l1 : List (Int × Int)) : Option (List D_api_Item × (List (Int × Int))) :=
  iterO (fun v => F_heap_Heap_up_l1 v.1 v.2.1 v.2.2) (v1, l0, l1)
def F_heap_Heap_up (a0_0 : List D_api_Item) (a0_1 : List (Int × Int)) (a1 : Int) : Option (List D_api_Item × (List (Int × Int))) :=
  F_heap_Heap_up_l1s a1 a0_0 a0_1
def F_heap_Heap_Push (a0_0 : List D_api_Item) (a0_1 : List (Int × Int)) (a1 : D_api_Item) : Option (List D_api_Item × (List (Int × Int)) × Bool) :=
  sel (Option.isSome (mIdx intEq a1.1 a0_1)) (
    some (a0_0, a0_1, false)) (
    chk (decide (((List.length a0_0) + 1) * 24 ≤ LIM ∧ (List.length a0_0) + 1 ≤ LEN)) <|
    (F_heap_Heap_up (a0_0 ++ ([a1] : List D_api_Item)) (mSet intEq a1.1 (wi64 ((((List.length (a0_0 ++ ([a1] : List D_api_Item))) : Nat) : Int) - 1)) a0_1) (wi64 ((((List.length (a0_0 ++ ([a1] : List D_api_Item))) : Nat) : Int) - 1))).bind fun r1 =>
    some (r1.1, r1.2, true))
def F_heap_Heap_Peek (a0_0 : List D_api_Item) (a0_1 : List (Int × Int)) : Option (List D_api_Item × (List (Int × Int)) × D_api_Item × Bool) :=
  sel (decide ((((List.length a0_0) : Nat) : Int) = 0)) (
    some (a0_0, a0_1, ((0 : Int), (0 : Int), (0 : Int)), false)) (
    chk (decide ((0 : Int) ≤ 0 ∧ 0 < (((List.length a0_0) : Nat) : Int))) <|
    chk (decide (0 < (List.length a0_0))) <|
    some (a0_0, a0_1, (List.getD a0_0 0 d_api_Item), true))
def F_heap_Heap_down_c2 (v1 : Int) (v4 : Int) (l0 : List D_api_Item) (l1 : List (Int × Int)) : Option ((Int × List D_api_Item × List (Int × Int)) ⊕ (List D_api_Item × (List (Int × Int)))) :=
  sel (decide (v4 = v1)) (
    some (.inr (l0, l1))) (
    (F_heap_Heap_swap l0 l1 v1 v4).bind fun r1 =>
    some (.inl (v4, r1.1, r1.2)))
def F_heap_Heap_down_l3 (v1 : Int) (v4 : Int) (v14_0 : Int) (v14_1 : Int) (v15 : Int) (l0 : List D_api_Item) (l1 : List (Int × Int)) : Option ((Int × Int × Int × Int × Int × List D_api_Item × List (Int × Int)) ⊕ ((Int × List D_api_Item × List (Int × Int)) ⊕ (List D_api_Item × (List (Int × Int))))) :=
  sel (decide (v15 < 2)) (
    chk (decide ((0 : Int) ≤ v15 ∧ v15 < 2)) <|
    sel (decide ((vget (Vector.push (Vector.push #v[] v14_0) v14_1) (Int.toNat v15) (0 : Int)) < (((List.length l0) : Nat) : Int))) (
      chk (decide ((0 : Int) ≤ (vget (Vector.push (Vector.push #v[] v14_0) v14_1) (Int.toNat v15) (0 : Int)) ∧ (vget (Vector.push (Vector.push #v[] v14_0) v14_1) (Int.toNat v15) (0 : Int)) < (((List.length l0) : Nat) : Int))) <|
      chk (decide ((Int.toNat (vget (Vector.push (Vector.push #v[] v14_0) v14_1) (Int.toNat v15) (0 : Int))) < (List.length l0))) <|
      chk (decide ((0 : Int) ≤ v4 ∧ v4 < (((List.length l0) : Nat) : Int))) <|
      chk (decide ((Int.toNat v4) < (List.length l0))) <|
      (F_heap_Before (List.getD l0 (Int.toNat (vget (Vector.push (Vector.push #v[] v14_0) v14_1) (Int.toNat v15) (0 : Int))) d_api_Item) (List.getD l0 (Int.toNat v4) d_api_Item)).bind fun r2 =>
      sel r2 (
        some (.inl (v1, (vget (Vector.push (Vector.push #v[] v14_0) v14_1) (Int.toNat v15) (0 : Int)), v14_0, v14_1, (wi64 (v15 + 1)), l0, l1))) (
        some (.inl (v1, v4, v14_0, v14_1, (wi64 (v15 + 1)), l0, l1)))) (
      some (.inl (v1, v4, v14_0, v14_1, (wi64 (v15 + 1)), l0, l1)))) (
    Option.map .inr (
      F_heap_Heap_down_c2 v1 v4 l0 l1))
def F_heap_Heap_down_l3s (v1 : Int) (v4 : Int) (v14_0 : Int) (v14_1 : Int) (v15 : Int) (l0 : List D_api_Item) (l1 : List (Int × Int)) : Option ((Int × List D_api_Item × List (Int × Int)) ⊕ (List D_api_Item × (List (Int × Int)))) :=
  iterO (fun v => F_heap_Heap_down_l3 v.1 v.2.1 v.2.2.1 v.2.2.2.1 v.2.2.2.2.1 v.2.2.2.2.2.1 v.2.2.2.2.2.2) (v1, v4, v14_0, v14_1, v15, l0, l1)
def F_heap_Heap_down_l1 (v1 : Int) (l0 : List D_api_Item) (l1 : List (Int × Int)) : Option ((Int × List D_api_Item × List (Int × Int)) ⊕ (List D_api_Item × (List (Int × Int)))) :=
  F_heap_Heap_down_l3s v1 v1 (wi64 ((wi64 (2 * v1)) + 1)) (wi64 ((wi64 (2 * v1)) + 2)) 0 l0 l1
def F_heap_Heap_down_l1s (v1 : Int) (l0 : List D_api_Item) (l1 : List (Int × Int)) : Option (List D_api_Item × (List (Int × Int))) :=
  iterO (fun v => F_heap_Heap_down_l1 v.1 v.2.1 v.2.2) (v1, l0, l1)
def F_heap_Heap_down (a0_0 : List D_api_Item) (a0_1 : List (Int × Int)) (a1 : Int) : Option (List D_api_Item × (List (Int × Int))) :=
  F_heap_Heap_down_l1s a1 a0_0 a0_1
def F_heap_Heap_take (a0_0 : List D_api_Item) (a0_1 : List (Int × Int)) (a1 : Int) : Option (List D_api_Item × (List (Int × Int))) :=
  (F_heap_Heap_swap a0_0 a0_1 a1 (wi64 ((((List.length a0_0) : Nat) : Int) - 1))).bind fun r1 =>
  chk (decide ((0 : Int) ≤ (wi64 ((((List.length a0_0) : Nat) : Int) - 1)) ∧ (wi64 ((((List.length a0_0) : Nat) : Int) - 1)) < (((List.length r1.1) : Nat) : Int))) <|
  chk (decide ((Int.toNat (wi64 ((((List.length a0_0) : Nat) : Int) - 1))) < (List.length r1.1))) <|
  chk (decide ((0 : Int) ≤ (wi64 ((((List.length a0_0) : Nat) : Int) - 1)) ∧ (wi64 ((((List.length a0_0) : Nat) : Int) - 1)) ≤ (((List.length r1.1) : Nat) : Int))) <|
  sel (decide (a1 < (wi64 ((((List.length a0_0) : Nat) : Int) - 1)))) (
    (F_heap_Heap_up (List.take (Int.toNat (wi64 ((((List.length a0_0) : Nat) : Int) - 1))) r1.1) (mDel intEq (List.getD r1.1 (Int.toNat (wi64 ((((List.length a0_0) : Nat) : Int) - 1))) d_api_Item).1 r1.2) a1).bind fun r2 =>
    (F_heap_Heap_down r2.1 r2.2 a1).bind fun r3 =>
    some (r3.1, r3.2)) (
    some ((List.take (Int.toNat (wi64 ((((List.length a0_0) : Nat) : Int) - 1))) r1.1), (mDel intEq (List.getD r1.1 (Int.toNat (wi64 ((((List.length a0_0) : Nat) : Int) - 1))) d_api_Item).1 r1.2)))
def F_heap_Heap_Pop (a0_0 : List D_api_Item) (a0_1 : List (Int × Int)) : Option (List D_api_Item × (List (Int × Int)) × D_api_Item × Bool) :=
  (F_heap_Heap_Peek a0_0 a0_1).bind fun r1 =>
  sel r1.2.2.2 (
    (F_heap_Heap_take r1.1 r1.2.1 0).bind fun r2 =>
    some (r2.1, r2.2, r1.2.2.1, r1.2.2.2)) (
    some (r1.1, r1.2.1, r1.2.2.1, r1.2.2.2))
def F_heap_Heap_Len (a0_0 : List D_api_Item) (a0_1 : List (Int × Int)) : Option (List D_api_Item × (List (Int × Int)) × Int) :=
  some (a0_0, a0_1, (((List.length a0_0) : Nat) : Int))
def F_heap_Heap_Remove (a0_0 : List D_api_Item) (a0_1 : List (Int × Int)) (a1 : Int) : Option (List D_api_Item × (List (Int × Int)) × Bool) :=
  sel (Option.isSome (mIdx intEq a1 a0_1)) (
    (F_heap_Heap_take a0_0 a0_1 (mGet intEq a1 (0 : Int) a0_1)).bind fun r1 =>
    some (r1.1, r1.2, (Option.isSome (mIdx intEq a1 a0_1)))) (
    some (a0_0, a0_1, (Option.isSome (mIdx intEq a1 a0_1))))
def F_slices_Clone_api_Item_api_Item_own (a0 : List D_api_Item) : Option ((List D_api_Item) × List D_api_Item) := cloneX (u := U_api_Item) 24 a0
def F_slices_SortFunc_api_Item_api_Item_of_heap_Heap_Sorted_1 (a0 : List D_api_Item) : Option (List D_api_Item) := chk (Nat.blt a0.length 4611686018427387904) (some (pdqL (d_api_Item) cfItem a0))
def F_heap_Heap_Sorted (a0_0 : List D_api_Item) (a0_1 : List (Int × Int)) : Option (List D_api_Item × (List (Int × Int)) × List D_api_Item) :=
  (F_slices_Clone_api_Item_api_Item_own a0_0).bind fun r1 =>
  (F_slices_SortFunc_api_Item_api_Item_of_heap_Heap_Sorted_1 r1.2).bind fun r2 =>
  some (r1.1, a0_1, r2)
def F_mempoollaw9_known : Option (Bool) :=
  (F_heap_New).bind fun r1 =>
  (F_heap_Heap_Push r1.1 r1.2 (1, 5, 1)).bind fun r2 =>
  (F_heap_Heap_Push r2.1 r2.2.1 (3, 7, 3)).bind fun r3 =>
  (F_heap_Heap_Push r3.1 r3.2.1 (2, 7, 2)).bind fun r4 =>
  (F_heap_Heap_Push r4.1 r4.2.1 (2, (0 : Int), (0 : Int))).bind fun r5 =>
  (F_heap_Heap_Pop r5.1 r5.2.1).bind fun r6 =>
  (F_heap_Heap_Peek r6.1 r6.2.1).bind fun r7 =>
  sel r2.2.2 (
    sel r3.2.2 (
      sel r4.2.2 (
        sel (!r5.2.2) (
          sel r6.2.2.2 (
            sel (decide (r6.2.2.1.1 = 2)) (
              sel r7.2.2.2 (
                sel (decide (r7.2.2.1.1 = 3)) (
                  (F_heap_Heap_Len r7.1 r7.2.1).bind fun r8 =>
                  sel (decide (r8.2.2 = 2)) (
                    (F_heap_Heap_Remove r8.1 r8.2.1 3).bind fun r9 =>
                    sel r9.2.2 (
                      (F_heap_Heap_Sorted r9.1 r9.2.1).bind fun r10 =>
                      some (decide ((((List.length r10.2.2) : Nat) : Int) = 1))) (
                      some false)) (
                    some false)) (
                  some false)) (
                some false)) (
              some false)) (
            some false)) (
          some false)) (
        some false)) (
      some false)) (
    some false)
def F_mempoolmake_From (a0 : List Int) : Option (D_mempoolmake_Numbers) :=
  some (a0, (0 : Int))
def F_mempoolmake_Place (a0 : Int) (a1 : Int) : Option (Int) :=
  chk (!decide (a1 = 0)) <|
  sel (decide ((Int.tmod a0 a1) < 0)) (
    some (wi64 ((Int.tmod a0 a1) + a1))) (
    some (Int.tmod a0 a1))
def F_mempoolmake_Numbers_Next_c1 (v1 : Int) (v5 : Int) (b0 : D_mempoolmake_Numbers) : Option (D_mempoolmake_Numbers × Int) :=
  (F_mempoolmake_Place v5 v1).bind fun r1 =>
  some ((b0.1, (wi64 (b0.2 + 1))), r1)
def F_mempoolmake_Numbers_Next (a0 : D_mempoolmake_Numbers) (a1 : Int) : Option (D_mempoolmake_Numbers × Int) :=
  sel (decide (a0.2 < (((List.length a0.1) : Nat) : Int))) (
    chk (decide ((0 : Int) ≤ a0.2 ∧ a0.2 < (((List.length a0.1) : Nat) : Int))) <|
    F_mempoolmake_Numbers_Next_c1 a1 (List.getD a0.1 (Int.toNat a0.2) (0 : Int)) a0) (
    F_mempoolmake_Numbers_Next_c1 a1 0 a0)
def F_mempoollaw9_item (a0 : D_mempoolmake_Numbers) : Option (D_mempoolmake_Numbers × D_api_Item) :=
  (F_mempoolmake_Numbers_Next a0 9).bind fun r1 =>
  (F_mempoolmake_Numbers_Next r1.1 4).bind fun r2 =>
  (F_mempoolmake_Numbers_Next r2.1 5).bind fun r3 =>
  some (r3.1, ((wi64 (r1.2 - 2)), (wu64 r2.2), (wi64 (r3.2 - 1))))
def F_mempoolref7_Before (a0 : D_api_Item) (a1 : D_api_Item) : Option (Bool) :=
  sel (!decide (a0.2.1 = a1.2.1)) (
    some (decide (a1.2.1 < a0.2.1))) (
    sel (!decide (a0.2.2 = a1.2.2)) (
      some (decide (a0.2.2 < a1.2.2))) (
      some (decide (a0.1 < a1.1))))
def F_mempoollaw9_HeapOrders_l1 (v32 : Vector (Vector D_api_Item 3) 2) (v33 : Int) : Option ((Vector (Vector D_api_Item 3) 2 × Int) ⊕ (Bool)) :=
  sel (decide (v33 < 2)) (
    chk (decide ((0 : Int) ≤ v33 ∧ v33 < 2)) <|
    (F_heap_Before (vget (vget v32 (Int.toNat v33) (Vector.replicate 3 d_api_Item)) 0 d_api_Item) (vget (vget v32 (Int.toNat v33) (Vector.replicate 3 d_api_Item)) 1 d_api_Item)).bind fun r7 =>
    (F_mempoolref7_Before (vget (vget v32 (Int.toNat v33) (Vector.replicate 3 d_api_Item)) 0 d_api_Item) (vget (vget v32 (Int.toNat v33) (Vector.replicate 3 d_api_Item)) 1 d_api_Item)).bind fun r8 =>
    sel (!(beqB r7 r8)) (
      some (.inr false)) (
      (F_heap_Before (vget (vget v32 (Int.toNat v33) (Vector.replicate 3 d_api_Item)) 0 d_api_Item) (vget (vget v32 (Int.toNat v33) (Vector.replicate 3 d_api_Item)) 1 d_api_Item)).bind fun r9 =>
      sel r9 (
        (F_heap_Before (vget (vget v32 (Int.toNat v33) (Vector.replicate 3 d_api_Item)) 1 d_api_Item) (vget (vget v32 (Int.toNat v33) (Vector.replicate 3 d_api_Item)) 0 d_api_Item)).bind fun r10 =>
        sel r10 (
          some (.inr false)) (
          (F_heap_Before (vget (vget v32 (Int.toNat v33) (Vector.replicate 3 d_api_Item)) 0 d_api_Item) (vget (vget v32 (Int.toNat v33) (Vector.replicate 3 d_api_Item)) 1 d_api_Item)).bind fun r11 =>
          sel r11 (
            sel (beqB true (U.beq U_api_Item (vget (vget v32 (Int.toNat v33) (Vector.replicate 3 d_api_Item)) 0 d_api_Item) (vget (vget v32 (Int.toNat v33) (Vector.replicate 3 d_api_Item)) 1 d_api_Item))) (
              some (.inr false)) (
              (F_heap_Before (vget (vget v32 (Int.toNat v33) (Vector.replicate 3 d_api_Item)) 0 d_api_Item) (vget (vget v32 (Int.toNat v33) (Vector.replicate 3 d_api_Item)) 1 d_api_Item)).bind fun r12 =>
              sel r12 (
                (F_heap_Before (vget (vget v32 (Int.toNat v33) (Vector.replicate 3 d_api_Item)) 1 d_api_Item) (vget (vget v32 (Int.toNat v33) (Vector.replicate 3 d_api_Item)) 2 d_api_Item)).bind fun r13 =>
                sel r13 (
                  (F_heap_Before (vget (vget v32 (Int.toNat v33) (Vector.replicate 3 d_api_Item)) 0 d_api_Item) (vget (vget v32 (Int.toNat v33) (Vector.replicate 3 d_api_Item)) 2 d_api_Item)).bind fun r14 =>
                  sel (!r14) (
                    some (.inr false)) (
                    some (.inl (v32, (wi64 (v33 + 1)))))) (
                  some (.inl (v32, (wi64 (v33 + 1)))))) (
                some (.inl (v32, (wi64 (v33 + 1))))))) (
            (F_heap_Before (vget (vget v32 (Int.toNat v33) (Vector.replicate 3 d_api_Item)) 1 d_api_Item) (vget (vget v32 (Int.toNat v33) (Vector.replicate 3 d_api_Item)) 0 d_api_Item)).bind fun r15 =>
            sel (beqB r15 (U.beq U_api_Item (vget (vget v32 (Int.toNat v33) (Vector.replicate 3 d_api_Item)) 0 d_api_Item) (vget (vget v32 (Int.toNat v33) (Vector.replicate 3 d_api_Item)) 1 d_api_Item))) (
              some (.inr false)) (
              (F_heap_Before (vget (vget v32 (Int.toNat v33) (Vector.replicate 3 d_api_Item)) 0 d_api_Item) (vget (vget v32 (Int.toNat v33) (Vector.replicate 3 d_api_Item)) 1 d_api_Item)).bind fun r16 =>
              sel r16 (
                (F_heap_Before (vget (vget v32 (Int.toNat v33) (Vector.replicate 3 d_api_Item)) 1 d_api_Item) (vget (vget v32 (Int.toNat v33) (Vector.replicate 3 d_api_Item)) 2 d_api_Item)).bind fun r17 =>
                sel r17 (
                  (F_heap_Before (vget (vget v32 (Int.toNat v33) (Vector.replicate 3 d_api_Item)) 0 d_api_Item) (vget (vget v32 (Int.toNat v33) (Vector.replicate 3 d_api_Item)) 2 d_api_Item)).bind fun r18 =>
                  sel (!r18) (
                    some (.inr false)) (
                    some (.inl (v32, (wi64 (v33 + 1)))))) (
                  some (.inl (v32, (wi64 (v33 + 1)))))) (
                some (.inl (v32, (wi64 (v33 + 1))))))))) (
        (F_heap_Before (vget (vget v32 (Int.toNat v33) (Vector.replicate 3 d_api_Item)) 0 d_api_Item) (vget (vget v32 (Int.toNat v33) (Vector.replicate 3 d_api_Item)) 1 d_api_Item)).bind fun r19 =>
        sel r19 (
          sel (beqB true (U.beq U_api_Item (vget (vget v32 (Int.toNat v33) (Vector.replicate 3 d_api_Item)) 0 d_api_Item) (vget (vget v32 (Int.toNat v33) (Vector.replicate 3 d_api_Item)) 1 d_api_Item))) (
            some (.inr false)) (
            (F_heap_Before (vget (vget v32 (Int.toNat v33) (Vector.replicate 3 d_api_Item)) 0 d_api_Item) (vget (vget v32 (Int.toNat v33) (Vector.replicate 3 d_api_Item)) 1 d_api_Item)).bind fun r20 =>
            sel r20 (
              (F_heap_Before (vget (vget v32 (Int.toNat v33) (Vector.replicate 3 d_api_Item)) 1 d_api_Item) (vget (vget v32 (Int.toNat v33) (Vector.replicate 3 d_api_Item)) 2 d_api_Item)).bind fun r21 =>
              sel r21 (
                (F_heap_Before (vget (vget v32 (Int.toNat v33) (Vector.replicate 3 d_api_Item)) 0 d_api_Item) (vget (vget v32 (Int.toNat v33) (Vector.replicate 3 d_api_Item)) 2 d_api_Item)).bind fun r22 =>
                sel (!r22) (
                  some (.inr false)) (
                  some (.inl (v32, (wi64 (v33 + 1)))))) (
                some (.inl (v32, (wi64 (v33 + 1)))))) (
              some (.inl (v32, (wi64 (v33 + 1))))))) (
          (F_heap_Before (vget (vget v32 (Int.toNat v33) (Vector.replicate 3 d_api_Item)) 1 d_api_Item) (vget (vget v32 (Int.toNat v33) (Vector.replicate 3 d_api_Item)) 0 d_api_Item)).bind fun r23 =>
          sel (beqB r23 (U.beq U_api_Item (vget (vget v32 (Int.toNat v33) (Vector.replicate 3 d_api_Item)) 0 d_api_Item) (vget (vget v32 (Int.toNat v33) (Vector.replicate 3 d_api_Item)) 1 d_api_Item))) (
            some (.inr false)) (
            (F_heap_Before (vget (vget v32 (Int.toNat v33) (Vector.replicate 3 d_api_Item)) 0 d_api_Item) (vget (vget v32 (Int.toNat v33) (Vector.replicate 3 d_api_Item)) 1 d_api_Item)).bind fun r24 =>
            sel r24 (
              (F_heap_Before (vget (vget v32 (Int.toNat v33) (Vector.replicate 3 d_api_Item)) 1 d_api_Item) (vget (vget v32 (Int.toNat v33) (Vector.replicate 3 d_api_Item)) 2 d_api_Item)).bind fun r25 =>
              sel r25 (
                (F_heap_Before (vget (vget v32 (Int.toNat v33) (Vector.replicate 3 d_api_Item)) 0 d_api_Item) (vget (vget v32 (Int.toNat v33) (Vector.replicate 3 d_api_Item)) 2 d_api_Item)).bind fun r26 =>
                sel (!r26) (
                  some (.inr false)) (
                  some (.inl (v32, (wi64 (v33 + 1)))))) (
                some (.inl (v32, (wi64 (v33 + 1)))))) (
              some (.inl (v32, (wi64 (v33 + 1)))))))))) (
    Option.map .inr (
      (F_mempoollaw9_known).bind fun r27 =>
      some r27))
def F_mempoollaw9_HeapOrders_l1s (v32 : Vector (Vector D_api_Item 3) 2) (v33 : Int) : Option (Bool) :=
  iterO (fun v => F_mempoollaw9_HeapOrders_l1 v.1 v.2) (v32, v33)
def F_mempoollaw9_HeapOrders (a0 : D_api_Item) (a1 : D_api_Item) (a2 : D_api_Item) (a3 : List Int) : Option (Bool) :=
  (F_mempoollaw9_long [a3]).bind fun r1 =>
  sel r1 (
    (F_mempoollaw9_known).bind fun r2 =>
    some r2) (
    (F_mempoolmake_From a3).bind fun r3 =>
    (F_mempoollaw9_item r3).bind fun r4 =>
    (F_mempoollaw9_item r4.1).bind fun r5 =>
    (F_mempoollaw9_item r5.1).bind fun r6 =>
    F_mempoollaw9_HeapOrders_l1s (Vector.push (Vector.push #v[] (Vector.push (Vector.push (Vector.push #v[] a0) a1) a2)) (Vector.push (Vector.push (Vector.push #v[] r4.2) r5.2) r6.2)) 0)
def F_mempoolref7_Insert_c1 (v0 : List D_api_Item) (v6 : Int) (b0 : D_api_Item) : Option (List D_api_Item × Bool) :=
  chk (decide ((0 : Int) ≤ 0 ∧ 0 ≤ v6 ∧ v6 ≤ (((List.length v0) : Nat) : Int))) <|
  chk (decide ((0 + (List.length (List.take (Int.toNat v6) v0))) * 24 ≤ LIM ∧ 0 + (List.length (List.take (Int.toNat v6) v0)) ≤ LEN)) <|
  chk (decide (((List.length (List.take (Int.toNat v6) v0)) + 1) * 24 ≤ LIM ∧ (List.length (List.take (Int.toNat v6) v0)) + 1 ≤ LEN)) <|
  chk (decide ((0 : Int) ≤ v6 ∧ v6 ≤ (((List.length v0) : Nat) : Int) ∧ (((List.length v0) : Nat) : Int) ≤ (((List.length v0) : Nat) : Int))) <|
  chk (decide (((List.length ((List.take (Int.toNat v6) v0) ++ ([b0] : List D_api_Item))) + (List.length (List.drop (Int.toNat v6) (List.take (Int.toNat (((List.length v0) : Nat) : Int)) v0)))) * 24 ≤ LIM ∧ (List.length ((List.take (Int.toNat v6) v0) ++ ([b0] : List D_api_Item))) + (List.length (List.drop (Int.toNat v6) (List.take (Int.toNat (((List.length v0) : Nat) : Int)) v0))) ≤ LEN)) <|
  some ((((List.take (Int.toNat v6) v0) ++ ([b0] : List D_api_Item)) ++ (List.drop (Int.toNat v6) (List.take (Int.toNat (((List.length v0) : Nat) : Int)) v0))), true)
def F_mempoolref7_Insert_l2 (v0 : List D_api_Item) (v6 : Int) (v9 : List D_api_Item) (v10 : Int) (v11 : Int) (b0 : D_api_Item) : Option ((List D_api_Item × Int × List D_api_Item × Int × Int × D_api_Item) ⊕ (List D_api_Item × Bool)) :=
  sel (decide (v11 < v10)) (
    chk (decide ((0 : Int) ≤ v11 ∧ v11 < (((List.length v9) : Nat) : Int))) <|
    sel (decide ((List.getD v9 (Int.toNat v11) d_api_Item).1 = b0.1)) (
      some (.inr (v0, false))) (
      (F_mempoolref7_Before (List.getD v9 (Int.toNat v11) d_api_Item) b0).bind fun r1 =>
      sel r1 (
        some (.inl (v0, (wi64 (v11 + 1)), v9, v10, (wi64 (v11 + 1)), b0))) (
        some (.inl (v0, v6, v9, v10, (wi64 (v11 + 1)), b0))))) (
    Option.map .inr (
      F_mempoolref7_Insert_c1 v0 v6 b0))
def F_mempoolref7_Insert_l2s (v0 : List D_api_Item) (v6 : Int) (v9 : List D_api_Item) (v10 : Int) (v11 : Int) (b0 : D_api_Item) : Option (List D_api_Item × Bool) :=
  iterO (fun v => F_mempoolref7_Insert_l2 v.1 v.2.1 v.2.2.1 v.2.2.2.1 v.2.2.2.2.1 v.2.2.2.2.2) (v0, v6, v9, v10, v11, b0)
def F_mempoolref7_Insert (a0 : List D_api_Item) (a1 : D_api_Item) : Option (List D_api_Item × Bool) :=
  F_mempoolref7_Insert_l2s a0 0 a0 (((List.length a0) : Nat) : Int) 0 a1
def F_mempoolref7_Take_l1 (v0 : List D_api_Item) (v1 : Int) (v8 : List D_api_Item) (v9 : Int) (v10 : Int) : Option ((List D_api_Item × Int × List D_api_Item × Int × Int) ⊕ (List D_api_Item × Bool)) :=
  sel (decide (v10 < v9)) (
    chk (decide ((0 : Int) ≤ v10 ∧ v10 < (((List.length v8) : Nat) : Int))) <|
    sel (decide ((List.getD v8 (Int.toNat v10) d_api_Item).1 = v1)) (
      chk (decide ((0 : Int) ≤ 0 ∧ 0 ≤ v10 ∧ v10 ≤ (((List.length v0) : Nat) : Int))) <|
      chk (decide ((0 + (List.length (List.take (Int.toNat v10) v0))) * 24 ≤ LIM ∧ 0 + (List.length (List.take (Int.toNat v10) v0)) ≤ LEN)) <|
      chk (decide ((0 : Int) ≤ (wi64 (v10 + 1)) ∧ (wi64 (v10 + 1)) ≤ (((List.length v0) : Nat) : Int) ∧ (((List.length v0) : Nat) : Int) ≤ (((List.length v0) : Nat) : Int))) <|
      chk (decide (((List.length (List.take (Int.toNat v10) v0)) + (List.length (List.drop (Int.toNat (wi64 (v10 + 1))) (List.take (Int.toNat (((List.length v0) : Nat) : Int)) v0)))) * 24 ≤ LIM ∧ (List.length (List.take (Int.toNat v10) v0)) + (List.length (List.drop (Int.toNat (wi64 (v10 + 1))) (List.take (Int.toNat (((List.length v0) : Nat) : Int)) v0))) ≤ LEN)) <|
      some (.inr (((List.take (Int.toNat v10) v0) ++ (List.drop (Int.toNat (wi64 (v10 + 1))) (List.take (Int.toNat (((List.length v0) : Nat) : Int)) v0))), true))) (
      some (.inl (v0, v1, v8, v9, (wi64 (v10 + 1)))))) (
    some (.inr (v0, false)))
def F_mempoolref7_Take_l1s (v0 : List D_api_Item) (v1 : Int) (v8 : List D_api_Item) (v9 : Int) (v10 : Int) : Option (List D_api_Item × Bool) :=
  iterO (fun v => F_mempoolref7_Take_l1 v.1 v.2.1 v.2.2.1 v.2.2.2.1 v.2.2.2.2) (v0, v1, v8, v9, v10)
def F_mempoolref7_Take (a0 : List D_api_Item) (a1 : Int) : Option (List D_api_Item × Bool) :=
  F_mempoolref7_Take_l1s a0 a1 a0 (((List.length a0) : Nat) : Int) 0
def F_mempoolref7_SameItems_l1 (v0 : List D_api_Item) (v1 : List D_api_Item) (v12 : Int) (v13 : Int) : Option ((List D_api_Item × List D_api_Item × Int × Int) ⊕ (Bool)) :=
  sel (decide (v13 < v12)) (
    chk (decide ((0 : Int) ≤ v13 ∧ v13 < (((List.length v0) : Nat) : Int))) <|
    chk (decide ((0 : Int) ≤ v13 ∧ v13 < (((List.length v1) : Nat) : Int))) <|
    sel (!(U.beq U_api_Item (List.getD v0 (Int.toNat v13) d_api_Item) (List.getD v1 (Int.toNat v13) d_api_Item))) (
      some (.inr false)) (
      some (.inl (v0, v1, v12, (wi64 (v13 + 1)))))) (
    some (.inr true))
def F_mempoolref7_SameItems_l1s (v0 : List D_api_Item) (v1 : List D_api_Item) (v12 : Int) (v13 : Int) : Option (Bool) :=
  iterO (fun v => F_mempoolref7_SameItems_l1 v.1 v.2.1 v.2.2.1 v.2.2.2) (v0, v1, v12, v13)
def F_mempoolref7_SameItems (a0 : List D_api_Item) (a1 : List D_api_Item) : Option (Bool) :=
  sel (!decide ((((List.length a0) : Nat) : Int) = (((List.length a1) : Nat) : Int))) (
    some false) (
    F_mempoolref7_SameItems_l1s a0 a1 (((List.length a0) : Nat) : Int) 0)
def F_mempoollaw9_HeapPlays_c3 (v0 : List Int) (v7 : List D_api_Item) (b0 : D_mempoolmake_Numbers) (l0 : List D_api_Item) (l1 : List (Int × Int)) : Option ((List Int × List D_api_Item × D_mempoolmake_Numbers × List D_api_Item × List (Int × Int)) ⊕ (Bool)) :=
  (F_heap_Heap_Peek l0 l1).bind fun r7 =>
  sel (!(beqB r7.2.2.2 (decide (0 < (((List.length v7) : Nat) : Int))))) (
    some (.inr false)) (
    sel r7.2.2.2 (
      chk (decide ((0 : Int) ≤ 0 ∧ 0 < (((List.length v7) : Nat) : Int))) <|
      sel (!(U.beq U_api_Item r7.2.2.1 (List.getD v7 0 d_api_Item))) (
        some (.inr false)) (
        (F_heap_Heap_Len r7.1 r7.2.1).bind fun r8 =>
        sel (!decide (r8.2.2 = (((List.length v7) : Nat) : Int))) (
          some (.inr false)) (
          (F_heap_Heap_Sorted r8.1 r8.2.1).bind fun r9 =>
          (F_mempoolref7_SameItems r9.2.2 v7).bind fun r10 =>
          sel (!r10) (
            some (.inr false)) (
            some (.inl (v0, v7, b0, r9.1, r9.2.1)))))) (
      (F_heap_Heap_Len r7.1 r7.2.1).bind fun r11 =>
      sel (!decide (r11.2.2 = (((List.length v7) : Nat) : Int))) (
        some (.inr false)) (
        (F_heap_Heap_Sorted r11.1 r11.2.1).bind fun r12 =>
        (F_mempoolref7_SameItems r12.2.2 v7).bind fun r13 =>
        sel (!r13) (
          some (.inr false)) (
          some (.inl (v0, v7, b0, r12.1, r12.2.1))))))
def F_mempoollaw9_HeapPlays_l2 (v0 : List Int) (v7 : List D_api_Item) (b0 : D_mempoolmake_Numbers) (l0 : List D_api_Item) (l1 : List (Int × Int)) : Option ((List Int × List D_api_Item × D_mempoolmake_Numbers × List D_api_Item × List (Int × Int)) ⊕ (Bool)) :=
  sel (decide (b0.2 < (((List.length v0) : Nat) : Int))) (
    (F_mempoollaw9_item b0).bind fun r6 =>
    (F_mempoolmake_Numbers_Next r6.1 6).bind fun r14 =>
    sel (decide (r14.2 = 0)) (
      (F_heap_Heap_Pop l0 l1).bind fun r15 =>
      sel (!(beqB r15.2.2.2 (decide (0 < (((List.length v7) : Nat) : Int))))) (
        some (.inr false)) (
        sel r15.2.2.2 (
          chk (decide ((0 : Int) ≤ 0 ∧ 0 < (((List.length v7) : Nat) : Int))) <|
          sel (!(U.beq U_api_Item r15.2.2.1 (List.getD v7 0 d_api_Item))) (
            some (.inr false)) (
            sel (!r15.2.2.2) (
              sel (!(U.beq U_api_Item r15.2.2.1 ((0 : Int), (0 : Int), (0 : Int)))) (
                some (.inr false)) (
                sel r15.2.2.2 (
                  chk (decide ((0 : Int) ≤ 1 ∧ 1 ≤ (((List.length v7) : Nat) : Int) ∧ (((List.length v7) : Nat) : Int) ≤ (((List.length v7) : Nat) : Int))) <|
                  F_mempoollaw9_HeapPlays_c3 v0 (List.drop 1 (List.take (Int.toNat (((List.length v7) : Nat) : Int)) v7)) r14.1 r15.1 r15.2.1) (
                  F_mempoollaw9_HeapPlays_c3 v0 v7 r14.1 r15.1 r15.2.1))) (
              sel r15.2.2.2 (
                chk (decide ((0 : Int) ≤ 1 ∧ 1 ≤ (((List.length v7) : Nat) : Int) ∧ (((List.length v7) : Nat) : Int) ≤ (((List.length v7) : Nat) : Int))) <|
                F_mempoollaw9_HeapPlays_c3 v0 (List.drop 1 (List.take (Int.toNat (((List.length v7) : Nat) : Int)) v7)) r14.1 r15.1 r15.2.1) (
                F_mempoollaw9_HeapPlays_c3 v0 v7 r14.1 r15.1 r15.2.1)))) (
          sel (!r15.2.2.2) (
            sel (!(U.beq U_api_Item r15.2.2.1 ((0 : Int), (0 : Int), (0 : Int)))) (
              some (.inr false)) (
              sel r15.2.2.2 (
                chk (decide ((0 : Int) ≤ 1 ∧ 1 ≤ (((List.length v7) : Nat) : Int) ∧ (((List.length v7) : Nat) : Int) ≤ (((List.length v7) : Nat) : Int))) <|
                F_mempoollaw9_HeapPlays_c3 v0 (List.drop 1 (List.take (Int.toNat (((List.length v7) : Nat) : Int)) v7)) r14.1 r15.1 r15.2.1) (
                F_mempoollaw9_HeapPlays_c3 v0 v7 r14.1 r15.1 r15.2.1))) (
            sel r15.2.2.2 (
              chk (decide ((0 : Int) ≤ 1 ∧ 1 ≤ (((List.length v7) : Nat) : Int) ∧ (((List.length v7) : Nat) : Int) ≤ (((List.length v7) : Nat) : Int))) <|
              F_mempoollaw9_HeapPlays_c3 v0 (List.drop 1 (List.take (Int.toNat (((List.length v7) : Nat) : Int)) v7)) r14.1 r15.1 r15.2.1) (
              F_mempoollaw9_HeapPlays_c3 v0 v7 r14.1 r15.1 r15.2.1))))) (
      sel (decide (r14.2 = 1)) (
        (F_mempoolref7_Take v7 r6.2.1).bind fun r16 =>
        (F_heap_Heap_Remove l0 l1 r6.2.1).bind fun r17 =>
        sel (!(beqB r17.2.2 r16.2)) (
          some (.inr false)) (
          F_mempoollaw9_HeapPlays_c3 v0 r16.1 r14.1 r17.1 r17.2.1)) (
        (F_mempoolref7_Insert v7 r6.2).bind fun r18 =>
        (F_heap_Heap_Push l0 l1 r6.2).bind fun r19 =>
        sel (!(beqB r19.2.2 r18.2)) (
          some (.inr false)) (
          F_mempoollaw9_HeapPlays_c3 v0 r18.1 r14.1 r19.1 r19.2.1)))) (
    Option.map .inr (
      (F_mempoollaw9_known).bind fun r20 =>
      some r20))
def F_mempoollaw9_HeapPlays_l2s (v0 : List Int) (v7 : List D_api_Item) (b0 : D_mempoolmake_Numbers) (l0 : List D_api_Item) (l1 : List (Int × Int)) : Option (Bool) :=
  iterO (fun v => F_mempoollaw9_HeapPlays_l2 v.1 v.2.1 v.2.2.1 v.2.2.2.1 v.2.2.2.2) (v0, v7, b0, l0, l1)
def F_mempoollaw9_HeapPlays_c1 (v0 : List Int) (v7 : List D_api_Item) (b0 : D_mempoolmake_Numbers) (l0 : List D_api_Item) (l1 : List (Int × Int)) : Option (Bool) :=
  F_mempoollaw9_HeapPlays_l2s v0 v7 b0 l0 l1
def F_mempoollaw9_HeapPlays_l4 (v0 : List Int) (v7 : List D_api_Item) (v35 : List D_api_Item) (v36 : Int) (v37 : Int) (b0 : D_mempoolmake_Numbers) (l0 : List D_api_Item) (l1 : List (Int × Int)) : Option ((List Int × List D_api_Item × List D_api_Item × Int × Int × D_mempoolmake_Numbers × List D_api_Item × List (Int × Int)) ⊕ (Bool)) :=
  sel (decide (v37 < v36)) (
    chk (decide ((0 : Int) ≤ v37 ∧ v37 < (((List.length v35) : Nat) : Int))) <|
    (F_mempoolref7_Insert v7 (List.getD v35 (Int.toNat v37) d_api_Item)).bind fun r21 =>
    (F_heap_Heap_Push l0 l1 (List.getD v35 (Int.toNat v37) d_api_Item)).bind fun r22 =>
    sel (!(beqB r22.2.2 r21.2)) (
      some (.inr false)) (
      some (.inl (v0, r21.1, v35, v36, (wi64 (v37 + 1)), b0, r22.1, r22.2.1)))) (
    Option.map .inr (
      F_mempoollaw9_HeapPlays_c1 v0 v7 b0 l0 l1))
def F_mempoollaw9_HeapPlays_l4s (v0 : List Int) (v7 : List D_api_Item) (v35 : List D_api_Item) (v36 : Int) (v37 : Int) (b0 : D_mempoolmake_Numbers) (l0 : List D_api_Item) (l1 : List (Int × Int)) : Option (Bool) :=
  iterO (fun v => F_mempoollaw9_HeapPlays_l4 v.1 v.2.1 v.2.2.1 v.2.2.2.1 v.2.2.2.2.1 v.2.2.2.2.2.1 v.2.2.2.2.2.2.1 v.2.2.2.2.2.2.2) (v0, v7, v35, v36, v37, b0, l0, l1)
def F_mempoollaw9_HeapPlays (a0 : List Int) (a1 : List D_api_Item) : Option (Bool) :=
  (F_mempoollaw9_long [a0]).bind fun r1 =>
  sel r1 (
    (F_mempoollaw9_known).bind fun r2 =>
    some r2) (
    sel (decide (30 < (((List.length a1) : Nat) : Int))) (
      (F_mempoollaw9_known).bind fun r3 =>
      some r3) (
      (F_mempoolmake_From a0).bind fun r4 =>
      (F_heap_New).bind fun r5 =>
      F_mempoollaw9_HeapPlays_l4s a0 [] a1 (((List.length a1) : Nat) : Int) 0 r4 r5.1 r5.2))
def F_mempoollaw9_HeapSorts_c4 (l0 : List D_api_Item) (l1 : List (Int × Int)) (l2 : List D_api_Item) (l3 : List (Int × Int)) : Option (Bool) :=
  (F_heap_Heap_Pop l0 l1).bind fun r7 =>
  sel (!r7.2.2.2) (
    (F_heap_Heap_Len r7.1 r7.2.1).bind fun r8 =>
    sel (decide (r8.2.2 = 0)) (
      (F_heap_Heap_Len l2 l3).bind fun r9 =>
      sel (decide (r9.2.2 = 0)) (
        (F_mempoollaw9_known).bind fun r10 =>
        some r10) (
        some false)) (
      some false)) (
    some false)
def F_mempoollaw9_HeapSorts_l5 (v102 : Int) (v103 : Int) (l0 : List D_api_Item) (l1 : List (Int × Int)) (l2 : List D_api_Item) (l3 : List (Int × Int)) (l4 : List D_api_Item) : Option ((Int × Int × List D_api_Item × (List (Int × Int)) × List D_api_Item × (List (Int × Int)) × List D_api_Item) ⊕ (Bool)) :=
  sel (decide (v103 < v102)) (
    chk (decide ((0 : Int) ≤ v103 ∧ v103 < (((List.length l4) : Nat) : Int))) <|
    chk (decide ((Int.toNat v103) < (List.length l4))) <|
    (F_heap_Heap_Pop l0 l1).bind fun r11 =>
    (F_heap_Heap_Pop l2 l3).bind fun r12 =>
    sel (!r11.2.2.2) (
      some (.inr false)) (
      sel (!r12.2.2.2) (
        some (.inr false)) (
        sel (!(U.beq U_api_Item (List.getD l4 (Int.toNat v103) d_api_Item) r11.2.2.1)) (
          some (.inr false)) (
          sel (!(U.beq U_api_Item (List.getD l4 (Int.toNat v103) d_api_Item) r12.2.2.1)) (
            some (.inr false)) (
            some (.inl (v102, (wi64 (v103 + 1)), r11.1, r11.2.1, r12.1, r12.2.1, l4))))))) (
    Option.map .inr (
      F_mempoollaw9_HeapSorts_c4 l0 l1 l2 l3))
def F_mempoollaw9_HeapSorts_l5s (v102 : Int) (v103 : Int) (l0 : List D_api_Item) (l1 : List (Int × Int)) (l2 : List D_api_Item) (l3 : List (Int × Int)) (l4 : List D_api_Item) : Option (Bool) :=
  iterO (fun v => F_mempoollaw9_HeapSorts_l5 v.1 v.2.1 v.2.2.1 v.2.2.2.1 v.2.2.2.2.1 v.2.2.2.2.2.1 v.2.2.2.2.2.2) (v102, v103, l0, l1, l2, l3, l4)
def F_mempoollaw9_HeapSorts_c3 (l0 : List D_api_Item) (l1 : List (Int × Int)) (l2 : List D_api_Item) (l3 : List (Int × Int)) : Option (Bool) :=
  (F_heap_Heap_Sorted l0 l1).bind fun r6 =>
  F_mempoollaw9_HeapSorts_l5s (((List.length r6.2.2) : Nat) : Int) 0 r6.1 r6.2.1 l2 l3 r6.2.2
def F_mempoollaw9_HeapSorts_c7 (v1 : List Int) (v12 : Int) (l0 : List D_api_Item) (l1 : List D_api_Item) (l2 : List (Int × Int)) (l3 : List D_api_Item) (l4 : List (Int × Int)) : Option ((List Int × List D_api_Item × List D_api_Item × (List (Int × Int)) × List D_api_Item × List (Int × Int)) ⊕ (Bool)) :=
  chk (decide ((0 : Int) ≤ v12 ∧ v12 < (((List.length l0) : Nat) : Int))) <|
  chk (decide ((Int.toNat v12) < (List.length l0))) <|
  (F_heap_Heap_Push l3 l4 (List.getD l0 (Int.toNat v12) d_api_Item)).bind fun r13 =>
  chk (decide ((0 : Int) ≤ 0 ∧ 0 ≤ v12 ∧ v12 ≤ (((List.length l0) : Nat) : Int))) <|
  chk (decide ((0 + (List.length (List.take (Int.toNat v12) l0))) * 24 ≤ LIM ∧ 0 + (List.length (List.take (Int.toNat v12) l0)) ≤ LEN)) <|
  chk (decide ((0 : Int) ≤ (wi64 (v12 + 1)) ∧ (wi64 (v12 + 1)) ≤ (((List.length l0) : Nat) : Int) ∧ (((List.length l0) : Nat) : Int) ≤ (((List.length l0) : Nat) : Int))) <|
  chk (decide (((List.length (List.take (Int.toNat v12) l0)) + (List.length (List.drop (Int.toNat (wi64 (v12 + 1))) (List.take (Int.toNat (((List.length l0) : Nat) : Int)) l0)))) * 24 ≤ LIM ∧ (List.length (List.take (Int.toNat v12) l0)) + (List.length (List.drop (Int.toNat (wi64 (v12 + 1))) (List.take (Int.toNat (((List.length l0) : Nat) : Int)) l0))) ≤ LEN)) <|
  some (.inl (v1, ((List.take (Int.toNat v12) l0) ++ (List.drop (Int.toNat (wi64 (v12 + 1))) (List.take (Int.toNat (((List.length l0) : Nat) : Int)) l0))), l1, l2, r13.1, r13.2.1))
def F_mempoollaw9_HeapSorts_l6 (v1 : List Int) (l0 : List D_api_Item) (l1 : List D_api_Item) (l2 : List (Int × Int)) (l3 : List D_api_Item) (l4 : List (Int × Int)) : Option ((List Int × List D_api_Item × List D_api_Item × (List (Int × Int)) × List D_api_Item × List (Int × Int)) ⊕ (Bool)) :=
  sel (decide (0 < (((List.length l0) : Nat) : Int))) (
    sel (decide (0 < (((List.length v1) : Nat) : Int))) (
      chk (!decide ((((List.length v1) : Nat) : Int) = 0)) <|
      chk (decide ((0 : Int) ≤ (Int.tmod (((List.length l0) : Nat) : Int) (((List.length v1) : Nat) : Int)) ∧ (Int.tmod (((List.length l0) : Nat) : Int) (((List.length v1) : Nat) : Int)) < (((List.length v1) : Nat) : Int))) <|
      (F_mempoolmake_Place (List.getD v1 (Int.toNat (Int.tmod (((List.length l0) : Nat) : Int) (((List.length v1) : Nat) : Int))) (0 : Int)) (((List.length l0) : Nat) : Int)).bind fun r14 =>
      F_mempoollaw9_HeapSorts_c7 v1 r14 l0 l1 l2 l3 l4) (
      F_mempoollaw9_HeapSorts_c7 v1 0 l0 l1 l2 l3 l4)) (
    Option.map .inr (
      F_mempoollaw9_HeapSorts_c3 l1 l2 l3 l4))
def F_mempoollaw9_HeapSorts_l6s (v1 : List Int) (l0 : List D_api_Item) (l1 : List D_api_Item) (l2 : List (Int × Int)) (l3 : List D_api_Item) (l4 : List (Int × Int)) : Option (Bool) :=
  iterO (fun v => F_mempoollaw9_HeapSorts_l6 v.1 v.2.1 v.2.2.1 v.2.2.2.1 v.2.2.2.2.1 v.2.2.2.2.2) (v1, l0, l1, l2, l3, l4)
def F_mempoollaw9_HeapSorts_c2 (v1 : List Int) (l0 : List D_api_Item) (l1 : List D_api_Item) (l2 : List (Int × Int)) (l3 : List D_api_Item) (l4 : List (Int × Int)) : Option (Bool) :=
  F_mempoollaw9_HeapSorts_l6s v1 l0 l1 l2 l3 l4
def F_mempoollaw9_HeapSorts_l8 (v1 : List Int) (v57 : Int) (v58 : Int) (l0 : List D_api_Item) (l1 : List D_api_Item) (l2 : List (Int × Int)) (l3 : List D_api_Item) (l4 : List (Int × Int)) : Option ((List Int × Int × Int × List D_api_Item × List D_api_Item × (List (Int × Int)) × List D_api_Item × List (Int × Int)) ⊕ (Bool)) :=
  sel (decide (v58 < v57)) (
    chk (decide ((0 : Int) ≤ v58 ∧ v58 < (((List.length l0) : Nat) : Int))) <|
    chk (decide ((Int.toNat v58) < (List.length l0))) <|
    (F_heap_Heap_Push l1 l2 (List.getD l0 (Int.toNat v58) d_api_Item)).bind fun r15 =>
    some (.inl (v1, v57, (wi64 (v58 + 1)), l0, r15.1, r15.2.1, l3, l4))) (
    Option.map .inr (
      F_mempoollaw9_HeapSorts_c2 v1 l0 l1 l2 l3 l4))
def F_mempoollaw9_HeapSorts_l8s (v1 : List Int) (v57 : Int) (v58 : Int) (l0 : List D_api_Item) (l1 : List D_api_Item) (l2 : List (Int × Int)) (l3 : List D_api_Item) (l4 : List (Int × Int)) : Option (Bool) :=
  iterO (fun v => F_mempoollaw9_HeapSorts_l8 v.1 v.2.1 v.2.2.1 v.2.2.2.1 v.2.2.2.2.1 v.2.2.2.2.2.1 v.2.2.2.2.2.2.1 v.2.2.2.2.2.2.2) (v1, v57, v58, l0, l1, l2, l3, l4)
def F_mempoollaw9_HeapSorts_c1 (v1 : List Int) (l0 : List D_api_Item) : Option (Bool) :=
  (F_heap_New).bind fun r4 =>
  (F_heap_New).bind fun r5 =>
  F_mempoollaw9_HeapSorts_l8s v1 (((List.length l0) : Nat) : Int) 0 l0 r4.1 r4.2 r5.1 r5.2
def F_mempoollaw9_HeapSorts_l9 (v0 : List Int) (v1 : List Int) (v7 : Int) (b0 : D_mempoolmake_Numbers) (l0 : List D_api_Item) : Option ((List Int × List Int × Int × D_mempoolmake_Numbers × List D_api_Item) ⊕ (Bool)) :=
  sel (decide (b0.2 < (((List.length v0) : Nat) : Int))) (
    (F_mempoolmake_Numbers_Next b0 5).bind fun r16 =>
    (F_mempoolmake_Numbers_Next r16.1 4).bind fun r17 =>
    chk (decide (((List.length l0) + 1) * 24 ≤ LIM ∧ (List.length l0) + 1 ≤ LEN)) <|
    some (.inl (v0, v1, (wi64 (v7 + 1)), r17.1, (l0 ++ ([(v7, (wu64 r16.2), r17.2)] : List D_api_Item))))) (
    Option.map .inr (
      F_mempoollaw9_HeapSorts_c1 v1 l0))
def F_mempoollaw9_HeapSorts_l9s (v0 : List Int) (v1 : List Int) (v7 : Int) (b0 : D_mempoolmake_Numbers) (l0 : List D_api_Item) : Option (Bool) :=
  iterO (fun v => F_mempoollaw9_HeapSorts_l9 v.1 v.2.1 v.2.2.1 v.2.2.2.1 v.2.2.2.2) (v0, v1, v7, b0, l0)
def F_mempoollaw9_HeapSorts (a0 : List Int) (a1 : List Int) : Option (Bool) :=
  (F_mempoollaw9_long [a0, a1]).bind fun r1 =>
  sel r1 (
    (F_mempoollaw9_known).bind fun r2 =>
    some r2) (
    (F_mempoolmake_From a0).bind fun r3 =>
    F_mempoollaw9_HeapSorts_l9s a0 a1 0 r3 [])
def F_heap_Heap_Peek_nil : Option (D_api_Item × Bool) :=
  some (((0 : Int), (0 : Int), (0 : Int)), false)
def F_heap_Heap_take_nil (_a1 : Int) : Option (Unit) :=
  none
def F_heap_Heap_Pop_nil : Option (D_api_Item × Bool) :=
  (F_heap_Heap_Peek_nil).bind fun r1 =>
  sel r1.2 (
    (F_heap_Heap_take_nil 0).bind fun _r2 =>
    some (r1.1, r1.2)) (
    some (r1.1, r1.2))
def F_heap_Heap_Push_nil (_a1 : D_api_Item) : Option (Bool) :=
  some false
def F_heap_Heap_Remove_nil (_a1 : Int) : Option (Bool) :=
  some false
def F_heap_Heap_Sorted_nil : Option (List D_api_Item) :=
  some []
def F_heap_Heap_Len_nil : Option (Int) :=
  some 0
def F_mempoollaw9_HeapNil (a0 : D_api_Item) : Option (Bool) :=
  (F_heap_Heap_Pop_nil).bind fun r1 =>
  (F_heap_Heap_Peek_nil).bind fun r2 =>
  (F_heap_Heap_Push_nil a0).bind fun r3 =>
  sel (!r3) (
    sel (!r1.2) (
      sel (!r2.2) (
        sel (U.beq U_api_Item r1.1 ((0 : Int), (0 : Int), (0 : Int))) (
          sel (U.beq U_api_Item r2.1 ((0 : Int), (0 : Int), (0 : Int))) (
            (F_heap_Heap_Remove_nil a0.1).bind fun r4 =>
            sel (!r4) (
              (F_heap_Heap_Sorted_nil).bind fun r5 =>
              sel (decide ((((List.length r5) : Nat) : Int) = 0)) (
                (F_heap_Heap_Len_nil).bind fun r6 =>
                sel (decide (r6 = 0)) (
                  (F_mempoollaw9_known).bind fun r7 =>
                  some r7) (
                  some false)) (
                some false)) (
              some false)) (
            some false)) (
          some false)) (
        some false)) (
      some false)) (
    some false)
end Go.Proofs.Ythmfeknfiekcmaa.Am
