/- What functions of the program compute on plain data. No conditions. -/
import Derived.Test.YthmfeknfiekcmaaAmTab
import Derived.Test.YthmfeknfiekcmaaKC
namespace Go.Proofs.Ythmfeknfiekcmaa.Am
open Go
def U_runtime_errorAddressString : U := (.pr .str (.int .u64))
abbrev D_runtime_errorAddressString : Type := List UInt8 × Int
def d_runtime_errorAddressString : D_runtime_errorAddressString := ([], (0 : Int))
def U_mempoolmake_Numbers : U := (.pr (.sl (.int .i64)) (.int .i64))
abbrev D_mempoolmake_Numbers : Type := List Int × Int
def d_mempoolmake_Numbers : D_mempoolmake_Numbers := ([], (0 : Int))
def U_mempoolref21_Rest : U := (.pr (.int .i64) (.pr (.int .u64) .bool))
abbrev D_mempoolref21_Rest : Type := Int × Int × Bool
def d_mempoolref21_Rest : D_mempoolref21_Rest := ((0 : Int), (0 : Int), false)
def U_api_Item : U := (.pr (.int .i64) (.pr (.int .u64) (.int .i64)))
abbrev D_api_Item : Type := Int × Int × Int
def d_api_Item : D_api_Item := ((0 : Int), (0 : Int), (0 : Int))
def U_runtime_boundsError : U := (.pr (.int .i64) (.pr (.int .i64) (.pr .bool .byte)))
abbrev D_runtime_boundsError : Type := Int × Int × Bool × UInt8
def d_runtime_boundsError : D_runtime_boundsError := ((0 : Int), (0 : Int), false, (0 : UInt8))
def U_api_Entry : U := (.pr (.arr 32 .byte) (.pr (.sl .byte) (.pr .str (.pr (.int .u64) (.pr (.int .u64) (.pr (.int .u64) (.pr (.int .i64) (.pr (.int .i64) (.pr (.int .i64) (.sl (.int .i64)))))))))))
abbrev D_api_Entry : Type := Vector UInt8 32 × List UInt8 × List UInt8 × Int × Int × Int × Int × Int × Int × List Int
def d_api_Entry : D_api_Entry := ((Vector.replicate 32 (0 : UInt8)), [], [], (0 : Int), (0 : Int), (0 : Int), (0 : Int), (0 : Int), (0 : Int), [])
def F_mempoollaw24_long_l1 (v3 : Int) (v6 : List (List Int)) (v7 : Int) (v8 : Int) : Option ((Int × List (List Int) × Int × Int) ⊕ (Bool)) :=
  sel (decide (v8 < v7)) (
    chk (decide ((0 : Int) ≤ v8 ∧ v8 < (((List.length v6) : Nat) : Int))) <|
    some (.inl ((wi64 (v3 + (((List.length (List.getD v6 (Int.toNat v8) [])) : Nat) : Int))), v6, v7, (wi64 (v8 + 1))))) (
    some (.inr (decide (160 < v3))))
def F_mempoollaw24_long_l1s (v3 : Int) (v6 : List (List Int)) (v7 : Int) (v8 : Int) : Option (Bool) :=
  iterO (fun v => F_mempoollaw24_long_l1 v.1 v.2.1 v.2.2.1 v.2.2.2) (v3, v6, v7, v8)
def F_mempoollaw24_long (a0 : List (List Int)) : Option (Bool) :=
  F_mempoollaw24_long_l1s 0 a0 (((List.length a0) : Nat) : Int) 0
def F_mempoollaw24_raw_l1 (v3 : Int) (v8 : List D_api_Entry) (v9 : Int) (v10 : Int) : Option ((Int × List D_api_Entry × Int × Int) ⊕ (Bool)) :=
  sel (decide (v10 < v9)) (
    chk (decide ((0 : Int) ≤ v10 ∧ v10 < (((List.length v8) : Nat) : Int))) <|
    some (.inl ((wi64 (v3 + (wi64 ((wi64 ((((List.length (List.getD v8 (Int.toNat v10) d_api_Entry).2.1) : Nat) : Int) + (((List.length (List.getD v8 (Int.toNat v10) d_api_Entry).2.2.1) : Nat) : Int))) + (((List.length (List.getD v8 (Int.toNat v10) d_api_Entry).2.2.2.2.2.2.2.2.2) : Nat) : Int))))), v8, v9, (wi64 (v10 + 1))))) (
    some (.inr (decide (v3 < 200))))
def F_mempoollaw24_raw_l1s (v3 : Int) (v8 : List D_api_Entry) (v9 : Int) (v10 : Int) : Option (Bool) :=
  iterO (fun v => F_mempoollaw24_raw_l1 v.1 v.2.1 v.2.2.1 v.2.2.2) (v3, v8, v9, v10)
def F_mempoollaw24_raw (a0 : List D_api_Entry) : Option (Bool) :=
  F_mempoollaw24_raw_l1s (((List.length a0) : Nat) : Int) a0 (((List.length a0) : Nat) : Int) 0
def F_mempoollaw24_entry (a0 : Int) (a1 : Int) (a2 : Int) (a3 : Int) : Option (D_api_Entry) :=
  chk (decide ((0 : Int) ≤ a1 ∧ a1 ≤ a1 ∧ (1 : Int) * a1 ≤ 281474976710656 ∧ a1 ≤ 4611686018427387904)) <|
  chk (decide ((0 : Int) ≤ (wu8 a0) ∧ (wu8 a0) < 256)) <|
  some ((Vector.push (Vector.push (Vector.push (Vector.push (Vector.push (Vector.push (Vector.push (Vector.push (Vector.push (Vector.push (Vector.push (Vector.push (Vector.push (Vector.push (Vector.push (Vector.push (Vector.push (Vector.push (Vector.push (Vector.push (Vector.push (Vector.push (Vector.push (Vector.push (Vector.push (Vector.push (Vector.push (Vector.push (Vector.push (Vector.push (Vector.push (Vector.push #v[] (UInt8.ofNat (Int.toNat (wu8 a0)))) (vget (Vector.replicate 32 (0 : UInt8)) 1 (0 : UInt8))) (vget (Vector.replicate 32 (0 : UInt8)) 2 (0 : UInt8))) (vget (Vector.replicate 32 (0 : UInt8)) 3 (0 : UInt8))) (vget (Vector.replicate 32 (0 : UInt8)) 4 (0 : UInt8))) (vget (Vector.replicate 32 (0 : UInt8)) 5 (0 : UInt8))) (vget (Vector.replicate 32 (0 : UInt8)) 6 (0 : UInt8))) (vget (Vector.replicate 32 (0 : UInt8)) 7 (0 : UInt8))) (vget (Vector.replicate 32 (0 : UInt8)) 8 (0 : UInt8))) (vget (Vector.replicate 32 (0 : UInt8)) 9 (0 : UInt8))) (vget (Vector.replicate 32 (0 : UInt8)) 10 (0 : UInt8))) (vget (Vector.replicate 32 (0 : UInt8)) 11 (0 : UInt8))) (vget (Vector.replicate 32 (0 : UInt8)) 12 (0 : UInt8))) (vget (Vector.replicate 32 (0 : UInt8)) 13 (0 : UInt8))) (vget (Vector.replicate 32 (0 : UInt8)) 14 (0 : UInt8))) (vget (Vector.replicate 32 (0 : UInt8)) 15 (0 : UInt8))) (vget (Vector.replicate 32 (0 : UInt8)) 16 (0 : UInt8))) (vget (Vector.replicate 32 (0 : UInt8)) 17 (0 : UInt8))) (vget (Vector.replicate 32 (0 : UInt8)) 18 (0 : UInt8))) (vget (Vector.replicate 32 (0 : UInt8)) 19 (0 : UInt8))) (vget (Vector.replicate 32 (0 : UInt8)) 20 (0 : UInt8))) (vget (Vector.replicate 32 (0 : UInt8)) 21 (0 : UInt8))) (vget (Vector.replicate 32 (0 : UInt8)) 22 (0 : UInt8))) (vget (Vector.replicate 32 (0 : UInt8)) 23 (0 : UInt8))) (vget (Vector.replicate 32 (0 : UInt8)) 24 (0 : UInt8))) (vget (Vector.replicate 32 (0 : UInt8)) 25 (0 : UInt8))) (vget (Vector.replicate 32 (0 : UInt8)) 26 (0 : UInt8))) (vget (Vector.replicate 32 (0 : UInt8)) 27 (0 : UInt8))) (vget (Vector.replicate 32 (0 : UInt8)) 28 (0 : UInt8))) (vget (Vector.replicate 32 (0 : UInt8)) 29 (0 : UInt8))) (vget (Vector.replicate 32 (0 : UInt8)) 30 (0 : UInt8))) (vget (Vector.replicate 32 (0 : UInt8)) 31 (0 : UInt8))), (List.replicate (Int.toNat a1) (0 : UInt8)), [], (0 : Int), a2, a3, (0 : Int), (0 : Int), a0, [])
def F_slices_Clone_byte_byte (a0 : List UInt8) : Option (List UInt8) := cloneF (u := .byte) 1 a0
def F_slices_Clone_int_int (a0 : List Int) : Option (List Int) := cloneF (u := (.int .i64)) 8 a0
def F_own_Entry (a0 : D_api_Entry) : Option (D_api_Entry) :=
  (F_slices_Clone_byte_byte a0.2.1).bind fun r1 =>
  (F_slices_Clone_int_int a0.2.2.2.2.2.2.2.2.2).bind fun r2 =>
  some (a0.1, r1, a0.2.2.1, a0.2.2.2.1, a0.2.2.2.2.1, a0.2.2.2.2.2.1, a0.2.2.2.2.2.2.1, a0.2.2.2.2.2.2.2.1, a0.2.2.2.2.2.2.2.2.1, r2)
def F_own_Entries_l1 (v6 : List D_api_Entry) (v7 : Int) (v8 : Int) (l0 : List D_api_Entry) : Option ((List D_api_Entry × Int × Int × List D_api_Entry) ⊕ (List D_api_Entry)) :=
  sel (decide (v8 < v7)) (
    chk (decide ((0 : Int) ≤ v8 ∧ v8 < (((List.length v6) : Nat) : Int))) <|
    (F_own_Entry (List.getD v6 (Int.toNat v8) d_api_Entry)).bind fun r1 =>
    chk (decide (((List.length l0) + 1) * 144 ≤ LIM ∧ (List.length l0) + 1 ≤ LEN)) <|
    some (.inl (v6, v7, (wi64 (v8 + 1)), (l0 ++ ([r1] : List D_api_Entry))))) (
    some (.inr l0))
def F_own_Entries_l1s (v6 : List D_api_Entry) (v7 : Int) (v8 : Int) (l0 : List D_api_Entry) : Option (List D_api_Entry) :=
  iterO (fun v => F_own_Entries_l1 v.1 v.2.1 v.2.2.1 v.2.2.2) (v6, v7, v8, l0)
def F_own_Entries (a0 : List D_api_Entry) : Option (List D_api_Entry) :=
  F_own_Entries_l1s a0 (((List.length a0) : Nat) : Int) 0 []
def F_cmp_isNaN_uint64 (a0 : Int) : Option (Bool) :=
  some (!decide (a0 = a0))
def F_cmp_Compare_uint64 (a0 : Int) (a1 : Int) : Option (Int) :=
  (F_cmp_isNaN_uint64 a0).bind fun r1 =>
  (F_cmp_isNaN_uint64 a1).bind fun r2 =>
  sel r1 (
    sel r2 (
      some 0) (
      some (-1))) (
    sel r2 (
      some 1) (
      sel (decide (a0 < a1)) (
        some (-1)) (
        sel (decide (a1 < a0)) (
          some 1) (
          some 0))))
def F_cmp_isNaN_int (a0 : Int) : Option (Bool) :=
  some (!decide (a0 = a0))
def F_cmp_Compare_int (a0 : Int) (a1 : Int) : Option (Int) :=
  (F_cmp_isNaN_int a0).bind fun r1 =>
  (F_cmp_isNaN_int a1).bind fun r2 =>
  sel r1 (
    sel r2 (
      some 0) (
      some (-1))) (
    sel r2 (
      some 1) (
      sel (decide (a0 < a1)) (
        some (-1)) (
        sel (decide (a1 < a0)) (
          some 1) (
          some 0))))
def F_cmp_Or_int_l1 (v3 : Int) (v6 : List Int) (v7 : Int) (v8 : Int) : Option ((Int × List Int × Int × Int) ⊕ (Int)) :=
  sel (decide (v8 < v7)) (
    chk (decide ((0 : Int) ≤ v8 ∧ v8 < (((List.length v6) : Nat) : Int))) <|
    sel (!decide ((List.getD v6 (Int.toNat v8) (0 : Int)) = v3)) (
      some (.inr (List.getD v6 (Int.toNat v8) (0 : Int)))) (
      some (.inl (v3, v6, v7, (wi64 (v8 + 1)))))) (
    some (.inr v3))
def F_cmp_Or_int_l1s (v3 : Int) (v6 : List Int) (v7 : Int) (v8 : Int) : Option (Int) :=
  iterO (fun v => F_cmp_Or_int_l1 v.1 v.2.1 v.2.2.1 v.2.2.2) (v3, v6, v7, v8)
def F_cmp_Or_int (a0 : List Int) : Option (Int) :=
  F_cmp_Or_int_l1s 0 a0 (((List.length a0) : Nat) : Int) 0
def F_reap_Sorted_1 (a0 : D_api_Entry) (a1 : D_api_Entry) : Option (Int) :=
  (F_cmp_Compare_uint64 a1.2.2.2.2.2.1 a0.2.2.2.2.2.1).bind fun r1 =>
  (F_cmp_Compare_int a0.2.2.2.2.2.2.2.2.1 a1.2.2.2.2.2.2.2.2.1).bind fun r2 =>
  (F_cmp_Or_int [r1, r2]).bind fun r3 =>
  some r3
def F_slices_insertionSortCmpFunc_api_Entry_of_reap_Sorted_1_l2 (v1 : Int) (v2 : Int) (v8 : Int) (v9 : Int) (l0 : List D_api_Entry) : Option ((Int × Int × Int × Int × List D_api_Entry) ⊕ ((Int × Int × Int × List D_api_Entry) ⊕ (List D_api_Entry))) :=
  sel (decide (v1 < v9)) (
    chk (decide ((0 : Int) ≤ v9 ∧ v9 < (((List.length l0) : Nat) : Int))) <|
    chk (decide ((Int.toNat v9) < (List.length l0))) <|
    chk (decide ((0 : Int) ≤ (wi64 (v9 - 1)) ∧ (wi64 (v9 - 1)) < (((List.length l0) : Nat) : Int))) <|
    chk (decide ((Int.toNat (wi64 (v9 - 1))) < (List.length l0))) <|
    (F_reap_Sorted_1 (List.getD l0 (Int.toNat v9) d_api_Entry) (List.getD l0 (Int.toNat (wi64 (v9 - 1))) d_api_Entry)).bind fun r1 =>
    sel (decide (r1 < 0)) (
      chk (decide ((0 : Int) ≤ (wi64 (v9 - 1)) ∧ (wi64 (v9 - 1)) < (((List.length l0) : Nat) : Int))) <|
      chk (decide ((Int.toNat (wi64 (v9 - 1))) < (List.length l0))) <|
      chk (decide ((0 : Int) ≤ v9 ∧ v9 < (((List.length l0) : Nat) : Int))) <|
      chk (decide ((Int.toNat v9) < (List.length l0))) <|
      chk (decide ((0 : Int) ≤ v9 ∧ v9 < (((List.length l0) : Nat) : Int))) <|
      chk (decide ((Int.toNat v9) < (List.length l0))) <|
      chk (decide ((0 : Int) ≤ (wi64 (v9 - 1)) ∧ (wi64 (v9 - 1)) < (((List.length (List.set l0 (Int.toNat v9) (List.getD l0 (Int.toNat (wi64 (v9 - 1))) d_api_Entry))) : Nat) : Int))) <|
      chk (decide ((Int.toNat (wi64 (v9 - 1))) < (List.length (List.set l0 (Int.toNat v9) (List.getD l0 (Int.toNat (wi64 (v9 - 1))) d_api_Entry))))) <|
      some (.inl (v1, v2, v8, (wi64 (v9 - 1)), (List.set (List.set l0 (Int.toNat v9) (List.getD l0 (Int.toNat (wi64 (v9 - 1))) d_api_Entry)) (Int.toNat (wi64 (v9 - 1))) (List.getD l0 (Int.toNat v9) d_api_Entry))))) (
      some (.inr (.inl (v1, v2, (wi64 (v8 + 1)), l0))))) (
    some (.inr (.inl (v1, v2, (wi64 (v8 + 1)), l0))))
def F_slices_insertionSortCmpFunc_api_Entry_of_reap_Sorted_1_l2s (v1 : Int) (v2 : Int) (v8 : Int) (v9 : Int) (l0 : List D_api_Entry) : Option ((Int × Int × Int × List D_api_Entry) ⊕ (List D_api_Entry)) :=
  iterO (fun v => F_slices_insertionSortCmpFunc_api_Entry_of_reap_Sorted_1_l2 v.1 v.2.1 v.2.2.1 v.2.2.2.1 v.2.2.2.2) (v1, v2, v8, v9, l0)
def F_slices_insertionSortCmpFunc_api_Entry_of_reap_Sorted_1_l1 (v1 : Int) (v2 : Int) (v8 : Int) (l0 : List D_api_Entry) : Option ((Int × Int × Int × List D_api_Entry) ⊕ (List D_api_Entry)) :=
  sel (decide (v8 < v2)) (
    F_slices_insertionSortCmpFunc_api_Entry_of_reap_Sorted_1_l2s v1 v2 v8 v8 l0) (
    some (.inr l0))
def F_slices_insertionSortCmpFunc_api_Entry_of_reap_Sorted_1_l1s (v1 : Int) (v2 : Int) (v8 : Int) (l0 : List D_api_Entry) : Option (List D_api_Entry) :=
  iterO (fun v => F_slices_insertionSortCmpFunc_api_Entry_of_reap_Sorted_1_l1 v.1 v.2.1 v.2.2.1 v.2.2.2) (v1, v2, v8, l0)
def F_slices_insertionSortCmpFunc_api_Entry_of_reap_Sorted_1 (a0 : List D_api_Entry) (a1 : Int) (a2 : Int) : Option (List D_api_Entry) :=
  F_slices_insertionSortCmpFunc_api_Entry_of_reap_Sorted_1_l1s a1 a2 (wi64 (a1 + 1)) a0
def F_slices_swapRangeCmpFunc_api_Entry_of_reap_Sorted_1_l1 (v1 : Int) (v2 : Int) (v3 : Int) (v10 : Int) (l0 : List D_api_Entry) : Option ((Int × Int × Int × Int × List D_api_Entry) ⊕ (List D_api_Entry)) :=
  sel (decide (v10 < v3)) (
    chk (decide ((0 : Int) ≤ (wi64 (v2 + v10)) ∧ (wi64 (v2 + v10)) < (((List.length l0) : Nat) : Int))) <|
    chk (decide ((Int.toNat (wi64 (v2 + v10))) < (List.length l0))) <|
    chk (decide ((0 : Int) ≤ (wi64 (v1 + v10)) ∧ (wi64 (v1 + v10)) < (((List.length l0) : Nat) : Int))) <|
    chk (decide ((Int.toNat (wi64 (v1 + v10))) < (List.length l0))) <|
    chk (decide ((0 : Int) ≤ (wi64 (v1 + v10)) ∧ (wi64 (v1 + v10)) < (((List.length l0) : Nat) : Int))) <|
    chk (decide ((Int.toNat (wi64 (v1 + v10))) < (List.length l0))) <|
    chk (decide ((0 : Int) ≤ (wi64 (v2 + v10)) ∧ (wi64 (v2 + v10)) < (((List.length (List.set l0 (Int.toNat (wi64 (v1 + v10))) (List.getD l0 (Int.toNat (wi64 (v2 + v10))) d_api_Entry))) : Nat) : Int))) <|
    chk (decide ((Int.toNat (wi64 (v2 + v10))) < (List.length (List.set l0 (Int.toNat (wi64 (v1 + v10))) (List.getD l0 (Int.toNat (wi64 (v2 + v10))) d_api_Entry))))) <|
    some (.inl (v1, v2, v3, (wi64 (v10 + 1)), (List.set (List.set l0 (Int.toNat (wi64 (v1 + v10))) (List.getD l0 (Int.toNat (wi64 (v2 + v10))) d_api_Entry)) (Int.toNat (wi64 (v2 + v10))) (List.getD l0 (Int.toNat (wi64 (v1 + v10))) d_api_Entry))))) (
    some (.inr l0))
def F_slices_swapRangeCmpFunc_api_Entry_of_reap_Sorted_1_l1s (v1 : Int) (v2 : Int) (v3 : Int) (v10 : Int) (l0 : List D_api_Entry) : Option (List D_api_Entry) :=
  iterO (fun v => F_slices_swapRangeCmpFunc_api_Entry_of_reap_Sorted_1_l1 v.1 v.2.1 v.2.2.1 v.2.2.2.1 v.2.2.2.2) (v1, v2, v3, v10, l0)
def F_slices_swapRangeCmpFunc_api_Entry_of_reap_Sorted_1 (a0 : List D_api_Entry) (a1 : Int) (a2 : Int) (a3 : Int) : Option (List D_api_Entry) :=
  F_slices_swapRangeCmpFunc_api_Entry_of_reap_Sorted_1_l1s a1 a2 a3 0 a0
def F_slices_rotateCmpFunc_api_Entry_of_reap_Sorted_1_c1 (v2 : Int) (v10 : Int) (l0 : List D_api_Entry) : Option (List D_api_Entry) :=
  (F_slices_swapRangeCmpFunc_api_Entry_of_reap_Sorted_1 l0 (wi64 (v2 - v10)) v2 v10).bind fun r1 =>
  some r1
def F_slices_rotateCmpFunc_api_Entry_of_reap_Sorted_1_l2 (v2 : Int) (v10 : Int) (v11 : Int) (l0 : List D_api_Entry) : Option ((Int × Int × Int × List D_api_Entry) ⊕ (List D_api_Entry)) :=
  sel (!decide (v10 = v11)) (
    sel (decide (v11 < v10)) (
      (F_slices_swapRangeCmpFunc_api_Entry_of_reap_Sorted_1 l0 (wi64 (v2 - v10)) v2 v11).bind fun r2 =>
      some (.inl (v2, (wi64 (v10 - v11)), v11, r2))) (
      (F_slices_swapRangeCmpFunc_api_Entry_of_reap_Sorted_1 l0 (wi64 (v2 - v10)) (wi64 ((wi64 (v2 + v11)) - v10)) v10).bind fun r3 =>
      some (.inl (v2, v10, (wi64 (v11 - v10)), r3)))) (
    Option.map .inr (
      F_slices_rotateCmpFunc_api_Entry_of_reap_Sorted_1_c1 v2 v10 l0))
def F_slices_rotateCmpFunc_api_Entry_of_reap_Sorted_1_l2s (v2 : Int) (v10 : Int) (v11 : Int) (l0 : List D_api_Entry) : Option (List D_api_Entry) :=
  iterO (fun v => F_slices_rotateCmpFunc_api_Entry_of_reap_Sorted_1_l2 v.1 v.2.1 v.2.2.1 v.2.2.2) (v2, v10, v11, l0)
def F_slices_rotateCmpFunc_api_Entry_of_reap_Sorted_1 (a0 : List D_api_Entry) (a1 : Int) (a2 : Int) (a3 : Int) : Option (List D_api_Entry) :=
  F_slices_rotateCmpFunc_api_Entry_of_reap_Sorted_1_l2s a2 (wi64 (a2 - a1)) (wi64 (a3 - a2)) a0
noncomputable def F_slices_symMergeCmpFunc_api_Entry_of_reap_Sorted_1_c6 (rec : List D_api_Entry → Int → Int → Int → Option (List D_api_Entry)) (v3 : Int) (v18 : Int) (v24 : Int) (l0 : List D_api_Entry) : Option (List D_api_Entry) :=
  sel (decide (v18 < v24)) (
    sel (decide (v24 < v3)) (
      (rec l0 v18 v24 v3).bind fun r1 =>
      some r1) (
      some l0)) (
    some l0)
noncomputable def F_slices_symMergeCmpFunc_api_Entry_of_reap_Sorted_1_c5 (rec : List D_api_Entry → Int → Int → Int → Option (List D_api_Entry)) (v1 : Int) (v3 : Int) (v18 : Int) (v20 : Int) (v24 : Int) (l0 : List D_api_Entry) : Option (List D_api_Entry) :=
  sel (decide (v1 < v20)) (
    sel (decide (v20 < v18)) (
      (rec l0 v1 v20 v18).bind fun r2 =>
      F_slices_symMergeCmpFunc_api_Entry_of_reap_Sorted_1_c6 rec v3 v18 v24 r2) (
      F_slices_symMergeCmpFunc_api_Entry_of_reap_Sorted_1_c6 rec v3 v18 v24 l0)) (
    F_slices_symMergeCmpFunc_api_Entry_of_reap_Sorted_1_c6 rec v3 v18 v24 l0)
noncomputable def F_slices_symMergeCmpFunc_api_Entry_of_reap_Sorted_1_c4 (rec : List D_api_Entry → Int → Int → Int → Option (List D_api_Entry)) (v1 : Int) (v2 : Int) (v3 : Int) (v18 : Int) (v19 : Int) (v20 : Int) (l0 : List D_api_Entry) : Option (List D_api_Entry) :=
  sel (decide (v20 < v2)) (
    sel (decide (v2 < (wi64 (v19 - v20)))) (
      (F_slices_rotateCmpFunc_api_Entry_of_reap_Sorted_1 l0 v20 v2 (wi64 (v19 - v20))).bind fun r3 =>
      F_slices_symMergeCmpFunc_api_Entry_of_reap_Sorted_1_c5 rec v1 v3 v18 v20 (wi64 (v19 - v20)) r3) (
      F_slices_symMergeCmpFunc_api_Entry_of_reap_Sorted_1_c5 rec v1 v3 v18 v20 (wi64 (v19 - v20)) l0)) (
    F_slices_symMergeCmpFunc_api_Entry_of_reap_Sorted_1_c5 rec v1 v3 v18 v20 (wi64 (v19 - v20)) l0)
noncomputable def F_slices_symMergeCmpFunc_api_Entry_of_reap_Sorted_1_l7 (rec : List D_api_Entry → Int → Int → Int → Option (List D_api_Entry)) (v1 : Int) (v2 : Int) (v3 : Int) (v18 : Int) (v19 : Int) (v20 : Int) (v21 : Int) (v22 : Int) (l0 : List D_api_Entry) : Option ((Int × Int × Int × Int × Int × Int × Int × Int × List D_api_Entry) ⊕ (List D_api_Entry)) :=
  sel (decide (v20 < v21)) (
    chk (decide ((0 : Int) ≤ (wi64 (v22 - (wi64 ((wu64 (wi64 (v20 + v21))) / 2 ^ 1)))) ∧ (wi64 (v22 - (wi64 ((wu64 (wi64 (v20 + v21))) / 2 ^ 1)))) < (((List.length l0) : Nat) : Int))) <|
    chk (decide ((Int.toNat (wi64 (v22 - (wi64 ((wu64 (wi64 (v20 + v21))) / 2 ^ 1))))) < (List.length l0))) <|
    chk (decide ((0 : Int) ≤ (wi64 ((wu64 (wi64 (v20 + v21))) / 2 ^ 1)) ∧ (wi64 ((wu64 (wi64 (v20 + v21))) / 2 ^ 1)) < (((List.length l0) : Nat) : Int))) <|
    chk (decide ((Int.toNat (wi64 ((wu64 (wi64 (v20 + v21))) / 2 ^ 1))) < (List.length l0))) <|
    (F_reap_Sorted_1 (List.getD l0 (Int.toNat (wi64 (v22 - (wi64 ((wu64 (wi64 (v20 + v21))) / 2 ^ 1))))) d_api_Entry) (List.getD l0 (Int.toNat (wi64 ((wu64 (wi64 (v20 + v21))) / 2 ^ 1))) d_api_Entry)).bind fun r4 =>
    sel (!(decide (r4 < 0))) (
      some (.inl (v1, v2, v3, v18, v19, (wi64 ((wi64 ((wu64 (wi64 (v20 + v21))) / 2 ^ 1)) + 1)), v21, v22, l0))) (
      some (.inl (v1, v2, v3, v18, v19, v20, (wi64 ((wu64 (wi64 (v20 + v21))) / 2 ^ 1)), v22, l0)))) (
    Option.map .inr (
      F_slices_symMergeCmpFunc_api_Entry_of_reap_Sorted_1_c4 rec v1 v2 v3 v18 v19 v20 l0))
noncomputable def F_slices_symMergeCmpFunc_api_Entry_of_reap_Sorted_1_l7s (rec : List D_api_Entry → Int → Int → Int → Option (List D_api_Entry)) (v1 : Int) (v2 : Int) (v3 : Int) (v18 : Int) (v19 : Int) (v20 : Int) (v21 : Int) (v22 : Int) (l0 : List D_api_Entry) : Option (List D_api_Entry) :=
  iterO (fun v => F_slices_symMergeCmpFunc_api_Entry_of_reap_Sorted_1_l7 rec v.1 v.2.1 v.2.2.1 v.2.2.2.1 v.2.2.2.2.1 v.2.2.2.2.2.1 v.2.2.2.2.2.2.1 v.2.2.2.2.2.2.2.1 v.2.2.2.2.2.2.2.2) (v1, v2, v3, v18, v19, v20, v21, v22, l0)
noncomputable def F_slices_symMergeCmpFunc_api_Entry_of_reap_Sorted_1_c3 (rec : List D_api_Entry → Int → Int → Int → Option (List D_api_Entry)) (v1 : Int) (v2 : Int) (v3 : Int) (v18 : Int) (v19 : Int) (v20 : Int) (v21 : Int) (l0 : List D_api_Entry) : Option (List D_api_Entry) :=
  F_slices_symMergeCmpFunc_api_Entry_of_reap_Sorted_1_l7s rec v1 v2 v3 v18 v19 v20 v21 (wi64 (v19 - 1)) l0
noncomputable def F_slices_symMergeCmpFunc_api_Entry_of_reap_Sorted_1_c2 (rec : List D_api_Entry → Int → Int → Int → Option (List D_api_Entry)) (v1 : Int) (v2 : Int) (v3 : Int) (l0 : List D_api_Entry) : Option (List D_api_Entry) :=
  sel (decide ((wi64 ((wu64 (wi64 (v1 + v3))) / 2 ^ 1)) < v2)) (
    F_slices_symMergeCmpFunc_api_Entry_of_reap_Sorted_1_c3 rec v1 v2 v3 (wi64 ((wu64 (wi64 (v1 + v3))) / 2 ^ 1)) (wi64 ((wi64 ((wu64 (wi64 (v1 + v3))) / 2 ^ 1)) + v2)) (wi64 ((wi64 ((wi64 ((wu64 (wi64 (v1 + v3))) / 2 ^ 1)) + v2)) - v3)) (wi64 ((wu64 (wi64 (v1 + v3))) / 2 ^ 1)) l0) (
    F_slices_symMergeCmpFunc_api_Entry_of_reap_Sorted_1_c3 rec v1 v2 v3 (wi64 ((wu64 (wi64 (v1 + v3))) / 2 ^ 1)) (wi64 ((wi64 ((wu64 (wi64 (v1 + v3))) / 2 ^ 1)) + v2)) v1 v2 l0)
noncomputable def F_slices_symMergeCmpFunc_api_Entry_of_reap_Sorted_1_l9 (_rec : List D_api_Entry → Int → Int → Int → Option (List D_api_Entry)) (v14 : Int) (v17 : Int) (l0 : List D_api_Entry) : Option ((Int × Int × List D_api_Entry) ⊕ (List D_api_Entry)) :=
  sel (decide (v14 < v17)) (
    chk (decide ((0 : Int) ≤ (wi64 (v17 - 1)) ∧ (wi64 (v17 - 1)) < (((List.length l0) : Nat) : Int))) <|
    chk (decide ((Int.toNat (wi64 (v17 - 1))) < (List.length l0))) <|
    chk (decide ((0 : Int) ≤ v17 ∧ v17 < (((List.length l0) : Nat) : Int))) <|
    chk (decide ((Int.toNat v17) < (List.length l0))) <|
    chk (decide ((0 : Int) ≤ v17 ∧ v17 < (((List.length l0) : Nat) : Int))) <|
    chk (decide ((Int.toNat v17) < (List.length l0))) <|
    chk (decide ((0 : Int) ≤ (wi64 (v17 - 1)) ∧ (wi64 (v17 - 1)) < (((List.length (List.set l0 (Int.toNat v17) (List.getD l0 (Int.toNat (wi64 (v17 - 1))) d_api_Entry))) : Nat) : Int))) <|
    chk (decide ((Int.toNat (wi64 (v17 - 1))) < (List.length (List.set l0 (Int.toNat v17) (List.getD l0 (Int.toNat (wi64 (v17 - 1))) d_api_Entry))))) <|
    some (.inl (v14, (wi64 (v17 - 1)), (List.set (List.set l0 (Int.toNat v17) (List.getD l0 (Int.toNat (wi64 (v17 - 1))) d_api_Entry)) (Int.toNat (wi64 (v17 - 1))) (List.getD l0 (Int.toNat v17) d_api_Entry))))) (
    some (.inr l0))
noncomputable def F_slices_symMergeCmpFunc_api_Entry_of_reap_Sorted_1_l9s (rec : List D_api_Entry → Int → Int → Int → Option (List D_api_Entry)) (v14 : Int) (v17 : Int) (l0 : List D_api_Entry) : Option (List D_api_Entry) :=
  iterO (fun v => F_slices_symMergeCmpFunc_api_Entry_of_reap_Sorted_1_l9 rec v.1 v.2.1 v.2.2) (v14, v17, l0)
noncomputable def F_slices_symMergeCmpFunc_api_Entry_of_reap_Sorted_1_c8 (rec : List D_api_Entry → Int → Int → Int → Option (List D_api_Entry)) (v2 : Int) (v14 : Int) (l0 : List D_api_Entry) : Option (List D_api_Entry) :=
  F_slices_symMergeCmpFunc_api_Entry_of_reap_Sorted_1_l9s rec v14 v2 l0
noncomputable def F_slices_symMergeCmpFunc_api_Entry_of_reap_Sorted_1_l10 (rec : List D_api_Entry → Int → Int → Int → Option (List D_api_Entry)) (v2 : Int) (v14 : Int) (v15 : Int) (l0 : List D_api_Entry) : Option ((Int × Int × Int × List D_api_Entry) ⊕ (List D_api_Entry)) :=
  sel (decide (v14 < v15)) (
    chk (decide ((0 : Int) ≤ v2 ∧ v2 < (((List.length l0) : Nat) : Int))) <|
    chk (decide ((Int.toNat v2) < (List.length l0))) <|
    chk (decide ((0 : Int) ≤ (wi64 ((wu64 (wi64 (v14 + v15))) / 2 ^ 1)) ∧ (wi64 ((wu64 (wi64 (v14 + v15))) / 2 ^ 1)) < (((List.length l0) : Nat) : Int))) <|
    chk (decide ((Int.toNat (wi64 ((wu64 (wi64 (v14 + v15))) / 2 ^ 1))) < (List.length l0))) <|
    (F_reap_Sorted_1 (List.getD l0 (Int.toNat v2) d_api_Entry) (List.getD l0 (Int.toNat (wi64 ((wu64 (wi64 (v14 + v15))) / 2 ^ 1))) d_api_Entry)).bind fun r5 =>
    sel (!(decide (r5 < 0))) (
      some (.inl (v2, (wi64 ((wi64 ((wu64 (wi64 (v14 + v15))) / 2 ^ 1)) + 1)), v15, l0))) (
      some (.inl (v2, v14, (wi64 ((wu64 (wi64 (v14 + v15))) / 2 ^ 1)), l0)))) (
    Option.map .inr (
      F_slices_symMergeCmpFunc_api_Entry_of_reap_Sorted_1_c8 rec v2 v14 l0))
noncomputable def F_slices_symMergeCmpFunc_api_Entry_of_reap_Sorted_1_l10s (rec : List D_api_Entry → Int → Int → Int → Option (List D_api_Entry)) (v2 : Int) (v14 : Int) (v15 : Int) (l0 : List D_api_Entry) : Option (List D_api_Entry) :=
  iterO (fun v => F_slices_symMergeCmpFunc_api_Entry_of_reap_Sorted_1_l10 rec v.1 v.2.1 v.2.2.1 v.2.2.2) (v2, v14, v15, l0)
noncomputable def F_slices_symMergeCmpFunc_api_Entry_of_reap_Sorted_1_c1 (rec : List D_api_Entry → Int → Int → Int → Option (List D_api_Entry)) (v1 : Int) (v2 : Int) (v3 : Int) (l0 : List D_api_Entry) : Option (List D_api_Entry) :=
  sel (decide ((wi64 (v3 - v2)) = 1)) (
    F_slices_symMergeCmpFunc_api_Entry_of_reap_Sorted_1_l10s rec v2 v1 v2 l0) (
    F_slices_symMergeCmpFunc_api_Entry_of_reap_Sorted_1_c2 rec v1 v2 v3 l0)
noncomputable def F_slices_symMergeCmpFunc_api_Entry_of_reap_Sorted_1_l12 (_rec : List D_api_Entry → Int → Int → Int → Option (List D_api_Entry)) (v10 : Int) (v13 : Int) (l0 : List D_api_Entry) : Option ((Int × Int × List D_api_Entry) ⊕ (List D_api_Entry)) :=
  sel (decide (v13 < (wi64 (v10 - 1)))) (
    chk (decide ((0 : Int) ≤ (wi64 (v13 + 1)) ∧ (wi64 (v13 + 1)) < (((List.length l0) : Nat) : Int))) <|
    chk (decide ((Int.toNat (wi64 (v13 + 1))) < (List.length l0))) <|
    chk (decide ((0 : Int) ≤ v13 ∧ v13 < (((List.length l0) : Nat) : Int))) <|
    chk (decide ((Int.toNat v13) < (List.length l0))) <|
    chk (decide ((0 : Int) ≤ v13 ∧ v13 < (((List.length l0) : Nat) : Int))) <|
    chk (decide ((Int.toNat v13) < (List.length l0))) <|
    chk (decide ((0 : Int) ≤ (wi64 (v13 + 1)) ∧ (wi64 (v13 + 1)) < (((List.length (List.set l0 (Int.toNat v13) (List.getD l0 (Int.toNat (wi64 (v13 + 1))) d_api_Entry))) : Nat) : Int))) <|
    chk (decide ((Int.toNat (wi64 (v13 + 1))) < (List.length (List.set l0 (Int.toNat v13) (List.getD l0 (Int.toNat (wi64 (v13 + 1))) d_api_Entry))))) <|
    some (.inl (v10, (wi64 (v13 + 1)), (List.set (List.set l0 (Int.toNat v13) (List.getD l0 (Int.toNat (wi64 (v13 + 1))) d_api_Entry)) (Int.toNat (wi64 (v13 + 1))) (List.getD l0 (Int.toNat v13) d_api_Entry))))) (
    some (.inr l0))
noncomputable def F_slices_symMergeCmpFunc_api_Entry_of_reap_Sorted_1_l12s (rec : List D_api_Entry → Int → Int → Int → Option (List D_api_Entry)) (v10 : Int) (v13 : Int) (l0 : List D_api_Entry) : Option (List D_api_Entry) :=
  iterO (fun v => F_slices_symMergeCmpFunc_api_Entry_of_reap_Sorted_1_l12 rec v.1 v.2.1 v.2.2) (v10, v13, l0)
noncomputable def F_slices_symMergeCmpFunc_api_Entry_of_reap_Sorted_1_c11 (rec : List D_api_Entry → Int → Int → Int → Option (List D_api_Entry)) (v1 : Int) (v10 : Int) (l0 : List D_api_Entry) : Option (List D_api_Entry) :=
  F_slices_symMergeCmpFunc_api_Entry_of_reap_Sorted_1_l12s rec v10 v1 l0
noncomputable def F_slices_symMergeCmpFunc_api_Entry_of_reap_Sorted_1_l13 (rec : List D_api_Entry → Int → Int → Int → Option (List D_api_Entry)) (v1 : Int) (v10 : Int) (v11 : Int) (l0 : List D_api_Entry) : Option ((Int × Int × Int × List D_api_Entry) ⊕ (List D_api_Entry)) :=
  sel (decide (v10 < v11)) (
    chk (decide ((0 : Int) ≤ (wi64 ((wu64 (wi64 (v10 + v11))) / 2 ^ 1)) ∧ (wi64 ((wu64 (wi64 (v10 + v11))) / 2 ^ 1)) < (((List.length l0) : Nat) : Int))) <|
    chk (decide ((Int.toNat (wi64 ((wu64 (wi64 (v10 + v11))) / 2 ^ 1))) < (List.length l0))) <|
    chk (decide ((0 : Int) ≤ v1 ∧ v1 < (((List.length l0) : Nat) : Int))) <|
    chk (decide ((Int.toNat v1) < (List.length l0))) <|
    (F_reap_Sorted_1 (List.getD l0 (Int.toNat (wi64 ((wu64 (wi64 (v10 + v11))) / 2 ^ 1))) d_api_Entry) (List.getD l0 (Int.toNat v1) d_api_Entry)).bind fun r6 =>
    sel (decide (r6 < 0)) (
      some (.inl (v1, (wi64 ((wi64 ((wu64 (wi64 (v10 + v11))) / 2 ^ 1)) + 1)), v11, l0))) (
      some (.inl (v1, v10, (wi64 ((wu64 (wi64 (v10 + v11))) / 2 ^ 1)), l0)))) (
    Option.map .inr (
      F_slices_symMergeCmpFunc_api_Entry_of_reap_Sorted_1_c11 rec v1 v10 l0))
noncomputable def F_slices_symMergeCmpFunc_api_Entry_of_reap_Sorted_1_l13s (rec : List D_api_Entry → Int → Int → Int → Option (List D_api_Entry)) (v1 : Int) (v10 : Int) (v11 : Int) (l0 : List D_api_Entry) : Option (List D_api_Entry) :=
  iterO (fun v => F_slices_symMergeCmpFunc_api_Entry_of_reap_Sorted_1_l13 rec v.1 v.2.1 v.2.2.1 v.2.2.2) (v1, v10, v11, l0)
noncomputable def F_slices_symMergeCmpFunc_api_Entry_of_reap_Sorted_1_body (rec : List D_api_Entry → Int → Int → Int → Option (List D_api_Entry)) (a0 : List D_api_Entry) (a1 : Int) (a2 : Int) (a3 : Int) : Option (List D_api_Entry) :=
  sel (decide ((wi64 (a2 - a1)) = 1)) (
    F_slices_symMergeCmpFunc_api_Entry_of_reap_Sorted_1_l13s rec a1 a2 a3 a0) (
    F_slices_symMergeCmpFunc_api_Entry_of_reap_Sorted_1_c1 rec a1 a2 a3 a0)
noncomputable def F_slices_symMergeCmpFunc_api_Entry_of_reap_Sorted_1 (n : Nat) : List D_api_Entry → Int → Int → Int → Option (List D_api_Entry) := Nat.rec (motive := fun _ => List D_api_Entry → Int → Int → Int → Option (List D_api_Entry)) (fun _ _ _ _ => none) (fun _ ih => F_slices_symMergeCmpFunc_api_Entry_of_reap_Sorted_1_body ih) n
noncomputable def F_slices_stableCmpFunc_api_Entry_of_reap_Sorted_1_c3 (v1 : Int) (v6 : Int) (v7 : Int) (l0 : List D_api_Entry) : Option ((Int × Int × List D_api_Entry) ⊕ (List D_api_Entry)) :=
  sel (decide ((wi64 (v7 + v6)) < v1)) (
    (F_slices_symMergeCmpFunc_api_Entry_of_reap_Sorted_1 FUEL l0 v7 (wi64 (v7 + v6)) v1).bind fun r2 =>
    some (.inl (v1, (wi64 (v6 * 2)), r2))) (
    some (.inl (v1, (wi64 (v6 * 2)), l0)))
noncomputable def F_slices_stableCmpFunc_api_Entry_of_reap_Sorted_1_l4 (v1 : Int) (v6 : Int) (v7 : Int) (v8 : Int) (l0 : List D_api_Entry) : Option ((Int × Int × Int × Int × List D_api_Entry) ⊕ ((Int × Int × List D_api_Entry) ⊕ (List D_api_Entry))) :=
  sel (decide (v8 ≤ v1)) (
    (F_slices_symMergeCmpFunc_api_Entry_of_reap_Sorted_1 FUEL l0 v7 (wi64 (v7 + v6)) v8).bind fun r3 =>
    some (.inl (v1, v6, v8, (wi64 (v8 + (wi64 (2 * v6)))), r3))) (
    Option.map .inr (
      F_slices_stableCmpFunc_api_Entry_of_reap_Sorted_1_c3 v1 v6 v7 l0))
noncomputable def F_slices_stableCmpFunc_api_Entry_of_reap_Sorted_1_l4s (v1 : Int) (v6 : Int) (v7 : Int) (v8 : Int) (l0 : List D_api_Entry) : Option ((Int × Int × List D_api_Entry) ⊕ (List D_api_Entry)) :=
  iterO (fun v => F_slices_stableCmpFunc_api_Entry_of_reap_Sorted_1_l4 v.1 v.2.1 v.2.2.1 v.2.2.2.1 v.2.2.2.2) (v1, v6, v7, v8, l0)
noncomputable def F_slices_stableCmpFunc_api_Entry_of_reap_Sorted_1_l2 (v1 : Int) (v6 : Int) (l0 : List D_api_Entry) : Option ((Int × Int × List D_api_Entry) ⊕ (List D_api_Entry)) :=
  sel (decide (v6 < v1)) (
    F_slices_stableCmpFunc_api_Entry_of_reap_Sorted_1_l4s v1 v6 0 (wi64 (2 * v6)) l0) (
    some (.inr l0))
noncomputable def F_slices_stableCmpFunc_api_Entry_of_reap_Sorted_1_l2s (v1 : Int) (v6 : Int) (l0 : List D_api_Entry) : Option (List D_api_Entry) :=
  iterO (fun v => F_slices_stableCmpFunc_api_Entry_of_reap_Sorted_1_l2 v.1 v.2.1 v.2.2) (v1, v6, l0)
noncomputable def F_slices_stableCmpFunc_api_Entry_of_reap_Sorted_1_c1 (v1 : Int) (v6 : Int) (v7 : Int) (l0 : List D_api_Entry) : Option (List D_api_Entry) :=
  (F_slices_insertionSortCmpFunc_api_Entry_of_reap_Sorted_1 l0 v7 v1).bind fun r1 =>
  F_slices_stableCmpFunc_api_Entry_of_reap_Sorted_1_l2s v1 v6 r1
noncomputable def F_slices_stableCmpFunc_api_Entry_of_reap_Sorted_1_l5 (v1 : Int) (v6 : Int) (v7 : Int) (v8 : Int) (l0 : List D_api_Entry) : Option ((Int × Int × Int × Int × List D_api_Entry) ⊕ (List D_api_Entry)) :=
  sel (decide (v8 ≤ v1)) (
    (F_slices_insertionSortCmpFunc_api_Entry_of_reap_Sorted_1 l0 v7 v8).bind fun r4 =>
    some (.inl (v1, v6, v8, (wi64 (v8 + v6)), r4))) (
    Option.map .inr (
      F_slices_stableCmpFunc_api_Entry_of_reap_Sorted_1_c1 v1 v6 v7 l0))
noncomputable def F_slices_stableCmpFunc_api_Entry_of_reap_Sorted_1_l5s (v1 : Int) (v6 : Int) (v7 : Int) (v8 : Int) (l0 : List D_api_Entry) : Option (List D_api_Entry) :=
  iterO (fun v => F_slices_stableCmpFunc_api_Entry_of_reap_Sorted_1_l5 v.1 v.2.1 v.2.2.1 v.2.2.2.1 v.2.2.2.2) (v1, v6, v7, v8, l0)
noncomputable def F_slices_stableCmpFunc_api_Entry_of_reap_Sorted_1 (a0 : List D_api_Entry) (a1 : Int) : Option (List D_api_Entry) :=
  F_slices_stableCmpFunc_api_Entry_of_reap_Sorted_1_l5s a1 20 0 20 a0
noncomputable def F_slices_SortStableFunc_api_Entry_api_Entry_of_reap_Sorted_1 (a0 : List D_api_Entry) : Option (List D_api_Entry) :=
  (F_slices_stableCmpFunc_api_Entry_of_reap_Sorted_1 a0 (((List.length a0) : Nat) : Int)).bind fun r1 =>
  some r1
noncomputable def F_reap_Sorted (a0 : List D_api_Entry) : Option (List D_api_Entry) :=
  (F_own_Entries a0).bind fun r1 =>
  (F_slices_SortStableFunc_api_Entry_api_Entry_of_reap_Sorted_1 r1).bind fun r2 =>
  some r2
def F_varint_Size_l1 (v0 : Int) (v3 : Int) : Option ((Int × Int) ⊕ (Int)) :=
  sel (decide (128 ≤ v0)) (
    some (.inl ((v0 / 2 ^ 7), (wi64 (v3 + 1))))) (
    some (.inr v3))
def F_varint_Size_l1s (v0 : Int) (v3 : Int) : Option (Int) :=
  iterO (fun v => F_varint_Size_l1 v.1 v.2) (v0, v3)
def F_varint_Size (a0 : Int) : Option (Int) :=
  F_varint_Size_l1s a0 1
def F_wire_SizeBytes (a0 : Int) : Option (Int) :=
  sel (decide (a0 < 0)) (
    some 0) (
    (F_varint_Size (wu64 a0)).bind fun r1 =>
    some (wi64 ((wi64 (1 + r1)) + a0)))
noncomputable def F_reap_BytesGas_c2 (v1 : Int) (v2 : Int) (v7 : Int) (v11 : Int) (v23 : Int) (v24 : Int) (_v36 : Int) (_v37 : Bool) (_v38 : Bool) (_v43 : Bool) (b0 : D_api_Entry) (l0 : List (List UInt8)) (l1 : List D_api_Entry) : Option ((Int × Int × Int × Int × Int × List (List UInt8) × List D_api_Entry) ⊕ (List (List UInt8))) :=
  sel (decide (0 ≤ v2)) (
    chk (decide (((List.length l0) + 1) * 24 ≤ LIM ∧ (List.length l0) + 1 ≤ LEN)) <|
    some (.inl ((wi64 (v1 - v11)), v2, (wu64 (v7 - b0.2.2.2.2.1)), v23, (wi64 (v24 + 1)), (l0 ++ [b0.2.1]), l1))) (
    chk (decide (((List.length l0) + 1) * 24 ≤ LIM ∧ (List.length l0) + 1 ≤ LEN)) <|
    some (.inl ((wi64 (v1 - v11)), v2, v7, v23, (wi64 (v24 + 1)), (l0 ++ [b0.2.1]), l1)))
noncomputable def F_reap_BytesGas_l1 (v1 : Int) (v2 : Int) (v7 : Int) (v23 : Int) (v24 : Int) (l0 : List (List UInt8)) (l1 : List D_api_Entry) : Option ((Int × Int × Int × Int × Int × List (List UInt8) × List D_api_Entry) ⊕ (List (List UInt8))) :=
  sel (decide (v24 < v23)) (
    chk (decide ((0 : Int) ≤ v24 ∧ v24 < (((List.length l1) : Nat) : Int))) <|
    chk (decide ((Int.toNat v24) < (List.length l1))) <|
    (F_wire_SizeBytes (((List.length (List.getD l1 (Int.toNat v24) d_api_Entry).2.1) : Nat) : Int)).bind fun r2 =>
    sel (decide (v1 < r2)) (
      some (.inl (v1, v2, v7, v23, (wi64 (v24 + 1)), l0, l1))) (
      sel (decide (0 ≤ v2)) (
        sel (decide (v7 < (List.getD l1 (Int.toNat v24) d_api_Entry).2.2.2.2.1)) (
          some (.inl (v1, v2, v7, v23, (wi64 (v24 + 1)), l0, l1))) (
          F_reap_BytesGas_c2 v1 v2 v7 r2 v23 v24 v2 (decide (0 ≤ v2)) true (decide (v7 < (List.getD l1 (Int.toNat v24) d_api_Entry).2.2.2.2.1)) (List.getD l1 (Int.toNat v24) d_api_Entry) l0 l1)) (
        F_reap_BytesGas_c2 v1 v2 v7 r2 v23 v24 v2 (decide (0 ≤ v2)) false false (List.getD l1 (Int.toNat v24) d_api_Entry) l0 l1))) (
    some (.inr l0))
noncomputable def F_reap_BytesGas_l1s (v1 : Int) (v2 : Int) (v7 : Int) (v23 : Int) (v24 : Int) (l0 : List (List UInt8)) (l1 : List D_api_Entry) : Option (List (List UInt8)) :=
  iterO (fun v => F_reap_BytesGas_l1 v.1 v.2.1 v.2.2.1 v.2.2.2.1 v.2.2.2.2.1 v.2.2.2.2.2.1 v.2.2.2.2.2.2) (v1, v2, v7, v23, v24, l0, l1)
noncomputable def F_reap_BytesGas (a0 : List D_api_Entry) (a1 : Int) (a2 : Int) : Option (List (List UInt8)) :=
  sel (decide (a1 < 0)) (
    some []) (
    sel (decide (a2 < (-1))) (
      some []) (
      (F_reap_Sorted a0).bind fun r1 =>
      F_reap_BytesGas_l1s a1 a2 (wu64 (max a2 0)) (((List.length r1) : Nat) : Int) 0 [] r1))
noncomputable def F_reap_Count_l2 (v23 : List D_api_Entry) (v24 : Int) (v25 : Int) (l0 : List (List UInt8)) : Option ((List D_api_Entry × Int × Int × List (List UInt8)) ⊕ (List (List UInt8))) :=
  sel (decide (v25 < v24)) (
    chk (decide ((0 : Int) ≤ v25 ∧ v25 < (((List.length v23) : Nat) : Int))) <|
    chk (decide (((List.length l0) + 1) * 24 ≤ LIM ∧ (List.length l0) + 1 ≤ LEN)) <|
    some (.inl (v23, v24, (wi64 (v25 + 1)), (l0 ++ [(List.getD v23 (Int.toNat v25) d_api_Entry).2.1])))) (
    some (.inr l0))
noncomputable def F_reap_Count_l2s (v23 : List D_api_Entry) (v24 : Int) (v25 : Int) (l0 : List (List UInt8)) : Option (List (List UInt8)) :=
  iterO (fun v => F_reap_Count_l2 v.1 v.2.1 v.2.2.1 v.2.2.2) (v23, v24, v25, l0)
noncomputable def F_reap_Count_c1 (v1 : Int) (l0 : List D_api_Entry) : Option (List (List UInt8)) :=
  chk (decide ((0 : Int) ≤ 0 ∧ 0 ≤ v1 ∧ v1 ≤ (((List.length l0) : Nat) : Int))) <|
  F_reap_Count_l2s (List.take (Int.toNat v1) l0) (((List.length (List.take (Int.toNat v1) l0)) : Nat) : Int) 0 []
noncomputable def F_reap_Count (a0 : List D_api_Entry) (a1 : Int) : Option (List (List UInt8)) :=
  (F_reap_Sorted a0).bind fun r1 =>
  sel (decide (a1 < 0)) (
    F_reap_Count_c1 (((List.length r1) : Nat) : Int) r1) (
    sel (decide ((((List.length r1) : Nat) : Int) < a1)) (
      F_reap_Count_c1 (((List.length r1) : Nat) : Int) r1) (
      F_reap_Count_c1 a1 r1))
def F_reap_Size_l1 (v3 : Int) (v6 : List (List UInt8)) (v7 : Int) (v8 : Int) : Option ((Int × List (List UInt8) × Int × Int) ⊕ (Int)) :=
  sel (decide (v8 < v7)) (
    chk (decide ((0 : Int) ≤ v8 ∧ v8 < (((List.length v6) : Nat) : Int))) <|
    (F_wire_SizeBytes (((List.length (List.getD v6 (Int.toNat v8) [])) : Nat) : Int)).bind fun r1 =>
    some (.inl ((wi64 (v3 + r1)), v6, v7, (wi64 (v8 + 1))))) (
    some (.inr v3))
def F_reap_Size_l1s (v3 : Int) (v6 : List (List UInt8)) (v7 : Int) (v8 : Int) : Option (Int) :=
  iterO (fun v => F_reap_Size_l1 v.1 v.2.1 v.2.2.1 v.2.2.2) (v3, v6, v7, v8)
def F_reap_Size (a0 : List (List UInt8)) : Option (Int) :=
  F_reap_Size_l1s 0 a0 (((List.length a0) : Nat) : Int) 0
noncomputable def F_mempoollaw24_known : Option (Bool) :=
  (F_mempoollaw24_entry 1 50 10 1).bind fun r1 =>
  (F_mempoollaw24_entry 2 90 10 9).bind fun r2 =>
  (F_mempoollaw24_entry 3 20 10 1).bind fun r3 =>
  (F_reap_BytesGas [r1, r2, r3] 80 (-1)).bind fun r4 =>
  (F_reap_BytesGas [r1, r2, r3] 1000 25).bind fun r5 =>
  (F_reap_Count [r1, r2, r3] (-1)).bind fun r6 =>
  (F_reap_Sorted [r1, r2, r3]).bind fun r7 =>
  sel (decide ((((List.length r4) : Nat) : Int) = 2)) (
    chk (decide ((0 : Int) ≤ 0 ∧ 0 < (((List.length r4) : Nat) : Int))) <|
    chk (decide (0 < (List.length r4))) <|
    sel (decide ((((List.length (List.getD r4 0 [])) : Nat) : Int) = 50)) (
      sel (decide ((((List.length r5) : Nat) : Int) = 2)) (
        chk (decide ((0 : Int) ≤ 0 ∧ 0 < (((List.length r5) : Nat) : Int))) <|
        chk (decide (0 < (List.length r5))) <|
        sel (decide ((((List.length (List.getD r5 0 [])) : Nat) : Int) = 90)) (
          sel (decide ((((List.length r6) : Nat) : Int) = 3)) (
            sel (decide ((((List.length r7) : Nat) : Int) = 3)) (
              chk (decide ((0 : Int) ≤ 0 ∧ 0 < (((List.length r7) : Nat) : Int))) <|
              chk (decide (0 < (List.length r7))) <|
              sel (decide ((List.getD r7 0 d_api_Entry).2.2.2.2.2.2.2.2.1 = 2)) (
                (F_reap_Size r6).bind fun r8 =>
                some (decide (r8 = 166))) (
                some false)) (
              some false)) (
            some false)) (
          some false)) (
        some false)) (
      some false)) (
    some false)
def F_mempoolmake_From (a0 : List Int) : Option (D_mempoolmake_Numbers) :=
  some (a0, (0 : Int))
def F_mempoolmake_Place (a0 : Int) (a1 : Int) : Option (Int) :=
  chk (!decide (a1 = 0)) <|
  sel (decide ((Int.tmod a0 a1) < 0)) (
    some (wi64 ((Int.tmod a0 a1) + a1))) (
    some (Int.tmod a0 a1))
def F_mempoolmake_Numbers_Next_c1 (v1 : Int) (v5 : Int) (b0 : D_mempoolmake_Numbers) : Option (D_mempoolmake_Numbers × Int) :=
  (F_mempoolmake_Place v5 v1).bind fun r1 =>
  some ((b0.1, (wi64 (b0.2 + 1))), r1)
def F_mempoolmake_Numbers_Next (a0 : D_mempoolmake_Numbers) (a1 : Int) : Option (D_mempoolmake_Numbers × Int) :=
  sel (decide (a0.2 < (((List.length a0.1) : Nat) : Int))) (
    chk (decide ((0 : Int) ≤ a0.2 ∧ a0.2 < (((List.length a0.1) : Nat) : Int))) <|
    F_mempoolmake_Numbers_Next_c1 a1 (List.getD a0.1 (Int.toNat a0.2) (0 : Int)) a0) (
    F_mempoolmake_Numbers_Next_c1 a1 0 a0)
def F_mempoolref4_turn (a0 : Int) (a1 : Int) : Option (Int) :=
  chk (decide ((0 : Int) ≤ a1)) <|
  chk (decide ((0 : Int) ≤ (wi64 (32 - a1)))) <|
  some (bits .or .u32 (a0 / 2 ^ (min (Int.toNat a1) 32)) (wu32 (a0 * 2 ^ (min (Int.toNat (wi64 (32 - a1))) 32))))
def F_mempoolref4_constants : Option (Vector Int 64) :=
  some (Vector.push (Vector.push (Vector.push (Vector.push (Vector.push (Vector.push (Vector.push (Vector.push (Vector.push (Vector.push (Vector.push (Vector.push (Vector.push (Vector.push (Vector.push (Vector.push (Vector.push (Vector.push (Vector.push (Vector.push (Vector.push (Vector.push (Vector.push (Vector.push (Vector.push (Vector.push (Vector.push (Vector.push (Vector.push (Vector.push (Vector.push (Vector.push (Vector.push (Vector.push (Vector.push (Vector.push (Vector.push (Vector.push (Vector.push (Vector.push (Vector.push (Vector.push (Vector.push (Vector.push (Vector.push (Vector.push (Vector.push (Vector.push (Vector.push (Vector.push (Vector.push (Vector.push (Vector.push (Vector.push (Vector.push (Vector.push (Vector.push (Vector.push (Vector.push (Vector.push (Vector.push (Vector.push (Vector.push (Vector.push #v[] 1116352408) 1899447441) 3049323471) 3921009573) 961987163) 1508970993) 2453635748) 2870763221) 3624381080) 310598401) 607225278) 1426881987) 1925078388) 2162078206) 2614888103) 3248222580) 3835390401) 4022224774) 264347078) 604807628) 770255983) 1249150122) 1555081692) 1996064986) 2554220882) 2821834349) 2952996808) 3210313671) 3336571891) 3584528711) 113926993) 338241895) 666307205) 773529912) 1294757372) 1396182291) 1695183700) 1986661051) 2177026350) 2456956037) 2730485921) 2820302411) 3259730800) 3345764771) 3516065817) 3600352804) 4094571909) 275423344) 430227734) 506948616) 659060556) 883997877) 958139571) 1322822218) 1537002063) 1747873779) 1955562222) 2024104815) 2227730452) 2361852424) 2428436474) 2756734187) 3204031479) 3329325298)
def F_mempoolref4_block_l4 (v180 : Int) (b0 : Vector Int 8) (b1 : Vector Int 8) (b2 : Vector Int 8) : Option ((Int × Vector Int 8 × Vector Int 8 × Vector Int 8) ⊕ (Vector Int 8)) :=
  sel (decide (v180 < 8)) (
    chk (decide ((0 : Int) ≤ v180 ∧ v180 < 8)) <|
    chk (decide ((Int.toNat v180) < 8)) <|
    chk (decide ((0 : Int) ≤ v180 ∧ v180 < 8)) <|
    chk (decide ((Int.toNat v180) < 8)) <|
    chk (decide ((0 : Int) ≤ v180 ∧ v180 < 8)) <|
    chk (decide ((Int.toNat v180) < 8)) <|
    some (.inl ((wi64 (v180 + 1)), (vset b0 (Int.toNat v180) (wu32 ((vget b0 (Int.toNat v180) (0 : Int)) + (vget b2 (Int.toNat v180) (0 : Int))))), b1, b2))) (
    some (.inr b0))
def F_mempoolref4_block_l4s (v180 : Int) (b0 : Vector Int 8) (b1 : Vector Int 8) (b2 : Vector Int 8) : Option (Vector Int 8) :=
  iterO (fun v => F_mempoolref4_block_l4 v.1 v.2.1 v.2.2.1 v.2.2.2) (v180, b0, b1, b2)
def F_mempoolref4_block_c3 (b0 : Vector Int 8) (b1 : Vector Int 8) (b2 : Vector Int 8) : Option (Vector Int 8) :=
  F_mempoolref4_block_l4s 0 b0 b1 b2
def F_mempoolref4_block_l5 (v12 : Int) (b0 : Vector Int 8) (b1 : Vector Int 8) (b2 : Vector Int 64) (b3 : Vector Int 64) (b4 : Vector Int 8) : Option ((Int × Vector Int 8 × Vector Int 8 × Vector Int 64 × Vector Int 64 × Vector Int 8) ⊕ (Vector Int 8)) :=
  sel (decide (v12 < 64)) (
    (F_mempoolref4_turn (vget b4 4 (0 : Int)) 6).bind fun r2 =>
    (F_mempoolref4_turn (vget b4 4 (0 : Int)) 11).bind fun r3 =>
    (F_mempoolref4_turn (vget b4 4 (0 : Int)) 25).bind fun r4 =>
    chk (decide ((0 : Int) ≤ v12 ∧ v12 < 64)) <|
    chk (decide ((Int.toNat v12) < 64)) <|
    chk (decide ((0 : Int) ≤ v12 ∧ v12 < 64)) <|
    chk (decide ((Int.toNat v12) < 64)) <|
    (F_mempoolref4_turn (vget b4 0 (0 : Int)) 2).bind fun r5 =>
    (F_mempoolref4_turn (vget b4 0 (0 : Int)) 13).bind fun r6 =>
    (F_mempoolref4_turn (vget b4 0 (0 : Int)) 22).bind fun r7 =>
    some (.inl ((wi64 (v12 + 1)), b0, b1, b2, b3, (Vector.push (Vector.push (Vector.push (Vector.push (Vector.push (Vector.push (Vector.push (Vector.push #v[] (wu32 ((wu32 ((wu32 ((wu32 ((wu32 ((vget b4 7 (0 : Int)) + (bits .xor .u32 (bits .xor .u32 r2 r3) r4))) + (bits .xor .u32 (bits .and .u32 (vget b4 4 (0 : Int)) (vget b4 5 (0 : Int))) (bits .and .u32 (notI .u32 (vget b4 4 (0 : Int))) (vget b4 6 (0 : Int)))))) + (vget b3 (Int.toNat v12) (0 : Int)))) + (vget b2 (Int.toNat v12) (0 : Int)))) + (wu32 ((bits .xor .u32 (bits .xor .u32 r5 r6) r7) + (bits .xor .u32 (bits .xor .u32 (bits .and .u32 (vget b4 0 (0 : Int)) (vget b4 1 (0 : Int))) (bits .and .u32 (vget b4 0 (0 : Int)) (vget b4 2 (0 : Int)))) (bits .and .u32 (vget b4 1 (0 : Int)) (vget b4 2 (0 : Int))))))))) (vget b4 0 (0 : Int))) (vget b4 1 (0 : Int))) (vget b4 2 (0 : Int))) (wu32 ((vget b4 3 (0 : Int)) + (wu32 ((wu32 ((wu32 ((wu32 ((vget b4 7 (0 : Int)) + (bits .xor .u32 (bits .xor .u32 r2 r3) r4))) + (bits .xor .u32 (bits .and .u32 (vget b4 4 (0 : Int)) (vget b4 5 (0 : Int))) (bits .and .u32 (notI .u32 (vget b4 4 (0 : Int))) (vget b4 6 (0 : Int)))))) + (vget b3 (Int.toNat v12) (0 : Int)))) + (vget b2 (Int.toNat v12) (0 : Int))))))) (vget b4 4 (0 : Int))) (vget b4 5 (0 : Int))) (vget b4 6 (0 : Int)))))) (
    Option.map .inr (
      F_mempoolref4_block_c3 b0 b1 b4))
def F_mempoolref4_block_l5s (v12 : Int) (b0 : Vector Int 8) (b1 : Vector Int 8) (b2 : Vector Int 64) (b3 : Vector Int 64) (b4 : Vector Int 8) : Option (Vector Int 8) :=
  iterO (fun v => F_mempoolref4_block_l5 v.1 v.2.1 v.2.2.1 v.2.2.2.1 v.2.2.2.2.1 v.2.2.2.2.2) (v12, b0, b1, b2, b3, b4)
def F_mempoolref4_block_c2 (b0 : Vector Int 8) (b1 : Vector Int 8) (b2 : Vector Int 64) : Option (Vector Int 8) :=
  (F_mempoolref4_constants).bind fun r1 =>
  F_mempoolref4_block_l5s 0 b0 b1 b2 r1 b0
def F_mempoolref4_block_l6 (v7 : Int) (b0 : Vector Int 8) (b1 : Vector Int 8) (b2 : Vector Int 64) : Option ((Int × Vector Int 8 × Vector Int 8 × Vector Int 64) ⊕ (Vector Int 8)) :=
  sel (decide (v7 < 64)) (
    chk (decide ((0 : Int) ≤ (wi64 (v7 - 15)) ∧ (wi64 (v7 - 15)) < 64)) <|
    chk (decide ((Int.toNat (wi64 (v7 - 15))) < 64)) <|
    chk (decide ((0 : Int) ≤ (wi64 (v7 - 2)) ∧ (wi64 (v7 - 2)) < 64)) <|
    chk (decide ((Int.toNat (wi64 (v7 - 2))) < 64)) <|
    (F_mempoolref4_turn (vget b2 (Int.toNat (wi64 (v7 - 2))) (0 : Int)) 17).bind fun r8 =>
    (F_mempoolref4_turn (vget b2 (Int.toNat (wi64 (v7 - 2))) (0 : Int)) 19).bind fun r9 =>
    chk (decide ((0 : Int) ≤ (wi64 (v7 - 7)) ∧ (wi64 (v7 - 7)) < 64)) <|
    chk (decide ((Int.toNat (wi64 (v7 - 7))) < 64)) <|
    (F_mempoolref4_turn (vget b2 (Int.toNat (wi64 (v7 - 15))) (0 : Int)) 7).bind fun r10 =>
    (F_mempoolref4_turn (vget b2 (Int.toNat (wi64 (v7 - 15))) (0 : Int)) 18).bind fun r11 =>
    chk (decide ((0 : Int) ≤ (wi64 (v7 - 16)) ∧ (wi64 (v7 - 16)) < 64)) <|
    chk (decide ((Int.toNat (wi64 (v7 - 16))) < 64)) <|
    chk (decide ((0 : Int) ≤ v7 ∧ v7 < 64)) <|
    chk (decide ((Int.toNat v7) < 64)) <|
    some (.inl ((wi64 (v7 + 1)), b0, b1, (vset b2 (Int.toNat v7) (wu32 ((wu32 ((wu32 ((bits .xor .u32 (bits .xor .u32 r8 r9) ((vget b2 (Int.toNat (wi64 (v7 - 2))) (0 : Int)) / 2 ^ 10)) + (vget b2 (Int.toNat (wi64 (v7 - 7))) (0 : Int)))) + (bits .xor .u32 (bits .xor .u32 r10 r11) ((vget b2 (Int.toNat (wi64 (v7 - 15))) (0 : Int)) / 2 ^ 3)))) + (vget b2 (Int.toNat (wi64 (v7 - 16))) (0 : Int)))))))) (
    Option.map .inr (
      F_mempoolref4_block_c2 b0 b1 b2))
def F_mempoolref4_block_l6s (v7 : Int) (b0 : Vector Int 8) (b1 : Vector Int 8) (b2 : Vector Int 64) : Option (Vector Int 8) :=
  iterO (fun v => F_mempoolref4_block_l6 v.1 v.2.1 v.2.2.1 v.2.2.2) (v7, b0, b1, b2)
def F_mempoolref4_block_c1 (b0 : Vector Int 8) (b1 : Vector Int 8) (b2 : Vector Int 64) : Option (Vector Int 8) :=
  F_mempoolref4_block_l6s 16 b0 b1 b2
def F_mempoolref4_block_l7 (v1 : List UInt8) (v6 : Int) (b0 : Vector Int 8) (b1 : Vector Int 8) (b2 : Vector Int 64) : Option ((List UInt8 × Int × Vector Int 8 × Vector Int 8 × Vector Int 64) ⊕ (Vector Int 8)) :=
  sel (decide (v6 < 16)) (
    chk (decide ((0 : Int) ≤ (wi64 (4 * v6)) ∧ (wi64 (4 * v6)) < (((List.length v1) : Nat) : Int))) <|
    chk (decide ((0 : Int) ≤ (wi64 ((wi64 (4 * v6)) + 1)) ∧ (wi64 ((wi64 (4 * v6)) + 1)) < (((List.length v1) : Nat) : Int))) <|
    chk (decide ((0 : Int) ≤ (wi64 ((wi64 (4 * v6)) + 2)) ∧ (wi64 ((wi64 (4 * v6)) + 2)) < (((List.length v1) : Nat) : Int))) <|
    chk (decide ((0 : Int) ≤ (wi64 ((wi64 (4 * v6)) + 3)) ∧ (wi64 ((wi64 (4 * v6)) + 3)) < (((List.length v1) : Nat) : Int))) <|
    chk (decide ((0 : Int) ≤ v6 ∧ v6 < 64)) <|
    chk (decide ((Int.toNat v6) < 64)) <|
    some (.inl (v1, (wi64 (v6 + 1)), b0, b1, (vset b2 (Int.toNat v6) (bits .or .u32 (bits .or .u32 (bits .or .u32 (wu32 ((wu32 ((UInt8.toNat (List.getD v1 (Int.toNat (wi64 (4 * v6))) (0 : UInt8)) : Nat) : Int)) * 2 ^ 24)) (wu32 ((wu32 ((UInt8.toNat (List.getD v1 (Int.toNat (wi64 ((wi64 (4 * v6)) + 1))) (0 : UInt8)) : Nat) : Int)) * 2 ^ 16))) (wu32 ((wu32 ((UInt8.toNat (List.getD v1 (Int.toNat (wi64 ((wi64 (4 * v6)) + 2))) (0 : UInt8)) : Nat) : Int)) * 2 ^ 8))) (wu32 ((UInt8.toNat (List.getD v1 (Int.toNat (wi64 ((wi64 (4 * v6)) + 3))) (0 : UInt8)) : Nat) : Int))))))) (
    Option.map .inr (
      F_mempoolref4_block_c1 b0 b1 b2))
def F_mempoolref4_block_l7s (v1 : List UInt8) (v6 : Int) (b0 : Vector Int 8) (b1 : Vector Int 8) (b2 : Vector Int 64) : Option (Vector Int 8) :=
  iterO (fun v => F_mempoolref4_block_l7 v.1 v.2.1 v.2.2.1 v.2.2.2.1 v.2.2.2.2) (v1, v6, b0, b1, b2)
def F_mempoolref4_block (a0 : Vector Int 8) (a1 : List UInt8) : Option (Vector Int 8) :=
  F_mempoolref4_block_l7s a1 0 a0 (Vector.replicate 8 (0 : Int)) (Vector.replicate 64 (0 : Int))
def F_mempoolref4_Sha_l4 (v52 : Int) (b0 : Vector UInt8 32) (b1 : Vector Int 8) (b2 : Vector UInt8 32) : Option ((Int × Vector UInt8 32 × Vector Int 8 × Vector UInt8 32) ⊕ (Vector UInt8 32)) :=
  sel (decide (v52 < 32)) (
    chk (decide ((0 : Int) ≤ (wi64 (Int.tdiv v52 4)) ∧ (wi64 (Int.tdiv v52 4)) < 8)) <|
    chk (decide ((Int.toNat (wi64 (Int.tdiv v52 4))) < 8)) <|
    chk (decide ((0 : Int) ≤ (wi64 (24 - (wi64 ((Int.tmod v52 4) * 8)))))) <|
    chk (decide ((0 : Int) ≤ v52 ∧ v52 < 32)) <|
    chk (decide ((Int.toNat v52) < 32)) <|
    chk (decide ((0 : Int) ≤ (wu8 ((vget b1 (Int.toNat (wi64 (Int.tdiv v52 4))) (0 : Int)) / 2 ^ (min (Int.toNat (wi64 (24 - (wi64 ((Int.tmod v52 4) * 8))))) 32))) ∧ (wu8 ((vget b1 (Int.toNat (wi64 (Int.tdiv v52 4))) (0 : Int)) / 2 ^ (min (Int.toNat (wi64 (24 - (wi64 ((Int.tmod v52 4) * 8))))) 32))) < 256)) <|
    some (.inl ((wi64 (v52 + 1)), b0, b1, (vset b2 (Int.toNat v52) (UInt8.ofNat (Int.toNat (wu8 ((vget b1 (Int.toNat (wi64 (Int.tdiv v52 4))) (0 : Int)) / 2 ^ (min (Int.toNat (wi64 (24 - (wi64 ((Int.tmod v52 4) * 8))))) 32))))))))) (
    some (.inr b2))
def F_mempoolref4_Sha_l4s (v52 : Int) (b0 : Vector UInt8 32) (b1 : Vector Int 8) (b2 : Vector UInt8 32) : Option (Vector UInt8 32) :=
  iterO (fun v => F_mempoolref4_Sha_l4 v.1 v.2.1 v.2.2.1 v.2.2.2) (v52, b0, b1, b2)
def F_mempoolref4_Sha_c3 (b0 : Vector UInt8 32) (b1 : Vector Int 8) : Option (Vector UInt8 32) :=
  F_mempoolref4_Sha_l4s 0 b0 b1 (Vector.replicate 32 (0 : UInt8))
def F_mempoolref4_Sha_l5 (v7 : Int) (b0 : Vector UInt8 32) (b1 : Vector Int 8) (l0 : List UInt8) : Option ((Int × Vector UInt8 32 × Vector Int 8 × List UInt8) ⊕ (Vector UInt8 32)) :=
  sel (decide (v7 < (((List.length l0) : Nat) : Int))) (
    chk (decide ((0 : Int) ≤ v7 ∧ v7 ≤ (wi64 (v7 + 64)) ∧ (wi64 (v7 + 64)) ≤ (((List.length l0) : Nat) : Int))) <|
    (F_mempoolref4_block b1 (List.drop (Int.toNat v7) (List.take (Int.toNat (wi64 (v7 + 64))) l0))).bind fun r1 =>
    some (.inl ((wi64 (v7 + 64)), b0, r1, l0))) (
    Option.map .inr (
      F_mempoolref4_Sha_c3 b0 b1))
def F_mempoolref4_Sha_l5s (v7 : Int) (b0 : Vector UInt8 32) (b1 : Vector Int 8) (l0 : List UInt8) : Option (Vector UInt8 32) :=
  iterO (fun v => F_mempoolref4_Sha_l5 v.1 v.2.1 v.2.2.1 v.2.2.2) (v7, b0, b1, l0)
def F_mempoolref4_Sha_c2 (b0 : Vector UInt8 32) (l0 : List UInt8) : Option (Vector UInt8 32) :=
  F_mempoolref4_Sha_l5s 0 b0 (Vector.push (Vector.push (Vector.push (Vector.push (Vector.push (Vector.push (Vector.push (Vector.push #v[] 1779033703) 3144134277) 1013904242) 2773480762) 1359893119) 2600822924) 528734635) 1541459225) l0
def F_mempoolref4_Sha_l6 (v4 : Int) (v5 : Int) (b0 : Vector UInt8 32) (l0 : List UInt8) : Option ((Int × Int × Vector UInt8 32 × List UInt8) ⊕ (Vector UInt8 32)) :=
  sel (decide (0 ≤ v5)) (
    chk (decide ((0 : Int) ≤ (wi64 (8 * v5)))) <|
    chk (decide ((0 : Int) ≤ (wu8 (v4 / 2 ^ (min (Int.toNat (wi64 (8 * v5))) 64))) ∧ (wu8 (v4 / 2 ^ (min (Int.toNat (wi64 (8 * v5))) 64))) < 256)) <|
    chk (decide (((List.length l0) + 1) * 1 ≤ LIM ∧ (List.length l0) + 1 ≤ LEN)) <|
    some (.inl (v4, (wi64 (v5 - 1)), b0, (l0 ++ [(UInt8.ofNat (Int.toNat (wu8 (v4 / 2 ^ (min (Int.toNat (wi64 (8 * v5))) 64)))))])))) (
    Option.map .inr (
      F_mempoolref4_Sha_c2 b0 l0))
def F_mempoolref4_Sha_l6s (v4 : Int) (v5 : Int) (b0 : Vector UInt8 32) (l0 : List UInt8) : Option (Vector UInt8 32) :=
  iterO (fun v => F_mempoolref4_Sha_l6 v.1 v.2.1 v.2.2.1 v.2.2.2) (v4, v5, b0, l0)
def F_mempoolref4_Sha_c1 (v0 : List UInt8) (b0 : Vector UInt8 32) (l0 : List UInt8) : Option (Vector UInt8 32) :=
  F_mempoolref4_Sha_l6s (wu64 ((wu64 (((List.length v0) : Nat) : Int)) * 8)) 7 b0 l0
def F_mempoolref4_Sha_l7 (v0 : List UInt8) (b0 : Vector UInt8 32) (l0 : List UInt8) : Option ((List UInt8 × Vector UInt8 32 × List UInt8) ⊕ (Vector UInt8 32)) :=
  sel (!decide ((Int.tmod (((List.length l0) : Nat) : Int) 64) = 56)) (
    chk (decide (((List.length l0) + 1) * 1 ≤ LIM ∧ (List.length l0) + 1 ≤ LEN)) <|
    some (.inl (v0, b0, (l0 ++ [(0 : UInt8)])))) (
    Option.map .inr (
      F_mempoolref4_Sha_c1 v0 b0 l0))
def F_mempoolref4_Sha_l7s (v0 : List UInt8) (b0 : Vector UInt8 32) (l0 : List UInt8) : Option (Vector UInt8 32) :=
  iterO (fun v => F_mempoolref4_Sha_l7 v.1 v.2.1 v.2.2) (v0, b0, l0)
def F_mempoolref4_Sha (a0 : List UInt8) : Option (Vector UInt8 32) :=
  chk (decide ((0 + (List.length a0)) * 1 ≤ LIM ∧ 0 + (List.length a0) ≤ LEN)) <|
  chk (decide (((List.length a0) + 1) * 1 ≤ LIM ∧ (List.length a0) + 1 ≤ LEN)) <|
  F_mempoolref4_Sha_l7s a0 (Vector.replicate 32 (0 : UInt8)) (a0 ++ [(128 : UInt8)])
def F_mempoolmake_Name (a0 : D_mempoolmake_Numbers) : Option (D_mempoolmake_Numbers × List UInt8) :=
  (F_mempoolmake_Numbers_Next a0 6).bind fun r1 =>
  chk (decide ((0 : Int) ≤ r1.2 ∧ r1.2 < 6)) <|
  chk (decide ((Int.toNat r1.2) < 6)) <|
  some (r1.1, (List.getD [[(97 : UInt8), (110 : UInt8), (110 : UInt8)], [(98 : UInt8), (111 : UInt8), (98 : UInt8)], [(101 : UInt8), (118 : UInt8), (101 : UInt8)], [(122 : UInt8), (111 : UInt8), (101 : UInt8)], [(110 : UInt8), (101 : UInt8), (119 : UInt8)], [(120 : UInt8), (45 : UInt8), (49 : UInt8)]] (Int.toNat r1.2) []))
def F_mempoolmake_Entry_l2 (v6 : Int) (b0 : D_mempoolmake_Numbers) (b1 : D_api_Entry) (b2_0 : Vector UInt8 32) (b2_2 : List UInt8) (b2_3 : Int) (b2_4 : Int) (b2_5 : Int) (b2_6 : Int) (b2_7 : Int) (b2_8 : Int) (l0 : List UInt8) (l1 : List Int) : Option ((Int × D_mempoolmake_Numbers × D_api_Entry × Vector UInt8 32 × List UInt8 × Int × Int × Int × Int × Int × Int × List UInt8 × List Int) ⊕ (D_mempoolmake_Numbers × D_api_Entry)) :=
  sel (decide (0 < v6)) (
    (F_mempoolmake_Numbers_Next b0 4).bind fun r11 =>
    chk (decide (((List.length l1) + 1) * 8 ≤ LIM ∧ (List.length l1) + 1 ≤ LEN)) <|
    some (.inl ((wi64 (v6 - 1)), r11.1, b1, b2_0, b2_2, b2_3, b2_4, b2_5, b2_6, b2_7, b2_8, l0, (l1 ++ [(wi64 (1 + r11.2))])))) (
    some (.inr (b0, (b2_0, l0, b2_2, b2_3, b2_4, b2_5, b2_6, b2_7, b2_8, l1))))
def F_mempoolmake_Entry_l2s (v6 : Int) (b0 : D_mempoolmake_Numbers) (b1 : D_api_Entry) (b2_0 : Vector UInt8 32) (b2_2 : List UInt8) (b2_3 : Int) (b2_4 : Int) (b2_5 : Int) (b2_6 : Int) (b2_7 : Int) (b2_8 : Int) (l0 : List UInt8) (l1 : List Int) : Option (D_mempoolmake_Numbers × D_api_Entry) :=
  iterO (fun v => F_mempoolmake_Entry_l2 v.1 v.2.1 v.2.2.1 v.2.2.2.1 v.2.2.2.2.1 v.2.2.2.2.2.1 v.2.2.2.2.2.2.1 v.2.2.2.2.2.2.2.1 v.2.2.2.2.2.2.2.2.1 v.2.2.2.2.2.2.2.2.2.1 v.2.2.2.2.2.2.2.2.2.2.1 v.2.2.2.2.2.2.2.2.2.2.2.1 v.2.2.2.2.2.2.2.2.2.2.2.2) (v6, b0, b1, b2_0, b2_2, b2_3, b2_4, b2_5, b2_6, b2_7, b2_8, l0, l1)
def F_mempoolmake_Entry_c1 (b0 : D_mempoolmake_Numbers) (b1 : D_api_Entry) (l0 : List UInt8) : Option (D_mempoolmake_Numbers × D_api_Entry) :=
  (F_mempoolref4_Sha l0).bind fun r2 =>
  (F_mempoolmake_Name b0).bind fun r3 =>
  (F_mempoolmake_Numbers_Next r3.1 4).bind fun r4 =>
  (F_mempoolmake_Numbers_Next r4.1 50).bind fun r5 =>
  (F_mempoolmake_Numbers_Next r5.1 5).bind fun r6 =>
  (F_mempoolmake_Numbers_Next r6.1 9).bind fun r7 =>
  (F_mempoolmake_Numbers_Next r7.1 30).bind fun r8 =>
  (F_mempoolmake_Numbers_Next r8.1 9).bind fun r9 =>
  (F_mempoolmake_Numbers_Next r9.1 3).bind fun r10 =>
  F_mempoolmake_Entry_l2s r10.2 r10.1 b1 r2 r3.2 (wu64 r4.2) (wu64 r5.2) (wu64 r6.2) r7.2 r8.2 r9.2 l0 []
def F_mempoolmake_Entry_l3 (v11 : Int) (v12 : Int) (b0 : D_mempoolmake_Numbers) (b1 : D_api_Entry) (l0 : List UInt8) : Option ((Int × Int × D_mempoolmake_Numbers × D_api_Entry × List UInt8) ⊕ (D_mempoolmake_Numbers × D_api_Entry)) :=
  sel (decide (v12 < v11)) (
    (F_mempoolmake_Numbers_Next b0 3).bind fun r12 =>
    chk (decide ((0 : Int) ≤ v12 ∧ v12 < (((List.length l0) : Nat) : Int))) <|
    chk (decide ((0 : Int) ≤ (wu8 r12.2) ∧ (wu8 r12.2) < 256)) <|
    chk (decide ((Int.toNat v12) < (List.length l0))) <|
    some (.inl (v11, (wi64 (v12 + 1)), r12.1, b1, (List.set l0 (Int.toNat v12) (UInt8.ofNat (Int.toNat (wu8 r12.2))))))) (
    Option.map .inr (
      F_mempoolmake_Entry_c1 b0 b1 l0))
def F_mempoolmake_Entry_l3s (v11 : Int) (v12 : Int) (b0 : D_mempoolmake_Numbers) (b1 : D_api_Entry) (l0 : List UInt8) : Option (D_mempoolmake_Numbers × D_api_Entry) :=
  iterO (fun v => F_mempoolmake_Entry_l3 v.1 v.2.1 v.2.2.1 v.2.2.2.1 v.2.2.2.2) (v11, v12, b0, b1, l0)
def F_mempoolmake_Entry (a0 : D_mempoolmake_Numbers) : Option (D_mempoolmake_Numbers × D_api_Entry) :=
  (F_mempoolmake_Numbers_Next a0 9).bind fun r1 =>
  chk (decide ((0 : Int) ≤ r1.2 ∧ r1.2 ≤ r1.2 ∧ (1 : Int) * r1.2 ≤ 281474976710656 ∧ r1.2 ≤ 4611686018427387904)) <|
  F_mempoolmake_Entry_l3s (((List.length (List.replicate (Int.toNat r1.2) (0 : UInt8))) : Nat) : Int) 0 r1.1 ((Vector.replicate 32 (0 : UInt8)), [], [], (0 : Int), (0 : Int), (0 : Int), (0 : Int), (0 : Int), (0 : Int), []) (List.replicate (Int.toNat r1.2) (0 : UInt8))
def F_mempoolmake_Entries_c2 (v6 : Int) (v8 : Bool) (b0 : D_mempoolmake_Numbers) (b1 : D_api_Entry) (l0 : List D_api_Entry) : Option ((Int × D_mempoolmake_Numbers × List D_api_Entry) ⊕ (D_mempoolmake_Numbers × List D_api_Entry)) :=
  sel (!v8) (
    (F_mempoolmake_Numbers_Next b0 2).bind fun r3 =>
    chk (decide (((List.length l0) + 1) * 144 ≤ LIM ∧ (List.length l0) + 1 ≤ LEN)) <|
    some (.inl ((wi64 (v6 - 1)), r3.1, (l0 ++ ([(b1.1, b1.2.1, b1.2.2.1, b1.2.2.2.1, b1.2.2.2.2.1, b1.2.2.2.2.2.1, b1.2.2.2.2.2.2.1, b1.2.2.2.2.2.2.2.1, (wi64 (b1.2.2.2.2.2.2.2.2.1 + (wi64 ((((List.length l0) : Nat) : Int) * r3.2)))), b1.2.2.2.2.2.2.2.2.2)] : List D_api_Entry))))) (
    some (.inl ((wi64 (v6 - 1)), b0, l0)))
def F_mempoolmake_Entries_l3 (v6 : Int) (v8 : Bool) (v22 : Int) (v23 : Int) (b0 : D_mempoolmake_Numbers) (b1 : D_api_Entry) (l0 : List D_api_Entry) : Option ((Int × Bool × Int × Int × D_mempoolmake_Numbers × D_api_Entry × List D_api_Entry) ⊕ ((Int × D_mempoolmake_Numbers × List D_api_Entry) ⊕ (D_mempoolmake_Numbers × List D_api_Entry))) :=
  sel (decide (v23 < v22)) (
    chk (decide ((0 : Int) ≤ v23 ∧ v23 < (((List.length l0) : Nat) : Int))) <|
    chk (decide ((Int.toNat v23) < (List.length l0))) <|
    sel v8 (
      some (.inl (v6, true, v22, (wi64 (v23 + 1)), b0, b1, l0))) (
      some (.inl (v6, (U.beq (.arr 32 .byte) (List.getD l0 (Int.toNat v23) d_api_Entry).1 b1.1), v22, (wi64 (v23 + 1)), b0, b1, l0)))) (
    Option.map .inr (
      F_mempoolmake_Entries_c2 v6 v8 b0 b1 l0))
def F_mempoolmake_Entries_l3s (v6 : Int) (v8 : Bool) (v22 : Int) (v23 : Int) (b0 : D_mempoolmake_Numbers) (b1 : D_api_Entry) (l0 : List D_api_Entry) : Option ((Int × D_mempoolmake_Numbers × List D_api_Entry) ⊕ (D_mempoolmake_Numbers × List D_api_Entry)) :=
  iterO (fun v => F_mempoolmake_Entries_l3 v.1 v.2.1 v.2.2.1 v.2.2.2.1 v.2.2.2.2.1 v.2.2.2.2.2.1 v.2.2.2.2.2.2) (v6, v8, v22, v23, b0, b1, l0)
def F_mempoolmake_Entries_l1 (v6 : Int) (b0 : D_mempoolmake_Numbers) (l0 : List D_api_Entry) : Option ((Int × D_mempoolmake_Numbers × List D_api_Entry) ⊕ (D_mempoolmake_Numbers × List D_api_Entry)) :=
  sel (decide (0 < v6)) (
    (F_mempoolmake_Entry b0).bind fun r2 =>
    F_mempoolmake_Entries_l3s v6 false (((List.length l0) : Nat) : Int) 0 r2.1 r2.2 l0) (
    some (.inr (b0, l0)))
def F_mempoolmake_Entries_l1s (v6 : Int) (b0 : D_mempoolmake_Numbers) (l0 : List D_api_Entry) : Option (D_mempoolmake_Numbers × List D_api_Entry) :=
  iterO (fun v => F_mempoolmake_Entries_l1 v.1 v.2.1 v.2.2) (v6, b0, l0)
def F_mempoolmake_Entries (a0 : D_mempoolmake_Numbers) (a1 : Int) : Option (D_mempoolmake_Numbers × List D_api_Entry) :=
  (F_mempoolmake_Numbers_Next a0 (wi64 (a1 + 1))).bind fun r1 =>
  F_mempoolmake_Entries_l1s r1.2 r1.1 []
def F_mempoolref16_Sorted_c2 (v6 : Int) (v7 : List D_api_Entry) (v8 : Int) (v9 : Int) (b0 : D_api_Entry) (l0 : List D_api_Entry) : Option ((List D_api_Entry × Int × Int × List D_api_Entry) ⊕ (List D_api_Entry)) :=
  chk (decide ((0 : Int) ≤ 0 ∧ 0 ≤ v6 ∧ v6 ≤ (((List.length l0) : Nat) : Int))) <|
  chk (decide ((0 + (List.length (List.take (Int.toNat v6) l0))) * 144 ≤ LIM ∧ 0 + (List.length (List.take (Int.toNat v6) l0)) ≤ LEN)) <|
  chk (decide (((List.length (List.take (Int.toNat v6) l0)) + 1) * 144 ≤ LIM ∧ (List.length (List.take (Int.toNat v6) l0)) + 1 ≤ LEN)) <|
  chk (decide ((0 : Int) ≤ v6 ∧ v6 ≤ (((List.length l0) : Nat) : Int) ∧ (((List.length l0) : Nat) : Int) ≤ (((List.length l0) : Nat) : Int))) <|
  chk (decide (((List.length ((List.take (Int.toNat v6) l0) ++ ([b0] : List D_api_Entry))) + (List.length (List.drop (Int.toNat v6) (List.take (Int.toNat (((List.length l0) : Nat) : Int)) l0)))) * 144 ≤ LIM ∧ (List.length ((List.take (Int.toNat v6) l0) ++ ([b0] : List D_api_Entry))) + (List.length (List.drop (Int.toNat v6) (List.take (Int.toNat (((List.length l0) : Nat) : Int)) l0))) ≤ LEN)) <|
  some (.inl (v7, v8, (wi64 (v9 + 1)), (((List.take (Int.toNat v6) l0) ++ ([b0] : List D_api_Entry)) ++ (List.drop (Int.toNat v6) (List.take (Int.toNat (((List.length l0) : Nat) : Int)) l0)))))
def F_mempoolref16_Sorted_l3 (v6 : Int) (v7 : List D_api_Entry) (v8 : Int) (v9 : Int) (b0 : D_api_Entry) (l0 : List D_api_Entry) : Option ((Int × List D_api_Entry × Int × Int × D_api_Entry × List D_api_Entry) ⊕ ((List D_api_Entry × Int × Int × List D_api_Entry) ⊕ (List D_api_Entry))) :=
  sel (decide (0 < v6)) (
    chk (decide ((0 : Int) ≤ (wi64 (v6 - 1)) ∧ (wi64 (v6 - 1)) < (((List.length l0) : Nat) : Int))) <|
    chk (decide ((Int.toNat (wi64 (v6 - 1))) < (List.length l0))) <|
    sel (decide ((List.getD l0 (Int.toNat (wi64 (v6 - 1))) d_api_Entry).2.2.2.2.2.1 < b0.2.2.2.2.2.1)) (
      some (.inl ((wi64 (v6 - 1)), v7, v8, v9, b0, l0))) (
      chk (decide ((0 : Int) ≤ (wi64 (v6 - 1)) ∧ (wi64 (v6 - 1)) < (((List.length l0) : Nat) : Int))) <|
      chk (decide ((Int.toNat (wi64 (v6 - 1))) < (List.length l0))) <|
      sel (decide ((List.getD l0 (Int.toNat (wi64 (v6 - 1))) d_api_Entry).2.2.2.2.2.1 = b0.2.2.2.2.2.1)) (
        chk (decide ((0 : Int) ≤ (wi64 (v6 - 1)) ∧ (wi64 (v6 - 1)) < (((List.length l0) : Nat) : Int))) <|
        chk (decide ((Int.toNat (wi64 (v6 - 1))) < (List.length l0))) <|
        sel (decide (b0.2.2.2.2.2.2.2.2.1 < (List.getD l0 (Int.toNat (wi64 (v6 - 1))) d_api_Entry).2.2.2.2.2.2.2.2.1)) (
          some (.inl ((wi64 (v6 - 1)), v7, v8, v9, b0, l0))) (
          Option.map .inr (
            F_mempoolref16_Sorted_c2 v6 v7 v8 v9 b0 l0))) (
        Option.map .inr (
          F_mempoolref16_Sorted_c2 v6 v7 v8 v9 b0 l0)))) (
    Option.map .inr (
      F_mempoolref16_Sorted_c2 v6 v7 v8 v9 b0 l0))
def F_mempoolref16_Sorted_l3s (v6 : Int) (v7 : List D_api_Entry) (v8 : Int) (v9 : Int) (b0 : D_api_Entry) (l0 : List D_api_Entry) : Option ((List D_api_Entry × Int × Int × List D_api_Entry) ⊕ (List D_api_Entry)) :=
  iterO (fun v => F_mempoolref16_Sorted_l3 v.1 v.2.1 v.2.2.1 v.2.2.2.1 v.2.2.2.2.1 v.2.2.2.2.2) (v6, v7, v8, v9, b0, l0)
def F_mempoolref16_Sorted_l1 (v7 : List D_api_Entry) (v8 : Int) (v9 : Int) (l0 : List D_api_Entry) : Option ((List D_api_Entry × Int × Int × List D_api_Entry) ⊕ (List D_api_Entry)) :=
  sel (decide (v9 < v8)) (
    chk (decide ((0 : Int) ≤ v9 ∧ v9 < (((List.length v7) : Nat) : Int))) <|
    F_mempoolref16_Sorted_l3s (((List.length l0) : Nat) : Int) v7 v8 v9 (List.getD v7 (Int.toNat v9) d_api_Entry) l0) (
    some (.inr l0))
def F_mempoolref16_Sorted_l1s (v7 : List D_api_Entry) (v8 : Int) (v9 : Int) (l0 : List D_api_Entry) : Option (List D_api_Entry) :=
  iterO (fun v => F_mempoolref16_Sorted_l1 v.1 v.2.1 v.2.2.1 v.2.2.2) (v7, v8, v9, l0)
def F_mempoolref16_Sorted (a0 : List D_api_Entry) : Option (List D_api_Entry) :=
  F_mempoolref16_Sorted_l1s a0 (((List.length a0) : Nat) : Int) 0 []
def F_mempoolref1_SameBytes (a0 : List UInt8) (a1 : List UInt8) : Option (Bool) :=
  some (decide (a0 = a1))
def F_mempoolref1_SameInts_l1 (v0 : List Int) (v1 : List Int) (v12 : Int) (v13 : Int) : Option ((List Int × List Int × Int × Int) ⊕ (Bool)) :=
  sel (decide (v13 < v12)) (
    chk (decide ((0 : Int) ≤ v13 ∧ v13 < (((List.length v0) : Nat) : Int))) <|
    chk (decide ((0 : Int) ≤ v13 ∧ v13 < (((List.length v1) : Nat) : Int))) <|
    sel (!decide ((List.getD v0 (Int.toNat v13) (0 : Int)) = (List.getD v1 (Int.toNat v13) (0 : Int)))) (
      some (.inr false)) (
      some (.inl (v0, v1, v12, (wi64 (v13 + 1)))))) (
    some (.inr true))
def F_mempoolref1_SameInts_l1s (v0 : List Int) (v1 : List Int) (v12 : Int) (v13 : Int) : Option (Bool) :=
  iterO (fun v => F_mempoolref1_SameInts_l1 v.1 v.2.1 v.2.2.1 v.2.2.2) (v0, v1, v12, v13)
def F_mempoolref1_SameInts (a0 : List Int) (a1 : List Int) : Option (Bool) :=
  sel (!decide ((((List.length a0) : Nat) : Int) = (((List.length a1) : Nat) : Int))) (
    some false) (
    F_mempoolref1_SameInts_l1s a0 a1 (((List.length a0) : Nat) : Int) 0)
def F_mempoolref16_SameEntry (a0 : D_api_Entry) (a1 : D_api_Entry) : Option (Bool) :=
  sel (U.beq (.arr 32 .byte) a0.1 a1.1) (
    (F_mempoolref1_SameBytes a0.2.1 a1.2.1).bind fun r1 =>
    sel r1 (
      sel (decide (a0.2.2.1 = a1.2.2.1)) (
        sel (decide (a0.2.2.2.1 = a1.2.2.2.1)) (
          sel (decide (a0.2.2.2.2.1 = a1.2.2.2.2.1)) (
            sel (decide (a0.2.2.2.2.2.1 = a1.2.2.2.2.2.1)) (
              sel (decide (a0.2.2.2.2.2.2.1 = a1.2.2.2.2.2.2.1)) (
                sel (decide (a0.2.2.2.2.2.2.2.1 = a1.2.2.2.2.2.2.2.1)) (
                  sel (decide (a0.2.2.2.2.2.2.2.2.1 = a1.2.2.2.2.2.2.2.2.1)) (
                    (F_mempoolref1_SameInts a0.2.2.2.2.2.2.2.2.2 a1.2.2.2.2.2.2.2.2.2).bind fun r2 =>
                    some r2) (
                    some false)) (
                  some false)) (
                some false)) (
              some false)) (
            some false)) (
          some false)) (
        some false)) (
      some false)) (
    some false)
def F_mempoolref16_SameEntries_l1 (v0 : List D_api_Entry) (v1 : List D_api_Entry) (v12 : Int) (v13 : Int) : Option ((List D_api_Entry × List D_api_Entry × Int × Int) ⊕ (Bool)) :=
  sel (decide (v13 < v12)) (
    chk (decide ((0 : Int) ≤ v13 ∧ v13 < (((List.length v0) : Nat) : Int))) <|
    chk (decide ((0 : Int) ≤ v13 ∧ v13 < (((List.length v1) : Nat) : Int))) <|
    (F_mempoolref16_SameEntry (List.getD v0 (Int.toNat v13) d_api_Entry) (List.getD v1 (Int.toNat v13) d_api_Entry)).bind fun r1 =>
    sel (!r1) (
      some (.inr false)) (
      some (.inl (v0, v1, v12, (wi64 (v13 + 1)))))) (
    some (.inr true))
def F_mempoolref16_SameEntries_l1s (v0 : List D_api_Entry) (v1 : List D_api_Entry) (v12 : Int) (v13 : Int) : Option (Bool) :=
  iterO (fun v => F_mempoolref16_SameEntries_l1 v.1 v.2.1 v.2.2.1 v.2.2.2) (v0, v1, v12, v13)
def F_mempoolref16_SameEntries (a0 : List D_api_Entry) (a1 : List D_api_Entry) : Option (Bool) :=
  sel (!decide ((((List.length a0) : Nat) : Int) = (((List.length a1) : Nat) : Int))) (
    some false) (
    F_mempoolref16_SameEntries_l1s a0 a1 (((List.length a0) : Nat) : Int) 0)
def F_mempoolref21_First_c2 (v1 : Int) (v9 : List D_api_Entry) (v10 : Int) (v11 : Int) (v22 : Bool) (b0 : D_api_Entry) (l0 : List (List UInt8)) : Option ((Int × List D_api_Entry × Int × Int × List (List UInt8)) ⊕ (List (List UInt8))) :=
  sel v22 (
    chk (decide ((0 + (List.length b0.2.1)) * 1 ≤ LIM ∧ 0 + (List.length b0.2.1) ≤ LEN)) <|
    chk (decide (((List.length l0) + 1) * 24 ≤ LIM ∧ (List.length l0) + 1 ≤ LEN)) <|
    some (.inl (v1, v9, v10, (wi64 (v11 + 1)), (l0 ++ [b0.2.1])))) (
    some (.inl (v1, v9, v10, (wi64 (v11 + 1)), l0)))
def F_mempoolref21_First_l1 (v1 : Int) (v9 : List D_api_Entry) (v10 : Int) (v11 : Int) (l0 : List (List UInt8)) : Option ((Int × List D_api_Entry × Int × Int × List (List UInt8)) ⊕ (List (List UInt8))) :=
  sel (decide (v11 < v10)) (
    chk (decide ((0 : Int) ≤ v11 ∧ v11 < (((List.length v9) : Nat) : Int))) <|
    sel (decide (v1 < 0)) (
      F_mempoolref21_First_c2 v1 v9 v10 v11 true (List.getD v9 (Int.toNat v11) d_api_Entry) l0) (
      F_mempoolref21_First_c2 v1 v9 v10 v11 (decide (v11 < v1)) (List.getD v9 (Int.toNat v11) d_api_Entry) l0)) (
    some (.inr l0))
def F_mempoolref21_First_l1s (v1 : Int) (v9 : List D_api_Entry) (v10 : Int) (v11 : Int) (l0 : List (List UInt8)) : Option (List (List UInt8)) :=
  iterO (fun v => F_mempoolref21_First_l1 v.1 v.2.1 v.2.2.1 v.2.2.2.1 v.2.2.2.2) (v1, v9, v10, v11, l0)
def F_mempoolref21_First (a0 : List D_api_Entry) (a1 : Int) : Option (List (List UInt8)) :=
  (F_mempoolref16_Sorted a0).bind fun r1 =>
  F_mempoolref21_First_l1s a1 r1 (((List.length r1) : Nat) : Int) 0 []
def F_mempoolref1_SameLists_l1 (v0 : List (List UInt8)) (v1 : List (List UInt8)) (v12 : Int) (v13 : Int) : Option ((List (List UInt8) × List (List UInt8) × Int × Int) ⊕ (Bool)) :=
  sel (decide (v13 < v12)) (
    chk (decide ((0 : Int) ≤ v13 ∧ v13 < (((List.length v0) : Nat) : Int))) <|
    chk (decide ((0 : Int) ≤ v13 ∧ v13 < (((List.length v1) : Nat) : Int))) <|
    (F_mempoolref1_SameBytes (List.getD v0 (Int.toNat v13) []) (List.getD v1 (Int.toNat v13) [])).bind fun r1 =>
    sel (!r1) (
      some (.inr false)) (
      some (.inl (v0, v1, v12, (wi64 (v13 + 1)))))) (
    some (.inr true))
def F_mempoolref1_SameLists_l1s (v0 : List (List UInt8)) (v1 : List (List UInt8)) (v12 : Int) (v13 : Int) : Option (Bool) :=
  iterO (fun v => F_mempoolref1_SameLists_l1 v.1 v.2.1 v.2.2.1 v.2.2.2) (v0, v1, v12, v13)
def F_mempoolref1_SameLists (a0 : List (List UInt8)) (a1 : List (List UInt8)) : Option (Bool) :=
  sel (!decide ((((List.length a0) : Nat) : Int) = (((List.length a1) : Nat) : Int))) (
    some false) (
    F_mempoolref1_SameLists_l1s a0 a1 (((List.length a0) : Nat) : Int) 0)
noncomputable def F_mempoollaw24_ReapSorts_l2 (v2 : Int) (v9 : List D_api_Entry) (v27 : Int) (v28 : Int) (v37 : Int) (v38 : Int) (l0 : List (List D_api_Entry)) (l1 : List Int) : Option ((Int × List D_api_Entry × Int × Int × Int × Int × List (List D_api_Entry) × List Int) ⊕ ((Int × Int × Int × List (List D_api_Entry)) ⊕ (Bool))) :=
  sel (decide (v38 < v37)) (
    chk (decide ((0 : Int) ≤ v38 ∧ v38 < (((List.length l1) : Nat) : Int))) <|
    chk (decide ((Int.toNat v38) < (List.length l1))) <|
    (F_reap_Sorted v9).bind fun r8 =>
    (F_mempoolref16_Sorted v9).bind fun r9 =>
    (F_mempoolref16_SameEntries r8 r9).bind fun r10 =>
    sel (!r10) (
      some (.inr (.inr false))) (
      (F_reap_Count v9 (List.getD l1 (Int.toNat v38) (0 : Int))).bind fun r11 =>
      (F_mempoolref21_First v9 (List.getD l1 (Int.toNat v38) (0 : Int))).bind fun r12 =>
      (F_mempoolref1_SameLists r11 r12).bind fun r13 =>
      sel (!r13) (
        some (.inr (.inr false))) (
        some (.inl (v2, v9, v27, v28, v37, (wi64 (v38 + 1)), l0, l1))))) (
    some (.inr (.inl (v2, v27, (wi64 (v28 + 1)), l0))))
noncomputable def F_mempoollaw24_ReapSorts_l2s (v2 : Int) (v9 : List D_api_Entry) (v27 : Int) (v28 : Int) (v37 : Int) (v38 : Int) (l0 : List (List D_api_Entry)) (l1 : List Int) : Option ((Int × Int × Int × List (List D_api_Entry)) ⊕ (Bool)) :=
  iterO (fun v => F_mempoollaw24_ReapSorts_l2 v.1 v.2.1 v.2.2.1 v.2.2.2.1 v.2.2.2.2.1 v.2.2.2.2.2.1 v.2.2.2.2.2.2.1 v.2.2.2.2.2.2.2) (v2, v9, v27, v28, v37, v38, l0, l1)
noncomputable def F_mempoollaw24_ReapSorts_l1 (v2 : Int) (v27 : Int) (v28 : Int) (l0 : List (List D_api_Entry)) : Option ((Int × Int × Int × List (List D_api_Entry)) ⊕ (Bool)) :=
  sel (decide (v28 < v27)) (
    chk (decide ((0 : Int) ≤ v28 ∧ v28 < (((List.length l0) : Nat) : Int))) <|
    chk (decide ((Int.toNat v28) < (List.length l0))) <|
    (F_mempoolmake_Place v2 12).bind fun r7 =>
    F_mempoollaw24_ReapSorts_l2s v2 (List.getD l0 (Int.toNat v28) []) v27 v28 2 0 l0 [v2, (wi64 (r7 - 1))]) (
    Option.map .inr (
      (F_mempoollaw24_known).bind fun r14 =>
      some r14))
noncomputable def F_mempoollaw24_ReapSorts_l1s (v2 : Int) (v27 : Int) (v28 : Int) (l0 : List (List D_api_Entry)) : Option (Bool) :=
  iterO (fun v => F_mempoollaw24_ReapSorts_l1 v.1 v.2.1 v.2.2.1 v.2.2.2) (v2, v27, v28, l0)
noncomputable def F_mempoollaw24_ReapSorts (a0 : List D_api_Entry) (a1 : List Int) (a2 : Int) : Option (Bool) :=
  (F_mempoollaw24_long [a1]).bind fun r1 =>
  sel r1 (
    (F_mempoollaw24_known).bind fun r2 =>
    some r2) (
    (F_mempoollaw24_raw a0).bind fun r3 =>
    sel (!r3) (
      (F_mempoollaw24_known).bind fun r4 =>
      some r4) (
      (F_mempoolmake_From a1).bind fun r5 =>
      (F_mempoolmake_Entries r5 10).bind fun r6 =>
      F_mempoollaw24_ReapSorts_l1s a2 2 0 [a0, r6.2]))
def F_mempoolref21_Limits (a0 : Int) (a1 : Int) : Option (D_mempoolref21_Rest × Bool) :=
  sel (decide (a0 < 0)) (
    some (((0 : Int), (0 : Int), false), false)) (
    sel (decide (a1 < (-1))) (
      some (((0 : Int), (0 : Int), false), false)) (
      some ((a0, (wu64 (max a1 0)), (decide (a1 < 0))), true)))
def F_mempoolref1_Varint_c1 (v1 : Int) (l0 : List UInt8) : Option (List UInt8) :=
  chk (decide ((0 : Int) ≤ (wu8 v1) ∧ (wu8 v1) < 256)) <|
  chk (decide (((List.length l0) + 1) * 1 ≤ LIM ∧ (List.length l0) + 1 ≤ LEN)) <|
  some (l0 ++ [(UInt8.ofNat (Int.toNat (wu8 v1)))])
def F_mempoolref1_Varint_l2 (v1 : Int) (l0 : List UInt8) : Option ((Int × List UInt8) ⊕ (List UInt8)) :=
  sel (decide (128 ≤ v1)) (
    chk (decide ((0 : Int) ≤ (bits .or .u8 (wu8 v1) 128) ∧ (bits .or .u8 (wu8 v1) 128) < 256)) <|
    chk (decide (((List.length l0) + 1) * 1 ≤ LIM ∧ (List.length l0) + 1 ≤ LEN)) <|
    some (.inl ((v1 / 2 ^ 7), (l0 ++ [(UInt8.ofNat (Int.toNat (bits .or .u8 (wu8 v1) 128)))])))) (
    Option.map .inr (
      F_mempoolref1_Varint_c1 v1 l0))
def F_mempoolref1_Varint_l2s (v1 : Int) (l0 : List UInt8) : Option (List UInt8) :=
  iterO (fun v => F_mempoolref1_Varint_l2 v.1 v.2) (v1, l0)
def F_mempoolref1_Varint (a0 : List UInt8) (a1 : Int) : Option (List UInt8) :=
  chk (decide ((0 + (List.length a0)) * 1 ≤ LIM ∧ 0 + (List.length a0) ≤ LEN)) <|
  F_mempoolref1_Varint_l2s a1 a0
def F_mempoolref1_SizeVarint (a0 : Int) : Option (Int) :=
  (F_mempoolref1_Varint [] a0).bind fun r1 =>
  some (((List.length r1) : Nat) : Int)
def F_mempoolref1_SizeBytes (a0 : Int) : Option (Int) :=
  sel (decide (a0 < 0)) (
    some 0) (
    (F_mempoolref1_SizeVarint (wu64 a0)).bind fun r1 =>
    some (wi64 ((wi64 (1 + r1)) + a0)))
def F_mempoolref21_Take_c1 (v6 : Int) (b0 : D_mempoolref21_Rest) (b1 : D_api_Entry) (_b2 : D_mempoolref21_Rest) : Option (D_mempoolref21_Rest × Bool) :=
  sel (!b0.2.2) (
    some (((wi64 (b0.1 - v6)), (wu64 (b0.2.1 - b1.2.2.2.2.1)), b0.2.2), true)) (
    some (((wi64 (b0.1 - v6)), b0.2), true))
def F_mempoolref21_Take (a0 : D_mempoolref21_Rest) (a1 : D_api_Entry) : Option (D_mempoolref21_Rest × Bool) :=
  (F_mempoolref1_SizeBytes (((List.length a1.2.1) : Nat) : Int)).bind fun r1 =>
  sel (decide (a0.1 < r1)) (
    some (a0, false)) (
    sel (!a0.2.2) (
      sel (decide (a0.2.1 < a1.2.2.2.2.1)) (
        some (a0, false)) (
        F_mempoolref21_Take_c1 r1 a0 a1 ((0 : Int), (0 : Int), false))) (
      F_mempoolref21_Take_c1 r1 a0 a1 ((0 : Int), (0 : Int), false)))
def F_mempoolref21_BytesGas_l1 (v23 : List D_api_Entry) (v24 : Int) (v25 : Int) (b0 : D_mempoolref21_Rest) (l0 : List (List UInt8)) : Option ((List D_api_Entry × Int × Int × D_mempoolref21_Rest × List (List UInt8)) ⊕ (List (List UInt8))) :=
  sel (decide (v25 < v24)) (
    chk (decide ((0 : Int) ≤ v25 ∧ v25 < (((List.length v23) : Nat) : Int))) <|
    (F_mempoolref21_Take b0 (List.getD v23 (Int.toNat v25) d_api_Entry)).bind fun r3 =>
    sel r3.2 (
      chk (decide ((0 + (List.length (List.getD v23 (Int.toNat v25) d_api_Entry).2.1)) * 1 ≤ LIM ∧ 0 + (List.length (List.getD v23 (Int.toNat v25) d_api_Entry).2.1) ≤ LEN)) <|
      chk (decide (((List.length l0) + 1) * 24 ≤ LIM ∧ (List.length l0) + 1 ≤ LEN)) <|
      some (.inl (v23, v24, (wi64 (v25 + 1)), r3.1, (l0 ++ [(List.getD v23 (Int.toNat v25) d_api_Entry).2.1])))) (
      some (.inl (v23, v24, (wi64 (v25 + 1)), b0, l0)))) (
    some (.inr l0))
def F_mempoolref21_BytesGas_l1s (v23 : List D_api_Entry) (v24 : Int) (v25 : Int) (b0 : D_mempoolref21_Rest) (l0 : List (List UInt8)) : Option (List (List UInt8)) :=
  iterO (fun v => F_mempoolref21_BytesGas_l1 v.1 v.2.1 v.2.2.1 v.2.2.2.1 v.2.2.2.2) (v23, v24, v25, b0, l0)
def F_mempoolref21_BytesGas (a0 : List D_api_Entry) (a1 : Int) (a2 : Int) : Option (List (List UInt8)) :=
  (F_mempoolref21_Limits a1 a2).bind fun r1 =>
  sel (!r1.2) (
    some []) (
    (F_mempoolref16_Sorted a0).bind fun r2 =>
    F_mempoolref21_BytesGas_l1s r2 (((List.length r2) : Nat) : Int) 0 r1.1 [])
noncomputable def F_mempoollaw24_ReapTakes_l2 (v2 : Int) (v3 : Int) (v12 : List D_api_Entry) (v31 : Int) (v32 : Int) (v53 : Int) (v54 : Int) (b0 : D_mempoolmake_Numbers) (l0 : List (List D_api_Entry)) (l1 : List (Vector Int 2)) : Option ((Int × Int × List D_api_Entry × Int × Int × Int × Int × D_mempoolmake_Numbers × List (List D_api_Entry) × List (Vector Int 2)) ⊕ ((Int × Int × Int × Int × D_mempoolmake_Numbers × List (List D_api_Entry)) ⊕ (Bool))) :=
  sel (decide (v54 < v53)) (
    chk (decide ((0 : Int) ≤ v54 ∧ v54 < (((List.length l1) : Nat) : Int))) <|
    chk (decide ((Int.toNat v54) < (List.length l1))) <|
    (F_reap_BytesGas v12 (vget (List.getD l1 (Int.toNat v54) (Vector.replicate 2 (0 : Int))) 0 (0 : Int)) (vget (List.getD l1 (Int.toNat v54) (Vector.replicate 2 (0 : Int))) 1 (0 : Int))).bind fun r11 =>
    (F_mempoolref21_BytesGas v12 (vget (List.getD l1 (Int.toNat v54) (Vector.replicate 2 (0 : Int))) 0 (0 : Int)) (vget (List.getD l1 (Int.toNat v54) (Vector.replicate 2 (0 : Int))) 1 (0 : Int))).bind fun r12 =>
    (F_mempoolref1_SameLists r11 r12).bind fun r13 =>
    sel (!r13) (
      some (.inr (.inr false))) (
      some (.inl (v2, v3, v12, v31, v32, v53, (wi64 (v54 + 1)), b0, l0, l1)))) (
    some (.inr (.inl (v2, v3, v31, (wi64 (v32 + 1)), b0, l0))))
noncomputable def F_mempoollaw24_ReapTakes_l2s (v2 : Int) (v3 : Int) (v12 : List D_api_Entry) (v31 : Int) (v32 : Int) (v53 : Int) (v54 : Int) (b0 : D_mempoolmake_Numbers) (l0 : List (List D_api_Entry)) (l1 : List (Vector Int 2)) : Option ((Int × Int × Int × Int × D_mempoolmake_Numbers × List (List D_api_Entry)) ⊕ (Bool)) :=
  iterO (fun v => F_mempoollaw24_ReapTakes_l2 v.1 v.2.1 v.2.2.1 v.2.2.2.1 v.2.2.2.2.1 v.2.2.2.2.2.1 v.2.2.2.2.2.2.1 v.2.2.2.2.2.2.2.1 v.2.2.2.2.2.2.2.2.1 v.2.2.2.2.2.2.2.2.2) (v2, v3, v12, v31, v32, v53, v54, b0, l0, l1)
noncomputable def F_mempoollaw24_ReapTakes_l1 (v2 : Int) (v3 : Int) (v31 : Int) (v32 : Int) (b0 : D_mempoolmake_Numbers) (l0 : List (List D_api_Entry)) : Option ((Int × Int × Int × Int × D_mempoolmake_Numbers × List (List D_api_Entry)) ⊕ (Bool)) :=
  sel (decide (v32 < v31)) (
    chk (decide ((0 : Int) ≤ v32 ∧ v32 < (((List.length l0) : Nat) : Int))) <|
    chk (decide ((Int.toNat v32) < (List.length l0))) <|
    (F_mempoolmake_Numbers_Next b0 60).bind fun r7 =>
    (F_mempoolmake_Numbers_Next r7.1 150).bind fun r8 =>
    (F_mempoolmake_Numbers_Next r8.1 150).bind fun r9 =>
    (F_mempoolmake_Numbers_Next r9.1 60).bind fun r10 =>
    F_mempoollaw24_ReapTakes_l2s v2 v3 (List.getD l0 (Int.toNat v32) []) v31 v32 4 0 r10.1 l0 [(Vector.push (Vector.push #v[] v2) v3), (Vector.push (Vector.push #v[] (wi64 (r7.2 - 1))) (wi64 (r8.2 - 2))), (Vector.push (Vector.push #v[] 1000) r9.2), (Vector.push (Vector.push #v[] r10.2) (-1))]) (
    Option.map .inr (
      (F_mempoollaw24_known).bind fun r14 =>
      some r14))
noncomputable def F_mempoollaw24_ReapTakes_l1s (v2 : Int) (v3 : Int) (v31 : Int) (v32 : Int) (b0 : D_mempoolmake_Numbers) (l0 : List (List D_api_Entry)) : Option (Bool) :=
  iterO (fun v => F_mempoollaw24_ReapTakes_l1 v.1 v.2.1 v.2.2.1 v.2.2.2.1 v.2.2.2.2.1 v.2.2.2.2.2) (v2, v3, v31, v32, b0, l0)
noncomputable def F_mempoollaw24_ReapTakes (a0 : List D_api_Entry) (a1 : List Int) (a2 : Int) (a3 : Int) : Option (Bool) :=
  (F_mempoollaw24_long [a1]).bind fun r1 =>
  sel r1 (
    (F_mempoollaw24_known).bind fun r2 =>
    some r2) (
    (F_mempoollaw24_raw a0).bind fun r3 =>
    sel (!r3) (
      (F_mempoollaw24_known).bind fun r4 =>
      some r4) (
      (F_mempoolmake_From a1).bind fun r5 =>
      (F_mempoolmake_Entries r5 10).bind fun r6 =>
      F_mempoollaw24_ReapTakes_l1s a2 a3 2 0 r6.1 [a0, r6.2]))
def F_mempoolref21_Sum_l1 (v3 : Int) (v6 : List (List UInt8)) (v7 : Int) (v8 : Int) : Option ((Int × List (List UInt8) × Int × Int) ⊕ (Int)) :=
  sel (decide (v8 < v7)) (
    chk (decide ((0 : Int) ≤ v8 ∧ v8 < (((List.length v6) : Nat) : Int))) <|
    (F_mempoolref1_SizeBytes (((List.length (List.getD v6 (Int.toNat v8) [])) : Nat) : Int)).bind fun r1 =>
    some (.inl ((wi64 (v3 + r1)), v6, v7, (wi64 (v8 + 1))))) (
    some (.inr v3))
def F_mempoolref21_Sum_l1s (v3 : Int) (v6 : List (List UInt8)) (v7 : Int) (v8 : Int) : Option (Int) :=
  iterO (fun v => F_mempoolref21_Sum_l1 v.1 v.2.1 v.2.2.1 v.2.2.2) (v3, v6, v7, v8)
def F_mempoolref21_Sum (a0 : List (List UInt8)) : Option (Int) :=
  F_mempoolref21_Sum_l1s 0 a0 (((List.length a0) : Nat) : Int) 0
noncomputable def F_mempoollaw24_ReapSizes (a0 : List (List UInt8)) (a1 : List (List UInt8)) (a2 : Int) : Option (Bool) :=
  sel (decide (40 < (wi64 ((((List.length a0) : Nat) : Int) + (((List.length a1) : Nat) : Int))))) (
    (F_mempoollaw24_known).bind fun r1 =>
    some r1) (
    chk (decide ((0 + (List.length a0)) * 24 ≤ LIM ∧ 0 + (List.length a0) ≤ LEN)) <|
    chk (decide (((List.length a0) + (List.length a1)) * 24 ≤ LIM ∧ (List.length a0) + (List.length a1) ≤ LEN)) <|
    (F_reap_Size (a0 ++ a1)).bind fun r2 =>
    (F_mempoolref21_Sum (a0 ++ a1)).bind fun r3 =>
    sel (decide (r2 = r3)) (
      (F_reap_Size (a0 ++ a1)).bind fun r4 =>
      (F_reap_Size a0).bind fun r5 =>
      (F_reap_Size a1).bind fun r6 =>
      sel (decide (r4 = (wi64 (r5 + r6)))) (
        chk (decide ((0 : Int) ≤ (Int.tmod a2 20000) ∧ (Int.tmod a2 20000) ≤ (Int.tmod a2 20000) ∧ (1 : Int) * (Int.tmod a2 20000) ≤ 281474976710656 ∧ (Int.tmod a2 20000) ≤ 4611686018427387904)) <|
        (F_reap_Size [(List.replicate (Int.toNat (Int.tmod a2 20000)) (0 : UInt8))]).bind fun r7 =>
        (F_mempoolref1_SizeBytes (wi64 (Int.tmod a2 20000))).bind fun r8 =>
        sel (decide (r7 = r8)) (
          (F_mempoollaw24_known).bind fun r9 =>
          some r9) (
          some false)) (
        some false)) (
      some false))
noncomputable def F_mempoollaw24_ReapMaximal_c1 (v9 : Int) (v11 : Int) (l0 : List (List UInt8)) : Option (Bool) :=
  sel (decide (v11 = (((List.length l0) : Nat) : Int))) (
    (F_reap_Size l0).bind fun r8 =>
    sel (decide (r8 = v9)) (
      (F_mempoollaw24_known).bind fun r9 =>
      some r9) (
      some false)) (
    some false)
noncomputable def F_mempoollaw24_ReapMaximal_c3 (v1 : Int) (v2 : Int) (v9 : Int) (v10 : Int) (v11 : Int) (v14 : Int) (v15 : Bool) (v34 : Int) (v35 : Int) (b0 : D_api_Entry) (l0 : List (List UInt8)) (l1 : List D_api_Entry) : Option ((Int × Int × Int × Int × Int × Int × Int × List (List UInt8) × List D_api_Entry) ⊕ (Bool)) :=
  sel (!v15) (
    some (.inl (v1, v2, v9, v10, v11, v34, (wi64 (v35 + 1)), l0, l1))) (
    sel (decide ((((List.length l0) : Nat) : Int) ≤ v11)) (
      some (.inr false)) (
      chk (decide ((0 : Int) ≤ v11 ∧ v11 < (((List.length l0) : Nat) : Int))) <|
      chk (decide ((Int.toNat v11) < (List.length l0))) <|
      (F_mempoolref1_SameBytes (List.getD l0 (Int.toNat v11) []) b0.2.1).bind fun r12 =>
      sel (!r12) (
        some (.inr false)) (
        some (.inl (v1, v2, (wi64 (v9 + v14)), (wu64 (v10 + b0.2.2.2.2.1)), (wi64 (v11 + 1)), v34, (wi64 (v35 + 1)), l0, l1)))))
noncomputable def F_mempoollaw24_ReapMaximal_l2 (v1 : Int) (v2 : Int) (v9 : Int) (v10 : Int) (v11 : Int) (v34 : Int) (v35 : Int) (l0 : List (List UInt8)) (l1 : List D_api_Entry) : Option ((Int × Int × Int × Int × Int × Int × Int × List (List UInt8) × List D_api_Entry) ⊕ (Bool)) :=
  sel (decide (v35 < v34)) (
    chk (decide ((0 : Int) ≤ v35 ∧ v35 < (((List.length l1) : Nat) : Int))) <|
    chk (decide ((Int.toNat v35) < (List.length l1))) <|
    (F_mempoolref1_SizeBytes (((List.length (List.getD l1 (Int.toNat v35) d_api_Entry).2.1) : Nat) : Int)).bind fun r11 =>
    sel (decide ((wi64 (v9 + r11)) ≤ v1)) (
      sel (decide (v2 < 0)) (
        F_mempoollaw24_ReapMaximal_c3 v1 v2 v9 v10 v11 r11 true v34 v35 (List.getD l1 (Int.toNat v35) d_api_Entry) l0 l1) (
        F_mempoollaw24_ReapMaximal_c3 v1 v2 v9 v10 v11 r11 (decide ((wu64 (v10 + (List.getD l1 (Int.toNat v35) d_api_Entry).2.2.2.2.1)) ≤ (wu64 v2))) v34 v35 (List.getD l1 (Int.toNat v35) d_api_Entry) l0 l1)) (
      F_mempoollaw24_ReapMaximal_c3 v1 v2 v9 v10 v11 r11 false v34 v35 (List.getD l1 (Int.toNat v35) d_api_Entry) l0 l1)) (
    Option.map .inr (
      F_mempoollaw24_ReapMaximal_c1 v9 v11 l0))
noncomputable def F_mempoollaw24_ReapMaximal_l2s (v1 : Int) (v2 : Int) (v9 : Int) (v10 : Int) (v11 : Int) (v34 : Int) (v35 : Int) (l0 : List (List UInt8)) (l1 : List D_api_Entry) : Option (Bool) :=
  iterO (fun v => F_mempoollaw24_ReapMaximal_l2 v.1 v.2.1 v.2.2.1 v.2.2.2.1 v.2.2.2.2.1 v.2.2.2.2.2.1 v.2.2.2.2.2.2.1 v.2.2.2.2.2.2.2.1 v.2.2.2.2.2.2.2.2) (v1, v2, v9, v10, v11, v34, v35, l0, l1)
noncomputable def F_mempoollaw24_ReapMaximal (a0 : List Int) (a1 : Int) (a2 : Int) : Option (Bool) :=
  (F_mempoollaw24_long [a0]).bind fun r1 =>
  sel r1 (
    (F_mempoollaw24_known).bind fun r2 =>
    some r2) (
    (F_mempoolmake_From a0).bind fun r3 =>
    (F_mempoolmake_Entries r3 10).bind fun r4 =>
    (F_mempoolmake_Place a1 60).bind fun r5 =>
    (F_mempoolmake_Place a2 151).bind fun r6 =>
    (F_reap_BytesGas r4.2 r5 (wi64 (r6 - 1))).bind fun r7 =>
    (F_reap_Sorted r4.2).bind fun r10 =>
    F_mempoollaw24_ReapMaximal_l2s r5 (wi64 (r6 - 1)) 0 0 0 (((List.length r10) : Nat) : Int) 0 r7 r10)
end Go.Proofs.Ythmfeknfiekcmaa.Am
