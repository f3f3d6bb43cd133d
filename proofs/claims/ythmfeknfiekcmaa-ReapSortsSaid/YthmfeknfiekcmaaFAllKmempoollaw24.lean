/- A fixed example holds: by reckoning. No conditions. -/
import Derived.Test.YthmfeknfiekcmaaFAll
import Derived.KernelRfl
namespace Go.Proofs.Ythmfeknfiekcmaa.Am
open Go
set_option maxRecDepth 100000
namespace Kmempoollaw24
def K_mempoollaw24_entry (_m : Nat) (a0 : Int) (a1 : Int) (a2 : Int) (a3 : Int) : Option (D_api_Entry) :=
  chk (decide ((0 : Int) ≤ a1 ∧ a1 ≤ a1 ∧ (1 : Int) * a1 ≤ 281474976710656 ∧ a1 ≤ 4611686018427387904)) <|
  chk (decide ((0 : Int) ≤ (wu8 a0) ∧ (wu8 a0) < 256)) <|
  some ((Vector.push (Vector.push (Vector.push (Vector.push (Vector.push (Vector.push (Vector.push (Vector.push (Vector.push (Vector.push (Vector.push (Vector.push (Vector.push (Vector.push (Vector.push (Vector.push (Vector.push (Vector.push (Vector.push (Vector.push (Vector.push (Vector.push (Vector.push (Vector.push (Vector.push (Vector.push (Vector.push (Vector.push (Vector.push (Vector.push (Vector.push (Vector.push #v[] (UInt8.ofNat (Int.toNat (wu8 a0)))) (vget (Vector.replicate 32 (0 : UInt8)) 1 (0 : UInt8))) (vget (Vector.replicate 32 (0 : UInt8)) 2 (0 : UInt8))) (vget (Vector.replicate 32 (0 : UInt8)) 3 (0 : UInt8))) (vget (Vector.replicate 32 (0 : UInt8)) 4 (0 : UInt8))) (vget (Vector.replicate 32 (0 : UInt8)) 5 (0 : UInt8))) (vget (Vector.replicate 32 (0 : UInt8)) 6 (0 : UInt8))) (vget (Vector.replicate 32 (0 : UInt8)) 7 (0 : UInt8))) (vget (Vector.replicate 32 (0 : UInt8)) 8 (0 : UInt8))) (vget (Vector.replicate 32 (0 : UInt8)) 9 (0 : UInt8))) (vget (Vector.replicate 32 (0 : UInt8)) 10 (0 : UInt8))) (vget (Vector.replicate 32 (0 : UInt8)) 11 (0 : UInt8))) (vget (Vector.replicate 32 (0 : UInt8)) 12 (0 : UInt8))) (vget (Vector.replicate 32 (0 : UInt8)) 13 (0 : UInt8))) (vget (Vector.replicate 32 (0 : UInt8)) 14 (0 : UInt8))) (vget (Vector.replicate 32 (0 : UInt8)) 15 (0 : UInt8))) (vget (Vector.replicate 32 (0 : UInt8)) 16 (0 : UInt8))) (vget (Vector.replicate 32 (0 : UInt8)) 17 (0 : UInt8))) (vget (Vector.replicate 32 (0 : UInt8)) 18 (0 : UInt8))) (vget (Vector.replicate 32 (0 : UInt8)) 19 (0 : UInt8))) (vget (Vector.replicate 32 (0 : UInt8)) 20 (0 : UInt8))) (vget (Vector.replicate 32 (0 : UInt8)) 21 (0 : UInt8))) (vget (Vector.replicate 32 (0 : UInt8)) 22 (0 : UInt8))) (vget (Vector.replicate 32 (0 : UInt8)) 23 (0 : UInt8))) (vget (Vector.replicate 32 (0 : UInt8)) 24 (0 : UInt8))) (vget (Vector.replicate 32 (0 : UInt8)) 25 (0 : UInt8))) (vget (Vector.replicate 32 (0 : UInt8)) 26 (0 : UInt8))) (vget (Vector.replicate 32 (0 : UInt8)) 27 (0 : UInt8))) (vget (Vector.replicate 32 (0 : UInt8)) 28 (0 : UInt8))) (vget (Vector.replicate 32 (0 : UInt8)) 29 (0 : UInt8))) (vget (Vector.replicate 32 (0 : UInt8)) 30 (0 : UInt8))) (vget (Vector.replicate 32 (0 : UInt8)) 31 (0 : UInt8))), (List.replicate (Int.toNat a1) (0 : UInt8)), [], (0 : Int), a2, a3, (0 : Int), (0 : Int), a0, [])
def K_slices_Clone_byte_byte (_m : Nat) (a0 : List UInt8) : Option (List UInt8) := cloneF (u := .byte) 1 a0
def K_slices_Clone_int_int (_m : Nat) (a0 : List Int) : Option (List Int) := cloneF (u := (.int .i64)) 8 a0
def K_own_Entry (m : Nat) (a0 : D_api_Entry) : Option (D_api_Entry) :=
  ((K_slices_Clone_byte_byte m) a0.2.1).bind fun r1 =>
  ((K_slices_Clone_int_int m) a0.2.2.2.2.2.2.2.2.2).bind fun r2 =>
  some (a0.1, r1, a0.2.2.1, a0.2.2.2.1, a0.2.2.2.2.1, a0.2.2.2.2.2.1, a0.2.2.2.2.2.2.1, a0.2.2.2.2.2.2.2.1, a0.2.2.2.2.2.2.2.2.1, r2)
def K_own_Entries_l1 (m : Nat) (v6 : List D_api_Entry) (v7 : Int) (v8 : Int) (l0 : List D_api_Entry) : Option ((List D_api_Entry × Int × Int × List D_api_Entry) ⊕ (List D_api_Entry)) :=
  sel (decide (v8 < v7)) (
    chk (decide ((0 : Int) ≤ v8 ∧ v8 < (((List.length v6) : Nat) : Int))) <|
    ((K_own_Entry m) (List.getD v6 (Int.toNat v8) d_api_Entry)).bind fun r1 =>
    chk (decide (((List.length l0) + 1) * 144 ≤ LIM ∧ (List.length l0) + 1 ≤ LEN)) <|
    some (.inl (v6, v7, (wi64 (v8 + 1)), (l0 ++ ([r1] : List D_api_Entry))))) (
    some (.inr l0))
def K_own_Entries_l1s (m : Nat) (v6 : List D_api_Entry) (v7 : Int) (v8 : Int) (l0 : List D_api_Entry) : Option (List D_api_Entry) :=
  iter m (fun v => (K_own_Entries_l1 m) v.1 v.2.1 v.2.2.1 v.2.2.2) (v6, v7, v8, l0)
def K_own_Entries (m : Nat) (a0 : List D_api_Entry) : Option (List D_api_Entry) :=
  (K_own_Entries_l1s m) a0 (((List.length a0) : Nat) : Int) 0 []
def K_cmp_isNaN_uint64 (_m : Nat) (a0 : Int) : Option (Bool) :=
  some (!decide (a0 = a0))
def K_cmp_Compare_uint64 (m : Nat) (a0 : Int) (a1 : Int) : Option (Int) :=
  ((K_cmp_isNaN_uint64 m) a0).bind fun r1 =>
  ((K_cmp_isNaN_uint64 m) a1).bind fun r2 =>
  sel r1 (
    sel r2 (
      some 0) (
      some (-1))) (
    sel r2 (
      some 1) (
      sel (decide (a0 < a1)) (
        some (-1)) (
        sel (decide (a1 < a0)) (
          some 1) (
          some 0))))
def K_cmp_isNaN_int (_m : Nat) (a0 : Int) : Option (Bool) :=
  some (!decide (a0 = a0))
def K_cmp_Compare_int (m : Nat) (a0 : Int) (a1 : Int) : Option (Int) :=
  ((K_cmp_isNaN_int m) a0).bind fun r1 =>
  ((K_cmp_isNaN_int m) a1).bind fun r2 =>
  sel r1 (
    sel r2 (
      some 0) (
      some (-1))) (
    sel r2 (
      some 1) (
      sel (decide (a0 < a1)) (
        some (-1)) (
        sel (decide (a1 < a0)) (
          some 1) (
          some 0))))
def K_cmp_Or_int_l1 (_m : Nat) (v3 : Int) (v6 : List Int) (v7 : Int) (v8 : Int) : Option ((Int × List Int × Int × Int) ⊕ (Int)) :=
  sel (decide (v8 < v7)) (
    chk (decide ((0 : Int) ≤ v8 ∧ v8 < (((List.length v6) : Nat) : Int))) <|
    sel (!decide ((List.getD v6 (Int.toNat v8) (0 : Int)) = v3)) (
      some (.inr (List.getD v6 (Int.toNat v8) (0 : Int)))) (
      some (.inl (v3, v6, v7, (wi64 (v8 + 1)))))) (
    some (.inr v3))
def K_cmp_Or_int_l1s (m : Nat) (v3 : Int) (v6 : List Int) (v7 : Int) (v8 : Int) : Option (Int) :=
  iter m (fun v => (K_cmp_Or_int_l1 m) v.1 v.2.1 v.2.2.1 v.2.2.2) (v3, v6, v7, v8)
def K_cmp_Or_int (m : Nat) (a0 : List Int) : Option (Int) :=
  (K_cmp_Or_int_l1s m) 0 a0 (((List.length a0) : Nat) : Int) 0
def K_reap_Sorted_1 (m : Nat) (a0 : D_api_Entry) (a1 : D_api_Entry) : Option (Int) :=
  ((K_cmp_Compare_uint64 m) a1.2.2.2.2.2.1 a0.2.2.2.2.2.1).bind fun r1 =>
  ((K_cmp_Compare_int m) a0.2.2.2.2.2.2.2.2.1 a1.2.2.2.2.2.2.2.2.1).bind fun r2 =>
  ((K_cmp_Or_int m) [r1, r2]).bind fun r3 =>
  some r3
def K_slices_insertionSortCmpFunc_api_Entry_of_reap_Sorted_1_l2 (m : Nat) (v1 : Int) (v2 : Int) (v8 : Int) (v9 : Int) (l0 : List D_api_Entry) : Option ((Int × Int × Int × Int × List D_api_Entry) ⊕ ((Int × Int × Int × List D_api_Entry) ⊕ (List D_api_Entry))) :=
  sel (decide (v1 < v9)) (
    chk (decide ((0 : Int) ≤ v9 ∧ v9 < (((List.length l0) : Nat) : Int))) <|
    chk (decide ((Int.toNat v9) < (List.length l0))) <|
    chk (decide ((0 : Int) ≤ (wi64 (v9 - 1)) ∧ (wi64 (v9 - 1)) < (((List.length l0) : Nat) : Int))) <|
    chk (decide ((Int.toNat (wi64 (v9 - 1))) < (List.length l0))) <|
    ((K_reap_Sorted_1 m) (List.getD l0 (Int.toNat v9) d_api_Entry) (List.getD l0 (Int.toNat (wi64 (v9 - 1))) d_api_Entry)).bind fun r1 =>
    sel (decide (r1 < 0)) (
      chk (decide ((0 : Int) ≤ (wi64 (v9 - 1)) ∧ (wi64 (v9 - 1)) < (((List.length l0) : Nat) : Int))) <|
      chk (decide ((Int.toNat (wi64 (v9 - 1))) < (List.length l0))) <|
      chk (decide ((0 : Int) ≤ v9 ∧ v9 < (((List.length l0) : Nat) : Int))) <|
      chk (decide ((Int.toNat v9) < (List.length l0))) <|
      chk (decide ((0 : Int) ≤ v9 ∧ v9 < (((List.length l0) : Nat) : Int))) <|
      chk (decide ((Int.toNat v9) < (List.length l0))) <|
      chk (decide ((0 : Int) ≤ (wi64 (v9 - 1)) ∧ (wi64 (v9 - 1)) < (((List.length (List.set l0 (Int.toNat v9) (List.getD l0 (Int.toNat (wi64 (v9 - 1))) d_api_Entry))) : Nat) : Int))) <|
      chk (decide ((Int.toNat (wi64 (v9 - 1))) < (List.length (List.set l0 (Int.toNat v9) (List.getD l0 (Int.toNat (wi64 (v9 - 1))) d_api_Entry))))) <|
      some (.inl (v1, v2, v8, (wi64 (v9 - 1)), (List.set (List.set l0 (Int.toNat v9) (List.getD l0 (Int.toNat (wi64 (v9 - 1))) d_api_Entry)) (Int.toNat (wi64 (v9 - 1))) (List.getD l0 (Int.toNat v9) d_api_Entry))))) (
      some (.inr (.inl (v1, v2, (wi64 (v8 + 1)), l0))))) (
    some (.inr (.inl (v1, v2, (wi64 (v8 + 1)), l0))))
def K_slices_insertionSortCmpFunc_api_Entry_of_reap_Sorted_1_l2s (m : Nat) (v1 : Int) (v2 : Int) (v8 : Int) (v9 : Int) (l0 : List D_api_Entry) : Option ((Int × Int × Int × List D_api_Entry) ⊕ (List D_api_Entry)) :=
  iter m (fun v => (K_slices_insertionSortCmpFunc_api_Entry_of_reap_Sorted_1_l2 m) v.1 v.2.1 v.2.2.1 v.2.2.2.1 v.2.2.2.2) (v1, v2, v8, v9, l0)
def K_slices_insertionSortCmpFunc_api_Entry_of_reap_Sorted_1_l1 (m : Nat) (v1 : Int) (v2 : Int) (v8 : Int) (l0 : List D_api_Entry) : Option ((Int × Int × Int × List D_api_Entry) ⊕ (List D_api_Entry)) :=
  sel (decide (v8 < v2)) (
    (K_slices_insertionSortCmpFunc_api_Entry_of_reap_Sorted_1_l2s m) v1 v2 v8 v8 l0) (
    some (.inr l0))
def K_slices_insertionSortCmpFunc_api_Entry_of_reap_Sorted_1_l1s (m : Nat) (v1 : Int) (v2 : Int) (v8 : Int) (l0 : List D_api_Entry) : Option (List D_api_Entry) :=
  iter m (fun v => (K_slices_insertionSortCmpFunc_api_Entry_of_reap_Sorted_1_l1 m) v.1 v.2.1 v.2.2.1 v.2.2.2) (v1, v2, v8, l0)
def K_slices_insertionSortCmpFunc_api_Entry_of_reap_Sorted_1 (m : Nat) (a0 : List D_api_Entry) (a1 : Int) (a2 : Int) : Option (List D_api_Entry) :=
  (K_slices_insertionSortCmpFunc_api_Entry_of_reap_Sorted_1_l1s m) a1 a2 (wi64 (a1 + 1)) a0
def K_slices_swapRangeCmpFunc_api_Entry_of_reap_Sorted_1_l1 (_m : Nat) (v1 : Int) (v2 : Int) (v3 : Int) (v10 : Int) (l0 : List D_api_Entry) : Option ((Int × Int × Int × Int × List D_api_Entry) ⊕ (List D_api_Entry)) :=
  sel (decide (v10 < v3)) (
    chk (decide ((0 : Int) ≤ (wi64 (v2 + v10)) ∧ (wi64 (v2 + v10)) < (((List.length l0) : Nat) : Int))) <|
    chk (decide ((Int.toNat (wi64 (v2 + v10))) < (List.length l0))) <|
    chk (decide ((0 : Int) ≤ (wi64 (v1 + v10)) ∧ (wi64 (v1 + v10)) < (((List.length l0) : Nat) : Int))) <|
    chk (decide ((Int.toNat (wi64 (v1 + v10))) < (List.length l0))) <|
    chk (decide ((0 : Int) ≤ (wi64 (v1 + v10)) ∧ (wi64 (v1 + v10)) < (((List.length l0) : Nat) : Int))) <|
    chk (decide ((Int.toNat (wi64 (v1 + v10))) < (List.length l0))) <|
    chk (decide ((0 : Int) ≤ (wi64 (v2 + v10)) ∧ (wi64 (v2 + v10)) < (((List.length (List.set l0 (Int.toNat (wi64 (v1 + v10))) (List.getD l0 (Int.toNat (wi64 (v2 + v10))) d_api_Entry))) : Nat) : Int))) <|
    chk (decide ((Int.toNat (wi64 (v2 + v10))) < (List.length (List.set l0 (Int.toNat (wi64 (v1 + v10))) (List.getD l0 (Int.toNat (wi64 (v2 + v10))) d_api_Entry))))) <|
    some (.inl (v1, v2, v3, (wi64 (v10 + 1)), (List.set (List.set l0 (Int.toNat (wi64 (v1 + v10))) (List.getD l0 (Int.toNat (wi64 (v2 + v10))) d_api_Entry)) (Int.toNat (wi64 (v2 + v10))) (List.getD l0 (Int.toNat (wi64 (v1 + v10))) d_api_Entry))))) (
    some (.inr l0))
def K_slices_swapRangeCmpFunc_api_Entry_of_reap_Sorted_1_l1s (m : Nat) (v1 : Int) (v2 : Int) (v3 : Int) (v10 : Int) (l0 : List D_api_Entry) : Option (List D_api_Entry) :=
  iter m (fun v => (K_slices_swapRangeCmpFunc_api_Entry_of_reap_Sorted_1_l1 m) v.1 v.2.1 v.2.2.1 v.2.2.2.1 v.2.2.2.2) (v1, v2, v3, v10, l0)
def K_slices_swapRangeCmpFunc_api_Entry_of_reap_Sorted_1 (m : Nat) (a0 : List D_api_Entry) (a1 : Int) (a2 : Int) (a3 : Int) : Option (List D_api_Entry) :=
  (K_slices_swapRangeCmpFunc_api_Entry_of_reap_Sorted_1_l1s m) a1 a2 a3 0 a0
def K_slices_rotateCmpFunc_api_Entry_of_reap_Sorted_1_c1 (m : Nat) (v2 : Int) (v10 : Int) (l0 : List D_api_Entry) : Option (List D_api_Entry) :=
  ((K_slices_swapRangeCmpFunc_api_Entry_of_reap_Sorted_1 m) l0 (wi64 (v2 - v10)) v2 v10).bind fun r1 =>
  some r1
def K_slices_rotateCmpFunc_api_Entry_of_reap_Sorted_1_l2 (m : Nat) (v2 : Int) (v10 : Int) (v11 : Int) (l0 : List D_api_Entry) : Option ((Int × Int × Int × List D_api_Entry) ⊕ (List D_api_Entry)) :=
  sel (!decide (v10 = v11)) (
    sel (decide (v11 < v10)) (
      ((K_slices_swapRangeCmpFunc_api_Entry_of_reap_Sorted_1 m) l0 (wi64 (v2 - v10)) v2 v11).bind fun r2 =>
      some (.inl (v2, (wi64 (v10 - v11)), v11, r2))) (
      ((K_slices_swapRangeCmpFunc_api_Entry_of_reap_Sorted_1 m) l0 (wi64 (v2 - v10)) (wi64 ((wi64 (v2 + v11)) - v10)) v10).bind fun r3 =>
      some (.inl (v2, v10, (wi64 (v11 - v10)), r3)))) (
    Option.map .inr (
      (K_slices_rotateCmpFunc_api_Entry_of_reap_Sorted_1_c1 m) v2 v10 l0))
def K_slices_rotateCmpFunc_api_Entry_of_reap_Sorted_1_l2s (m : Nat) (v2 : Int) (v10 : Int) (v11 : Int) (l0 : List D_api_Entry) : Option (List D_api_Entry) :=
  iter m (fun v => (K_slices_rotateCmpFunc_api_Entry_of_reap_Sorted_1_l2 m) v.1 v.2.1 v.2.2.1 v.2.2.2) (v2, v10, v11, l0)
def K_slices_rotateCmpFunc_api_Entry_of_reap_Sorted_1 (m : Nat) (a0 : List D_api_Entry) (a1 : Int) (a2 : Int) (a3 : Int) : Option (List D_api_Entry) :=
  (K_slices_rotateCmpFunc_api_Entry_of_reap_Sorted_1_l2s m) a2 (wi64 (a2 - a1)) (wi64 (a3 - a2)) a0
noncomputable def K_slices_symMergeCmpFunc_api_Entry_of_reap_Sorted_1_c6 (_m : Nat) (rec : List D_api_Entry → Int → Int → Int → Option (List D_api_Entry)) (v3 : Int) (v18 : Int) (v24 : Int) (l0 : List D_api_Entry) : Option (List D_api_Entry) :=
  sel (decide (v18 < v24)) (
    sel (decide (v24 < v3)) (
      (rec l0 v18 v24 v3).bind fun r1 =>
      some r1) (
      some l0)) (
    some l0)
noncomputable def K_slices_symMergeCmpFunc_api_Entry_of_reap_Sorted_1_c5 (m : Nat) (rec : List D_api_Entry → Int → Int → Int → Option (List D_api_Entry)) (v1 : Int) (v3 : Int) (v18 : Int) (v20 : Int) (v24 : Int) (l0 : List D_api_Entry) : Option (List D_api_Entry) :=
  sel (decide (v1 < v20)) (
    sel (decide (v20 < v18)) (
      (rec l0 v1 v20 v18).bind fun r2 =>
      (K_slices_symMergeCmpFunc_api_Entry_of_reap_Sorted_1_c6 m) rec v3 v18 v24 r2) (
      (K_slices_symMergeCmpFunc_api_Entry_of_reap_Sorted_1_c6 m) rec v3 v18 v24 l0)) (
    (K_slices_symMergeCmpFunc_api_Entry_of_reap_Sorted_1_c6 m) rec v3 v18 v24 l0)
noncomputable def K_slices_symMergeCmpFunc_api_Entry_of_reap_Sorted_1_c4 (m : Nat) (rec : List D_api_Entry → Int → Int → Int → Option (List D_api_Entry)) (v1 : Int) (v2 : Int) (v3 : Int) (v18 : Int) (v19 : Int) (v20 : Int) (l0 : List D_api_Entry) : Option (List D_api_Entry) :=
  sel (decide (v20 < v2)) (
    sel (decide (v2 < (wi64 (v19 - v20)))) (
      ((K_slices_rotateCmpFunc_api_Entry_of_reap_Sorted_1 m) l0 v20 v2 (wi64 (v19 - v20))).bind fun r3 =>
      (K_slices_symMergeCmpFunc_api_Entry_of_reap_Sorted_1_c5 m) rec v1 v3 v18 v20 (wi64 (v19 - v20)) r3) (
      (K_slices_symMergeCmpFunc_api_Entry_of_reap_Sorted_1_c5 m) rec v1 v3 v18 v20 (wi64 (v19 - v20)) l0)) (
    (K_slices_symMergeCmpFunc_api_Entry_of_reap_Sorted_1_c5 m) rec v1 v3 v18 v20 (wi64 (v19 - v20)) l0)
noncomputable def K_slices_symMergeCmpFunc_api_Entry_of_reap_Sorted_1_l7 (m : Nat) (rec : List D_api_Entry → Int → Int → Int → Option (List D_api_Entry)) (v1 : Int) (v2 : Int) (v3 : Int) (v18 : Int) (v19 : Int) (v20 : Int) (v21 : Int) (v22 : Int) (l0 : List D_api_Entry) : Option ((Int × Int × Int × Int × Int × Int × Int × Int × List D_api_Entry) ⊕ (List D_api_Entry)) :=
  sel (decide (v20 < v21)) (
    chk (decide ((0 : Int) ≤ (wi64 (v22 - (wi64 ((wu64 (wi64 (v20 + v21))) / 2 ^ 1)))) ∧ (wi64 (v22 - (wi64 ((wu64 (wi64 (v20 + v21))) / 2 ^ 1)))) < (((List.length l0) : Nat) : Int))) <|
    chk (decide ((Int.toNat (wi64 (v22 - (wi64 ((wu64 (wi64 (v20 + v21))) / 2 ^ 1))))) < (List.length l0))) <|
    chk (decide ((0 : Int) ≤ (wi64 ((wu64 (wi64 (v20 + v21))) / 2 ^ 1)) ∧ (wi64 ((wu64 (wi64 (v20 + v21))) / 2 ^ 1)) < (((List.length l0) : Nat) : Int))) <|
    chk (decide ((Int.toNat (wi64 ((wu64 (wi64 (v20 + v21))) / 2 ^ 1))) < (List.length l0))) <|
    ((K_reap_Sorted_1 m) (List.getD l0 (Int.toNat (wi64 (v22 - (wi64 ((wu64 (wi64 (v20 + v21))) / 2 ^ 1))))) d_api_Entry) (List.getD l0 (Int.toNat (wi64 ((wu64 (wi64 (v20 + v21))) / 2 ^ 1))) d_api_Entry)).bind fun r4 =>
    sel (!(decide (r4 < 0))) (
      some (.inl (v1, v2, v3, v18, v19, (wi64 ((wi64 ((wu64 (wi64 (v20 + v21))) / 2 ^ 1)) + 1)), v21, v22, l0))) (
      some (.inl (v1, v2, v3, v18, v19, v20, (wi64 ((wu64 (wi64 (v20 + v21))) / 2 ^ 1)), v22, l0)))) (
    Option.map .inr (
      (K_slices_symMergeCmpFunc_api_Entry_of_reap_Sorted_1_c4 m) rec v1 v2 v3 v18 v19 v20 l0))
noncomputable def K_slices_symMergeCmpFunc_api_Entry_of_reap_Sorted_1_l7s (m : Nat) (rec : List D_api_Entry → Int → Int → Int → Option (List D_api_Entry)) (v1 : Int) (v2 : Int) (v3 : Int) (v18 : Int) (v19 : Int) (v20 : Int) (v21 : Int) (v22 : Int) (l0 : List D_api_Entry) : Option (List D_api_Entry) :=
  iter m (fun v => (K_slices_symMergeCmpFunc_api_Entry_of_reap_Sorted_1_l7 m) rec v.1 v.2.1 v.2.2.1 v.2.2.2.1 v.2.2.2.2.1 v.2.2.2.2.2.1 v.2.2.2.2.2.2.1 v.2.2.2.2.2.2.2.1 v.2.2.2.2.2.2.2.2) (v1, v2, v3, v18, v19, v20, v21, v22, l0)
noncomputable def K_slices_symMergeCmpFunc_api_Entry_of_reap_Sorted_1_c3 (m : Nat) (rec : List D_api_Entry → Int → Int → Int → Option (List D_api_Entry)) (v1 : Int) (v2 : Int) (v3 : Int) (v18 : Int) (v19 : Int) (v20 : Int) (v21 : Int) (l0 : List D_api_Entry) : Option (List D_api_Entry) :=
  (K_slices_symMergeCmpFunc_api_Entry_of_reap_Sorted_1_l7s m) rec v1 v2 v3 v18 v19 v20 v21 (wi64 (v19 - 1)) l0
noncomputable def K_slices_symMergeCmpFunc_api_Entry_of_reap_Sorted_1_c2 (m : Nat) (rec : List D_api_Entry → Int → Int → Int → Option (List D_api_Entry)) (v1 : Int) (v2 : Int) (v3 : Int) (l0 : List D_api_Entry) : Option (List D_api_Entry) :=
  sel (decide ((wi64 ((wu64 (wi64 (v1 + v3))) / 2 ^ 1)) < v2)) (
    (K_slices_symMergeCmpFunc_api_Entry_of_reap_Sorted_1_c3 m) rec v1 v2 v3 (wi64 ((wu64 (wi64 (v1 + v3))) / 2 ^ 1)) (wi64 ((wi64 ((wu64 (wi64 (v1 + v3))) / 2 ^ 1)) + v2)) (wi64 ((wi64 ((wi64 ((wu64 (wi64 (v1 + v3))) / 2 ^ 1)) + v2)) - v3)) (wi64 ((wu64 (wi64 (v1 + v3))) / 2 ^ 1)) l0) (
    (K_slices_symMergeCmpFunc_api_Entry_of_reap_Sorted_1_c3 m) rec v1 v2 v3 (wi64 ((wu64 (wi64 (v1 + v3))) / 2 ^ 1)) (wi64 ((wi64 ((wu64 (wi64 (v1 + v3))) / 2 ^ 1)) + v2)) v1 v2 l0)
noncomputable def K_slices_symMergeCmpFunc_api_Entry_of_reap_Sorted_1_l9 (_m : Nat) (_rec : List D_api_Entry → Int → Int → Int → Option (List D_api_Entry)) (v14 : Int) (v17 : Int) (l0 : List D_api_Entry) : Option ((Int × Int × List D_api_Entry) ⊕ (List D_api_Entry)) :=
  sel (decide (v14 < v17)) (
    chk (decide ((0 : Int) ≤ (wi64 (v17 - 1)) ∧ (wi64 (v17 - 1)) < (((List.length l0) : Nat) : Int))) <|
    chk (decide ((Int.toNat (wi64 (v17 - 1))) < (List.length l0))) <|
    chk (decide ((0 : Int) ≤ v17 ∧ v17 < (((List.length l0) : Nat) : Int))) <|
    chk (decide ((Int.toNat v17) < (List.length l0))) <|
    chk (decide ((0 : Int) ≤ v17 ∧ v17 < (((List.length l0) : Nat) : Int))) <|
    chk (decide ((Int.toNat v17) < (List.length l0))) <|
    chk (decide ((0 : Int) ≤ (wi64 (v17 - 1)) ∧ (wi64 (v17 - 1)) < (((List.length (List.set l0 (Int.toNat v17) (List.getD l0 (Int.toNat (wi64 (v17 - 1))) d_api_Entry))) : Nat) : Int))) <|
    chk (decide ((Int.toNat (wi64 (v17 - 1))) < (List.length (List.set l0 (Int.toNat v17) (List.getD l0 (Int.toNat (wi64 (v17 - 1))) d_api_Entry))))) <|
    some (.inl (v14, (wi64 (v17 - 1)), (List.set (List.set l0 (Int.toNat v17) (List.getD l0 (Int.toNat (wi64 (v17 - 1))) d_api_Entry)) (Int.toNat (wi64 (v17 - 1))) (List.getD l0 (Int.toNat v17) d_api_Entry))))) (
    some (.inr l0))
noncomputable def K_slices_symMergeCmpFunc_api_Entry_of_reap_Sorted_1_l9s (m : Nat) (rec : List D_api_Entry → Int → Int → Int → Option (List D_api_Entry)) (v14 : Int) (v17 : Int) (l0 : List D_api_Entry) : Option (List D_api_Entry) :=
  iter m (fun v => (K_slices_symMergeCmpFunc_api_Entry_of_reap_Sorted_1_l9 m) rec v.1 v.2.1 v.2.2) (v14, v17, l0)
noncomputable def K_slices_symMergeCmpFunc_api_Entry_of_reap_Sorted_1_c8 (m : Nat) (rec : List D_api_Entry → Int → Int → Int → Option (List D_api_Entry)) (v2 : Int) (v14 : Int) (l0 : List D_api_Entry) : Option (List D_api_Entry) :=
  (K_slices_symMergeCmpFunc_api_Entry_of_reap_Sorted_1_l9s m) rec v14 v2 l0
noncomputable def K_slices_symMergeCmpFunc_api_Entry_of_reap_Sorted_1_l10 (m : Nat) (rec : List D_api_Entry → Int → Int → Int → Option (List D_api_Entry)) (v2 : Int) (v14 : Int) (v15 : Int) (l0 : List D_api_Entry) : Option ((Int × Int × Int × List D_api_Entry) ⊕ (List D_api_Entry)) :=
  sel (decide (v14 < v15)) (
    chk (decide ((0 : Int) ≤ v2 ∧ v2 < (((List.length l0) : Nat) : Int))) <|
    chk (decide ((Int.toNat v2) < (List.length l0))) <|
    chk (decide ((0 : Int) ≤ (wi64 ((wu64 (wi64 (v14 + v15))) / 2 ^ 1)) ∧ (wi64 ((wu64 (wi64 (v14 + v15))) / 2 ^ 1)) < (((List.length l0) : Nat) : Int))) <|
    chk (decide ((Int.toNat (wi64 ((wu64 (wi64 (v14 + v15))) / 2 ^ 1))) < (List.length l0))) <|
    ((K_reap_Sorted_1 m) (List.getD l0 (Int.toNat v2) d_api_Entry) (List.getD l0 (Int.toNat (wi64 ((wu64 (wi64 (v14 + v15))) / 2 ^ 1))) d_api_Entry)).bind fun r5 =>
    sel (!(decide (r5 < 0))) (
      some (.inl (v2, (wi64 ((wi64 ((wu64 (wi64 (v14 + v15))) / 2 ^ 1)) + 1)), v15, l0))) (
      some (.inl (v2, v14, (wi64 ((wu64 (wi64 (v14 + v15))) / 2 ^ 1)), l0)))) (
    Option.map .inr (
      (K_slices_symMergeCmpFunc_api_Entry_of_reap_Sorted_1_c8 m) rec v2 v14 l0))
noncomputable def K_slices_symMergeCmpFunc_api_Entry_of_reap_Sorted_1_l10s (m : Nat) (rec : List D_api_Entry → Int → Int → Int → Option (List D_api_Entry)) (v2 : Int) (v14 : Int) (v15 : Int) (l0 : List D_api_Entry) : Option (List D_api_Entry) :=
  iter m (fun v => (K_slices_symMergeCmpFunc_api_Entry_of_reap_Sorted_1_l10 m) rec v.1 v.2.1 v.2.2.1 v.2.2.2) (v2, v14, v15, l0)
noncomputable def K_slices_symMergeCmpFunc_api_Entry_of_reap_Sorted_1_c1 (m : Nat) (rec : List D_api_Entry → Int → Int → Int → Option (List D_api_Entry)) (v1 : Int) (v2 : Int) (v3 : Int) (l0 : List D_api_Entry) : Option (List D_api_Entry) :=
  sel (decide ((wi64 (v3 - v2)) = 1)) (
    (K_slices_symMergeCmpFunc_api_Entry_of_reap_Sorted_1_l10s m) rec v2 v1 v2 l0) (
    (K_slices_symMergeCmpFunc_api_Entry_of_reap_Sorted_1_c2 m) rec v1 v2 v3 l0)
noncomputable def K_slices_symMergeCmpFunc_api_Entry_of_reap_Sorted_1_l12 (_m : Nat) (_rec : List D_api_Entry → Int → Int → Int → Option (List D_api_Entry)) (v10 : Int) (v13 : Int) (l0 : List D_api_Entry) : Option ((Int × Int × List D_api_Entry) ⊕ (List D_api_Entry)) :=
  sel (decide (v13 < (wi64 (v10 - 1)))) (
    chk (decide ((0 : Int) ≤ (wi64 (v13 + 1)) ∧ (wi64 (v13 + 1)) < (((List.length l0) : Nat) : Int))) <|
    chk (decide ((Int.toNat (wi64 (v13 + 1))) < (List.length l0))) <|
    chk (decide ((0 : Int) ≤ v13 ∧ v13 < (((List.length l0) : Nat) : Int))) <|
    chk (decide ((Int.toNat v13) < (List.length l0))) <|
    chk (decide ((0 : Int) ≤ v13 ∧ v13 < (((List.length l0) : Nat) : Int))) <|
    chk (decide ((Int.toNat v13) < (List.length l0))) <|
    chk (decide ((0 : Int) ≤ (wi64 (v13 + 1)) ∧ (wi64 (v13 + 1)) < (((List.length (List.set l0 (Int.toNat v13) (List.getD l0 (Int.toNat (wi64 (v13 + 1))) d_api_Entry))) : Nat) : Int))) <|
    chk (decide ((Int.toNat (wi64 (v13 + 1))) < (List.length (List.set l0 (Int.toNat v13) (List.getD l0 (Int.toNat (wi64 (v13 + 1))) d_api_Entry))))) <|
    some (.inl (v10, (wi64 (v13 + 1)), (List.set (List.set l0 (Int.toNat v13) (List.getD l0 (Int.toNat (wi64 (v13 + 1))) d_api_Entry)) (Int.toNat (wi64 (v13 + 1))) (List.getD l0 (Int.toNat v13) d_api_Entry))))) (
    some (.inr l0))
noncomputable def K_slices_symMergeCmpFunc_api_Entry_of_reap_Sorted_1_l12s (m : Nat) (rec : List D_api_Entry → Int → Int → Int → Option (List D_api_Entry)) (v10 : Int) (v13 : Int) (l0 : List D_api_Entry) : Option (List D_api_Entry) :=
  iter m (fun v => (K_slices_symMergeCmpFunc_api_Entry_of_reap_Sorted_1_l12 m) rec v.1 v.2.1 v.2.2) (v10, v13, l0)
noncomputable def K_slices_symMergeCmpFunc_api_Entry_of_reap_Sorted_1_c11 (m : Nat) (rec : List D_api_Entry → Int → Int → Int → Option (List D_api_Entry)) (v1 : Int) (v10 : Int) (l0 : List D_api_Entry) : Option (List D_api_Entry) :=
  (K_slices_symMergeCmpFunc_api_Entry_of_reap_Sorted_1_l12s m) rec v10 v1 l0
noncomputable def K_slices_symMergeCmpFunc_api_Entry_of_reap_Sorted_1_l13 (m : Nat) (rec : List D_api_Entry → Int → Int → Int → Option (List D_api_Entry)) (v1 : Int) (v10 : Int) (v11 : Int) (l0 : List D_api_Entry) : Option ((Int × Int × Int × List D_api_Entry) ⊕ (List D_api_Entry)) :=
  sel (decide (v10 < v11)) (
    chk (decide ((0 : Int) ≤ (wi64 ((wu64 (wi64 (v10 + v11))) / 2 ^ 1)) ∧ (wi64 ((wu64 (wi64 (v10 + v11))) / 2 ^ 1)) < (((List.length l0) : Nat) : Int))) <|
    chk (decide ((Int.toNat (wi64 ((wu64 (wi64 (v10 + v11))) / 2 ^ 1))) < (List.length l0))) <|
    chk (decide ((0 : Int) ≤ v1 ∧ v1 < (((List.length l0) : Nat) : Int))) <|
    chk (decide ((Int.toNat v1) < (List.length l0))) <|
    ((K_reap_Sorted_1 m) (List.getD l0 (Int.toNat (wi64 ((wu64 (wi64 (v10 + v11))) / 2 ^ 1))) d_api_Entry) (List.getD l0 (Int.toNat v1) d_api_Entry)).bind fun r6 =>
    sel (decide (r6 < 0)) (
      some (.inl (v1, (wi64 ((wi64 ((wu64 (wi64 (v10 + v11))) / 2 ^ 1)) + 1)), v11, l0))) (
      some (.inl (v1, v10, (wi64 ((wu64 (wi64 (v10 + v11))) / 2 ^ 1)), l0)))) (
    Option.map .inr (
      (K_slices_symMergeCmpFunc_api_Entry_of_reap_Sorted_1_c11 m) rec v1 v10 l0))
noncomputable def K_slices_symMergeCmpFunc_api_Entry_of_reap_Sorted_1_l13s (m : Nat) (rec : List D_api_Entry → Int → Int → Int → Option (List D_api_Entry)) (v1 : Int) (v10 : Int) (v11 : Int) (l0 : List D_api_Entry) : Option (List D_api_Entry) :=
  iter m (fun v => (K_slices_symMergeCmpFunc_api_Entry_of_reap_Sorted_1_l13 m) rec v.1 v.2.1 v.2.2.1 v.2.2.2) (v1, v10, v11, l0)
noncomputable def K_slices_symMergeCmpFunc_api_Entry_of_reap_Sorted_1_body (m : Nat) (rec : List D_api_Entry → Int → Int → Int → Option (List D_api_Entry)) (a0 : List D_api_Entry) (a1 : Int) (a2 : Int) (a3 : Int) : Option (List D_api_Entry) :=
  sel (decide ((wi64 (a2 - a1)) = 1)) (
    (K_slices_symMergeCmpFunc_api_Entry_of_reap_Sorted_1_l13s m) rec a1 a2 a3 a0) (
    (K_slices_symMergeCmpFunc_api_Entry_of_reap_Sorted_1_c1 m) rec a1 a2 a3 a0)
noncomputable def K_slices_symMergeCmpFunc_api_Entry_of_reap_Sorted_1 (m : Nat) (n : Nat) : List D_api_Entry → Int → Int → Int → Option (List D_api_Entry) := Nat.rec (motive := fun _ => List D_api_Entry → Int → Int → Int → Option (List D_api_Entry)) (fun _ _ _ _ => none) (fun _ ih => (K_slices_symMergeCmpFunc_api_Entry_of_reap_Sorted_1_body m) ih) n
noncomputable def K_slices_stableCmpFunc_api_Entry_of_reap_Sorted_1_c3 (m : Nat) (v1 : Int) (v6 : Int) (v7 : Int) (l0 : List D_api_Entry) : Option ((Int × Int × List D_api_Entry) ⊕ (List D_api_Entry)) :=
  sel (decide ((wi64 (v7 + v6)) < v1)) (
    ((K_slices_symMergeCmpFunc_api_Entry_of_reap_Sorted_1 m) m l0 v7 (wi64 (v7 + v6)) v1).bind fun r2 =>
    some (.inl (v1, (wi64 (v6 * 2)), r2))) (
    some (.inl (v1, (wi64 (v6 * 2)), l0)))
noncomputable def K_slices_stableCmpFunc_api_Entry_of_reap_Sorted_1_l4 (m : Nat) (v1 : Int) (v6 : Int) (v7 : Int) (v8 : Int) (l0 : List D_api_Entry) : Option ((Int × Int × Int × Int × List D_api_Entry) ⊕ ((Int × Int × List D_api_Entry) ⊕ (List D_api_Entry))) :=
  sel (decide (v8 ≤ v1)) (
    ((K_slices_symMergeCmpFunc_api_Entry_of_reap_Sorted_1 m) m l0 v7 (wi64 (v7 + v6)) v8).bind fun r3 =>
    some (.inl (v1, v6, v8, (wi64 (v8 + (wi64 (2 * v6)))), r3))) (
    Option.map .inr (
      (K_slices_stableCmpFunc_api_Entry_of_reap_Sorted_1_c3 m) v1 v6 v7 l0))
noncomputable def K_slices_stableCmpFunc_api_Entry_of_reap_Sorted_1_l4s (m : Nat) (v1 : Int) (v6 : Int) (v7 : Int) (v8 : Int) (l0 : List D_api_Entry) : Option ((Int × Int × List D_api_Entry) ⊕ (List D_api_Entry)) :=
  iter m (fun v => (K_slices_stableCmpFunc_api_Entry_of_reap_Sorted_1_l4 m) v.1 v.2.1 v.2.2.1 v.2.2.2.1 v.2.2.2.2) (v1, v6, v7, v8, l0)
noncomputable def K_slices_stableCmpFunc_api_Entry_of_reap_Sorted_1_l2 (m : Nat) (v1 : Int) (v6 : Int) (l0 : List D_api_Entry) : Option ((Int × Int × List D_api_Entry) ⊕ (List D_api_Entry)) :=
  sel (decide (v6 < v1)) (
    (K_slices_stableCmpFunc_api_Entry_of_reap_Sorted_1_l4s m) v1 v6 0 (wi64 (2 * v6)) l0) (
    some (.inr l0))
noncomputable def K_slices_stableCmpFunc_api_Entry_of_reap_Sorted_1_l2s (m : Nat) (v1 : Int) (v6 : Int) (l0 : List D_api_Entry) : Option (List D_api_Entry) :=
  iter m (fun v => (K_slices_stableCmpFunc_api_Entry_of_reap_Sorted_1_l2 m) v.1 v.2.1 v.2.2) (v1, v6, l0)
noncomputable def K_slices_stableCmpFunc_api_Entry_of_reap_Sorted_1_c1 (m : Nat) (v1 : Int) (v6 : Int) (v7 : Int) (l0 : List D_api_Entry) : Option (List D_api_Entry) :=
  ((K_slices_insertionSortCmpFunc_api_Entry_of_reap_Sorted_1 m) l0 v7 v1).bind fun r1 =>
  (K_slices_stableCmpFunc_api_Entry_of_reap_Sorted_1_l2s m) v1 v6 r1
noncomputable def K_slices_stableCmpFunc_api_Entry_of_reap_Sorted_1_l5 (m : Nat) (v1 : Int) (v6 : Int) (v7 : Int) (v8 : Int) (l0 : List D_api_Entry) : Option ((Int × Int × Int × Int × List D_api_Entry) ⊕ (List D_api_Entry)) :=
  sel (decide (v8 ≤ v1)) (
    ((K_slices_insertionSortCmpFunc_api_Entry_of_reap_Sorted_1 m) l0 v7 v8).bind fun r4 =>
    some (.inl (v1, v6, v8, (wi64 (v8 + v6)), r4))) (
    Option.map .inr (
      (K_slices_stableCmpFunc_api_Entry_of_reap_Sorted_1_c1 m) v1 v6 v7 l0))
noncomputable def K_slices_stableCmpFunc_api_Entry_of_reap_Sorted_1_l5s (m : Nat) (v1 : Int) (v6 : Int) (v7 : Int) (v8 : Int) (l0 : List D_api_Entry) : Option (List D_api_Entry) :=
  iter m (fun v => (K_slices_stableCmpFunc_api_Entry_of_reap_Sorted_1_l5 m) v.1 v.2.1 v.2.2.1 v.2.2.2.1 v.2.2.2.2) (v1, v6, v7, v8, l0)
noncomputable def K_slices_stableCmpFunc_api_Entry_of_reap_Sorted_1 (m : Nat) (a0 : List D_api_Entry) (a1 : Int) : Option (List D_api_Entry) :=
  (K_slices_stableCmpFunc_api_Entry_of_reap_Sorted_1_l5s m) a1 20 0 20 a0
noncomputable def K_slices_SortStableFunc_api_Entry_api_Entry_of_reap_Sorted_1 (m : Nat) (a0 : List D_api_Entry) : Option (List D_api_Entry) :=
  ((K_slices_stableCmpFunc_api_Entry_of_reap_Sorted_1 m) a0 (((List.length a0) : Nat) : Int)).bind fun r1 =>
  some r1
noncomputable def K_reap_Sorted (m : Nat) (a0 : List D_api_Entry) : Option (List D_api_Entry) :=
  ((K_own_Entries m) a0).bind fun r1 =>
  ((K_slices_SortStableFunc_api_Entry_api_Entry_of_reap_Sorted_1 m) r1).bind fun r2 =>
  some r2
def K_varint_Size_l1 (_m : Nat) (v0 : Int) (v3 : Int) : Option ((Int × Int) ⊕ (Int)) :=
  sel (decide (128 ≤ v0)) (
    some (.inl ((v0 / 2 ^ 7), (wi64 (v3 + 1))))) (
    some (.inr v3))
def K_varint_Size_l1s (m : Nat) (v0 : Int) (v3 : Int) : Option (Int) :=
  iter m (fun v => (K_varint_Size_l1 m) v.1 v.2) (v0, v3)
def K_varint_Size (m : Nat) (a0 : Int) : Option (Int) :=
  (K_varint_Size_l1s m) a0 1
def K_wire_SizeBytes (m : Nat) (a0 : Int) : Option (Int) :=
  sel (decide (a0 < 0)) (
    some 0) (
    ((K_varint_Size m) (wu64 a0)).bind fun r1 =>
    some (wi64 ((wi64 (1 + r1)) + a0)))
noncomputable def K_reap_BytesGas_c2 (_m : Nat) (v1 : Int) (v2 : Int) (v7 : Int) (v11 : Int) (v23 : Int) (v24 : Int) (_v36 : Int) (_v37 : Bool) (_v38 : Bool) (_v43 : Bool) (b0 : D_api_Entry) (l0 : List (List UInt8)) (l1 : List D_api_Entry) : Option ((Int × Int × Int × Int × Int × List (List UInt8) × List D_api_Entry) ⊕ (List (List UInt8))) :=
  sel (decide (0 ≤ v2)) (
    chk (decide (((List.length l0) + 1) * 24 ≤ LIM ∧ (List.length l0) + 1 ≤ LEN)) <|
    some (.inl ((wi64 (v1 - v11)), v2, (wu64 (v7 - b0.2.2.2.2.1)), v23, (wi64 (v24 + 1)), (l0 ++ [b0.2.1]), l1))) (
    chk (decide (((List.length l0) + 1) * 24 ≤ LIM ∧ (List.length l0) + 1 ≤ LEN)) <|
    some (.inl ((wi64 (v1 - v11)), v2, v7, v23, (wi64 (v24 + 1)), (l0 ++ [b0.2.1]), l1)))
noncomputable def K_reap_BytesGas_l1 (m : Nat) (v1 : Int) (v2 : Int) (v7 : Int) (v23 : Int) (v24 : Int) (l0 : List (List UInt8)) (l1 : List D_api_Entry) : Option ((Int × Int × Int × Int × Int × List (List UInt8) × List D_api_Entry) ⊕ (List (List UInt8))) :=
  sel (decide (v24 < v23)) (
    chk (decide ((0 : Int) ≤ v24 ∧ v24 < (((List.length l1) : Nat) : Int))) <|
    chk (decide ((Int.toNat v24) < (List.length l1))) <|
    ((K_wire_SizeBytes m) (((List.length (List.getD l1 (Int.toNat v24) d_api_Entry).2.1) : Nat) : Int)).bind fun r2 =>
    sel (decide (v1 < r2)) (
      some (.inl (v1, v2, v7, v23, (wi64 (v24 + 1)), l0, l1))) (
      sel (decide (0 ≤ v2)) (
        sel (decide (v7 < (List.getD l1 (Int.toNat v24) d_api_Entry).2.2.2.2.1)) (
          some (.inl (v1, v2, v7, v23, (wi64 (v24 + 1)), l0, l1))) (
          (K_reap_BytesGas_c2 m) v1 v2 v7 r2 v23 v24 v2 (decide (0 ≤ v2)) true (decide (v7 < (List.getD l1 (Int.toNat v24) d_api_Entry).2.2.2.2.1)) (List.getD l1 (Int.toNat v24) d_api_Entry) l0 l1)) (
        (K_reap_BytesGas_c2 m) v1 v2 v7 r2 v23 v24 v2 (decide (0 ≤ v2)) false false (List.getD l1 (Int.toNat v24) d_api_Entry) l0 l1))) (
    some (.inr l0))
noncomputable def K_reap_BytesGas_l1s (m : Nat) (v1 : Int) (v2 : Int) (v7 : Int) (v23 : Int) (v24 : Int) (l0 : List (List UInt8)) (l1 : List D_api_Entry) : Option (List (List UInt8)) :=
  iter m (fun v => (K_reap_BytesGas_l1 m) v.1 v.2.1 v.2.2.1 v.2.2.2.1 v.2.2.2.2.1 v.2.2.2.2.2.1 v.2.2.2.2.2.2) (v1, v2, v7, v23, v24, l0, l1)
noncomputable def K_reap_BytesGas (m : Nat) (a0 : List D_api_Entry) (a1 : Int) (a2 : Int) : Option (List (List UInt8)) :=
  sel (decide (a1 < 0)) (
    some []) (
    sel (decide (a2 < (-1))) (
      some []) (
      ((K_reap_Sorted m) a0).bind fun r1 =>
      (K_reap_BytesGas_l1s m) a1 a2 (wu64 (max a2 0)) (((List.length r1) : Nat) : Int) 0 [] r1))
noncomputable def K_reap_Count_l2 (_m : Nat) (v23 : List D_api_Entry) (v24 : Int) (v25 : Int) (l0 : List (List UInt8)) : Option ((List D_api_Entry × Int × Int × List (List UInt8)) ⊕ (List (List UInt8))) :=
  sel (decide (v25 < v24)) (
    chk (decide ((0 : Int) ≤ v25 ∧ v25 < (((List.length v23) : Nat) : Int))) <|
    chk (decide (((List.length l0) + 1) * 24 ≤ LIM ∧ (List.length l0) + 1 ≤ LEN)) <|
    some (.inl (v23, v24, (wi64 (v25 + 1)), (l0 ++ [(List.getD v23 (Int.toNat v25) d_api_Entry).2.1])))) (
    some (.inr l0))
noncomputable def K_reap_Count_l2s (m : Nat) (v23 : List D_api_Entry) (v24 : Int) (v25 : Int) (l0 : List (List UInt8)) : Option (List (List UInt8)) :=
  iter m (fun v => (K_reap_Count_l2 m) v.1 v.2.1 v.2.2.1 v.2.2.2) (v23, v24, v25, l0)
noncomputable def K_reap_Count_c1 (m : Nat) (v1 : Int) (l0 : List D_api_Entry) : Option (List (List UInt8)) :=
  chk (decide ((0 : Int) ≤ 0 ∧ 0 ≤ v1 ∧ v1 ≤ (((List.length l0) : Nat) : Int))) <|
  (K_reap_Count_l2s m) (List.take (Int.toNat v1) l0) (((List.length (List.take (Int.toNat v1) l0)) : Nat) : Int) 0 []
noncomputable def K_reap_Count (m : Nat) (a0 : List D_api_Entry) (a1 : Int) : Option (List (List UInt8)) :=
  ((K_reap_Sorted m) a0).bind fun r1 =>
  sel (decide (a1 < 0)) (
    (K_reap_Count_c1 m) (((List.length r1) : Nat) : Int) r1) (
    sel (decide ((((List.length r1) : Nat) : Int) < a1)) (
      (K_reap_Count_c1 m) (((List.length r1) : Nat) : Int) r1) (
      (K_reap_Count_c1 m) a1 r1))
def K_reap_Size_l1 (m : Nat) (v3 : Int) (v6 : List (List UInt8)) (v7 : Int) (v8 : Int) : Option ((Int × List (List UInt8) × Int × Int) ⊕ (Int)) :=
  sel (decide (v8 < v7)) (
    chk (decide ((0 : Int) ≤ v8 ∧ v8 < (((List.length v6) : Nat) : Int))) <|
    ((K_wire_SizeBytes m) (((List.length (List.getD v6 (Int.toNat v8) [])) : Nat) : Int)).bind fun r1 =>
    some (.inl ((wi64 (v3 + r1)), v6, v7, (wi64 (v8 + 1))))) (
    some (.inr v3))
def K_reap_Size_l1s (m : Nat) (v3 : Int) (v6 : List (List UInt8)) (v7 : Int) (v8 : Int) : Option (Int) :=
  iter m (fun v => (K_reap_Size_l1 m) v.1 v.2.1 v.2.2.1 v.2.2.2) (v3, v6, v7, v8)
def K_reap_Size (m : Nat) (a0 : List (List UInt8)) : Option (Int) :=
  (K_reap_Size_l1s m) 0 a0 (((List.length a0) : Nat) : Int) 0
noncomputable def K_mempoollaw24_known (m : Nat) : Option (Bool) :=
  ((K_mempoollaw24_entry m) 1 50 10 1).bind fun r1 =>
  ((K_mempoollaw24_entry m) 2 90 10 9).bind fun r2 =>
  ((K_mempoollaw24_entry m) 3 20 10 1).bind fun r3 =>
  ((K_reap_BytesGas m) [r1, r2, r3] 80 (-1)).bind fun r4 =>
  ((K_reap_BytesGas m) [r1, r2, r3] 1000 25).bind fun r5 =>
  ((K_reap_Count m) [r1, r2, r3] (-1)).bind fun r6 =>
  ((K_reap_Sorted m) [r1, r2, r3]).bind fun r7 =>
  sel (decide ((((List.length r4) : Nat) : Int) = 2)) (
    chk (decide ((0 : Int) ≤ 0 ∧ 0 < (((List.length r4) : Nat) : Int))) <|
    chk (decide (0 < (List.length r4))) <|
    sel (decide ((((List.length (List.getD r4 0 [])) : Nat) : Int) = 50)) (
      sel (decide ((((List.length r5) : Nat) : Int) = 2)) (
        chk (decide ((0 : Int) ≤ 0 ∧ 0 < (((List.length r5) : Nat) : Int))) <|
        chk (decide (0 < (List.length r5))) <|
        sel (decide ((((List.length (List.getD r5 0 [])) : Nat) : Int) = 90)) (
          sel (decide ((((List.length r6) : Nat) : Int) = 3)) (
            sel (decide ((((List.length r7) : Nat) : Int) = 3)) (
              chk (decide ((0 : Int) ≤ 0 ∧ 0 < (((List.length r7) : Nat) : Int))) <|
              chk (decide (0 < (List.length r7))) <|
              sel (decide ((List.getD r7 0 d_api_Entry).2.2.2.2.2.2.2.2.1 = 2)) (
                ((K_reap_Size m) r6).bind fun r8 =>
                some (decide (r8 = 166))) (
                some false)) (
              some false)) (
            some false)) (
          some false)) (
        some false)) (
      some false)) (
    some false)
theorem same : F_mempoollaw24_known = K_mempoollaw24_known FUEL := by kernel_rfl
theorem at_ : K_mempoollaw24_known 1180591620717411303424 = some true := by kernel_rfl
end Kmempoollaw24
theorem T_mempoollaw24_known : F_mempoollaw24_known = some true := by rw [Kmempoollaw24.same, FUEL_eq]; exact Kmempoollaw24.at_
end Go.Proofs.Ythmfeknfiekcmaa.Am
