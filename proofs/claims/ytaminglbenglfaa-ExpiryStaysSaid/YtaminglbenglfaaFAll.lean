/- What functions of the program compute on plain data. No conditions. -/
import Derived.Test.YtaminglbenglfaaAmTab
import Derived.Test.YtaminglbenglfaaKC
namespace Go.Proofs.Ytaminglbenglfaa.Am
open Go
def U_runtime_errorAddressString : U := (.pr .str (.int .u64))
abbrev D_runtime_errorAddressString : Type := List UInt8 × Int
def d_runtime_errorAddressString : D_runtime_errorAddressString := ([], (0 : Int))
def U_expiry_stamp : U := (.pr (.int .i64) (.int .i64))
abbrev D_expiry_stamp : Type := Int × Int
def d_expiry_stamp : D_expiry_stamp := ((0 : Int), (0 : Int))
def U_sender_place : U := (.pr (.int .u64) (.int .i64))
abbrev D_sender_place : Type := Int × Int
def d_sender_place : D_sender_place := ((0 : Int), (0 : Int))
def U_mempoolmake_Numbers : U := (.pr (.sl (.int .i64)) (.int .i64))
abbrev D_mempoolmake_Numbers : Type := List Int × Int
def d_mempoolmake_Numbers : D_mempoolmake_Numbers := ([], (0 : Int))
def U_mempoolref16_Row : U := (.pr .str (.pr (.int .u64) (.int .i64)))
abbrev D_mempoolref16_Row : Type := List UInt8 × D_sender_place
def d_mempoolref16_Row : D_mempoolref16_Row := ([], (0 : Int), (0 : Int))
def U_mempoolref16_Wait : U := (.pr (.int .i64) (.pr (.int .i64) (.int .i64)))
abbrev D_mempoolref16_Wait : Type := Int × D_expiry_stamp
def d_mempoolref16_Wait : D_mempoolref16_Wait := ((0 : Int), (0 : Int), (0 : Int))
def U_api_Item : U := (.pr (.int .i64) (.pr (.int .u64) (.int .i64)))
abbrev D_api_Item : Type := Int × D_sender_place
def d_api_Item : D_api_Item := ((0 : Int), (0 : Int), (0 : Int))
def U_runtime_boundsError : U := (.pr (.int .i64) (.pr (.int .i64) (.pr .bool .byte)))
abbrev D_runtime_boundsError : Type := Int × Int × Bool × UInt8
def d_runtime_boundsError : D_runtime_boundsError := ((0 : Int), (0 : Int), false, (0 : UInt8))
def F_mempoollaw18_long_l1 (v3 : Int) (v6 : List (List Int)) (v7 : Int) (v8 : Int) : Option ((Int × List (List Int) × Int × Int) ⊕ (Bool)) :=
  sel (decide (v8 < v7)) (
    chk (decide ((0 : Int) ≤ v8 ∧ v8 < (((List.length v6) : Nat) : Int))) <|
    some (.inl ((wi64 (v3 + (((List.length (List.getD v6 (Int.toNat v8) [])) : Nat) : Int))), v6, v7, (wi64 (v8 + 1))))) (
    some (.inr (decide (160 < v3))))
def F_mempoollaw18_long_l1s (v3 : Int) (v6 : List (List Int)) (v7 : Int) (v8 : Int) : Option (Bool) :=
  iterO (fun v => F_mempoollaw18_long_l1 v.1 v.2.1 v.2.2.1 v.2.2.2) (v3, v6, v7, v8)
def F_mempoollaw18_long (a0 : List (List Int)) : Option (Bool) :=
  F_mempoollaw18_long_l1s 0 a0 (((List.length a0) : Nat) : Int) 0
def F_expiry_New (a0 : Int) (a1 : Int) : Option (Int × Int × List D_mempoolref16_Wait) :=
  some (a0, a1, [])
def F_expiry_Queue_Add (a0_0 : Int) (a0_1 : Int) (a0_2 : List D_mempoolref16_Wait) (a1 : Int) (a2 : Int) (a3 : Int) : Option (Int × Int × List D_mempoolref16_Wait × Bool) :=
  sel (Option.isSome (mIdx intEq a1 a0_2)) (
    some (a0_0, a0_1, a0_2, false)) (
    some (a0_0, a0_1, (mSet intEq a1 (a2, a3) a0_2), true))
def F_expiry_over (a0 : Int) (a1 : Int) (a2 : Int) : Option (Bool) :=
  sel (decide (0 < a2)) (
    sel (decide (a1 < a0)) (
      some (decide ((wu64 a2) < (wu64 ((wu64 a0) - (wu64 a1)))))) (
      some false)) (
    some false)
def F_expiry_Queue_Expired_l1 (v1 : Int) (v2 : Int) (v19 : Int) (v20 : Int) (b0_0 : Int) (b0_1 : Int) (l0 : List D_mempoolref16_Wait) (l1 : List Int) (l2 : List Int) : Option ((Int × Int × Int × Int × Int × Int × List D_mempoolref16_Wait × List Int × List Int) ⊕ (Int × Int × List D_mempoolref16_Wait × List Int)) :=
  sel (decide (v20 < v19)) (
    chk (decide ((0 : Int) ≤ v20 ∧ v20 < (((List.length l2) : Nat) : Int))) <|
    chk (decide ((Int.toNat v20) < (List.length l2))) <|
    (F_expiry_over v1 (mGet intEq (List.getD l2 (Int.toNat v20) (0 : Int)) d_expiry_stamp l0).1 b0_0).bind fun r1 =>
    sel r1 (
      chk (decide (((List.length l1) + 1) * 8 ≤ LIM ∧ (List.length l1) + 1 ≤ LEN)) <|
      some (.inl (v1, v2, v19, (wi64 (v20 + 1)), b0_0, b0_1, l0, (l1 ++ [(List.getD l2 (Int.toNat v20) (0 : Int))]), l2))) (
      (F_expiry_over v2 (mGet intEq (List.getD l2 (Int.toNat v20) (0 : Int)) d_expiry_stamp l0).2 b0_1).bind fun r2 =>
      sel r2 (
        chk (decide (((List.length l1) + 1) * 8 ≤ LIM ∧ (List.length l1) + 1 ≤ LEN)) <|
        some (.inl (v1, v2, v19, (wi64 (v20 + 1)), b0_0, b0_1, l0, (l1 ++ [(List.getD l2 (Int.toNat v20) (0 : Int))]), l2))) (
        some (.inl (v1, v2, v19, (wi64 (v20 + 1)), b0_0, b0_1, l0, l1, l2))))) (
    some (.inr (b0_0, b0_1, l0, l1)))
def F_expiry_Queue_Expired_l1s (v1 : Int) (v2 : Int) (v19 : Int) (v20 : Int) (b0_0 : Int) (b0_1 : Int) (l0 : List D_mempoolref16_Wait) (l1 : List Int) (l2 : List Int) : Option (Int × Int × List D_mempoolref16_Wait × List Int) :=
  iterO (fun v => F_expiry_Queue_Expired_l1 v.1 v.2.1 v.2.2.1 v.2.2.2.1 v.2.2.2.2.1 v.2.2.2.2.2.1 v.2.2.2.2.2.2.1 v.2.2.2.2.2.2.2.1 v.2.2.2.2.2.2.2.2) (v1, v2, v19, v20, b0_0, b0_1, l0, l1, l2)
def F_expiry_Queue_Expired (a0_0 : Int) (a0_1 : Int) (a0_2 : List D_mempoolref16_Wait) (a1 : Int) (a2 : Int) : Option (Int × Int × List D_mempoolref16_Wait × List Int) :=
  chk (goodInts (keysOf a0_2)) <|
  F_expiry_Queue_Expired_l1s a1 a2 (((List.length (sortInts (keysOf a0_2))) : Nat) : Int) 0 a0_0 a0_1 a0_2 [] (sortInts (keysOf a0_2))
def F_mempoolref1_SameInts_l1 (v0 : List Int) (v1 : List Int) (v12 : Int) (v13 : Int) : Option ((List Int × List Int × Int × Int) ⊕ (Bool)) :=
  sel (decide (v13 < v12)) (
    chk (decide ((0 : Int) ≤ v13 ∧ v13 < (((List.length v0) : Nat) : Int))) <|
    chk (decide ((0 : Int) ≤ v13 ∧ v13 < (((List.length v1) : Nat) : Int))) <|
    sel (!decide ((List.getD v0 (Int.toNat v13) (0 : Int)) = (List.getD v1 (Int.toNat v13) (0 : Int)))) (
      some (.inr false)) (
      some (.inl (v0, v1, v12, (wi64 (v13 + 1)))))) (
    some (.inr true))
def F_mempoolref1_SameInts_l1s (v0 : List Int) (v1 : List Int) (v12 : Int) (v13 : Int) : Option (Bool) :=
  iterO (fun v => F_mempoolref1_SameInts_l1 v.1 v.2.1 v.2.2.1 v.2.2.2) (v0, v1, v12, v13)
def F_mempoolref1_SameInts (a0 : List Int) (a1 : List Int) : Option (Bool) :=
  sel (!decide ((((List.length a0) : Nat) : Int) = (((List.length a1) : Nat) : Int))) (
    some false) (
    F_mempoolref1_SameInts_l1s a0 a1 (((List.length a0) : Nat) : Int) 0)
def F_expiry_Queue_Len (a0_0 : Int) (a0_1 : Int) (a0_2 : List D_mempoolref16_Wait) : Option (Int × Int × List D_mempoolref16_Wait × Int) :=
  some (a0_0, a0_1, a0_2, (((List.length a0_2) : Nat) : Int))
def F_mempoollaw18_known : Option (Bool) :=
  (F_expiry_New 2 0).bind fun r1 =>
  (F_expiry_Queue_Add r1.1 r1.2.1 r1.2.2 1 5 0).bind fun r2 =>
  (F_expiry_Queue_Add r2.1 r2.2.1 r2.2.2.1 1 9 0).bind fun r3 =>
  sel r2.2.2.2 (
    sel (!r3.2.2.2) (
      (F_expiry_Queue_Expired r3.1 r3.2.1 r3.2.2.1 7 1000).bind fun r4 =>
      sel (decide ((((List.length r4.2.2.2) : Nat) : Int) = 0)) (
        (F_expiry_Queue_Expired r4.1 r4.2.1 r4.2.2.1 8 0).bind fun r5 =>
        (F_mempoolref1_SameInts r5.2.2.2 [1]).bind fun r6 =>
        sel r6 (
          (F_expiry_Queue_Len r5.1 r5.2.1 r5.2.2.1).bind fun r7 =>
          some (decide (r7.2.2.2 = 1))) (
          some false)) (
        some false)) (
      some false)) (
    some false)
def F_mempoolmake_From (a0 : List Int) : Option (D_mempoolmake_Numbers) :=
  some (a0, (0 : Int))
def F_mempoolmake_Place (a0 : Int) (a1 : Int) : Option (Int) :=
  chk (!decide (a1 = 0)) <|
  sel (decide ((Int.tmod a0 a1) < 0)) (
    some (wi64 ((Int.tmod a0 a1) + a1))) (
    some (Int.tmod a0 a1))
def F_mempoolmake_Numbers_Next_c1 (v1 : Int) (v5 : Int) (b0 : D_mempoolmake_Numbers) : Option (D_mempoolmake_Numbers × Int) :=
  (F_mempoolmake_Place v5 v1).bind fun r1 =>
  some ((b0.1, (wi64 (b0.2 + 1))), r1)
def F_mempoolmake_Numbers_Next (a0 : D_mempoolmake_Numbers) (a1 : Int) : Option (D_mempoolmake_Numbers × Int) :=
  sel (decide (a0.2 < (((List.length a0.1) : Nat) : Int))) (
    chk (decide ((0 : Int) ≤ a0.2 ∧ a0.2 < (((List.length a0.1) : Nat) : Int))) <|
    F_mempoolmake_Numbers_Next_c1 a1 (List.getD a0.1 (Int.toNat a0.2) (0 : Int)) a0) (
    F_mempoolmake_Numbers_Next_c1 a1 0 a0)
def F_mempoolref16_RemoveWait_l1 (v0 : List D_mempoolref16_Wait) (v1 : Int) (v8 : List D_mempoolref16_Wait) (v9 : Int) (v10 : Int) : Option ((List D_mempoolref16_Wait × Int × List D_mempoolref16_Wait × Int × Int) ⊕ (List D_mempoolref16_Wait × Bool)) :=
  sel (decide (v10 < v9)) (
    chk (decide ((0 : Int) ≤ v10 ∧ v10 < (((List.length v8) : Nat) : Int))) <|
    sel (decide ((List.getD v8 (Int.toNat v10) d_mempoolref16_Wait).1 = v1)) (
      chk (decide ((0 : Int) ≤ 0 ∧ 0 ≤ v10 ∧ v10 ≤ (((List.length v0) : Nat) : Int))) <|
      chk (decide ((0 + (List.length (List.take (Int.toNat v10) v0))) * 24 ≤ LIM ∧ 0 + (List.length (List.take (Int.toNat v10) v0)) ≤ LEN)) <|
      chk (decide ((0 : Int) ≤ (wi64 (v10 + 1)) ∧ (wi64 (v10 + 1)) ≤ (((List.length v0) : Nat) : Int) ∧ (((List.length v0) : Nat) : Int) ≤ (((List.length v0) : Nat) : Int))) <|
      chk (decide (((List.length (List.take (Int.toNat v10) v0)) + (List.length (List.drop (Int.toNat (wi64 (v10 + 1))) (List.take (Int.toNat (((List.length v0) : Nat) : Int)) v0)))) * 24 ≤ LIM ∧ (List.length (List.take (Int.toNat v10) v0)) + (List.length (List.drop (Int.toNat (wi64 (v10 + 1))) (List.take (Int.toNat (((List.length v0) : Nat) : Int)) v0))) ≤ LEN)) <|
      some (.inr (((List.take (Int.toNat v10) v0) ++ (List.drop (Int.toNat (wi64 (v10 + 1))) (List.take (Int.toNat (((List.length v0) : Nat) : Int)) v0))), true))) (
      some (.inl (v0, v1, v8, v9, (wi64 (v10 + 1)))))) (
    some (.inr (v0, false)))
def F_mempoolref16_RemoveWait_l1s (v0 : List D_mempoolref16_Wait) (v1 : Int) (v8 : List D_mempoolref16_Wait) (v9 : Int) (v10 : Int) : Option (List D_mempoolref16_Wait × Bool) :=
  iterO (fun v => F_mempoolref16_RemoveWait_l1 v.1 v.2.1 v.2.2.1 v.2.2.2.1 v.2.2.2.2) (v0, v1, v8, v9, v10)
def F_mempoolref16_RemoveWait (a0 : List D_mempoolref16_Wait) (a1 : Int) : Option (List D_mempoolref16_Wait × Bool) :=
  F_mempoolref16_RemoveWait_l1s a0 a1 a0 (((List.length a0) : Nat) : Int) 0
def F_expiry_Queue_Remove (a0_0 : Int) (a0_1 : Int) (a0_2 : List D_mempoolref16_Wait) (a1 : Int) : Option (Int × Int × List D_mempoolref16_Wait × Bool) :=
  some (a0_0, a0_1, (mDel intEq a1 a0_2), (Option.isSome (mIdx intEq a1 a0_2)))
def F_mempoollaw18_number (a0 : D_mempoolmake_Numbers) : Option (D_mempoolmake_Numbers × Int) :=
  (F_mempoolmake_Numbers_Next a0 12).bind fun r1 =>
  sel (decide (r1.2 = 0)) (
    some (r1.1, (-9223372036854775808))) (
    sel (decide (r1.2 = 1)) (
      some (r1.1, 9223372036854775807)) (
      sel (decide (r1.2 = 2)) (
        (F_mempoolmake_Numbers_Next r1.1 5).bind fun r2 =>
        some (r2.1, (negI .i64 r2.2))) (
        (F_mempoolmake_Numbers_Next r1.1 12).bind fun r3 =>
        some (r3.1, r3.2))))
def F_mempoolref16_Late (a0 : Int) (a1 : Int) (a2 : Int) : Option (Bool) :=
  sel (decide (0 < a2)) (
    sel (decide (a1 < a0)) (
      some (decide ((wu64 a2) < (wu64 ((wu64 a0) - (wu64 a1)))))) (
      some false)) (
    some false)
def F_mempoolref16_Expired_l1 (v1 : Int) (v2 : Int) (v3 : Int) (v4 : Int) (v14 : List D_mempoolref16_Wait) (v15 : Int) (v16 : Int) (l0 : List Int) : Option ((Int × Int × Int × Int × List D_mempoolref16_Wait × Int × Int × List Int) ⊕ (List Int)) :=
  sel (decide (v16 < v15)) (
    chk (decide ((0 : Int) ≤ v16 ∧ v16 < (((List.length v14) : Nat) : Int))) <|
    (F_mempoolref16_Late v3 (List.getD v14 (Int.toNat v16) d_mempoolref16_Wait).2.1 v1).bind fun r1 =>
    sel r1 (
      chk (decide (((List.length l0) + 1) * 8 ≤ LIM ∧ (List.length l0) + 1 ≤ LEN)) <|
      some (.inl (v1, v2, v3, v4, v14, v15, (wi64 (v16 + 1)), (l0 ++ [(List.getD v14 (Int.toNat v16) d_mempoolref16_Wait).1])))) (
      (F_mempoolref16_Late v4 (List.getD v14 (Int.toNat v16) d_mempoolref16_Wait).2.2 v2).bind fun r2 =>
      sel r2 (
        chk (decide (((List.length l0) + 1) * 8 ≤ LIM ∧ (List.length l0) + 1 ≤ LEN)) <|
        some (.inl (v1, v2, v3, v4, v14, v15, (wi64 (v16 + 1)), (l0 ++ [(List.getD v14 (Int.toNat v16) d_mempoolref16_Wait).1])))) (
        some (.inl (v1, v2, v3, v4, v14, v15, (wi64 (v16 + 1)), l0))))) (
    some (.inr l0))
def F_mempoolref16_Expired_l1s (v1 : Int) (v2 : Int) (v3 : Int) (v4 : Int) (v14 : List D_mempoolref16_Wait) (v15 : Int) (v16 : Int) (l0 : List Int) : Option (List Int) :=
  iterO (fun v => F_mempoolref16_Expired_l1 v.1 v.2.1 v.2.2.1 v.2.2.2.1 v.2.2.2.2.1 v.2.2.2.2.2.1 v.2.2.2.2.2.2.1 v.2.2.2.2.2.2.2) (v1, v2, v3, v4, v14, v15, v16, l0)
def F_mempoolref16_Expired (a0 : List D_mempoolref16_Wait) (a1 : Int) (a2 : Int) (a3 : Int) (a4 : Int) : Option (List Int) :=
  F_mempoolref16_Expired_l1s a1 a2 a3 a4 a0 (((List.length a0) : Nat) : Int) 0 []
def F_mempoolref16_AddWait_c1 (v0 : List D_mempoolref16_Wait) (v6 : Int) (b0 : D_mempoolref16_Wait) : Option (List D_mempoolref16_Wait × Bool) :=
  chk (decide ((0 : Int) ≤ 0 ∧ 0 ≤ v6 ∧ v6 ≤ (((List.length v0) : Nat) : Int))) <|
  chk (decide ((0 + (List.length (List.take (Int.toNat v6) v0))) * 24 ≤ LIM ∧ 0 + (List.length (List.take (Int.toNat v6) v0)) ≤ LEN)) <|
  chk (decide (((List.length (List.take (Int.toNat v6) v0)) + 1) * 24 ≤ LIM ∧ (List.length (List.take (Int.toNat v6) v0)) + 1 ≤ LEN)) <|
  chk (decide ((0 : Int) ≤ v6 ∧ v6 ≤ (((List.length v0) : Nat) : Int) ∧ (((List.length v0) : Nat) : Int) ≤ (((List.length v0) : Nat) : Int))) <|
  chk (decide (((List.length ((List.take (Int.toNat v6) v0) ++ ([b0] : List D_mempoolref16_Wait))) + (List.length (List.drop (Int.toNat v6) (List.take (Int.toNat (((List.length v0) : Nat) : Int)) v0)))) * 24 ≤ LIM ∧ (List.length ((List.take (Int.toNat v6) v0) ++ ([b0] : List D_mempoolref16_Wait))) + (List.length (List.drop (Int.toNat v6) (List.take (Int.toNat (((List.length v0) : Nat) : Int)) v0))) ≤ LEN)) <|
  some ((((List.take (Int.toNat v6) v0) ++ ([b0] : List D_mempoolref16_Wait)) ++ (List.drop (Int.toNat v6) (List.take (Int.toNat (((List.length v0) : Nat) : Int)) v0))), true)
def F_mempoolref16_AddWait_l2 (v0 : List D_mempoolref16_Wait) (v6 : Int) (v9 : List D_mempoolref16_Wait) (v10 : Int) (v11 : Int) (b0 : D_mempoolref16_Wait) : Option ((List D_mempoolref16_Wait × Int × List D_mempoolref16_Wait × Int × Int × D_mempoolref16_Wait) ⊕ (List D_mempoolref16_Wait × Bool)) :=
  sel (decide (v11 < v10)) (
    chk (decide ((0 : Int) ≤ v11 ∧ v11 < (((List.length v9) : Nat) : Int))) <|
    sel (decide ((List.getD v9 (Int.toNat v11) d_mempoolref16_Wait).1 = b0.1)) (
      some (.inr (v0, false))) (
      sel (decide ((List.getD v9 (Int.toNat v11) d_mempoolref16_Wait).1 < b0.1)) (
        some (.inl (v0, (wi64 (v11 + 1)), v9, v10, (wi64 (v11 + 1)), b0))) (
        some (.inl (v0, v6, v9, v10, (wi64 (v11 + 1)), b0))))) (
    Option.map .inr (
      F_mempoolref16_AddWait_c1 v0 v6 b0))
def F_mempoolref16_AddWait_l2s (v0 : List D_mempoolref16_Wait) (v6 : Int) (v9 : List D_mempoolref16_Wait) (v10 : Int) (v11 : Int) (b0 : D_mempoolref16_Wait) : Option (List D_mempoolref16_Wait × Bool) :=
  iterO (fun v => F_mempoolref16_AddWait_l2 v.1 v.2.1 v.2.2.1 v.2.2.2.1 v.2.2.2.2.1 v.2.2.2.2.2) (v0, v6, v9, v10, v11, b0)
def F_mempoolref16_AddWait (a0 : List D_mempoolref16_Wait) (a1 : D_mempoolref16_Wait) : Option (List D_mempoolref16_Wait × Bool) :=
  F_mempoolref16_AddWait_l2s a0 0 a0 (((List.length a0) : Nat) : Int) 0 a1
def F_mempoollaw18_ExpiryPlays_l3 (v1 : Int) (v2 : Int) (v9 : List D_mempoolref16_Wait) (v18 : Int) (b0_0 : Int) (b0_1 : Int) (l0 : List D_mempoolref16_Wait) : Option ((Int × Int × List D_mempoolref16_Wait × Int × Int × Int × List D_mempoolref16_Wait) ⊕ (Bool)) :=
  sel (decide (v18 < 14)) (
    (F_expiry_Queue_Expired b0_0 b0_1 l0 v18 (wi64 (v18 + 1))).bind fun r5 =>
    (F_mempoolref16_Expired v9 v1 v2 v18 (wi64 (v18 + 1))).bind fun r6 =>
    (F_mempoolref1_SameInts r5.2.2.2 r6).bind fun r7 =>
    sel (!r7) (
      some (.inr false)) (
      some (.inl (v1, v2, v9, (wi64 (v18 + 2)), r5.1, r5.2.1, r5.2.2.1)))) (
    Option.map .inr (
      (F_mempoollaw18_known).bind fun r8 =>
      some r8))
def F_mempoollaw18_ExpiryPlays_l3s (v1 : Int) (v2 : Int) (v9 : List D_mempoolref16_Wait) (v18 : Int) (b0_0 : Int) (b0_1 : Int) (l0 : List D_mempoolref16_Wait) : Option (Bool) :=
  iterO (fun v => F_mempoollaw18_ExpiryPlays_l3 v.1 v.2.1 v.2.2.1 v.2.2.2.1 v.2.2.2.2.1 v.2.2.2.2.2.1 v.2.2.2.2.2.2) (v1, v2, v9, v18, b0_0, b0_1, l0)
def F_mempoollaw18_ExpiryPlays_c2 (v1 : Int) (v2 : Int) (v9 : List D_mempoolref16_Wait) (b0_0 : Int) (b0_1 : Int) (l0 : List D_mempoolref16_Wait) : Option (Bool) :=
  F_mempoollaw18_ExpiryPlays_l3s v1 v2 v9 (-1) b0_0 b0_1 l0
def F_mempoollaw18_ExpiryPlays_l4 (v0 : List Int) (v1 : Int) (v2 : Int) (v9 : List D_mempoolref16_Wait) (b0 : D_mempoolmake_Numbers) (b1_0 : Int) (b1_1 : Int) (l0 : List D_mempoolref16_Wait) : Option ((List Int × Int × Int × List D_mempoolref16_Wait × D_mempoolmake_Numbers × Int × Int × List D_mempoolref16_Wait) ⊕ (Bool)) :=
  sel (decide (b0.2 < (((List.length v0) : Nat) : Int))) (
    (F_mempoolmake_Numbers_Next b0 9).bind fun r9 =>
    (F_mempoolmake_Numbers_Next r9.1 5).bind fun r10 =>
    sel (decide (r10.2 = 0)) (
      (F_mempoolref16_RemoveWait v9 (wi64 (r9.2 - 2))).bind fun r11 =>
      (F_expiry_Queue_Remove b1_0 b1_1 l0 (wi64 (r9.2 - 2))).bind fun r12 =>
      sel (!(beqB r12.2.2.2 r11.2)) (
        some (.inr false)) (
        (F_expiry_Queue_Len r12.1 r12.2.1 r12.2.2.1).bind fun r13 =>
        sel (!decide (r13.2.2.2 = (((List.length r11.1) : Nat) : Int))) (
          some (.inr false)) (
          some (.inl (v0, v1, v2, r11.1, r10.1, r13.1, r13.2.1, r13.2.2.1))))) (
      sel (decide (r10.2 = 1)) (
        (F_mempoollaw18_number r10.1).bind fun r14 =>
        (F_mempoollaw18_number r14.1).bind fun r15 =>
        (F_expiry_Queue_Expired b1_0 b1_1 l0 r14.2 r15.2).bind fun r16 =>
        (F_mempoolref16_Expired v9 v1 v2 r14.2 r15.2).bind fun r17 =>
        (F_mempoolref1_SameInts r16.2.2.2 r17).bind fun r18 =>
        sel (!r18) (
          some (.inr false)) (
          (F_expiry_Queue_Len r16.1 r16.2.1 r16.2.2.1).bind fun r19 =>
          sel (!decide (r19.2.2.2 = (((List.length v9) : Nat) : Int))) (
            some (.inr false)) (
            some (.inl (v0, v1, v2, v9, r15.1, r19.1, r19.2.1, r19.2.2.1))))) (
        (F_mempoollaw18_number r10.1).bind fun r20 =>
        (F_mempoollaw18_number r20.1).bind fun r21 =>
        (F_mempoolref16_AddWait v9 ((wi64 (r9.2 - 2)), r20.2, r21.2)).bind fun r22 =>
        (F_expiry_Queue_Add b1_0 b1_1 l0 (wi64 (r9.2 - 2)) r20.2 r21.2).bind fun r23 =>
        sel (!(beqB r23.2.2.2 r22.2)) (
          some (.inr false)) (
          (F_expiry_Queue_Len r23.1 r23.2.1 r23.2.2.1).bind fun r24 =>
          sel (!decide (r24.2.2.2 = (((List.length r22.1) : Nat) : Int))) (
            some (.inr false)) (
            some (.inl (v0, v1, v2, r22.1, r21.1, r24.1, r24.2.1, r24.2.2.1))))))) (
    Option.map .inr (
      F_mempoollaw18_ExpiryPlays_c2 v1 v2 v9 b1_0 b1_1 l0))
def F_mempoollaw18_ExpiryPlays_l4s (v0 : List Int) (v1 : Int) (v2 : Int) (v9 : List D_mempoolref16_Wait) (b0 : D_mempoolmake_Numbers) (b1_0 : Int) (b1_1 : Int) (l0 : List D_mempoolref16_Wait) : Option (Bool) :=
  iterO (fun v => F_mempoollaw18_ExpiryPlays_l4 v.1 v.2.1 v.2.2.1 v.2.2.2.1 v.2.2.2.2.1 v.2.2.2.2.2.1 v.2.2.2.2.2.2.1 v.2.2.2.2.2.2.2) (v0, v1, v2, v9, b0, b1_0, b1_1, l0)
def F_mempoollaw18_ExpiryPlays_c1 (v0 : List Int) (v1 : Int) (v2 : Int) (b0 : D_mempoolmake_Numbers) : Option (Bool) :=
  (F_expiry_New v1 v2).bind fun r4 =>
  F_mempoollaw18_ExpiryPlays_l4s v0 v1 v2 [] b0 r4.1 r4.2.1 r4.2.2
def F_mempoollaw18_ExpiryPlays (a0 : List Int) (a1 : Int) (a2 : Int) : Option (Bool) :=
  (F_mempoollaw18_long [a0]).bind fun r1 =>
  sel r1 (
    (F_mempoollaw18_known).bind fun r2 =>
    some r2) (
    (F_mempoolmake_From a0).bind fun r3 =>
    (F_mempoolmake_Numbers_Next r3 4).bind fun r25 =>
    sel (decide (0 < r25.2)) (
      (F_mempoolmake_Numbers_Next r25.1 5).bind fun r26 =>
      (F_mempoolmake_Numbers_Next r26.1 6).bind fun r27 =>
      F_mempoollaw18_ExpiryPlays_c1 a0 (wi64 (r26.2 - 1)) (wi64 (r27.2 - 1)) r27.1) (
      F_mempoollaw18_ExpiryPlays_c1 a0 a1 a2 r25.1))
def F_mempoolref1_HasInt_l1 (v1 : Int) (v7 : List Int) (v8 : Int) (v9 : Int) : Option ((Int × List Int × Int × Int) ⊕ (Bool)) :=
  sel (decide (v9 < v8)) (
    chk (decide ((0 : Int) ≤ v9 ∧ v9 < (((List.length v7) : Nat) : Int))) <|
    sel (decide ((List.getD v7 (Int.toNat v9) (0 : Int)) = v1)) (
      some (.inr true)) (
      some (.inl (v1, v7, v8, (wi64 (v9 + 1)))))) (
    some (.inr false))
def F_mempoolref1_HasInt_l1s (v1 : Int) (v7 : List Int) (v8 : Int) (v9 : Int) : Option (Bool) :=
  iterO (fun v => F_mempoolref1_HasInt_l1 v.1 v.2.1 v.2.2.1 v.2.2.2) (v1, v7, v8, v9)
def F_mempoolref1_HasInt (a0 : List Int) (a1 : Int) : Option (Bool) :=
  F_mempoolref1_HasInt_l1s a1 a0 (((List.length a0) : Nat) : Int) 0
def F_mempoollaw18_ExpiryStays_c2 (v13 : Int) (v14 : Int) (b0_0 : Int) (b0_1 : Int) (l0 : List D_mempoolref16_Wait) (l1 : List Int) (l2 : List Int) : Option (Bool) :=
  (F_expiry_Queue_Expired b0_0 b0_1 l0 v13 v14).bind fun r13 =>
  (F_mempoolref1_SameInts r13.2.2.2 l1).bind fun r14 =>
  sel r14 (
    (F_expiry_Queue_Len r13.1 r13.2.1 r13.2.2.1).bind fun r15 =>
    sel (decide ((((List.length l2) : Nat) : Int) ≤ r15.2.2.2)) (
      (F_mempoollaw18_known).bind fun r16 =>
      some r16) (
      some false)) (
    some false)
def F_mempoollaw18_ExpiryStays_l3 (v13 : Int) (v14 : Int) (v66 : Int) (v67 : Int) (b0_0 : Int) (b0_1 : Int) (l0 : List D_mempoolref16_Wait) (l1 : List Int) (l2 : List Int) : Option ((Int × Int × Int × Int × Int × Int × List D_mempoolref16_Wait × List Int × List Int) ⊕ (Bool)) :=
  sel (decide (v67 < v66)) (
    chk (decide ((0 : Int) ≤ v67 ∧ v67 < (((List.length l1) : Nat) : Int))) <|
    chk (decide ((Int.toNat v67) < (List.length l1))) <|
    (F_mempoolref1_HasInt l2 (List.getD l1 (Int.toNat v67) (0 : Int))).bind fun r17 =>
    sel (!r17) (
      some (.inr false)) (
      some (.inl (v13, v14, v66, (wi64 (v67 + 1)), b0_0, b0_1, l0, l1, l2)))) (
    Option.map .inr (
      F_mempoollaw18_ExpiryStays_c2 v13 v14 b0_0 b0_1 l0 l1 l2))
def F_mempoollaw18_ExpiryStays_l3s (v13 : Int) (v14 : Int) (v66 : Int) (v67 : Int) (b0_0 : Int) (b0_1 : Int) (l0 : List D_mempoolref16_Wait) (l1 : List Int) (l2 : List Int) : Option (Bool) :=
  iterO (fun v => F_mempoollaw18_ExpiryStays_l3 v.1 v.2.1 v.2.2.1 v.2.2.2.1 v.2.2.2.2.1 v.2.2.2.2.2.1 v.2.2.2.2.2.2.1 v.2.2.2.2.2.2.2.1 v.2.2.2.2.2.2.2.2) (v13, v14, v66, v67, b0_0, b0_1, l0, l1, l2)
def F_mempoollaw18_ExpiryStays_c1 (v1 : Int) (v2 : Int) (v3 : Int) (v4 : Int) (b0_0 : Int) (b0_1 : Int) (l0 : List D_mempoolref16_Wait) : Option (Bool) :=
  (F_mempoolmake_Place v1 25).bind fun r7 =>
  (F_mempoolmake_Place v2 30).bind fun r8 =>
  (F_expiry_Queue_Expired b0_0 b0_1 l0 r7 r8).bind fun r9 =>
  (F_mempoolmake_Place v3 9).bind fun r10 =>
  (F_mempoolmake_Place v4 9).bind fun r11 =>
  (F_expiry_Queue_Expired r9.1 r9.2.1 r9.2.2.1 (wi64 (r7 + r10)) (wi64 (r8 + r11))).bind fun r12 =>
  F_mempoollaw18_ExpiryStays_l3s r7 r8 (((List.length r9.2.2.2) : Nat) : Int) 0 r12.1 r12.2.1 r12.2.2.1 r9.2.2.2 r12.2.2.2
def F_mempoollaw18_ExpiryStays_l4 (v0 : List Int) (v1 : Int) (v2 : Int) (v3 : Int) (v4 : Int) (b0 : D_mempoolmake_Numbers) (b1_0 : Int) (b1_1 : Int) (l0 : List D_mempoolref16_Wait) : Option ((List Int × Int × Int × Int × Int × D_mempoolmake_Numbers × Int × Int × List D_mempoolref16_Wait) ⊕ (Bool)) :=
  sel (decide (b0.2 < (((List.length v0) : Nat) : Int))) (
    (F_mempoolmake_Numbers_Next b0 30).bind fun r18 =>
    (F_mempoolmake_Numbers_Next r18.1 15).bind fun r19 =>
    (F_mempoolmake_Numbers_Next r19.1 20).bind fun r20 =>
    (F_expiry_Queue_Add b1_0 b1_1 l0 r18.2 r19.2 r20.2).bind fun r21 =>
    some (.inl (v0, v1, v2, v3, v4, r20.1, r21.1, r21.2.1, r21.2.2.1))) (
    Option.map .inr (
      F_mempoollaw18_ExpiryStays_c1 v1 v2 v3 v4 b1_0 b1_1 l0))
def F_mempoollaw18_ExpiryStays_l4s (v0 : List Int) (v1 : Int) (v2 : Int) (v3 : Int) (v4 : Int) (b0 : D_mempoolmake_Numbers) (b1_0 : Int) (b1_1 : Int) (l0 : List D_mempoolref16_Wait) : Option (Bool) :=
  iterO (fun v => F_mempoollaw18_ExpiryStays_l4 v.1 v.2.1 v.2.2.1 v.2.2.2.1 v.2.2.2.2.1 v.2.2.2.2.2.1 v.2.2.2.2.2.2.1 v.2.2.2.2.2.2.2.1 v.2.2.2.2.2.2.2.2) (v0, v1, v2, v3, v4, b0, b1_0, b1_1, l0)
def F_mempoollaw18_ExpiryStays (a0 : List Int) (a1 : Int) (a2 : Int) (a3 : Int) (a4 : Int) : Option (Bool) :=
  (F_mempoollaw18_long [a0]).bind fun r1 =>
  sel r1 (
    (F_mempoollaw18_known).bind fun r2 =>
    some r2) (
    (F_mempoolmake_From a0).bind fun r3 =>
    (F_mempoolmake_Numbers_Next r3 4).bind fun r4 =>
    (F_mempoolmake_Numbers_Next r4.1 5).bind fun r5 =>
    (F_expiry_New r4.2 r5.2).bind fun r6 =>
    F_mempoollaw18_ExpiryStays_l4s a0 a1 a2 a3 a4 r5.1 r6.1 r6.2.1 r6.2.2)
def F_expiry_Queue_Add_nil (_a1 : Int) (_a2 : Int) (_a3 : Int) : Option (Bool) :=
  some false
def F_expiry_Queue_Remove_nil (_a1 : Int) : Option (Bool) :=
  some false
def F_expiry_Queue_Expired_nil (_a1 : Int) (_a2 : Int) : Option (List Int) :=
  some []
def F_expiry_Queue_Len_nil : Option (Int) :=
  some 0
def F_mempoollaw18_ExpiryEdges (a0 : Int) (a1 : Int) : Option (Bool) :=
  (F_mempoolmake_Place a1 1099511627776).bind fun r1 =>
  (F_mempoolmake_Place a0 1152921504606846976).bind fun r2 =>
  (F_expiry_New (wi64 (1 + r1)) 0).bind fun r3 =>
  (F_expiry_New 0 (wi64 (1 + r1))).bind fun r4 =>
  (F_expiry_Queue_Add r3.1 r3.2.1 r3.2.2 1 (wi64 (r2 - 576460752303423488)) 0).bind fun r5 =>
  (F_expiry_Queue_Add r4.1 r4.2.1 r4.2.2 1 0 (wi64 (r2 - 576460752303423488))).bind fun r6 =>
  (F_expiry_Queue_Add r5.1 r5.2.1 r5.2.2.1 2 9223372036854775807 0).bind fun r7 =>
  (F_expiry_Queue_Add r6.1 r6.2.1 r6.2.2.1 3 0 (-9223372036854775808)).bind fun r8 =>
  (F_expiry_Queue_Expired r7.1 r7.2.1 r7.2.2.1 (wi64 ((wi64 (r2 - 576460752303423488)) + (wi64 (1 + r1)))) 0).bind fun r9 =>
  sel (decide ((((List.length r9.2.2.2) : Nat) : Int) = 0)) (
    (F_expiry_Queue_Expired r9.1 r9.2.1 r9.2.2.1 (wi64 ((wi64 ((wi64 (r2 - 576460752303423488)) + (wi64 (1 + r1)))) + 1)) 0).bind fun r10 =>
    (F_mempoolref1_SameInts r10.2.2.2 [1]).bind fun r11 =>
    sel r11 (
      (F_expiry_Queue_Expired r8.1 r8.2.1 r8.2.2.1 0 (wi64 ((wi64 (r2 - 576460752303423488)) + (wi64 (1 + r1))))).bind fun r12 =>
      (F_mempoolref1_SameInts r12.2.2.2 [3]).bind fun r13 =>
      sel r13 (
        (F_expiry_Queue_Expired r12.1 r12.2.1 r12.2.2.1 0 (wi64 ((wi64 ((wi64 (r2 - 576460752303423488)) + (wi64 (1 + r1)))) + 1))).bind fun r14 =>
        (F_mempoolref1_SameInts r14.2.2.2 [1, 3]).bind fun r15 =>
        sel r15 (
          (F_expiry_Queue_Expired r10.1 r10.2.1 r10.2.2.1 9223372036854775807 5).bind fun r16 =>
          (F_mempoolref1_SameInts r16.2.2.2 [1]).bind fun r17 =>
          sel r17 (
            (F_expiry_Queue_Expired r14.1 r14.2.1 r14.2.2.1 9223372036854775807 (-9223372036854775808)).bind fun r18 =>
            sel (decide ((((List.length r18.2.2.2) : Nat) : Int) = 0)) (
              (F_expiry_Queue_Add_nil 1 (wi64 (r2 - 576460752303423488)) (wi64 (r2 - 576460752303423488))).bind fun r19 =>
              sel (!r19) (
                (F_expiry_Queue_Remove_nil 1).bind fun r20 =>
                sel (!r20) (
                  (F_expiry_Queue_Expired_nil (wi64 (r2 - 576460752303423488)) (wi64 (r2 - 576460752303423488))).bind fun r21 =>
                  sel (decide ((((List.length r21) : Nat) : Int) = 0)) (
                    (F_expiry_Queue_Len_nil).bind fun r22 =>
                    sel (decide (r22 = 0)) (
                      (F_mempoollaw18_known).bind fun r23 =>
                      some r23) (
                      some false)) (
                    some false)) (
                  some false)) (
                some false)) (
              some false)) (
            some false)) (
          some false)) (
        some false)) (
      some false)) (
    some false)
end Go.Proofs.Ytaminglbenglfaa.Am
