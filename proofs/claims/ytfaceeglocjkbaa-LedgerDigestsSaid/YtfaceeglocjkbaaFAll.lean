/- What functions of the program compute on plain data. No conditions. -/
import Derived.Test.YtfaceeglocjkbaaInsAcc
import Derived.Test.YtfaceeglocjkbaaLedCmp
import Derived.Test.YtfaceeglocjkbaaMoneyAdd
import Derived.Test.YtfaceeglocjkbaaAmTab
import Derived.Test.YtfaceeglocjkbaaKD
namespace Go.Proofs.Ytfaceeglocjkbaa.Am
open Go
def U_runtime_errorAddressString : U := (.pr .str (.int .u64))
abbrev D_runtime_errorAddressString : Type := List UInt8 × Int
def d_runtime_errorAddressString : D_runtime_errorAddressString := ([], (0 : Int))
def U_mempoolmake_Numbers : U := (.pr (.sl (.int .i64)) (.int .i64))
abbrev D_mempoolmake_Numbers : Type := List Int × Int
def d_mempoolmake_Numbers : D_mempoolmake_Numbers := ([], (0 : Int))
def U_api_Account : U := (.pr .str (.pr (.int .u64) (.int .u64)))
abbrev D_api_Account : Type := List UInt8 × Int × Int
def d_api_Account : D_api_Account := ([], (0 : Int), (0 : Int))
def U_runtime_boundsError : U := (.pr (.int .i64) (.pr (.int .i64) (.pr .bool .byte)))
abbrev D_runtime_boundsError : Type := Int × Int × Bool × UInt8
def d_runtime_boundsError : D_runtime_boundsError := ((0 : Int), (0 : Int), false, (0 : UInt8))
def U_sha_Digest : U := (.pr (.arr 8 (.int .u32)) (.pr (.sl .byte) (.int .i64)))
abbrev D_sha_Digest : Type := Vector Int 8 × List UInt8 × Int
def d_sha_Digest : D_sha_Digest := ((Vector.replicate 8 (0 : Int)), [], (0 : Int))
def U_api_Ledger : U := (.pr (.sl (.pr .str (.pr (.int .u64) (.int .u64)))) (.int .u64))
abbrev D_api_Ledger : Type := List D_api_Account × Int
def d_api_Ledger : D_api_Ledger := ([], (0 : Int))
def U_api_Field : U := (.pr (.int .i64) (.pr (.int .i64) (.pr (.int .u64) (.sl .byte))))
abbrev D_api_Field : Type := Int × Int × Int × List UInt8
def d_api_Field : D_api_Field := ((0 : Int), (0 : Int), (0 : Int), [])
def F_mempoollaw11_long_l1 (v3 : Int) (v6 : List (List Int)) (v7 : Int) (v8 : Int) : Option ((Int × List (List Int) × Int × Int) ⊕ (Bool)) :=
  sel (decide (v8 < v7)) (
    chk (decide ((0 : Int) ≤ v8 ∧ v8 < (((List.length v6) : Nat) : Int))) <|
    some (.inl ((wi64 (v3 + (((List.length (List.getD v6 (Int.toNat v8) [])) : Nat) : Int))), v6, v7, (wi64 (v8 + 1))))) (
    some (.inr (decide (160 < v3))))
def F_mempoollaw11_long_l1s (v3 : Int) (v6 : List (List Int)) (v7 : Int) (v8 : Int) : Option (Bool) :=
  iterO (fun v => F_mempoollaw11_long_l1 v.1 v.2.1 v.2.2.1 v.2.2.2) (v3, v6, v7, v8)
def F_mempoollaw11_long (a0 : List (List Int)) : Option (Bool) :=
  F_mempoollaw11_long_l1s 0 a0 (((List.length a0) : Nat) : Int) 0
def F_mempoollaw11_big_l1 (v3 : Int) (v8 : List D_api_Account) (v9 : Int) (v10 : Int) : Option ((Int × List D_api_Account × Int × Int) ⊕ (Bool)) :=
  sel (decide (v10 < v9)) (
    chk (decide ((0 : Int) ≤ v10 ∧ v10 < (((List.length v8) : Nat) : Int))) <|
    some (.inl ((wi64 (v3 + (((List.length (List.getD v8 (Int.toNat v10) d_api_Account).1) : Nat) : Int))), v8, v9, (wi64 (v10 + 1))))) (
    some (.inr (decide (300 < v3))))
def F_mempoollaw11_big_l1s (v3 : Int) (v8 : List D_api_Account) (v9 : Int) (v10 : Int) : Option (Bool) :=
  iterO (fun v => F_mempoollaw11_big_l1 v.1 v.2.1 v.2.2.1 v.2.2.2) (v3, v8, v9, v10)
def F_mempoollaw11_big (a0 : List D_api_Account) : Option (Bool) :=
  F_mempoollaw11_big_l1s (((List.length a0) : Nat) : Int) a0 (((List.length a0) : Nat) : Int) 0
def F_tx_IsName_c1 (v0 : List UInt8) : Option (Bool) :=
  sel (decide (1 ≤ (((List.length v0) : Nat) : Int))) (
    some (decide ((((List.length v0) : Nat) : Int) ≤ 20))) (
    some false)
def F_tx_IsName_l2 (v0 : List UInt8) (v6 : Int) (v7 : Int) : Option ((List UInt8 × Int × Int) ⊕ (Bool)) :=
  sel (decide (v7 < v6)) (
    chk (decide ((0 : Int) ≤ v7 ∧ v7 < (((List.length v0) : Nat) : Int))) <|
    sel (decide (((UInt8.toNat (List.getD v0 (Int.toNat v7) (0 : UInt8)) : Nat) : Int) < 97)) (
      sel (decide (((UInt8.toNat (List.getD v0 (Int.toNat v7) (0 : UInt8)) : Nat) : Int) < 48)) (
        sel (!decide (((UInt8.toNat (List.getD v0 (Int.toNat v7) (0 : UInt8)) : Nat) : Int) = 45)) (
          some (.inr false)) (
          some (.inl (v0, v6, (wi64 (v7 + 1)))))) (
        sel (decide (57 < ((UInt8.toNat (List.getD v0 (Int.toNat v7) (0 : UInt8)) : Nat) : Int))) (
          sel (!decide (((UInt8.toNat (List.getD v0 (Int.toNat v7) (0 : UInt8)) : Nat) : Int) = 45)) (
            some (.inr false)) (
            some (.inl (v0, v6, (wi64 (v7 + 1)))))) (
          some (.inl (v0, v6, (wi64 (v7 + 1))))))) (
      sel (decide (122 < ((UInt8.toNat (List.getD v0 (Int.toNat v7) (0 : UInt8)) : Nat) : Int))) (
        sel (decide (((UInt8.toNat (List.getD v0 (Int.toNat v7) (0 : UInt8)) : Nat) : Int) < 48)) (
          sel (!decide (((UInt8.toNat (List.getD v0 (Int.toNat v7) (0 : UInt8)) : Nat) : Int) = 45)) (
            some (.inr false)) (
            some (.inl (v0, v6, (wi64 (v7 + 1)))))) (
          sel (decide (57 < ((UInt8.toNat (List.getD v0 (Int.toNat v7) (0 : UInt8)) : Nat) : Int))) (
            sel (!decide (((UInt8.toNat (List.getD v0 (Int.toNat v7) (0 : UInt8)) : Nat) : Int) = 45)) (
              some (.inr false)) (
              some (.inl (v0, v6, (wi64 (v7 + 1)))))) (
            some (.inl (v0, v6, (wi64 (v7 + 1))))))) (
        some (.inl (v0, v6, (wi64 (v7 + 1))))))) (
    Option.map .inr (
      F_tx_IsName_c1 v0))
def F_tx_IsName_l2s (v0 : List UInt8) (v6 : Int) (v7 : Int) : Option (Bool) :=
  iterO (fun v => F_tx_IsName_l2 v.1 v.2.1 v.2.2) (v0, v6, v7)
def F_tx_IsName (a0 : List UInt8) : Option (Bool) :=
  F_tx_IsName_l2s a0 (((List.length a0) : Nat) : Int) 0
def F_slices_Clone_api_Account_api_Account (a0 : List D_api_Account) : Option (List D_api_Account) := cloneF (u := U_api_Account) 32 a0
def F_own_Ledger (a0 : D_api_Ledger) : Option (List D_api_Account × Int) :=
  (F_slices_Clone_api_Account_api_Account a0.1).bind fun r1 =>
  some (r1, a0.2)
def F_money_Sum_l1 (v4 : Int) (v9 : List Int) (v10 : Int) (v11 : Int) : Option ((Int × List Int × Int × Int) ⊕ (Int × Bool)) :=
  sel (decide (v11 < v10)) (
    chk (decide ((0 : Int) ≤ v11 ∧ v11 < (((List.length v9) : Nat) : Int))) <|
    (F_money_Add v4 (List.getD v9 (Int.toNat v11) (0 : Int))).bind fun r1 =>
    sel (!r1.2) (
      some (.inr (0, false))) (
      some (.inl (r1.1, v9, v10, (wi64 (v11 + 1)))))) (
    some (.inr (v4, true)))
def F_money_Sum_l1s (v4 : Int) (v9 : List Int) (v10 : Int) (v11 : Int) : Option (Int × Bool) :=
  iterO (fun v => F_money_Sum_l1 v.1 v.2.1 v.2.2.1 v.2.2.2) (v4, v9, v10, v11)
def F_money_Sum (a0 : List Int) : Option (Int × Bool) :=
  F_money_Sum_l1s 0 a0 (((List.length a0) : Nat) : Int) 0
def F_ledger_Total_c1 (l0 : List Int) : Option (Int × Bool) :=
  (F_money_Sum l0).bind fun r1 =>
  some (r1.1, r1.2)
def F_ledger_Total_l2 (v11 : List D_api_Account) (v12 : Int) (v13 : Int) (l0 : List Int) : Option ((List D_api_Account × Int × Int × List Int) ⊕ (Int × Bool)) :=
  sel (decide (v13 < v12)) (
    chk (decide ((0 : Int) ≤ v13 ∧ v13 < (((List.length v11) : Nat) : Int))) <|
    chk (decide (((List.length l0) + 1) * 8 ≤ LIM ∧ (List.length l0) + 1 ≤ LEN)) <|
    some (.inl (v11, v12, (wi64 (v13 + 1)), (l0 ++ [(List.getD v11 (Int.toNat v13) d_api_Account).2.1])))) (
    Option.map .inr (
      F_ledger_Total_c1 l0))
def F_ledger_Total_l2s (v11 : List D_api_Account) (v12 : Int) (v13 : Int) (l0 : List Int) : Option (Int × Bool) :=
  iterO (fun v => F_ledger_Total_l2 v.1 v.2.1 v.2.2.1 v.2.2.2) (v11, v12, v13, l0)
def F_ledger_Total (a0 : D_api_Ledger) : Option (Int × Bool) :=
  F_ledger_Total_l2s a0.1 (((List.length a0.1) : Nat) : Int) 0 [a0.2]
def F_slices_SortFunc_api_Account_api_Account_of_ledger_Genesis_1 (a0 : List D_api_Account) : Option (List D_api_Account) := chk (Nat.blt a0.length 4611686018427387904) (some (pdqL (d_api_Account) cfAcc a0))
def F_ledger_Genesis_c1 (v0 : List D_api_Account) (_b0 : D_api_Ledger) : Option (D_api_Ledger × Int) :=
  (F_own_Ledger (v0, (0 : Int))).bind fun r1 =>
  (F_ledger_Total r1).bind fun r2 =>
  sel (!r2.2) (
    some (([], (0 : Int)), 6)) (
    (F_slices_SortFunc_api_Account_api_Account_of_ledger_Genesis_1 r1.1).bind fun r3 =>
    some ((r3, r1.2), 0))
def F_ledger_Genesis_l2 (v0 : List D_api_Account) (v17 : List D_api_Account) (v18 : Int) (v19 : Int) (b0 : D_api_Ledger) (l0 : List (List UInt8 × Vector UInt8 0)) : Option ((List D_api_Account × List D_api_Account × Int × Int × D_api_Ledger × List (List UInt8 × Vector UInt8 0)) ⊕ (D_api_Ledger × Int)) :=
  sel (decide (v19 < v18)) (
    chk (decide ((0 : Int) ≤ v19 ∧ v19 < (((List.length v17) : Nat) : Int))) <|
    (F_tx_IsName (List.getD v17 (Int.toNat v19) d_api_Account).1).bind fun r4 =>
    sel (!r4) (
      some (.inr (([], (0 : Int)), 10))) (
      sel (Option.isSome (mIdx strEq (List.getD v17 (Int.toNat v19) d_api_Account).1 l0)) (
        some (.inr (([], (0 : Int)), 8))) (
        some (.inl (v0, v17, v18, (wi64 (v19 + 1)), b0, (mSet strEq (List.getD v17 (Int.toNat v19) d_api_Account).1 (Vector.replicate 0 (0 : UInt8)) l0)))))) (
    Option.map .inr (
      F_ledger_Genesis_c1 v0 b0))
def F_ledger_Genesis_l2s (v0 : List D_api_Account) (v17 : List D_api_Account) (v18 : Int) (v19 : Int) (b0 : D_api_Ledger) (l0 : List (List UInt8 × Vector UInt8 0)) : Option (D_api_Ledger × Int) :=
  iterO (fun v => F_ledger_Genesis_l2 v.1 v.2.1 v.2.2.1 v.2.2.2.1 v.2.2.2.2.1 v.2.2.2.2.2) (v0, v17, v18, v19, b0, l0)
def F_ledger_Genesis (a0 : List D_api_Account) : Option (D_api_Ledger × Int) :=
  sel (decide (256 < (((List.length a0) : Nat) : Int))) (
    some (([], (0 : Int)), 3)) (
    F_ledger_Genesis_l2s a0 a0 (((List.length a0) : Nat) : Int) 0 ([], (0 : Int)) [])
def F_ledger_Validate_c1 (b0 : D_api_Ledger) : Option (Int) :=
  (F_ledger_Total b0).bind fun r1 =>
  sel (!r1.2) (
    some 6) (
    some 0)
def F_ledger_Validate_c3 (v3 : Int) (v12 : List D_api_Account) (v13 : Int) (v14 : Int) (v24 : Bool) (b0 : D_api_Ledger) (b1 : D_api_Account) : Option ((List D_api_Account × Int × Int × D_api_Ledger) ⊕ (Int)) :=
  sel v24 (
    some (.inr 8)) (
    sel (decide (0 < v3)) (
      chk (decide ((0 : Int) ≤ (wi64 (v3 - 1)) ∧ (wi64 (v3 - 1)) < (((List.length b0.1) : Nat) : Int))) <|
      sel (!(Op.bytesLess (List.getD b0.1 (Int.toNat (wi64 (v3 - 1))) d_api_Account).1 b1.1 || decide ((List.getD b0.1 (Int.toNat (wi64 (v3 - 1))) d_api_Account).1 = b1.1))) (
        some (.inr 1)) (
        some (.inl (v12, v13, (wi64 (v14 + 1)), b0)))) (
      some (.inl (v12, v13, (wi64 (v14 + 1)), b0))))
def F_ledger_Validate_l2 (v12 : List D_api_Account) (v13 : Int) (v14 : Int) (b0 : D_api_Ledger) : Option ((List D_api_Account × Int × Int × D_api_Ledger) ⊕ (Int)) :=
  sel (decide (v14 < v13)) (
    chk (decide ((0 : Int) ≤ v14 ∧ v14 < (((List.length v12) : Nat) : Int))) <|
    (F_tx_IsName (List.getD v12 (Int.toNat v14) d_api_Account).1).bind fun r2 =>
    sel (!r2) (
      some (.inr 10)) (
      sel (decide (0 < v14)) (
        chk (decide ((0 : Int) ≤ (wi64 (v14 - 1)) ∧ (wi64 (v14 - 1)) < (((List.length b0.1) : Nat) : Int))) <|
        F_ledger_Validate_c3 v14 v12 v13 v14 (decide ((List.getD b0.1 (Int.toNat (wi64 (v14 - 1))) d_api_Account).1 = (List.getD v12 (Int.toNat v14) d_api_Account).1)) b0 (List.getD v12 (Int.toNat v14) d_api_Account)) (
        F_ledger_Validate_c3 v14 v12 v13 v14 false b0 (List.getD v12 (Int.toNat v14) d_api_Account)))) (
    Option.map .inr (
      F_ledger_Validate_c1 b0))
def F_ledger_Validate_l2s (v12 : List D_api_Account) (v13 : Int) (v14 : Int) (b0 : D_api_Ledger) : Option (Int) :=
  iterO (fun v => F_ledger_Validate_l2 v.1 v.2.1 v.2.2.1 v.2.2.2) (v12, v13, v14, b0)
def F_ledger_Validate (a0 : D_api_Ledger) : Option (Int) :=
  sel (decide (256 < (((List.length a0.1) : Nat) : Int))) (
    some 3) (
    F_ledger_Validate_l2s a0.1 (((List.length a0.1) : Nat) : Int) 0 a0)
def F_cmp_isNaN_string (a0 : List UInt8) : Option (Bool) :=
  some (!decide (a0 = a0))
def F_cmp_Compare_string (a0 : List UInt8) (a1 : List UInt8) : Option (Int) :=
  (F_cmp_isNaN_string a0).bind fun r1 =>
  (F_cmp_isNaN_string a1).bind fun r2 =>
  sel r1 (
    sel r2 (
      some 0) (
      some (-1))) (
    sel r2 (
      some 1) (
      sel (Op.bytesLess a0 a1) (
        some (-1)) (
        sel (!(Op.bytesLess a0 a1 || decide (a0 = a1))) (
          some 1) (
          some 0))))
def F_ledger_Set_1 (a0 : D_api_Account) (a1 : List UInt8) : Option (Int) :=
  (F_cmp_Compare_string a0.1 a1).bind fun r1 =>
  some r1
def F_slices_BinarySearchFunc_api_Account_api_Account_string_of_ledger_Set_1_c1 (v0 : List D_api_Account) (v1 : List UInt8) (v8 : Int) (v9 : Int) : Option (Int × Bool) :=
  sel (decide (v9 < v8)) (
    chk (decide ((0 : Int) ≤ v9 ∧ v9 < (((List.length v0) : Nat) : Int))) <|
    (F_ledger_Set_1 (List.getD v0 (Int.toNat v9) d_api_Account) v1).bind fun r1 =>
    some (v9, (decide (r1 = 0)))) (
    some (v9, false))
def F_slices_BinarySearchFunc_api_Account_api_Account_string_of_ledger_Set_1_l2 (v0 : List D_api_Account) (v1 : List UInt8) (v8 : Int) (v9 : Int) (v10 : Int) : Option ((List D_api_Account × List UInt8 × Int × Int × Int) ⊕ (Int × Bool)) :=
  sel (decide (v9 < v10)) (
    chk (decide ((0 : Int) ≤ (wi64 ((wu64 (wi64 (v9 + v10))) / 2 ^ 1)) ∧ (wi64 ((wu64 (wi64 (v9 + v10))) / 2 ^ 1)) < (((List.length v0) : Nat) : Int))) <|
    (F_ledger_Set_1 (List.getD v0 (Int.toNat (wi64 ((wu64 (wi64 (v9 + v10))) / 2 ^ 1))) d_api_Account) v1).bind fun r2 =>
    sel (decide (r2 < 0)) (
      some (.inl (v0, v1, v8, (wi64 ((wi64 ((wu64 (wi64 (v9 + v10))) / 2 ^ 1)) + 1)), v10))) (
      some (.inl (v0, v1, v8, v9, (wi64 ((wu64 (wi64 (v9 + v10))) / 2 ^ 1)))))) (
    Option.map .inr (
      F_slices_BinarySearchFunc_api_Account_api_Account_string_of_ledger_Set_1_c1 v0 v1 v8 v9))
def F_slices_BinarySearchFunc_api_Account_api_Account_string_of_ledger_Set_1_l2s (v0 : List D_api_Account) (v1 : List UInt8) (v8 : Int) (v9 : Int) (v10 : Int) : Option (Int × Bool) :=
  iterO (fun v => F_slices_BinarySearchFunc_api_Account_api_Account_string_of_ledger_Set_1_l2 v.1 v.2.1 v.2.2.1 v.2.2.2.1 v.2.2.2.2) (v0, v1, v8, v9, v10)
def F_slices_BinarySearchFunc_api_Account_api_Account_string_of_ledger_Set_1 (a0 : List D_api_Account) (a1 : List UInt8) : Option (Int × Bool) :=
  F_slices_BinarySearchFunc_api_Account_api_Account_string_of_ledger_Set_1_l2s a0 a1 (((List.length a0) : Nat) : Int) 0 (((List.length a0) : Nat) : Int)
def F_slices_Insert_api_Account_api_Account (a0 : List D_api_Account) (a1 : Int) (a2 : List D_api_Account) : Option (List D_api_Account) := insX a0 a1 a2
def F_ledger_Set_c2 (_b0 : D_api_Ledger) (b1_1 : Int) (l0 : List D_api_Account) : Option (D_api_Ledger × Int) :=
  (F_ledger_Total (l0, b1_1)).bind fun r5 =>
  sel (!r5.2) (
    some (([], (0 : Int)), 6)) (
    some ((l0, b1_1), 0))
def F_ledger_Set_c1 (v7 : Int) (v8 : Bool) (b0 : D_api_Ledger) (b1 : D_api_Account) (b2 : D_api_Ledger) : Option (D_api_Ledger × Int) :=
  (F_own_Ledger b0).bind fun r4 =>
  sel v8 (
    chk (decide ((0 : Int) ≤ v7 ∧ v7 < (((List.length r4.1) : Nat) : Int))) <|
    chk (decide ((Int.toNat v7) < (List.length r4.1))) <|
    F_ledger_Set_c2 b2 r4.2 (List.set r4.1 (Int.toNat v7) b1)) (
    (F_slices_Insert_api_Account_api_Account r4.1 v7 [b1]).bind fun r6 =>
    F_ledger_Set_c2 b2 r4.2 r6)
def F_ledger_Set (a0 : D_api_Ledger) (a1 : D_api_Account) : Option (D_api_Ledger × Int) :=
  (F_ledger_Validate a0).bind fun r1 =>
  sel (!decide (r1 = 0)) (
    some (([], (0 : Int)), r1)) (
    (F_tx_IsName a1.1).bind fun r2 =>
    sel (!r2) (
      some (([], (0 : Int)), 10)) (
      (F_slices_BinarySearchFunc_api_Account_api_Account_string_of_ledger_Set_1 a0.1 a1.1).bind fun r3 =>
      sel (!r3.2) (
        sel (decide ((((List.length a0.1) : Nat) : Int) = 256)) (
          some (([], (0 : Int)), 3)) (
          F_ledger_Set_c1 r3.1 r3.2 a0 a1 ([], (0 : Int)))) (
        F_ledger_Set_c1 r3.1 r3.2 a0 a1 ([], (0 : Int)))))
def F_ledger_Get_l1 (v1 : List UInt8) (v9 : List D_api_Account) (v10 : Int) (v11 : Int) (b0 : D_api_Account) : Option ((List UInt8 × List D_api_Account × Int × Int × D_api_Account) ⊕ (D_api_Account × Bool)) :=
  sel (decide (v11 < v10)) (
    chk (decide ((0 : Int) ≤ v11 ∧ v11 < (((List.length v9) : Nat) : Int))) <|
    sel (decide ((List.getD v9 (Int.toNat v11) d_api_Account).1 = v1)) (
      some (.inr ((List.getD v9 (Int.toNat v11) d_api_Account), true))) (
      some (.inl (v1, v9, v10, (wi64 (v11 + 1)), b0)))) (
    some (.inr (([], (0 : Int), (0 : Int)), false)))
def F_ledger_Get_l1s (v1 : List UInt8) (v9 : List D_api_Account) (v10 : Int) (v11 : Int) (b0 : D_api_Account) : Option (D_api_Account × Bool) :=
  iterO (fun v => F_ledger_Get_l1 v.1 v.2.1 v.2.2.1 v.2.2.2.1 v.2.2.2.2) (v1, v9, v10, v11, b0)
def F_ledger_Get (a0 : D_api_Ledger) (a1 : List UInt8) : Option (D_api_Account × Bool) :=
  F_ledger_Get_l1s a1 a0.1 (((List.length a0.1) : Nat) : Int) 0 ([], (0 : Int), (0 : Int))
def F_mempoollaw11_known : Option (Bool) :=
  (F_ledger_Genesis [([(98 : UInt8)], 3, (0 : Int)), ([(97 : UInt8)], 4, 1)]).bind fun r1 =>
  sel (!decide (r1.2 = 0)) (
    some false) (
    sel (!decide ((((List.length r1.1.1) : Nat) : Int) = 2)) (
      some false) (
      (F_ledger_Set r1.1 ([(97 : UInt8), (97 : UInt8)], 1, (0 : Int))).bind fun r2 =>
      (F_ledger_Total r2.1).bind fun r3 =>
      (F_ledger_Get r2.1 [(97 : UInt8)]).bind fun r4 =>
      chk (decide ((0 : Int) ≤ 0 ∧ 0 < (((List.length r1.1.1) : Nat) : Int))) <|
      sel (decide ((List.getD r1.1.1 0 d_api_Account).1 = [(97 : UInt8)])) (
        sel (decide (r2.2 = 0)) (
          sel (decide ((((List.length r2.1.1) : Nat) : Int) = 3)) (
            chk (decide ((0 : Int) ≤ 1 ∧ 1 < (((List.length r2.1.1) : Nat) : Int))) <|
            sel (decide ((List.getD r2.1.1 1 d_api_Account).1 = [(97 : UInt8), (97 : UInt8)])) (
              sel (decide (r3.1 = 8)) (
                sel r3.2 (
                  sel r4.2 (
                    sel (decide (r4.1.2.2 = 1)) (
                      (F_ledger_Validate r2.1).bind fun r5 =>
                      some (decide (r5 = 0))) (
                      some false)) (
                    some false)) (
                  some false)) (
                some false)) (
              some false)) (
            some false)) (
          some false)) (
        some false)))
def F_mempoolmake_From (a0 : List Int) : Option (D_mempoolmake_Numbers) :=
  some (a0, (0 : Int))
def F_mempoolmake_Place (a0 : Int) (a1 : Int) : Option (Int) :=
  chk (!decide (a1 = 0)) <|
  sel (decide ((Int.tmod a0 a1) < 0)) (
    some (wi64 ((Int.tmod a0 a1) + a1))) (
    some (Int.tmod a0 a1))
def F_mempoolmake_Numbers_Next_c1 (v1 : Int) (v5 : Int) (b0 : D_mempoolmake_Numbers) : Option (D_mempoolmake_Numbers × Int) :=
  (F_mempoolmake_Place v5 v1).bind fun r1 =>
  some ((b0.1, (wi64 (b0.2 + 1))), r1)
def F_mempoolmake_Numbers_Next (a0 : D_mempoolmake_Numbers) (a1 : Int) : Option (D_mempoolmake_Numbers × Int) :=
  sel (decide (a0.2 < (((List.length a0.1) : Nat) : Int))) (
    chk (decide ((0 : Int) ≤ a0.2 ∧ a0.2 < (((List.length a0.1) : Nat) : Int))) <|
    F_mempoolmake_Numbers_Next_c1 a1 (List.getD a0.1 (Int.toNat a0.2) (0 : Int)) a0) (
    F_mempoolmake_Numbers_Next_c1 a1 0 a0)
def F_mempoolmake_Accounts_l1 (v4 : Int) (b0 : D_mempoolmake_Numbers) (l0 : List D_api_Account) : Option ((Int × D_mempoolmake_Numbers × List D_api_Account) ⊕ (D_mempoolmake_Numbers × List D_api_Account)) :=
  sel (decide (0 ≤ v4)) (
    chk (decide ((0 : Int) ≤ v4 ∧ v4 < 4)) <|
    chk (decide ((Int.toNat v4) < 4)) <|
    (F_mempoolmake_Numbers_Next b0 5).bind fun r2 =>
    chk (decide ((0 : Int) ≤ r2.2 ∧ r2.2 < 5)) <|
    chk (decide ((Int.toNat r2.2) < 5)) <|
    (F_mempoolmake_Numbers_Next r2.1 6).bind fun r3 =>
    sel (decide (r3.2 = 0)) (
      (F_mempoolmake_Numbers_Next r3.1 3).bind fun r4 =>
      chk (decide ((0 : Int) ≤ r4.2 ∧ r4.2 < 3)) <|
      chk (decide ((Int.toNat r4.2) < 3)) <|
      chk (decide (((List.length l0) + 1) * 32 ≤ LIM ∧ (List.length l0) + 1 ≤ LEN)) <|
      some (.inl ((wi64 (v4 - 1)), r4.1, (l0 ++ ([((List.getD [[(97 : UInt8), (110 : UInt8), (110 : UInt8)], [(98 : UInt8), (111 : UInt8), (98 : UInt8)], [(101 : UInt8), (118 : UInt8), (101 : UInt8)], [(122 : UInt8), (111 : UInt8), (101 : UInt8)]] (Int.toNat v4) []), (List.getD [100000, 5000, 700, 0, 1099511627776] (Int.toNat r2.2) (0 : Int)), (List.getD [5, 18446744073709551615, 18446744073709551614] (Int.toNat r4.2) (0 : Int)))] : List D_api_Account))))) (
      chk (decide (((List.length l0) + 1) * 32 ≤ LIM ∧ (List.length l0) + 1 ≤ LEN)) <|
      some (.inl ((wi64 (v4 - 1)), r3.1, (l0 ++ ([((List.getD [[(97 : UInt8), (110 : UInt8), (110 : UInt8)], [(98 : UInt8), (111 : UInt8), (98 : UInt8)], [(101 : UInt8), (118 : UInt8), (101 : UInt8)], [(122 : UInt8), (111 : UInt8), (101 : UInt8)]] (Int.toNat v4) []), (List.getD [100000, 5000, 700, 0, 1099511627776] (Int.toNat r2.2) (0 : Int)), (0 : Int))] : List D_api_Account)))))) (
    some (.inr (b0, l0)))
def F_mempoolmake_Accounts_l1s (v4 : Int) (b0 : D_mempoolmake_Numbers) (l0 : List D_api_Account) : Option (D_mempoolmake_Numbers × List D_api_Account) :=
  iterO (fun v => F_mempoolmake_Accounts_l1 v.1 v.2.1 v.2.2) (v4, b0, l0)
def F_mempoolmake_Accounts (a0 : D_mempoolmake_Numbers) : Option (D_mempoolmake_Numbers × List D_api_Account) :=
  (F_mempoolmake_Numbers_Next a0 4).bind fun r1 =>
  F_mempoolmake_Accounts_l1s r1.2 r1.1 []
def F_mempoolref10_IsName_c1 (v0 : List UInt8) : Option (Bool) :=
  sel (decide (1 ≤ (((List.length v0) : Nat) : Int))) (
    some (decide ((((List.length v0) : Nat) : Int) ≤ 20))) (
    some false)
def F_mempoolref10_IsName_l2 (v0 : List UInt8) (v3 : Int) : Option ((List UInt8 × Int) ⊕ (Bool)) :=
  sel (decide (v3 < (((List.length v0) : Nat) : Int))) (
    chk (decide ((0 : Int) ≤ v3 ∧ v3 < (((List.length v0) : Nat) : Int))) <|
    sel (decide (97 ≤ ((UInt8.toNat (List.getD v0 (Int.toNat v3) (0 : UInt8)) : Nat) : Int))) (
      sel (decide (((UInt8.toNat (List.getD v0 (Int.toNat v3) (0 : UInt8)) : Nat) : Int) ≤ 122)) (
        some (.inl (v0, (wi64 (v3 + 1))))) (
        sel (decide (48 ≤ ((UInt8.toNat (List.getD v0 (Int.toNat v3) (0 : UInt8)) : Nat) : Int))) (
          sel (decide (((UInt8.toNat (List.getD v0 (Int.toNat v3) (0 : UInt8)) : Nat) : Int) ≤ 57)) (
            some (.inl (v0, (wi64 (v3 + 1))))) (
            sel (!(decide (((UInt8.toNat (List.getD v0 (Int.toNat v3) (0 : UInt8)) : Nat) : Int) = 45))) (
              some (.inr false)) (
              some (.inl (v0, (wi64 (v3 + 1))))))) (
          sel (!(decide (((UInt8.toNat (List.getD v0 (Int.toNat v3) (0 : UInt8)) : Nat) : Int) = 45))) (
            some (.inr false)) (
            some (.inl (v0, (wi64 (v3 + 1)))))))) (
      sel (decide (48 ≤ ((UInt8.toNat (List.getD v0 (Int.toNat v3) (0 : UInt8)) : Nat) : Int))) (
        sel (decide (((UInt8.toNat (List.getD v0 (Int.toNat v3) (0 : UInt8)) : Nat) : Int) ≤ 57)) (
          some (.inl (v0, (wi64 (v3 + 1))))) (
          sel (!(decide (((UInt8.toNat (List.getD v0 (Int.toNat v3) (0 : UInt8)) : Nat) : Int) = 45))) (
            some (.inr false)) (
            some (.inl (v0, (wi64 (v3 + 1))))))) (
        sel (!(decide (((UInt8.toNat (List.getD v0 (Int.toNat v3) (0 : UInt8)) : Nat) : Int) = 45))) (
          some (.inr false)) (
          some (.inl (v0, (wi64 (v3 + 1)))))))) (
    Option.map .inr (
      F_mempoolref10_IsName_c1 v0))
def F_mempoolref10_IsName_l2s (v0 : List UInt8) (v3 : Int) : Option (Bool) :=
  iterO (fun v => F_mempoolref10_IsName_l2 v.1 v.2) (v0, v3)
def F_mempoolref10_IsName (a0 : List UInt8) : Option (Bool) :=
  F_mempoolref10_IsName_l2s a0 0
def F_mempoolref10_Find_l1 (v1 : List UInt8) (v7 : List D_api_Account) (v8 : Int) (v9 : Int) : Option ((List UInt8 × List D_api_Account × Int × Int) ⊕ (Int)) :=
  sel (decide (v9 < v8)) (
    chk (decide ((0 : Int) ≤ v9 ∧ v9 < (((List.length v7) : Nat) : Int))) <|
    sel (decide ((List.getD v7 (Int.toNat v9) d_api_Account).1 = v1)) (
      some (.inr v9)) (
      some (.inl (v1, v7, v8, (wi64 (v9 + 1)))))) (
    some (.inr (-1)))
def F_mempoolref10_Find_l1s (v1 : List UInt8) (v7 : List D_api_Account) (v8 : Int) (v9 : Int) : Option (Int) :=
  iterO (fun v => F_mempoolref10_Find_l1 v.1 v.2.1 v.2.2.1 v.2.2.2) (v1, v7, v8, v9)
def F_mempoolref10_Find (a0 : List D_api_Account) (a1 : List UInt8) : Option (Int) :=
  F_mempoolref10_Find_l1s a1 a0 (((List.length a0) : Nat) : Int) 0
def F_mempoolref10_Put_c1 (v0 : List D_api_Account) (v7 : Int) (b0 : D_api_Account) : Option (List D_api_Account) :=
  chk (decide ((0 : Int) ≤ 0 ∧ 0 ≤ v7 ∧ v7 ≤ (((List.length v0) : Nat) : Int))) <|
  chk (decide ((0 + (List.length (List.take (Int.toNat v7) v0))) * 32 ≤ LIM ∧ 0 + (List.length (List.take (Int.toNat v7) v0)) ≤ LEN)) <|
  chk (decide (((List.length (List.take (Int.toNat v7) v0)) + 1) * 32 ≤ LIM ∧ (List.length (List.take (Int.toNat v7) v0)) + 1 ≤ LEN)) <|
  chk (decide ((0 : Int) ≤ v7 ∧ v7 ≤ (((List.length v0) : Nat) : Int) ∧ (((List.length v0) : Nat) : Int) ≤ (((List.length v0) : Nat) : Int))) <|
  chk (decide (((List.length ((List.take (Int.toNat v7) v0) ++ ([b0] : List D_api_Account))) + (List.length (List.drop (Int.toNat v7) (List.take (Int.toNat (((List.length v0) : Nat) : Int)) v0)))) * 32 ≤ LIM ∧ (List.length ((List.take (Int.toNat v7) v0) ++ ([b0] : List D_api_Account))) + (List.length (List.drop (Int.toNat v7) (List.take (Int.toNat (((List.length v0) : Nat) : Int)) v0))) ≤ LEN)) <|
  some (((List.take (Int.toNat v7) v0) ++ ([b0] : List D_api_Account)) ++ (List.drop (Int.toNat v7) (List.take (Int.toNat (((List.length v0) : Nat) : Int)) v0)))
def F_mempoolref10_Put_l2 (v0 : List D_api_Account) (v7 : Int) (b0 : D_api_Account) : Option ((List D_api_Account × Int × D_api_Account) ⊕ (List D_api_Account)) :=
  sel (decide (v7 < (((List.length v0) : Nat) : Int))) (
    chk (decide ((0 : Int) ≤ v7 ∧ v7 < (((List.length v0) : Nat) : Int))) <|
    sel (Op.bytesLess (List.getD v0 (Int.toNat v7) d_api_Account).1 b0.1) (
      some (.inl (v0, (wi64 (v7 + 1)), b0))) (
      Option.map .inr (
        F_mempoolref10_Put_c1 v0 v7 b0))) (
    Option.map .inr (
      F_mempoolref10_Put_c1 v0 v7 b0))
def F_mempoolref10_Put_l2s (v0 : List D_api_Account) (v7 : Int) (b0 : D_api_Account) : Option (List D_api_Account) :=
  iterO (fun v => F_mempoolref10_Put_l2 v.1 v.2.1 v.2.2) (v0, v7, b0)
def F_mempoolref10_Put (a0 : List D_api_Account) (a1 : D_api_Account) : Option (List D_api_Account) :=
  (F_mempoolref10_Find a0 a1.1).bind fun r1 =>
  sel (decide (0 ≤ r1)) (
    chk (decide ((0 + (List.length a0)) * 32 ≤ LIM ∧ 0 + (List.length a0) ≤ LEN)) <|
    chk (decide ((0 : Int) ≤ r1 ∧ r1 < (((List.length a0) : Nat) : Int))) <|
    chk (decide ((Int.toNat r1) < (List.length a0))) <|
    some (List.set a0 (Int.toNat r1) a1)) (
    F_mempoolref10_Put_l2s a0 0 a1)
def F_mempoolref1_Add (a0 : Int) (a1 : Int) : Option (Int × Bool) :=
  sel (decide ((wu64 (18446744073709551615 - a1)) < a0)) (
    some (0, false)) (
    some ((wu64 (a0 + a1)), true))
def F_mempoolref10_Total_l1 (v4 : Int) (v12 : List D_api_Account) (v13 : Int) (v14 : Int) : Option ((Int × List D_api_Account × Int × Int) ⊕ (Int × Bool)) :=
  sel (decide (v14 < v13)) (
    chk (decide ((0 : Int) ≤ v14 ∧ v14 < (((List.length v12) : Nat) : Int))) <|
    (F_mempoolref1_Add v4 (List.getD v12 (Int.toNat v14) d_api_Account).2.1).bind fun r1 =>
    sel (!r1.2) (
      some (.inr (0, false))) (
      some (.inl (r1.1, v12, v13, (wi64 (v14 + 1)))))) (
    some (.inr (v4, true)))
def F_mempoolref10_Total_l1s (v4 : Int) (v12 : List D_api_Account) (v13 : Int) (v14 : Int) : Option (Int × Bool) :=
  iterO (fun v => F_mempoolref10_Total_l1 v.1 v.2.1 v.2.2.1 v.2.2.2) (v4, v12, v13, v14)
def F_mempoolref10_Total (a0 : D_api_Ledger) : Option (Int × Bool) :=
  F_mempoolref10_Total_l1s a0.2 a0.1 (((List.length a0.1) : Nat) : Int) 0
def F_mempoolref10_Genesis_c1 (_b0 : D_api_Ledger) (b1_1 : Int) (l0 : List D_api_Account) : Option (D_api_Ledger × Int) :=
  (F_mempoolref10_Total (l0, b1_1)).bind fun r1 =>
  sel (!r1.2) (
    some (([], (0 : Int)), 6)) (
    some ((l0, b1_1), 0))
def F_mempoolref10_Genesis_l2 (v13 : List D_api_Account) (v14 : Int) (v15 : Int) (b0 : D_api_Ledger) (b1_1 : Int) (l0 : List D_api_Account) : Option ((List D_api_Account × Int × Int × D_api_Ledger × Int × List D_api_Account) ⊕ (D_api_Ledger × Int)) :=
  sel (decide (v15 < v14)) (
    chk (decide ((0 : Int) ≤ v15 ∧ v15 < (((List.length v13) : Nat) : Int))) <|
    (F_mempoolref10_IsName (List.getD v13 (Int.toNat v15) d_api_Account).1).bind fun r2 =>
    sel (!r2) (
      some (.inr (([], (0 : Int)), 10))) (
      (F_mempoolref10_Find l0 (List.getD v13 (Int.toNat v15) d_api_Account).1).bind fun r3 =>
      sel (decide (0 ≤ r3)) (
        some (.inr (([], (0 : Int)), 8))) (
        (F_mempoolref10_Put l0 (List.getD v13 (Int.toNat v15) d_api_Account)).bind fun r4 =>
        some (.inl (v13, v14, (wi64 (v15 + 1)), b0, b1_1, r4))))) (
    Option.map .inr (
      F_mempoolref10_Genesis_c1 b0 b1_1 l0))
def F_mempoolref10_Genesis_l2s (v13 : List D_api_Account) (v14 : Int) (v15 : Int) (b0 : D_api_Ledger) (b1_1 : Int) (l0 : List D_api_Account) : Option (D_api_Ledger × Int) :=
  iterO (fun v => F_mempoolref10_Genesis_l2 v.1 v.2.1 v.2.2.1 v.2.2.2.1 v.2.2.2.2.1 v.2.2.2.2.2) (v13, v14, v15, b0, b1_1, l0)
def F_mempoolref10_Genesis (a0 : List D_api_Account) : Option (D_api_Ledger × Int) :=
  sel (decide (256 < (((List.length a0) : Nat) : Int))) (
    some (([], (0 : Int)), 3)) (
    F_mempoolref10_Genesis_l2s a0 (((List.length a0) : Nat) : Int) 0 ([], (0 : Int)) (0 : Int) [])
def F_mempoolmake_Name (a0 : D_mempoolmake_Numbers) : Option (D_mempoolmake_Numbers × List UInt8) :=
  (F_mempoolmake_Numbers_Next a0 6).bind fun r1 =>
  chk (decide ((0 : Int) ≤ r1.2 ∧ r1.2 < 6)) <|
  chk (decide ((Int.toNat r1.2) < 6)) <|
  some (r1.1, (List.getD [[(97 : UInt8), (110 : UInt8), (110 : UInt8)], [(98 : UInt8), (111 : UInt8), (98 : UInt8)], [(101 : UInt8), (118 : UInt8), (101 : UInt8)], [(122 : UInt8), (111 : UInt8), (101 : UInt8)], [(110 : UInt8), (101 : UInt8), (119 : UInt8)], [(120 : UInt8), (45 : UInt8), (49 : UInt8)]] (Int.toNat r1.2) []))
def F_mempoolref10_ValidateLedger_c1 (b0 : D_api_Ledger) : Option (Int) :=
  (F_mempoolref10_Total b0).bind fun r1 =>
  sel (!r1.2) (
    some 6) (
    some 0)
def F_mempoolref10_ValidateLedger_c3 (v3 : Int) (v12 : List D_api_Account) (v13 : Int) (v14 : Int) (b0 : D_api_Ledger) (b1 : D_api_Account) : Option ((List D_api_Account × Int × Int × D_api_Ledger) ⊕ (Int)) :=
  sel (decide (0 < v3)) (
    chk (decide ((0 : Int) ≤ (wi64 (v3 - 1)) ∧ (wi64 (v3 - 1)) < (((List.length b0.1) : Nat) : Int))) <|
    sel (!(Op.bytesLess (List.getD b0.1 (Int.toNat (wi64 (v3 - 1))) d_api_Account).1 b1.1 || decide ((List.getD b0.1 (Int.toNat (wi64 (v3 - 1))) d_api_Account).1 = b1.1))) (
      some (.inr 1)) (
      some (.inl (v12, v13, (wi64 (v14 + 1)), b0)))) (
    some (.inl (v12, v13, (wi64 (v14 + 1)), b0)))
def F_mempoolref10_ValidateLedger_l2 (v12 : List D_api_Account) (v13 : Int) (v14 : Int) (b0 : D_api_Ledger) : Option ((List D_api_Account × Int × Int × D_api_Ledger) ⊕ (Int)) :=
  sel (decide (v14 < v13)) (
    chk (decide ((0 : Int) ≤ v14 ∧ v14 < (((List.length v12) : Nat) : Int))) <|
    (F_mempoolref10_IsName (List.getD v12 (Int.toNat v14) d_api_Account).1).bind fun r2 =>
    sel (!r2) (
      some (.inr 10)) (
      sel (decide (0 < v14)) (
        chk (decide ((0 : Int) ≤ (wi64 (v14 - 1)) ∧ (wi64 (v14 - 1)) < (((List.length b0.1) : Nat) : Int))) <|
        sel (decide ((List.getD b0.1 (Int.toNat (wi64 (v14 - 1))) d_api_Account).1 = (List.getD v12 (Int.toNat v14) d_api_Account).1)) (
          some (.inr 8)) (
          F_mempoolref10_ValidateLedger_c3 v14 v12 v13 v14 b0 (List.getD v12 (Int.toNat v14) d_api_Account))) (
        F_mempoolref10_ValidateLedger_c3 v14 v12 v13 v14 b0 (List.getD v12 (Int.toNat v14) d_api_Account)))) (
    Option.map .inr (
      F_mempoolref10_ValidateLedger_c1 b0))
def F_mempoolref10_ValidateLedger_l2s (v12 : List D_api_Account) (v13 : Int) (v14 : Int) (b0 : D_api_Ledger) : Option (Int) :=
  iterO (fun v => F_mempoolref10_ValidateLedger_l2 v.1 v.2.1 v.2.2.1 v.2.2.2) (v12, v13, v14, b0)
def F_mempoolref10_ValidateLedger (a0 : D_api_Ledger) : Option (Int) :=
  sel (decide (256 < (((List.length a0.1) : Nat) : Int))) (
    some 3) (
    F_mempoolref10_ValidateLedger_l2s a0.1 (((List.length a0.1) : Nat) : Int) 0 a0)
def F_mempoolref10_Set (a0 : D_api_Ledger) (a1 : D_api_Account) : Option (D_api_Ledger × Int) :=
  (F_mempoolref10_ValidateLedger a0).bind fun r1 =>
  sel (!decide (r1 = 0)) (
    some (([], (0 : Int)), r1)) (
    (F_mempoolref10_IsName a1.1).bind fun r2 =>
    sel (!r2) (
      some (([], (0 : Int)), 10)) (
      (F_mempoolref10_Put a0.1 a1).bind fun r3 =>
      sel (decide (256 < (((List.length r3) : Nat) : Int))) (
        some (([], (0 : Int)), 3)) (
        (F_mempoolref10_Total (r3, a0.2)).bind fun r4 =>
        sel (!r4.2) (
          some (([], (0 : Int)), 6)) (
          some ((r3, a0.2), 0)))))
def F_mempoollaw11_made_l1 (v6 : Int) (b0 : D_api_Ledger) (b1 : D_mempoolmake_Numbers) (b2 : D_api_Ledger) : Option ((Int × D_api_Ledger × D_mempoolmake_Numbers × D_api_Ledger) ⊕ (D_api_Ledger)) :=
  sel (decide (0 < v6)) (
    (F_mempoolmake_Name b1).bind fun r6 =>
    (F_mempoolmake_Numbers_Next r6.1 70).bind fun r7 =>
    (F_mempoolmake_Numbers_Next r7.1 4).bind fun r8 =>
    (F_mempoolref10_Set b2 (r6.2, (wu64 r7.2), (wu64 r8.2))).bind fun r9 =>
    sel (decide (r9.2 = 0)) (
      some (.inl ((wi64 (v6 - 1)), b0, r8.1, r9.1))) (
      some (.inl ((wi64 (v6 - 1)), b0, r8.1, b2)))) (
    some (.inr b2))
def F_mempoollaw11_made_l1s (v6 : Int) (b0 : D_api_Ledger) (b1 : D_mempoolmake_Numbers) (b2 : D_api_Ledger) : Option (D_api_Ledger) :=
  iterO (fun v => F_mempoollaw11_made_l1 v.1 v.2.1 v.2.2.1 v.2.2.2) (v6, b0, b1, b2)
def F_mempoollaw11_made (a0 : List Int) : Option (D_api_Ledger) :=
  (F_mempoolmake_From a0).bind fun r1 =>
  (F_mempoolmake_Accounts r1).bind fun r2 =>
  (F_mempoolref10_Genesis r2.2).bind fun r3 =>
  (F_mempoolmake_Numbers_Next r2.1 90).bind fun r4 =>
  (F_mempoolmake_Numbers_Next r4.1 4).bind fun r5 =>
  F_mempoollaw11_made_l1s r5.2 ([], (0 : Int)) r5.1 (r3.1.1, (wu64 r4.2))
def F_mempoollaw11_LedgerValidates_l2 (v110 : Int) (v111 : Int) (l0 : List D_api_Ledger) : Option ((Int × Int × List D_api_Ledger) ⊕ (Bool)) :=
  sel (decide (v111 < v110)) (
    chk (decide ((0 : Int) ≤ v111 ∧ v111 < (((List.length l0) : Nat) : Int))) <|
    chk (decide ((Int.toNat v111) < (List.length l0))) <|
    (F_ledger_Total (List.getD l0 (Int.toNat v111) d_api_Ledger)).bind fun r8 =>
    (F_mempoolref10_Total (List.getD l0 (Int.toNat v111) d_api_Ledger)).bind fun r9 =>
    (F_ledger_Validate (List.getD l0 (Int.toNat v111) d_api_Ledger)).bind fun r10 =>
    (F_mempoolref10_ValidateLedger (List.getD l0 (Int.toNat v111) d_api_Ledger)).bind fun r11 =>
    sel (!decide (r10 = r11)) (
      some (.inr false)) (
      sel (!decide (r8.1 = r9.1)) (
        some (.inr false)) (
        sel (!(beqB r8.2 r9.2)) (
          some (.inr false)) (
          some (.inl (v110, (wi64 (v111 + 1)), l0)))))) (
    Option.map .inr (
      (F_mempoollaw11_known).bind fun r12 =>
      some r12))
def F_mempoollaw11_LedgerValidates_l2s (v110 : Int) (v111 : Int) (l0 : List D_api_Ledger) : Option (Bool) :=
  iterO (fun v => F_mempoollaw11_LedgerValidates_l2 v.1 v.2.1 v.2.2) (v110, v111, l0)
def F_mempoollaw11_LedgerValidates_c1 (b0 : D_api_Ledger) (b1 : D_api_Ledger) (b2_1 : Int) (l0 : List D_api_Account) : Option (Bool) :=
  F_mempoollaw11_LedgerValidates_l2s 3 0 [b0, b1, (l0, b2_1)]
def F_mempoollaw11_LedgerValidates_l3 (v3 : Int) (v58 : List D_api_Account) (v59 : Int) (v60 : Int) (b0 : D_api_Ledger) (b1 : D_api_Ledger) (b2_1 : Int) (l0 : List D_api_Account) : Option ((Int × List D_api_Account × Int × Int × D_api_Ledger × D_api_Ledger × Int × List D_api_Account) ⊕ (Bool)) :=
  sel (decide (v60 < v59)) (
    chk (decide ((0 : Int) ≤ v60 ∧ v60 < (((List.length v58) : Nat) : Int))) <|
    some (.inl (v3, v58, v59, (wi64 (v60 + 1)), b0, b1, (wu64 (b2_1 - (wu64 ((List.getD v58 (Int.toNat v60) d_api_Account).2.1 * (wu64 (bits .and .i64 v3 1)))))), l0))) (
    Option.map .inr (
      F_mempoollaw11_LedgerValidates_c1 b0 b1 b2_1 l0))
def F_mempoollaw11_LedgerValidates_l3s (v3 : Int) (v58 : List D_api_Account) (v59 : Int) (v60 : Int) (b0 : D_api_Ledger) (b1 : D_api_Ledger) (b2_1 : Int) (l0 : List D_api_Account) : Option (Bool) :=
  iterO (fun v => F_mempoollaw11_LedgerValidates_l3 v.1 v.2.1 v.2.2.1 v.2.2.2.1 v.2.2.2.2.1 v.2.2.2.2.2.1 v.2.2.2.2.2.2.1 v.2.2.2.2.2.2.2) (v3, v58, v59, v60, b0, b1, b2_1, l0)
def F_mempoollaw11_LedgerValidates (a0 : D_api_Ledger) (a1 : List Int) (a2 : D_api_Account) (a3 : Int) (a4 : Int) : Option (Bool) :=
  (F_mempoollaw11_long [a1]).bind fun r1 =>
  sel r1 (
    (F_mempoollaw11_known).bind fun r2 =>
    some r2) (
    (F_mempoollaw11_big a0.1).bind fun r3 =>
    sel r3 (
      (F_mempoollaw11_known).bind fun r4 =>
      some r4) (
      sel (decide (60 < (((List.length a2.1) : Nat) : Int))) (
        (F_mempoollaw11_known).bind fun r5 =>
        some r5) (
        (F_mempoollaw11_made a1).bind fun r6 =>
        chk (decide ((0 + (List.length r6.1)) * 32 ≤ LIM ∧ 0 + (List.length r6.1) ≤ LEN)) <|
        (F_mempoolmake_Place a3 (wi64 ((((List.length r6.1) : Nat) : Int) + 1))).bind fun r7 =>
        (F_mempoolmake_Place a4 3).bind fun r13 =>
        sel (decide (r13 = 0)) (
          chk (decide ((0 : Int) ≤ 0 ∧ 0 ≤ r7 ∧ r7 ≤ (((List.length r6.1) : Nat) : Int))) <|
          chk (decide ((0 + (List.length (List.take (Int.toNat r7) r6.1))) * 32 ≤ LIM ∧ 0 + (List.length (List.take (Int.toNat r7) r6.1)) ≤ LEN)) <|
          chk (decide (((List.length (List.take (Int.toNat r7) r6.1)) + 1) * 32 ≤ LIM ∧ (List.length (List.take (Int.toNat r7) r6.1)) + 1 ≤ LEN)) <|
          chk (decide ((0 : Int) ≤ r7 ∧ r7 ≤ (((List.length r6.1) : Nat) : Int) ∧ (((List.length r6.1) : Nat) : Int) ≤ (((List.length r6.1) : Nat) : Int))) <|
          chk (decide (((List.length ((List.take (Int.toNat r7) r6.1) ++ ([a2] : List D_api_Account))) + (List.length (List.drop (Int.toNat r7) (List.take (Int.toNat (((List.length r6.1) : Nat) : Int)) r6.1)))) * 32 ≤ LIM ∧ (List.length ((List.take (Int.toNat r7) r6.1) ++ ([a2] : List D_api_Account))) + (List.length (List.drop (Int.toNat r7) (List.take (Int.toNat (((List.length r6.1) : Nat) : Int)) r6.1))) ≤ LEN)) <|
          F_mempoollaw11_LedgerValidates_c1 a0 r6 r6.2 (((List.take (Int.toNat r7) r6.1) ++ ([a2] : List D_api_Account)) ++ (List.drop (Int.toNat r7) (List.take (Int.toNat (((List.length r6.1) : Nat) : Int)) r6.1)))) (
          sel (decide (r13 = 1)) (
            sel (decide (r7 < (((List.length r6.1) : Nat) : Int))) (
              chk (decide ((0 : Int) ≤ r7 ∧ r7 < (((List.length r6.1) : Nat) : Int))) <|
              chk (decide ((Int.toNat r7) < (List.length r6.1))) <|
              F_mempoollaw11_LedgerValidates_c1 a0 r6 r6.2 (List.set r6.1 (Int.toNat r7) ((List.getD r6.1 (Int.toNat r7) d_api_Account).1, a2.2.1, (List.getD r6.1 (Int.toNat r7) d_api_Account).2.2))) (
              F_mempoollaw11_LedgerValidates_c1 a0 r6 r6.2 r6.1)) (
            F_mempoollaw11_LedgerValidates_l3s a3 r6.1 (((List.length r6.1) : Nat) : Int) 0 a0 r6 a2.2.1 r6.1)))))
def F_mempoolref10_SameLedger_l1 (v22 : Int) (v23 : Int) (b0 : D_api_Ledger) (b1 : D_api_Ledger) : Option ((Int × Int × D_api_Ledger × D_api_Ledger) ⊕ (Bool)) :=
  sel (decide (v23 < v22)) (
    chk (decide ((0 : Int) ≤ v23 ∧ v23 < (((List.length b0.1) : Nat) : Int))) <|
    chk (decide ((0 : Int) ≤ v23 ∧ v23 < (((List.length b1.1) : Nat) : Int))) <|
    sel (!(U.beq U_api_Account (List.getD b0.1 (Int.toNat v23) d_api_Account) (List.getD b1.1 (Int.toNat v23) d_api_Account))) (
      some (.inr false)) (
      some (.inl (v22, (wi64 (v23 + 1)), b0, b1)))) (
    some (.inr true))
def F_mempoolref10_SameLedger_l1s (v22 : Int) (v23 : Int) (b0 : D_api_Ledger) (b1 : D_api_Ledger) : Option (Bool) :=
  iterO (fun v => F_mempoolref10_SameLedger_l1 v.1 v.2.1 v.2.2.1 v.2.2.2) (v22, v23, b0, b1)
def F_mempoolref10_SameLedger (a0 : D_api_Ledger) (a1 : D_api_Ledger) : Option (Bool) :=
  sel (!decide ((((List.length a0.1) : Nat) : Int) = (((List.length a1.1) : Nat) : Int))) (
    some false) (
    sel (!decide (a0.2 = a1.2)) (
      some false) (
      F_mempoolref10_SameLedger_l1s (((List.length a0.1) : Nat) : Int) 0 a0 a1))
def F_mempoollaw11_LedgerBegins_l2 (v61 : Int) (v62 : Int) (l0 : List (List D_api_Account)) : Option ((Int × Int × List (List D_api_Account)) ⊕ (Bool)) :=
  sel (decide (v62 < v61)) (
    chk (decide ((0 : Int) ≤ v62 ∧ v62 < (((List.length l0) : Nat) : Int))) <|
    chk (decide ((Int.toNat v62) < (List.length l0))) <|
    (F_ledger_Genesis (List.getD l0 (Int.toNat v62) [])).bind fun r6 =>
    (F_mempoolref10_Genesis (List.getD l0 (Int.toNat v62) [])).bind fun r7 =>
    sel (!decide (r6.2 = r7.2)) (
      some (.inr false)) (
      (F_mempoolref10_SameLedger r6.1 r7.1).bind fun r8 =>
      sel (!r8) (
        some (.inr false)) (
        some (.inl (v61, (wi64 (v62 + 1)), l0))))) (
    Option.map .inr (
      (F_mempoollaw11_known).bind fun r9 =>
      some r9))
def F_mempoollaw11_LedgerBegins_l2s (v61 : Int) (v62 : Int) (l0 : List (List D_api_Account)) : Option (Bool) :=
  iterO (fun v => F_mempoollaw11_LedgerBegins_l2 v.1 v.2.1 v.2.2) (v61, v62, l0)
def F_mempoollaw11_LedgerBegins_c1 (v0 : List D_api_Account) (l0 : List D_api_Account) : Option (Bool) :=
  chk (decide ((0 + (List.length l0)) * 32 ≤ LIM ∧ 0 + (List.length l0) ≤ LEN)) <|
  chk (decide (((List.length l0) + (List.length v0)) * 32 ≤ LIM ∧ (List.length l0) + (List.length v0) ≤ LEN)) <|
  F_mempoollaw11_LedgerBegins_l2s 3 0 [v0, l0, (l0 ++ v0)]
def F_mempoollaw11_LedgerBegins (a0 : List D_api_Account) (a1 : List Int) (a2 : Int) : Option (Bool) :=
  (F_mempoollaw11_long [a1]).bind fun r1 =>
  sel r1 (
    (F_mempoollaw11_known).bind fun r2 =>
    some r2) (
    (F_mempoollaw11_big a0).bind fun r3 =>
    sel r3 (
      (F_mempoollaw11_known).bind fun r4 =>
      some r4) (
      (F_mempoollaw11_made a1).bind fun r5 =>
      chk (decide ((0 + (List.length r5.1)) * 32 ≤ LIM ∧ 0 + (List.length r5.1) ≤ LEN)) <|
      sel (decide (1 < (((List.length r5.1) : Nat) : Int))) (
        (F_mempoolmake_Place a2 (wi64 ((((List.length r5.1) : Nat) : Int) - 1))).bind fun r10 =>
        chk (decide ((0 : Int) ≤ (wi64 ((((List.length r5.1) : Nat) : Int) - 1)) ∧ (wi64 ((((List.length r5.1) : Nat) : Int) - 1)) < (((List.length r5.1) : Nat) : Int))) <|
        chk (decide ((Int.toNat (wi64 ((((List.length r5.1) : Nat) : Int) - 1))) < (List.length r5.1))) <|
        chk (decide ((0 : Int) ≤ r10 ∧ r10 < (((List.length r5.1) : Nat) : Int))) <|
        chk (decide ((Int.toNat r10) < (List.length r5.1))) <|
        chk (decide ((0 : Int) ≤ r10 ∧ r10 < (((List.length r5.1) : Nat) : Int))) <|
        chk (decide ((Int.toNat r10) < (List.length r5.1))) <|
        chk (decide ((0 : Int) ≤ (wi64 ((((List.length r5.1) : Nat) : Int) - 1)) ∧ (wi64 ((((List.length r5.1) : Nat) : Int) - 1)) < (((List.length (List.set r5.1 (Int.toNat r10) (List.getD r5.1 (Int.toNat (wi64 ((((List.length r5.1) : Nat) : Int) - 1))) d_api_Account))) : Nat) : Int))) <|
        chk (decide ((Int.toNat (wi64 ((((List.length r5.1) : Nat) : Int) - 1))) < (List.length (List.set r5.1 (Int.toNat r10) (List.getD r5.1 (Int.toNat (wi64 ((((List.length r5.1) : Nat) : Int) - 1))) d_api_Account))))) <|
        F_mempoollaw11_LedgerBegins_c1 a0 (List.set (List.set r5.1 (Int.toNat r10) (List.getD r5.1 (Int.toNat (wi64 ((((List.length r5.1) : Nat) : Int) - 1))) d_api_Account)) (Int.toNat (wi64 ((((List.length r5.1) : Nat) : Int) - 1))) (List.getD r5.1 (Int.toNat r10) d_api_Account))) (
        F_mempoollaw11_LedgerBegins_c1 a0 r5.1)))
def F_mempoollaw11_LedgerSets_c2 (b0 : D_api_Ledger) (b1 : D_api_Account) (b2 : D_api_Ledger) : Option (Bool) :=
  (F_ledger_Get b2 b1.1).bind fun r10 =>
  sel r10.2 (
    sel (U.beq U_api_Account r10.1 b1) (
      sel (decide (b2.2 = b0.2)) (
        (F_ledger_Validate b2).bind fun r11 =>
        sel (decide (r11 = 0)) (
          (F_mempoollaw11_known).bind fun r12 =>
          some r12) (
          some false)) (
        some false)) (
      some false)) (
    some false)
def F_mempoollaw11_LedgerSets_l3 (v104 : List D_api_Account) (v105 : Int) (v106 : Int) (b0 : D_api_Ledger) (b1 : D_api_Account) (b2 : D_api_Ledger) : Option ((List D_api_Account × Int × Int × D_api_Ledger × D_api_Account × D_api_Ledger) ⊕ (Bool)) :=
  sel (decide (v106 < v105)) (
    chk (decide ((0 : Int) ≤ v106 ∧ v106 < (((List.length v104) : Nat) : Int))) <|
    (F_ledger_Get b2 (List.getD v104 (Int.toNat v106) d_api_Account).1).bind fun r13 =>
    sel (!decide ((List.getD v104 (Int.toNat v106) d_api_Account).1 = b1.1)) (
      sel (!r13.2) (
        some (.inr false)) (
        sel (!(U.beq U_api_Account (List.getD v104 (Int.toNat v106) d_api_Account) r13.1)) (
          some (.inr false)) (
          some (.inl (v104, v105, (wi64 (v106 + 1)), b0, b1, b2))))) (
      some (.inl (v104, v105, (wi64 (v106 + 1)), b0, b1, b2)))) (
    Option.map .inr (
      F_mempoollaw11_LedgerSets_c2 b0 b1 b2))
def F_mempoollaw11_LedgerSets_l3s (v104 : List D_api_Account) (v105 : Int) (v106 : Int) (b0 : D_api_Ledger) (b1 : D_api_Account) (b2 : D_api_Ledger) : Option (Bool) :=
  iterO (fun v => F_mempoollaw11_LedgerSets_l3 v.1 v.2.1 v.2.2.1 v.2.2.2.1 v.2.2.2.2.1 v.2.2.2.2.2) (v104, v105, v106, b0, b1, b2)
def F_mempoollaw11_LedgerSets_c1 (b0 : D_api_Ledger) (b1 : D_api_Account) : Option (Bool) :=
  (F_ledger_Set b0 b1).bind fun r8 =>
  sel (!decide (r8.2 = 0)) (
    (F_mempoollaw11_known).bind fun r9 =>
    some r9) (
    F_mempoollaw11_LedgerSets_l3s b0.1 (((List.length b0.1) : Nat) : Int) 0 b0 b1 r8.1)
def F_mempoollaw11_LedgerSets_l5 (v58 : Int) (v59 : Int) (v66 : Int) (v67 : Int) (b0 : D_api_Account) (b1 : D_api_Ledger) (b2 : D_api_Account) (b3 : D_api_Ledger) (l0 : List D_api_Ledger) (l1 : List D_api_Account) : Option ((Int × Int × Int × Int × D_api_Account × D_api_Ledger × D_api_Account × D_api_Ledger × List D_api_Ledger × List D_api_Account) ⊕ ((Int × Int × D_api_Account × D_api_Ledger × D_api_Account × List D_api_Ledger) ⊕ (Bool))) :=
  sel (decide (v67 < v66)) (
    chk (decide ((0 : Int) ≤ v67 ∧ v67 < (((List.length l1) : Nat) : Int))) <|
    chk (decide ((Int.toNat v67) < (List.length l1))) <|
    (F_ledger_Set b3 (List.getD l1 (Int.toNat v67) d_api_Account)).bind fun r14 =>
    (F_mempoolref10_Set b3 (List.getD l1 (Int.toNat v67) d_api_Account)).bind fun r15 =>
    sel (!decide (r14.2 = r15.2)) (
      some (.inr (.inr false))) (
      (F_mempoolref10_SameLedger r14.1 r15.1).bind fun r16 =>
      sel (!r16) (
        some (.inr (.inr false))) (
        some (.inl (v58, v59, v66, (wi64 (v67 + 1)), b0, b1, b2, b3, l0, l1))))) (
    some (.inr (.inl (v58, (wi64 (v59 + 1)), b0, b1, b2, l0))))
def F_mempoollaw11_LedgerSets_l5s (v58 : Int) (v59 : Int) (v66 : Int) (v67 : Int) (b0 : D_api_Account) (b1 : D_api_Ledger) (b2 : D_api_Account) (b3 : D_api_Ledger) (l0 : List D_api_Ledger) (l1 : List D_api_Account) : Option ((Int × Int × D_api_Account × D_api_Ledger × D_api_Account × List D_api_Ledger) ⊕ (Bool)) :=
  iterO (fun v => F_mempoollaw11_LedgerSets_l5 v.1 v.2.1 v.2.2.1 v.2.2.2.1 v.2.2.2.2.1 v.2.2.2.2.2.1 v.2.2.2.2.2.2.1 v.2.2.2.2.2.2.2.1 v.2.2.2.2.2.2.2.2.1 v.2.2.2.2.2.2.2.2.2) (v58, v59, v66, v67, b0, b1, b2, b3, l0, l1)
def F_mempoollaw11_LedgerSets_l4 (v58 : Int) (v59 : Int) (b0 : D_api_Account) (b1 : D_api_Ledger) (b2 : D_api_Account) (l0 : List D_api_Ledger) : Option ((Int × Int × D_api_Account × D_api_Ledger × D_api_Account × List D_api_Ledger) ⊕ (Bool)) :=
  sel (decide (v59 < v58)) (
    chk (decide ((0 : Int) ≤ v59 ∧ v59 < (((List.length l0) : Nat) : Int))) <|
    chk (decide ((Int.toNat v59) < (List.length l0))) <|
    F_mempoollaw11_LedgerSets_l5s v58 v59 2 0 b0 b1 b2 (List.getD l0 (Int.toNat v59) d_api_Ledger) l0 [b0, b2]) (
    Option.map .inr (
      F_mempoollaw11_LedgerSets_c1 b1 b2))
def F_mempoollaw11_LedgerSets_l4s (v58 : Int) (v59 : Int) (b0 : D_api_Account) (b1 : D_api_Ledger) (b2 : D_api_Account) (l0 : List D_api_Ledger) : Option (Bool) :=
  iterO (fun v => F_mempoollaw11_LedgerSets_l4 v.1 v.2.1 v.2.2.1 v.2.2.2.1 v.2.2.2.2.1 v.2.2.2.2.2) (v58, v59, b0, b1, b2, l0)
def F_mempoollaw11_LedgerSets (a0 : D_api_Ledger) (a1 : List Int) (a2 : D_api_Account) (a3 : Int) : Option (Bool) :=
  (F_mempoollaw11_long [a1]).bind fun r1 =>
  sel r1 (
    (F_mempoollaw11_known).bind fun r2 =>
    some r2) (
    (F_mempoollaw11_big a0.1).bind fun r3 =>
    sel r3 (
      (F_mempoollaw11_known).bind fun r4 =>
      some r4) (
      sel (decide (60 < (((List.length a2.1) : Nat) : Int))) (
        (F_mempoollaw11_known).bind fun r5 =>
        some r5) (
        (F_mempoollaw11_made a1).bind fun r6 =>
        (F_mempoolmake_Place a3 5).bind fun r7 =>
        chk (decide ((0 : Int) ≤ r7 ∧ r7 < 5)) <|
        chk (decide ((Int.toNat r7) < 5)) <|
        F_mempoollaw11_LedgerSets_l4s 2 0 a2 r6 ((List.getD [[(97 : UInt8), (110 : UInt8), (110 : UInt8)], [(98 : UInt8), (111 : UInt8), (98 : UInt8)], [(99 : UInt8), (97 : UInt8), (114 : UInt8), (108 : UInt8)], [(122 : UInt8), (122 : UInt8)], [(48 : UInt8)]] (Int.toNat r7) []), (a2.2.1 / 2 ^ 20), a2.2.2) [a0, r6])))
def F_mempoolref10_Get (a0 : D_api_Ledger) (a1 : List UInt8) : Option (D_api_Account × Bool) :=
  (F_mempoolref10_Find a0.1 a1).bind fun r1 =>
  sel (decide (0 ≤ r1)) (
    chk (decide ((0 : Int) ≤ r1 ∧ r1 < (((List.length a0.1) : Nat) : Int))) <|
    some ((List.getD a0.1 (Int.toNat r1) d_api_Account), true)) (
    some (([], (0 : Int), (0 : Int)), false))
def F_mempoollaw11_LedgerGets_l1 (v36 : Int) (v37 : Int) (b0 : D_api_Ledger) (b1 : D_api_Ledger) (l0 : List (List UInt8)) : Option ((Int × Int × D_api_Ledger × D_api_Ledger × List (List UInt8)) ⊕ (Bool)) :=
  sel (decide (v37 < v36)) (
    chk (decide ((0 : Int) ≤ v37 ∧ v37 < (((List.length l0) : Nat) : Int))) <|
    chk (decide ((Int.toNat v37) < (List.length l0))) <|
    (F_ledger_Get b0 (List.getD l0 (Int.toNat v37) [])).bind fun r7 =>
    (F_mempoolref10_Get b0 (List.getD l0 (Int.toNat v37) [])).bind fun r8 =>
    (F_ledger_Get b1 (List.getD l0 (Int.toNat v37) [])).bind fun r9 =>
    (F_mempoolref10_Get b1 (List.getD l0 (Int.toNat v37) [])).bind fun r10 =>
    sel (!(U.beq U_api_Account r7.1 r8.1)) (
      some (.inr false)) (
      sel (!(beqB r7.2 r8.2)) (
        some (.inr false)) (
        sel (!(U.beq U_api_Account r9.1 r10.1)) (
          some (.inr false)) (
          sel (!(beqB r9.2 r10.2)) (
            some (.inr false)) (
            some (.inl (v36, (wi64 (v37 + 1)), b0, b1, l0))))))) (
    Option.map .inr (
      (F_mempoollaw11_known).bind fun r11 =>
      some r11))
def F_mempoollaw11_LedgerGets_l1s (v36 : Int) (v37 : Int) (b0 : D_api_Ledger) (b1 : D_api_Ledger) (l0 : List (List UInt8)) : Option (Bool) :=
  iterO (fun v => F_mempoollaw11_LedgerGets_l1 v.1 v.2.1 v.2.2.1 v.2.2.2.1 v.2.2.2.2) (v36, v37, b0, b1, l0)
def F_mempoollaw11_LedgerGets (a0 : D_api_Ledger) (a1 : List UInt8) (a2 : List Int) : Option (Bool) :=
  (F_mempoollaw11_long [a2]).bind fun r1 =>
  sel r1 (
    (F_mempoollaw11_known).bind fun r2 =>
    some r2) (
    (F_mempoollaw11_big a0.1).bind fun r3 =>
    sel r3 (
      (F_mempoollaw11_known).bind fun r4 =>
      some r4) (
      sel (decide (60 < (((List.length a1) : Nat) : Int))) (
        (F_mempoollaw11_known).bind fun r5 =>
        some r5) (
        (F_mempoollaw11_made a2).bind fun r6 =>
        F_mempoollaw11_LedgerGets_l1s 5 0 a0 r6 [a1, [(97 : UInt8), (110 : UInt8), (110 : UInt8)], [(110 : UInt8), (101 : UInt8), (119 : UInt8)], [(122 : UInt8), (111 : UInt8), (101 : UInt8)], []])))
def F_mempoollaw11_LedgerLimits_c2 (v8 : Int) (v10 : Int) (v11 : List UInt8) (b0 : D_api_Ledger) (b1 : D_api_Ledger) (l0 : List D_api_Account) : Option (Bool) :=
  (F_ledger_Set b0 (v11, 1, (0 : Int))).bind fun r3 =>
  (F_mempoolref10_Set b1 (v11, 1, (0 : Int))).bind fun r4 =>
  sel (decide (v8 = v10)) (
    (F_mempoolref10_SameLedger b0 b1).bind fun r5 =>
    sel r5 (
      sel (decide (r3.2 = r4.2)) (
        (F_mempoolref10_SameLedger r3.1 r4.1).bind fun r6 =>
        sel r6 (
          (F_ledger_Validate (l0, (0 : Int))).bind fun r7 =>
          (F_mempoolref10_ValidateLedger (l0, (0 : Int))).bind fun r8 =>
          sel (decide (r7 = r8)) (
            (F_mempoollaw11_known).bind fun r9 =>
            some r9) (
            some false)) (
          some false)) (
        some false)) (
      some false)) (
    some false)
def F_mempoollaw11_LedgerLimits_c1 (v1 : Bool) (l0 : List D_api_Account) : Option (Bool) :=
  (F_ledger_Genesis l0).bind fun r1 =>
  (F_mempoolref10_Genesis l0).bind fun r2 =>
  sel v1 (
    F_mempoollaw11_LedgerLimits_c2 r1.2 r2.2 [(118 : UInt8)] r1.1 r2.1 l0) (
    F_mempoollaw11_LedgerLimits_c2 r1.2 r2.2 [(117 : UInt8), (97 : UInt8), (98 : UInt8)] r1.1 r2.1 l0)
def F_mempoollaw11_LedgerLimits_l3 (v1 : Bool) (v6 : Int) (l0 : List D_api_Account) : Option ((Bool × Int × List D_api_Account) ⊕ (Bool)) :=
  sel (decide (0 < v6)) (
    chk (decide ((0 : Int) ≤ (wu8 (wi64 (97 + (wi64 (Int.tdiv v6 26))))) ∧ (wu8 (wi64 (97 + (wi64 (Int.tdiv v6 26))))) < 256)) <|
    chk (decide ((0 : Int) ≤ (wu8 (wi64 (97 + (Int.tmod v6 26)))) ∧ (wu8 (wi64 (97 + (Int.tmod v6 26)))) < 256)) <|
    chk (decide (((List.length l0) + 1) * 32 ≤ LIM ∧ (List.length l0) + 1 ≤ LEN)) <|
    some (.inl (v1, (wi64 (v6 - 1)), (l0 ++ ([([(117 : UInt8), (UInt8.ofNat (Int.toNat (wu8 (wi64 (97 + (wi64 (Int.tdiv v6 26))))))), (UInt8.ofNat (Int.toNat (wu8 (wi64 (97 + (Int.tmod v6 26))))))], (0 : Int), (0 : Int))] : List D_api_Account))))) (
    Option.map .inr (
      F_mempoollaw11_LedgerLimits_c1 v1 l0))
def F_mempoollaw11_LedgerLimits_l3s (v1 : Bool) (v6 : Int) (l0 : List D_api_Account) : Option (Bool) :=
  iterO (fun v => F_mempoollaw11_LedgerLimits_l3 v.1 v.2.1 v.2.2) (v1, v6, l0)
def F_mempoollaw11_LedgerLimits (a0 : Int) (a1 : Bool) : Option (Bool) :=
  (F_mempoolmake_Place a0 3).bind fun r10 =>
  F_mempoollaw11_LedgerLimits_l3s a1 (wi64 (255 + r10)) []
def F_wire_valid (a0 : D_api_Field) : Option (Bool) :=
  sel (decide (a0.1 < 1)) (
    some false) (
    sel (decide (536870911 < a0.1)) (
      some false) (
      sel (decide (a0.2.1 = 0)) (
        sel (decide ((((List.length a0.2.2.2) : Nat) : Int) = 0)) (
          some true) (
          sel (decide (a0.2.1 = 2)) (
            some (decide (a0.2.2.1 = 0))) (
            some false))) (
        sel (decide (a0.2.1 = 2)) (
          some (decide (a0.2.2.1 = 0))) (
          some false))))
def F_wire_tag (a0 : D_api_Field) : Option (Int) :=
  some (wu64 (wi64 ((wi64 (8 * a0.1)) + a0.2.1)))
def F_varint_Append_c1 (v1 : Int) (l0 : List UInt8) : Option (List UInt8) :=
  chk (decide ((0 : Int) ≤ (wu8 v1) ∧ (wu8 v1) < 256)) <|
  chk (decide (((List.length l0) + 1) * 1 ≤ LIM ∧ (List.length l0) + 1 ≤ LEN)) <|
  some (l0 ++ [(UInt8.ofNat (Int.toNat (wu8 v1)))])
def F_varint_Append_l2 (v1 : Int) (l0 : List UInt8) : Option ((Int × List UInt8) ⊕ (List UInt8)) :=
  sel (decide (128 ≤ v1)) (
    chk (decide ((0 : Int) ≤ (bits .or .u8 (wu8 v1) 128) ∧ (bits .or .u8 (wu8 v1) 128) < 256)) <|
    chk (decide (((List.length l0) + 1) * 1 ≤ LIM ∧ (List.length l0) + 1 ≤ LEN)) <|
    some (.inl ((v1 / 2 ^ 7), (l0 ++ [(UInt8.ofNat (Int.toNat (bits .or .u8 (wu8 v1) 128)))])))) (
    Option.map .inr (
      F_varint_Append_c1 v1 l0))
def F_varint_Append_l2s (v1 : Int) (l0 : List UInt8) : Option (List UInt8) :=
  iterO (fun v => F_varint_Append_l2 v.1 v.2) (v1, l0)
def F_varint_Append (a0 : List UInt8) (a1 : Int) : Option (List UInt8) :=
  chk (decide ((List.length a0) * 1 ≤ LIM ∧ (List.length a0) ≤ LEN)) <|
  F_varint_Append_l2s a1 a0
def F_wire_Append (a0 : List UInt8) (a1 : D_api_Field) : Option (List UInt8 × Int) :=
  (F_wire_valid a1).bind fun r1 =>
  sel (!r1) (
    some ([], 1)) (
    (F_wire_tag a1).bind fun r2 =>
    (F_varint_Append a0 r2).bind fun r3 =>
    sel (decide (a1.2.1 = 0)) (
      (F_varint_Append r3 a1.2.2.1).bind fun r4 =>
      some (r4, 0)) (
      (F_varint_Append r3 (wu64 (((List.length a1.2.2.2) : Nat) : Int))).bind fun r5 =>
      chk (decide (((List.length r5) + (List.length a1.2.2.2)) * 1 ≤ LIM ∧ (List.length r5) + (List.length a1.2.2.2) ≤ LEN)) <|
      some ((r5 ++ a1.2.2.2), 0)))
def F_ledger_leaf_l1 (v6 : List D_api_Field) (v7 : Int) (v8 : Int) (l0 : List UInt8) : Option ((List D_api_Field × Int × Int × List UInt8) ⊕ (List UInt8)) :=
  sel (decide (v8 < v7)) (
    chk (decide ((0 : Int) ≤ v8 ∧ v8 < (((List.length v6) : Nat) : Int))) <|
    (F_wire_Append l0 (List.getD v6 (Int.toNat v8) d_api_Field)).bind fun r1 =>
    some (.inl (v6, v7, (wi64 (v8 + 1)), r1.1))) (
    some (.inr l0))
def F_ledger_leaf_l1s (v6 : List D_api_Field) (v7 : Int) (v8 : Int) (l0 : List UInt8) : Option (List UInt8) :=
  iterO (fun v => F_ledger_leaf_l1 v.1 v.2.1 v.2.2.1 v.2.2.2) (v6, v7, v8, l0)
def F_ledger_leaf (a0 : List D_api_Field) : Option (List UInt8) :=
  F_ledger_leaf_l1s a0 (((List.length a0) : Nat) : Int) 0 []
def F_sha_begin : Option (Vector Int 8) :=
  some (Vector.push (Vector.push (Vector.push (Vector.push (Vector.push (Vector.push (Vector.push (Vector.push #v[] 1779033703) 3144134277) 1013904242) 2773480762) 1359893119) 2600822924) 528734635) 1541459225)
def F_sha_New : Option (D_sha_Digest) :=
  (F_sha_begin).bind fun r1 =>
  some (r1, [], (0 : Int))
def F_math_bits_RotateLeft32 (a0 : Int) (a1 : Int) : Option (Int) :=
  chk (decide ((0 : Int) ≤ (bits .and .u64 (wu64 a1) 31))) <|
  chk (decide ((0 : Int) ≤ (wu64 (32 - (bits .and .u64 (wu64 a1) 31))))) <|
  some (bits .or .u32 (wu32 (a0 * 2 ^ (min (Int.toNat (bits .and .u64 (wu64 a1) 31)) 32))) (a0 / 2 ^ (min (Int.toNat (wu64 (32 - (bits .and .u64 (wu64 a1) 31)))) 32)))
def F_sha_right (a0 : Int) (a1 : Int) : Option (Int) :=
  (F_math_bits_RotateLeft32 a0 (negI .i64 a1)).bind fun r1 =>
  some r1
def F_sha_schedule_l2 (v5 : Int) (b0 : Vector Int 64) (b1 : Vector Int 64) : Option ((Int × Vector Int 64 × Vector Int 64) ⊕ (Vector Int 64)) :=
  sel (decide (v5 < 64)) (
    chk (decide ((0 : Int) ≤ (wi64 (v5 - 15)) ∧ (wi64 (v5 - 15)) < 64)) <|
    chk (decide ((Int.toNat (wi64 (v5 - 15))) < 64)) <|
    chk (decide ((0 : Int) ≤ (wi64 (v5 - 2)) ∧ (wi64 (v5 - 2)) < 64)) <|
    chk (decide ((Int.toNat (wi64 (v5 - 2))) < 64)) <|
    (F_sha_right (vget b1 (Int.toNat (wi64 (v5 - 15))) (0 : Int)) 7).bind fun r1 =>
    (F_sha_right (vget b1 (Int.toNat (wi64 (v5 - 15))) (0 : Int)) 18).bind fun r2 =>
    (F_sha_right (vget b1 (Int.toNat (wi64 (v5 - 2))) (0 : Int)) 17).bind fun r3 =>
    (F_sha_right (vget b1 (Int.toNat (wi64 (v5 - 2))) (0 : Int)) 19).bind fun r4 =>
    chk (decide ((0 : Int) ≤ (wi64 (v5 - 7)) ∧ (wi64 (v5 - 7)) < 64)) <|
    chk (decide ((Int.toNat (wi64 (v5 - 7))) < 64)) <|
    chk (decide ((0 : Int) ≤ (wi64 (v5 - 16)) ∧ (wi64 (v5 - 16)) < 64)) <|
    chk (decide ((Int.toNat (wi64 (v5 - 16))) < 64)) <|
    chk (decide ((0 : Int) ≤ v5 ∧ v5 < 64)) <|
    chk (decide ((Int.toNat v5) < 64)) <|
    some (.inl ((wi64 (v5 + 1)), b0, (vset b1 (Int.toNat v5) (wu32 ((wu32 ((wu32 ((bits .xor .u32 (bits .xor .u32 r3 r4) ((vget b1 (Int.toNat (wi64 (v5 - 2))) (0 : Int)) / 2 ^ 10)) + (vget b1 (Int.toNat (wi64 (v5 - 7))) (0 : Int)))) + (bits .xor .u32 (bits .xor .u32 r1 r2) ((vget b1 (Int.toNat (wi64 (v5 - 15))) (0 : Int)) / 2 ^ 3)))) + (vget b1 (Int.toNat (wi64 (v5 - 16))) (0 : Int)))))))) (
    some (.inr b1))
def F_sha_schedule_l2s (v5 : Int) (b0 : Vector Int 64) (b1 : Vector Int 64) : Option (Vector Int 64) :=
  iterO (fun v => F_sha_schedule_l2 v.1 v.2.1 v.2.2) (v5, b0, b1)
def F_sha_schedule_c1 (b0 : Vector Int 64) (b1 : Vector Int 64) : Option (Vector Int 64) :=
  F_sha_schedule_l2s 16 b0 b1
def F_sha_schedule_l3 (v0 : List UInt8) (v10 : Int) (b0 : Vector Int 64) (b1 : Vector Int 64) : Option ((List UInt8 × Int × Vector Int 64 × Vector Int 64) ⊕ (Vector Int 64)) :=
  sel (decide (v10 < 16)) (
    chk (decide ((0 : Int) ≤ (wi64 (4 * v10)) ∧ (wi64 (4 * v10)) < (((List.length v0) : Nat) : Int))) <|
    chk (decide ((0 : Int) ≤ (wi64 ((wi64 (4 * v10)) + 1)) ∧ (wi64 ((wi64 (4 * v10)) + 1)) < (((List.length v0) : Nat) : Int))) <|
    chk (decide ((0 : Int) ≤ (wi64 ((wi64 (4 * v10)) + 2)) ∧ (wi64 ((wi64 (4 * v10)) + 2)) < (((List.length v0) : Nat) : Int))) <|
    chk (decide ((0 : Int) ≤ (wi64 ((wi64 (4 * v10)) + 3)) ∧ (wi64 ((wi64 (4 * v10)) + 3)) < (((List.length v0) : Nat) : Int))) <|
    chk (decide ((0 : Int) ≤ v10 ∧ v10 < 64)) <|
    chk (decide ((Int.toNat v10) < 64)) <|
    some (.inl (v0, (wi64 (v10 + 1)), b0, (vset b1 (Int.toNat v10) (bits .or .u32 (bits .or .u32 (bits .or .u32 (wu32 ((wu32 ((UInt8.toNat (List.getD v0 (Int.toNat (wi64 (4 * v10))) (0 : UInt8)) : Nat) : Int)) * 2 ^ 24)) (wu32 ((wu32 ((UInt8.toNat (List.getD v0 (Int.toNat (wi64 ((wi64 (4 * v10)) + 1))) (0 : UInt8)) : Nat) : Int)) * 2 ^ 16))) (wu32 ((wu32 ((UInt8.toNat (List.getD v0 (Int.toNat (wi64 ((wi64 (4 * v10)) + 2))) (0 : UInt8)) : Nat) : Int)) * 2 ^ 8))) (wu32 ((UInt8.toNat (List.getD v0 (Int.toNat (wi64 ((wi64 (4 * v10)) + 3))) (0 : UInt8)) : Nat) : Int))))))) (
    Option.map .inr (
      F_sha_schedule_c1 b0 b1))
def F_sha_schedule_l3s (v0 : List UInt8) (v10 : Int) (b0 : Vector Int 64) (b1 : Vector Int 64) : Option (Vector Int 64) :=
  iterO (fun v => F_sha_schedule_l3 v.1 v.2.1 v.2.2.1 v.2.2.2) (v0, v10, b0, b1)
def F_sha_schedule (a0 : List UInt8) : Option (Vector Int 64) :=
  F_sha_schedule_l3s a0 0 (Vector.replicate 64 (0 : Int)) (Vector.replicate 64 (0 : Int))
def F_sha_rounds : Option (Vector Int 64) :=
  some (Vector.push (Vector.push (Vector.push (Vector.push (Vector.push (Vector.push (Vector.push (Vector.push (Vector.push (Vector.push (Vector.push (Vector.push (Vector.push (Vector.push (Vector.push (Vector.push (Vector.push (Vector.push (Vector.push (Vector.push (Vector.push (Vector.push (Vector.push (Vector.push (Vector.push (Vector.push (Vector.push (Vector.push (Vector.push (Vector.push (Vector.push (Vector.push (Vector.push (Vector.push (Vector.push (Vector.push (Vector.push (Vector.push (Vector.push (Vector.push (Vector.push (Vector.push (Vector.push (Vector.push (Vector.push (Vector.push (Vector.push (Vector.push (Vector.push (Vector.push (Vector.push (Vector.push (Vector.push (Vector.push (Vector.push (Vector.push (Vector.push (Vector.push (Vector.push (Vector.push (Vector.push (Vector.push (Vector.push (Vector.push #v[] 1116352408) 1899447441) 3049323471) 3921009573) 961987163) 1508970993) 2453635748) 2870763221) 3624381080) 310598401) 607225278) 1426881987) 1925078388) 2162078206) 2614888103) 3248222580) 3835390401) 4022224774) 264347078) 604807628) 770255983) 1249150122) 1555081692) 1996064986) 2554220882) 2821834349) 2952996808) 3210313671) 3336571891) 3584528711) 113926993) 338241895) 666307205) 773529912) 1294757372) 1396182291) 1695183700) 1986661051) 2177026350) 2456956037) 2730485921) 2820302411) 3259730800) 3345764771) 3516065817) 3600352804) 4094571909) 275423344) 430227734) 506948616) 659060556) 883997877) 958139571) 1322822218) 1537002063) 1747873779) 1955562222) 2024104815) 2227730452) 2361852424) 2428436474) 2756734187) 3204031479) 3329325298)
def F_sha_words_block_l2 (v106 : Int) (b0 : Vector Int 8) (b1 : Vector Int 8) (b2 : Vector Int 8) : Option ((Int × Vector Int 8 × Vector Int 8 × Vector Int 8) ⊕ (Vector Int 8)) :=
  sel (decide (v106 < 8)) (
    chk (decide ((0 : Int) ≤ v106 ∧ v106 < 8)) <|
    chk (decide ((Int.toNat v106) < 8)) <|
    chk (decide ((0 : Int) ≤ v106 ∧ v106 < 8)) <|
    chk (decide ((Int.toNat v106) < 8)) <|
    chk (decide ((0 : Int) ≤ v106 ∧ v106 < 8)) <|
    chk (decide ((Int.toNat v106) < 8)) <|
    some (.inl ((wi64 (v106 + 1)), (vset b0 (Int.toNat v106) (wu32 ((vget b0 (Int.toNat v106) (0 : Int)) + (vget b2 (Int.toNat v106) (0 : Int))))), b1, b2))) (
    some (.inr b0))
def F_sha_words_block_l2s (v106 : Int) (b0 : Vector Int 8) (b1 : Vector Int 8) (b2 : Vector Int 8) : Option (Vector Int 8) :=
  iterO (fun v => F_sha_words_block_l2 v.1 v.2.1 v.2.2.1 v.2.2.2) (v106, b0, b1, b2)
def F_sha_words_block_c1 (b0 : Vector Int 8) (b1 : Vector Int 8) (b2 : Vector Int 8) : Option (Vector Int 8) :=
  F_sha_words_block_l2s 0 b0 b1 b2
def F_sha_words_block_l3 (v21 : Int) (b0 : Vector Int 8) (b1 : Vector Int 8) (b2 : Vector Int 64) (b3 : Vector Int 64) (b4 : Vector Int 8) : Option ((Int × Vector Int 8 × Vector Int 8 × Vector Int 64 × Vector Int 64 × Vector Int 8) ⊕ (Vector Int 8)) :=
  sel (decide (v21 < 64)) (
    (F_sha_right (vget b4 4 (0 : Int)) 6).bind fun r3 =>
    (F_sha_right (vget b4 4 (0 : Int)) 11).bind fun r4 =>
    (F_sha_right (vget b4 4 (0 : Int)) 25).bind fun r5 =>
    chk (decide ((0 : Int) ≤ v21 ∧ v21 < 64)) <|
    chk (decide ((Int.toNat v21) < 64)) <|
    chk (decide ((0 : Int) ≤ v21 ∧ v21 < 64)) <|
    chk (decide ((Int.toNat v21) < 64)) <|
    (F_sha_right (vget b4 0 (0 : Int)) 2).bind fun r6 =>
    (F_sha_right (vget b4 0 (0 : Int)) 13).bind fun r7 =>
    (F_sha_right (vget b4 0 (0 : Int)) 22).bind fun r8 =>
    some (.inl ((wi64 (v21 + 1)), b0, b1, b2, b3, (Vector.push (Vector.push (Vector.push (Vector.push (Vector.push (Vector.push (Vector.push (Vector.push #v[] (wu32 ((wu32 ((wu32 ((wu32 ((wu32 ((wu32 ((vget b4 7 (0 : Int)) + (bits .xor .u32 (bits .xor .u32 r3 r4) r5))) + (bits .xor .u32 (bits .and .u32 (vget b4 4 (0 : Int)) (vget b4 5 (0 : Int))) (bits .and .u32 (notI .u32 (vget b4 4 (0 : Int))) (vget b4 6 (0 : Int)))))) + (vget b3 (Int.toNat v21) (0 : Int)))) + (vget b2 (Int.toNat v21) (0 : Int)))) + (bits .xor .u32 (bits .xor .u32 r6 r7) r8))) + (bits .xor .u32 (bits .xor .u32 (bits .and .u32 (vget b4 0 (0 : Int)) (vget b4 1 (0 : Int))) (bits .and .u32 (vget b4 0 (0 : Int)) (vget b4 2 (0 : Int)))) (bits .and .u32 (vget b4 1 (0 : Int)) (vget b4 2 (0 : Int))))))) (vget b4 0 (0 : Int))) (vget b4 1 (0 : Int))) (vget b4 2 (0 : Int))) (wu32 ((vget b4 3 (0 : Int)) + (wu32 ((wu32 ((wu32 ((wu32 ((vget b4 7 (0 : Int)) + (bits .xor .u32 (bits .xor .u32 r3 r4) r5))) + (bits .xor .u32 (bits .and .u32 (vget b4 4 (0 : Int)) (vget b4 5 (0 : Int))) (bits .and .u32 (notI .u32 (vget b4 4 (0 : Int))) (vget b4 6 (0 : Int)))))) + (vget b3 (Int.toNat v21) (0 : Int)))) + (vget b2 (Int.toNat v21) (0 : Int))))))) (vget b4 4 (0 : Int))) (vget b4 5 (0 : Int))) (vget b4 6 (0 : Int)))))) (
    Option.map .inr (
      F_sha_words_block_c1 b0 b1 b4))
def F_sha_words_block_l3s (v21 : Int) (b0 : Vector Int 8) (b1 : Vector Int 8) (b2 : Vector Int 64) (b3 : Vector Int 64) (b4 : Vector Int 8) : Option (Vector Int 8) :=
  iterO (fun v => F_sha_words_block_l3 v.1 v.2.1 v.2.2.1 v.2.2.2.1 v.2.2.2.2.1 v.2.2.2.2.2) (v21, b0, b1, b2, b3, b4)
def F_sha_words_block (a0 : Vector Int 8) (a1 : List UInt8) : Option (Vector Int 8) :=
  (F_sha_schedule a1).bind fun r1 =>
  (F_sha_rounds).bind fun r2 =>
  F_sha_words_block_l3s 0 a0 (Vector.replicate 8 (0 : Int)) r1 r2 a0
def F_sha_Digest_Write_c1 (v4 : List UInt8) (b0 : D_sha_Digest) : Option (D_sha_Digest) :=
  chk (decide ((List.length v4) * 1 ≤ LIM ∧ (List.length v4) ≤ LEN)) <|
  some (b0.1, v4, b0.2.2)
def F_sha_Digest_Write_l2 (v4 : List UInt8) (b0 : D_sha_Digest) : Option ((List UInt8 × D_sha_Digest) ⊕ (D_sha_Digest)) :=
  sel (decide (64 ≤ (((List.length v4) : Nat) : Int))) (
    chk (decide ((0 : Int) ≤ 0 ∧ (0 : Int) ≤ 64 ∧ 64 ≤ (((List.length v4) : Nat) : Int))) <|
    (F_sha_words_block b0.1 (List.take 64 v4)).bind fun r1 =>
    chk (decide ((0 : Int) ≤ 64 ∧ 64 ≤ (((List.length v4) : Nat) : Int) ∧ (((List.length v4) : Nat) : Int) ≤ (((List.length v4) : Nat) : Int))) <|
    some (.inl ((List.drop 64 (List.take (Int.toNat (((List.length v4) : Nat) : Int)) v4)), (r1, b0.2)))) (
    Option.map .inr (
      F_sha_Digest_Write_c1 v4 b0))
def F_sha_Digest_Write_l2s (v4 : List UInt8) (b0 : D_sha_Digest) : Option (D_sha_Digest) :=
  iterO (fun v => F_sha_Digest_Write_l2 v.1 v.2) (v4, b0)
def F_sha_Digest_Write (a0 : D_sha_Digest) (a1 : List UInt8) : Option (D_sha_Digest) :=
  chk (decide ((List.length a0.2.1) * 1 ≤ LIM ∧ (List.length a0.2.1) ≤ LEN)) <|
  chk (decide (((List.length a0.2.1) + (List.length a1)) * 1 ≤ LIM ∧ (List.length a0.2.1) + (List.length a1) ≤ LEN)) <|
  F_sha_Digest_Write_l2s (a0.2.1 ++ a1) (a0.1, a0.2.1, (wi64 (a0.2.2 + (((List.length a1) : Nat) : Int))))
def F_sha_Digest_Sum_l4 (v57 : Vector Int 8) (v58 : Int) (b0 : Vector UInt8 32) (b1 : Vector UInt8 32) (b2 : D_sha_Digest) : Option ((Vector Int 8 × Int × Vector UInt8 32 × Vector UInt8 32 × D_sha_Digest) ⊕ (D_sha_Digest × Vector UInt8 32)) :=
  sel (decide (v58 < 8)) (
    chk (decide ((0 : Int) ≤ v58 ∧ v58 < 8)) <|
    chk (decide ((0 : Int) ≤ (wi64 (4 * v58)) ∧ (wi64 (4 * v58)) < 32)) <|
    chk (decide ((Int.toNat (wi64 (4 * v58))) < 32)) <|
    chk (decide ((0 : Int) ≤ (wu8 ((vget v57 (Int.toNat v58) (0 : Int)) / 2 ^ 24)) ∧ (wu8 ((vget v57 (Int.toNat v58) (0 : Int)) / 2 ^ 24)) < 256)) <|
    chk (decide ((0 : Int) ≤ (wi64 ((wi64 (4 * v58)) + 1)) ∧ (wi64 ((wi64 (4 * v58)) + 1)) < 32)) <|
    chk (decide ((Int.toNat (wi64 ((wi64 (4 * v58)) + 1))) < 32)) <|
    chk (decide ((0 : Int) ≤ (wu8 ((vget v57 (Int.toNat v58) (0 : Int)) / 2 ^ 16)) ∧ (wu8 ((vget v57 (Int.toNat v58) (0 : Int)) / 2 ^ 16)) < 256)) <|
    chk (decide ((0 : Int) ≤ (wi64 ((wi64 (4 * v58)) + 2)) ∧ (wi64 ((wi64 (4 * v58)) + 2)) < 32)) <|
    chk (decide ((Int.toNat (wi64 ((wi64 (4 * v58)) + 2))) < 32)) <|
    chk (decide ((0 : Int) ≤ (wu8 ((vget v57 (Int.toNat v58) (0 : Int)) / 2 ^ 8)) ∧ (wu8 ((vget v57 (Int.toNat v58) (0 : Int)) / 2 ^ 8)) < 256)) <|
    chk (decide ((0 : Int) ≤ (wi64 ((wi64 (4 * v58)) + 3)) ∧ (wi64 ((wi64 (4 * v58)) + 3)) < 32)) <|
    chk (decide ((Int.toNat (wi64 ((wi64 (4 * v58)) + 3))) < 32)) <|
    chk (decide ((0 : Int) ≤ (wu8 (vget v57 (Int.toNat v58) (0 : Int))) ∧ (wu8 (vget v57 (Int.toNat v58) (0 : Int))) < 256)) <|
    some (.inl (v57, (wi64 (v58 + 1)), b0, (vset (vset (vset (vset b1 (Int.toNat (wi64 (4 * v58))) (UInt8.ofNat (Int.toNat (wu8 ((vget v57 (Int.toNat v58) (0 : Int)) / 2 ^ 24))))) (Int.toNat (wi64 ((wi64 (4 * v58)) + 1))) (UInt8.ofNat (Int.toNat (wu8 ((vget v57 (Int.toNat v58) (0 : Int)) / 2 ^ 16))))) (Int.toNat (wi64 ((wi64 (4 * v58)) + 2))) (UInt8.ofNat (Int.toNat (wu8 ((vget v57 (Int.toNat v58) (0 : Int)) / 2 ^ 8))))) (Int.toNat (wi64 ((wi64 (4 * v58)) + 3))) (UInt8.ofNat (Int.toNat (wu8 (vget v57 (Int.toNat v58) (0 : Int)))))), b2))) (
    some (.inr (b2, b1)))
def F_sha_Digest_Sum_l4s (v57 : Vector Int 8) (v58 : Int) (b0 : Vector UInt8 32) (b1 : Vector UInt8 32) (b2 : D_sha_Digest) : Option (D_sha_Digest × Vector UInt8 32) :=
  iterO (fun v => F_sha_Digest_Sum_l4 v.1 v.2.1 v.2.2.1 v.2.2.2.1 v.2.2.2.2) (v57, v58, b0, b1, b2)
def F_sha_Digest_Sum_c3 (b0 : Vector UInt8 32) (b1 : Vector UInt8 32) (b2 : Vector Int 8) (b3 : D_sha_Digest) : Option (D_sha_Digest × Vector UInt8 32) :=
  F_sha_Digest_Sum_l4s b2 0 b0 b1 b3
def F_sha_Digest_Sum_l5 (v4 : List UInt8) (b0 : Vector UInt8 32) (b1 : Vector UInt8 32) (b2 : Vector Int 8) (b3 : D_sha_Digest) : Option ((List UInt8 × Vector UInt8 32 × Vector UInt8 32 × Vector Int 8 × D_sha_Digest) ⊕ (D_sha_Digest × Vector UInt8 32)) :=
  sel (decide (0 < (((List.length v4) : Nat) : Int))) (
    chk (decide ((0 : Int) ≤ 0 ∧ (0 : Int) ≤ 64 ∧ 64 ≤ (((List.length v4) : Nat) : Int))) <|
    (F_sha_words_block b2 (List.take 64 v4)).bind fun r1 =>
    chk (decide ((0 : Int) ≤ 64 ∧ 64 ≤ (((List.length v4) : Nat) : Int) ∧ (((List.length v4) : Nat) : Int) ≤ (((List.length v4) : Nat) : Int))) <|
    some (.inl ((List.drop 64 (List.take (Int.toNat (((List.length v4) : Nat) : Int)) v4)), b0, b1, r1, b3))) (
    Option.map .inr (
      F_sha_Digest_Sum_c3 b0 b1 b2 b3))
def F_sha_Digest_Sum_l5s (v4 : List UInt8) (b0 : Vector UInt8 32) (b1 : Vector UInt8 32) (b2 : Vector Int 8) (b3 : D_sha_Digest) : Option (D_sha_Digest × Vector UInt8 32) :=
  iterO (fun v => F_sha_Digest_Sum_l5 v.1 v.2.1 v.2.2.1 v.2.2.2.1 v.2.2.2.2) (v4, b0, b1, b2, b3)
def F_sha_Digest_Sum_c2 (b0 : D_sha_Digest) (b1 : Vector UInt8 32) (b2 : Vector UInt8 32) (l0 : List UInt8) : Option (D_sha_Digest × Vector UInt8 32) :=
  F_sha_Digest_Sum_l5s l0 b1 b2 b0.1 b0
def F_sha_Digest_Sum_l6 (v5 : Int) (v6 : Int) (b0 : D_sha_Digest) (b1 : Vector UInt8 32) (b2 : Vector UInt8 32) (l0 : List UInt8) : Option ((Int × Int × D_sha_Digest × Vector UInt8 32 × Vector UInt8 32 × List UInt8) ⊕ (D_sha_Digest × Vector UInt8 32)) :=
  sel (decide (0 ≤ v6)) (
    chk (decide ((0 : Int) ≤ v6)) <|
    chk (decide ((0 : Int) ≤ (wu8 (v5 / 2 ^ (min (Int.toNat v6) 64))) ∧ (wu8 (v5 / 2 ^ (min (Int.toNat v6) 64))) < 256)) <|
    chk (decide (((List.length l0) + 1) * 1 ≤ LIM ∧ (List.length l0) + 1 ≤ LEN)) <|
    some (.inl (v5, (wi64 (v6 - 8)), b0, b1, b2, (l0 ++ [(UInt8.ofNat (Int.toNat (wu8 (v5 / 2 ^ (min (Int.toNat v6) 64)))))])))) (
    Option.map .inr (
      F_sha_Digest_Sum_c2 b0 b1 b2 l0))
def F_sha_Digest_Sum_l6s (v5 : Int) (v6 : Int) (b0 : D_sha_Digest) (b1 : Vector UInt8 32) (b2 : Vector UInt8 32) (l0 : List UInt8) : Option (D_sha_Digest × Vector UInt8 32) :=
  iterO (fun v => F_sha_Digest_Sum_l6 v.1 v.2.1 v.2.2.1 v.2.2.2.1 v.2.2.2.2.1 v.2.2.2.2.2) (v5, v6, b0, b1, b2, l0)
def F_sha_Digest_Sum_c1 (b0 : D_sha_Digest) (b1 : Vector UInt8 32) (b2 : Vector UInt8 32) (l0 : List UInt8) : Option (D_sha_Digest × Vector UInt8 32) :=
  F_sha_Digest_Sum_l6s (wu64 ((wu64 b0.2.2) * 8)) 56 b0 b1 b2 l0
def F_sha_Digest_Sum_l7 (b0 : D_sha_Digest) (b1 : Vector UInt8 32) (b2 : Vector UInt8 32) (l0 : List UInt8) : Option ((D_sha_Digest × Vector UInt8 32 × Vector UInt8 32 × List UInt8) ⊕ (D_sha_Digest × Vector UInt8 32)) :=
  sel (!decide ((Int.tmod (((List.length l0) : Nat) : Int) 64) = 56)) (
    chk (decide (((List.length l0) + 1) * 1 ≤ LIM ∧ (List.length l0) + 1 ≤ LEN)) <|
    some (.inl (b0, b1, b2, (l0 ++ [(0 : UInt8)])))) (
    Option.map .inr (
      F_sha_Digest_Sum_c1 b0 b1 b2 l0))
def F_sha_Digest_Sum_l7s (b0 : D_sha_Digest) (b1 : Vector UInt8 32) (b2 : Vector UInt8 32) (l0 : List UInt8) : Option (D_sha_Digest × Vector UInt8 32) :=
  iterO (fun v => F_sha_Digest_Sum_l7 v.1 v.2.1 v.2.2.1 v.2.2.2) (b0, b1, b2, l0)
def F_sha_Digest_Sum (a0 : D_sha_Digest) : Option (D_sha_Digest × Vector UInt8 32) :=
  chk (decide ((List.length a0.2.1) * 1 ≤ LIM ∧ (List.length a0.2.1) ≤ LEN)) <|
  chk (decide (((List.length a0.2.1) + 1) * 1 ≤ LIM ∧ (List.length a0.2.1) + 1 ≤ LEN)) <|
  F_sha_Digest_Sum_l7s a0 (Vector.replicate 32 (0 : UInt8)) (Vector.replicate 32 (0 : UInt8)) (a0.2.1 ++ [(128 : UInt8)])
def F_sha_Sum (a0 : List UInt8) : Option (Vector UInt8 32) :=
  (F_sha_New).bind fun r1 =>
  (F_sha_Digest_Write r1 a0).bind fun r2 =>
  (F_sha_Digest_Sum r2).bind fun r3 =>
  some r3.2
def F_merkle_Leaf (a0 : List UInt8) : Option (Vector UInt8 32) :=
  (F_sha_New).bind fun r1 =>
  (F_sha_Digest_Write r1 [(0 : UInt8)]).bind fun r2 =>
  (F_sha_Digest_Write r2 a0).bind fun r3 =>
  (F_sha_Digest_Sum r3).bind fun r4 =>
  some r4.2
def F_math_bits_Len64_c3 (v0 : Int) (v2 : Int) : Option (Int) :=
  chk (decide ((0 : Int) ≤ (wu8 v0) ∧ (wu8 v0) < 256)) <|
  some (wi64 (v2 + (wi64 ((UInt8.toNat (List.getD [(0 : UInt8), (1 : UInt8), (2 : UInt8), (2 : UInt8), (3 : UInt8), (3 : UInt8), (3 : UInt8), (3 : UInt8), (4 : UInt8), (4 : UInt8), (4 : UInt8), (4 : UInt8), (4 : UInt8), (4 : UInt8), (4 : UInt8), (4 : UInt8), (5 : UInt8), (5 : UInt8), (5 : UInt8), (5 : UInt8), (5 : UInt8), (5 : UInt8), (5 : UInt8), (5 : UInt8), (5 : UInt8), (5 : UInt8), (5 : UInt8), (5 : UInt8), (5 : UInt8), (5 : UInt8), (5 : UInt8), (5 : UInt8), (6 : UInt8), (6 : UInt8), (6 : UInt8), (6 : UInt8), (6 : UInt8), (6 : UInt8), (6 : UInt8), (6 : UInt8), (6 : UInt8), (6 : UInt8), (6 : UInt8), (6 : UInt8), (6 : UInt8), (6 : UInt8), (6 : UInt8), (6 : UInt8), (6 : UInt8), (6 : UInt8), (6 : UInt8), (6 : UInt8), (6 : UInt8), (6 : UInt8), (6 : UInt8), (6 : UInt8), (6 : UInt8), (6 : UInt8), (6 : UInt8), (6 : UInt8), (6 : UInt8), (6 : UInt8), (6 : UInt8), (6 : UInt8), (7 : UInt8), (7 : UInt8), (7 : UInt8), (7 : UInt8), (7 : UInt8), (7 : UInt8), (7 : UInt8), (7 : UInt8), (7 : UInt8), (7 : UInt8), (7 : UInt8), (7 : UInt8), (7 : UInt8), (7 : UInt8), (7 : UInt8), (7 : UInt8), (7 : UInt8), (7 : UInt8), (7 : UInt8), (7 : UInt8), (7 : UInt8), (7 : UInt8), (7 : UInt8), (7 : UInt8), (7 : UInt8), (7 : UInt8), (7 : UInt8), (7 : UInt8), (7 : UInt8), (7 : UInt8), (7 : UInt8), (7 : UInt8), (7 : UInt8), (7 : UInt8), (7 : UInt8), (7 : UInt8), (7 : UInt8), (7 : UInt8), (7 : UInt8), (7 : UInt8), (7 : UInt8), (7 : UInt8), (7 : UInt8), (7 : UInt8), (7 : UInt8), (7 : UInt8), (7 : UInt8), (7 : UInt8), (7 : UInt8), (7 : UInt8), (7 : UInt8), (7 : UInt8), (7 : UInt8), (7 : UInt8), (7 : UInt8), (7 : UInt8), (7 : UInt8), (7 : UInt8), (7 : UInt8), (7 : UInt8), (7 : UInt8), (7 : UInt8), (7 : UInt8), (7 : UInt8), (8 : UInt8), (8 : UInt8), (8 : UInt8), (8 : UInt8), (8 : UInt8), (8 : UInt8), (8 : UInt8), (8 : UInt8), (8 : UInt8), (8 : UInt8), (8 : UInt8), (8 : UInt8), (8 : UInt8), (8 : UInt8), (8 : UInt8), (8 : UInt8), (8 : UInt8), (8 : UInt8), (8 : UInt8), (8 : UInt8), (8 : UInt8), (8 : UInt8), (8 : UInt8), (8 : UInt8), (8 : UInt8), (8 : UInt8), (8 : UInt8), (8 : UInt8), (8 : UInt8), (8 : UInt8), (8 : UInt8), (8 : UInt8), (8 : UInt8), (8 : UInt8), (8 : UInt8), (8 : UInt8), (8 : UInt8), (8 : UInt8), (8 : UInt8), (8 : UInt8), (8 : UInt8), (8 : UInt8), (8 : UInt8), (8 : UInt8), (8 : UInt8), (8 : UInt8), (8 : UInt8), (8 : UInt8), (8 : UInt8), (8 : UInt8), (8 : UInt8), (8 : UInt8), (8 : UInt8), (8 : UInt8), (8 : UInt8), (8 : UInt8), (8 : UInt8), (8 : UInt8), (8 : UInt8), (8 : UInt8), (8 : UInt8), (8 : UInt8), (8 : UInt8), (8 : UInt8), (8 : UInt8), (8 : UInt8), (8 : UInt8), (8 : UInt8), (8 : UInt8), (8 : UInt8), (8 : UInt8), (8 : UInt8), (8 : UInt8), (8 : UInt8), (8 : UInt8), (8 : UInt8), (8 : UInt8), (8 : UInt8), (8 : UInt8), (8 : UInt8), (8 : UInt8), (8 : UInt8), (8 : UInt8), (8 : UInt8), (8 : UInt8), (8 : UInt8), (8 : UInt8), (8 : UInt8), (8 : UInt8), (8 : UInt8), (8 : UInt8), (8 : UInt8), (8 : UInt8), (8 : UInt8), (8 : UInt8), (8 : UInt8), (8 : UInt8), (8 : UInt8), (8 : UInt8), (8 : UInt8), (8 : UInt8), (8 : UInt8), (8 : UInt8), (8 : UInt8), (8 : UInt8), (8 : UInt8), (8 : UInt8), (8 : UInt8), (8 : UInt8), (8 : UInt8), (8 : UInt8), (8 : UInt8), (8 : UInt8), (8 : UInt8), (8 : UInt8), (8 : UInt8), (8 : UInt8), (8 : UInt8), (8 : UInt8), (8 : UInt8), (8 : UInt8), (8 : UInt8), (8 : UInt8), (8 : UInt8), (8 : UInt8), (8 : UInt8), (8 : UInt8), (8 : UInt8)] (Int.toNat (wu8 v0)) (0 : UInt8)) : Nat) : Int))))
def F_math_bits_Len64_c2 (v0 : Int) (v2 : Int) : Option (Int) :=
  sel (decide (256 ≤ v0)) (
    F_math_bits_Len64_c3 (v0 / 2 ^ 8) (wi64 (v2 + 8))) (
    F_math_bits_Len64_c3 v0 v2)
def F_math_bits_Len64_c1 (v0 : Int) (v2 : Int) : Option (Int) :=
  sel (decide (65536 ≤ v0)) (
    F_math_bits_Len64_c2 (v0 / 2 ^ 16) (wi64 (v2 + 16))) (
    F_math_bits_Len64_c2 v0 v2)
def F_math_bits_Len64 (a0 : Int) : Option (Int) :=
  sel (decide (4294967296 ≤ a0)) (
    F_math_bits_Len64_c1 (a0 / 2 ^ 32) 32) (
    F_math_bits_Len64_c1 a0 0)
def F_math_bits_Len (a0 : Int) : Option (Int) :=
  (F_math_bits_Len64 a0).bind fun r1 =>
  some r1
def F_merkle_half (a0 : Int) : Option (Int) :=
  (F_math_bits_Len (wu64 (wi64 (a0 - 1)))).bind fun r1 =>
  chk (decide ((0 : Int) ≤ (wi64 (r1 - 1)))) <|
  some (wi64 (1 * 2 ^ (min (Int.toNat (wi64 (r1 - 1))) 64)))
def F_merkle_Inner (a0 : Vector UInt8 32) (a1 : Vector UInt8 32) : Option (Vector UInt8 32) :=
  (F_sha_New).bind fun r1 =>
  (F_sha_Digest_Write r1 [(1 : UInt8)]).bind fun r2 =>
  (F_sha_Digest_Write r2 (Vector.toList a0)).bind fun r3 =>
  (F_sha_Digest_Write r3 (Vector.toList a1)).bind fun r4 =>
  (F_sha_Digest_Sum r4).bind fun r5 =>
  some r5.2
noncomputable def F_merkle_Root_body (rec : List (List UInt8) → Option (Vector UInt8 32)) (a0 : List (List UInt8)) : Option (Vector UInt8 32) :=
  sel (decide ((((List.length a0) : Nat) : Int) = 0)) (
    (F_sha_Sum []).bind fun r1 =>
    some r1) (
    sel (decide ((((List.length a0) : Nat) : Int) = 1)) (
      chk (decide ((0 : Int) ≤ 0 ∧ 0 < (((List.length a0) : Nat) : Int))) <|
      (F_merkle_Leaf (List.getD a0 0 [])).bind fun r2 =>
      some r2) (
      (F_merkle_half (((List.length a0) : Nat) : Int)).bind fun r3 =>
      chk (decide ((0 : Int) ≤ 0 ∧ 0 ≤ r3 ∧ r3 ≤ (((List.length a0) : Nat) : Int))) <|
      (rec (List.take (Int.toNat r3) a0)).bind fun r4 =>
      chk (decide ((0 : Int) ≤ r3 ∧ r3 ≤ (((List.length a0) : Nat) : Int) ∧ (((List.length a0) : Nat) : Int) ≤ (((List.length a0) : Nat) : Int))) <|
      (rec (List.drop (Int.toNat r3) (List.take (Int.toNat (((List.length a0) : Nat) : Int)) a0))).bind fun r5 =>
      (F_merkle_Inner r4 r5).bind fun r6 =>
      some r6))
noncomputable def F_merkle_Root (n : Nat) : List (List UInt8) → Option (Vector UInt8 32) := Nat.rec (motive := fun _ => List (List UInt8) → Option (Vector UInt8 32)) (fun _ => none) (fun _ ih => F_merkle_Root_body ih) n
noncomputable def F_ledger_Digest_c1 (b0 : D_api_Ledger) (_b1 : Vector UInt8 32) (l0 : List (List UInt8)) : Option (Vector UInt8 32) :=
  (F_ledger_leaf [(4, (0 : Int), b0.2, [])]).bind fun r1 =>
  chk (decide (((List.length l0) + 1) * 24 ≤ LIM ∧ (List.length l0) + 1 ≤ LEN)) <|
  (F_merkle_Root FUEL (l0 ++ [r1])).bind fun r2 =>
  some r2
noncomputable def F_ledger_Digest_l2 (v7 : List D_api_Account) (v8 : Int) (v9 : Int) (b0 : D_api_Ledger) (b1 : Vector UInt8 32) (l0 : List (List UInt8)) : Option ((List D_api_Account × Int × Int × D_api_Ledger × Vector UInt8 32 × List (List UInt8)) ⊕ (Vector UInt8 32)) :=
  sel (decide (v9 < v8)) (
    chk (decide ((0 : Int) ≤ v9 ∧ v9 < (((List.length v7) : Nat) : Int))) <|
    chk (decide ((List.length (List.getD v7 (Int.toNat v9) d_api_Account).1) ≤ maxLen)) <|
    (F_ledger_leaf [(1, 2, (0 : Int), (List.getD v7 (Int.toNat v9) d_api_Account).1), (2, (0 : Int), (List.getD v7 (Int.toNat v9) d_api_Account).2.1, []), (3, (0 : Int), (List.getD v7 (Int.toNat v9) d_api_Account).2.2, [])]).bind fun r3 =>
    chk (decide (((List.length l0) + 1) * 24 ≤ LIM ∧ (List.length l0) + 1 ≤ LEN)) <|
    some (.inl (v7, v8, (wi64 (v9 + 1)), b0, b1, (l0 ++ [r3])))) (
    Option.map .inr (
      F_ledger_Digest_c1 b0 b1 l0))
noncomputable def F_ledger_Digest_l2s (v7 : List D_api_Account) (v8 : Int) (v9 : Int) (b0 : D_api_Ledger) (b1 : Vector UInt8 32) (l0 : List (List UInt8)) : Option (Vector UInt8 32) :=
  iterO (fun v => F_ledger_Digest_l2 v.1 v.2.1 v.2.2.1 v.2.2.2.1 v.2.2.2.2.1 v.2.2.2.2.2) (v7, v8, v9, b0, b1, l0)
noncomputable def F_ledger_Digest (a0 : D_api_Ledger) : Option (Vector UInt8 32) :=
  F_ledger_Digest_l2s a0.1 (((List.length a0.1) : Nat) : Int) 0 a0 (Vector.replicate 32 (0 : UInt8)) []
def F_mempoolref1_right (a0 : D_api_Field) : Option (Bool) :=
  sel (decide (a0.1 < 1)) (
    some false) (
    sel (decide (536870911 < a0.1)) (
      some false) (
      sel (decide (a0.2.1 = 0)) (
        sel (decide ((((List.length a0.2.2.2) : Nat) : Int) = 0)) (
          some true) (
          sel (decide (a0.2.1 = 2)) (
            some (decide (a0.2.2.1 = 0))) (
            some false))) (
        sel (decide (a0.2.1 = 2)) (
          some (decide (a0.2.2.1 = 0))) (
          some false))))
def F_mempoolref1_Varint_c1 (v1 : Int) (l0 : List UInt8) : Option (List UInt8) :=
  chk (decide ((0 : Int) ≤ (wu8 v1) ∧ (wu8 v1) < 256)) <|
  chk (decide (((List.length l0) + 1) * 1 ≤ LIM ∧ (List.length l0) + 1 ≤ LEN)) <|
  some (l0 ++ [(UInt8.ofNat (Int.toNat (wu8 v1)))])
def F_mempoolref1_Varint_l2 (v1 : Int) (l0 : List UInt8) : Option ((Int × List UInt8) ⊕ (List UInt8)) :=
  sel (decide (128 ≤ v1)) (
    chk (decide ((0 : Int) ≤ (bits .or .u8 (wu8 v1) 128) ∧ (bits .or .u8 (wu8 v1) 128) < 256)) <|
    chk (decide (((List.length l0) + 1) * 1 ≤ LIM ∧ (List.length l0) + 1 ≤ LEN)) <|
    some (.inl ((v1 / 2 ^ 7), (l0 ++ [(UInt8.ofNat (Int.toNat (bits .or .u8 (wu8 v1) 128)))])))) (
    Option.map .inr (
      F_mempoolref1_Varint_c1 v1 l0))
def F_mempoolref1_Varint_l2s (v1 : Int) (l0 : List UInt8) : Option (List UInt8) :=
  iterO (fun v => F_mempoolref1_Varint_l2 v.1 v.2) (v1, l0)
def F_mempoolref1_Varint (a0 : List UInt8) (a1 : Int) : Option (List UInt8) :=
  chk (decide ((0 + (List.length a0)) * 1 ≤ LIM ∧ 0 + (List.length a0) ≤ LEN)) <|
  F_mempoolref1_Varint_l2s a1 a0
def F_mempoolref1_Field (a0 : List UInt8) (a1 : D_api_Field) : Option (List UInt8 × Int) :=
  (F_mempoolref1_right a1).bind fun r1 =>
  sel (!r1) (
    some ([], 1)) (
    (F_mempoolref1_Varint a0 (wu64 ((wu64 ((wu64 a1.1) * 8)) + (wu64 a1.2.1)))).bind fun r2 =>
    sel (decide (a1.2.1 = 0)) (
      (F_mempoolref1_Varint r2 a1.2.2.1).bind fun r3 =>
      some (r3, 0)) (
      (F_mempoolref1_Varint r2 (wu64 (((List.length a1.2.2.2) : Nat) : Int))).bind fun r4 =>
      chk (decide (((List.length r4) + (List.length a1.2.2.2)) * 1 ≤ LIM ∧ (List.length r4) + (List.length a1.2.2.2) ≤ LEN)) <|
      some ((r4 ++ a1.2.2.2), 0)))
def F_mempoolref4_Message_l1 (v6 : List D_api_Field) (v7 : Int) (v8 : Int) (l0 : List UInt8) : Option ((List D_api_Field × Int × Int × List UInt8) ⊕ (List UInt8)) :=
  sel (decide (v8 < v7)) (
    chk (decide ((0 : Int) ≤ v8 ∧ v8 < (((List.length v6) : Nat) : Int))) <|
    (F_mempoolref1_Field l0 (List.getD v6 (Int.toNat v8) d_api_Field)).bind fun r1 =>
    some (.inl (v6, v7, (wi64 (v8 + 1)), r1.1))) (
    some (.inr l0))
def F_mempoolref4_Message_l1s (v6 : List D_api_Field) (v7 : Int) (v8 : Int) (l0 : List UInt8) : Option (List UInt8) :=
  iterO (fun v => F_mempoolref4_Message_l1 v.1 v.2.1 v.2.2.1 v.2.2.2) (v6, v7, v8, l0)
def F_mempoolref4_Message (a0 : List D_api_Field) : Option (List UInt8) :=
  F_mempoolref4_Message_l1s a0 (((List.length a0) : Nat) : Int) 0 []
def F_mempoolref4_turn (a0 : Int) (a1 : Int) : Option (Int) :=
  chk (decide ((0 : Int) ≤ a1)) <|
  chk (decide ((0 : Int) ≤ (wi64 (32 - a1)))) <|
  some (bits .or .u32 (a0 / 2 ^ (min (Int.toNat a1) 32)) (wu32 (a0 * 2 ^ (min (Int.toNat (wi64 (32 - a1))) 32))))
def F_mempoolref4_constants : Option (Vector Int 64) :=
  some (Vector.push (Vector.push (Vector.push (Vector.push (Vector.push (Vector.push (Vector.push (Vector.push (Vector.push (Vector.push (Vector.push (Vector.push (Vector.push (Vector.push (Vector.push (Vector.push (Vector.push (Vector.push (Vector.push (Vector.push (Vector.push (Vector.push (Vector.push (Vector.push (Vector.push (Vector.push (Vector.push (Vector.push (Vector.push (Vector.push (Vector.push (Vector.push (Vector.push (Vector.push (Vector.push (Vector.push (Vector.push (Vector.push (Vector.push (Vector.push (Vector.push (Vector.push (Vector.push (Vector.push (Vector.push (Vector.push (Vector.push (Vector.push (Vector.push (Vector.push (Vector.push (Vector.push (Vector.push (Vector.push (Vector.push (Vector.push (Vector.push (Vector.push (Vector.push (Vector.push (Vector.push (Vector.push (Vector.push (Vector.push #v[] 1116352408) 1899447441) 3049323471) 3921009573) 961987163) 1508970993) 2453635748) 2870763221) 3624381080) 310598401) 607225278) 1426881987) 1925078388) 2162078206) 2614888103) 3248222580) 3835390401) 4022224774) 264347078) 604807628) 770255983) 1249150122) 1555081692) 1996064986) 2554220882) 2821834349) 2952996808) 3210313671) 3336571891) 3584528711) 113926993) 338241895) 666307205) 773529912) 1294757372) 1396182291) 1695183700) 1986661051) 2177026350) 2456956037) 2730485921) 2820302411) 3259730800) 3345764771) 3516065817) 3600352804) 4094571909) 275423344) 430227734) 506948616) 659060556) 883997877) 958139571) 1322822218) 1537002063) 1747873779) 1955562222) 2024104815) 2227730452) 2361852424) 2428436474) 2756734187) 3204031479) 3329325298)
def F_mempoolref4_block_l4 (v180 : Int) (b0 : Vector Int 8) (b1 : Vector Int 8) (b2 : Vector Int 8) : Option ((Int × Vector Int 8 × Vector Int 8 × Vector Int 8) ⊕ (Vector Int 8)) :=
  sel (decide (v180 < 8)) (
    chk (decide ((0 : Int) ≤ v180 ∧ v180 < 8)) <|
    chk (decide ((Int.toNat v180) < 8)) <|
    chk (decide ((0 : Int) ≤ v180 ∧ v180 < 8)) <|
    chk (decide ((Int.toNat v180) < 8)) <|
    chk (decide ((0 : Int) ≤ v180 ∧ v180 < 8)) <|
    chk (decide ((Int.toNat v180) < 8)) <|
    some (.inl ((wi64 (v180 + 1)), (vset b0 (Int.toNat v180) (wu32 ((vget b0 (Int.toNat v180) (0 : Int)) + (vget b2 (Int.toNat v180) (0 : Int))))), b1, b2))) (
    some (.inr b0))
def F_mempoolref4_block_l4s (v180 : Int) (b0 : Vector Int 8) (b1 : Vector Int 8) (b2 : Vector Int 8) : Option (Vector Int 8) :=
  iterO (fun v => F_mempoolref4_block_l4 v.1 v.2.1 v.2.2.1 v.2.2.2) (v180, b0, b1, b2)
def F_mempoolref4_block_c3 (b0 : Vector Int 8) (b1 : Vector Int 8) (b2 : Vector Int 8) : Option (Vector Int 8) :=
  F_mempoolref4_block_l4s 0 b0 b1 b2
def F_mempoolref4_block_l5 (v12 : Int) (b0 : Vector Int 8) (b1 : Vector Int 8) (b2 : Vector Int 64) (b3 : Vector Int 64) (b4 : Vector Int 8) : Option ((Int × Vector Int 8 × Vector Int 8 × Vector Int 64 × Vector Int 64 × Vector Int 8) ⊕ (Vector Int 8)) :=
  sel (decide (v12 < 64)) (
    (F_mempoolref4_turn (vget b4 4 (0 : Int)) 6).bind fun r2 =>
    (F_mempoolref4_turn (vget b4 4 (0 : Int)) 11).bind fun r3 =>
    (F_mempoolref4_turn (vget b4 4 (0 : Int)) 25).bind fun r4 =>
    chk (decide ((0 : Int) ≤ v12 ∧ v12 < 64)) <|
    chk (decide ((Int.toNat v12) < 64)) <|
    chk (decide ((0 : Int) ≤ v12 ∧ v12 < 64)) <|
    chk (decide ((Int.toNat v12) < 64)) <|
    (F_mempoolref4_turn (vget b4 0 (0 : Int)) 2).bind fun r5 =>
    (F_mempoolref4_turn (vget b4 0 (0 : Int)) 13).bind fun r6 =>
    (F_mempoolref4_turn (vget b4 0 (0 : Int)) 22).bind fun r7 =>
    some (.inl ((wi64 (v12 + 1)), b0, b1, b2, b3, (Vector.push (Vector.push (Vector.push (Vector.push (Vector.push (Vector.push (Vector.push (Vector.push #v[] (wu32 ((wu32 ((wu32 ((wu32 ((wu32 ((vget b4 7 (0 : Int)) + (bits .xor .u32 (bits .xor .u32 r2 r3) r4))) + (bits .xor .u32 (bits .and .u32 (vget b4 4 (0 : Int)) (vget b4 5 (0 : Int))) (bits .and .u32 (notI .u32 (vget b4 4 (0 : Int))) (vget b4 6 (0 : Int)))))) + (vget b3 (Int.toNat v12) (0 : Int)))) + (vget b2 (Int.toNat v12) (0 : Int)))) + (wu32 ((bits .xor .u32 (bits .xor .u32 r5 r6) r7) + (bits .xor .u32 (bits .xor .u32 (bits .and .u32 (vget b4 0 (0 : Int)) (vget b4 1 (0 : Int))) (bits .and .u32 (vget b4 0 (0 : Int)) (vget b4 2 (0 : Int)))) (bits .and .u32 (vget b4 1 (0 : Int)) (vget b4 2 (0 : Int))))))))) (vget b4 0 (0 : Int))) (vget b4 1 (0 : Int))) (vget b4 2 (0 : Int))) (wu32 ((vget b4 3 (0 : Int)) + (wu32 ((wu32 ((wu32 ((wu32 ((vget b4 7 (0 : Int)) + (bits .xor .u32 (bits .xor .u32 r2 r3) r4))) + (bits .xor .u32 (bits .and .u32 (vget b4 4 (0 : Int)) (vget b4 5 (0 : Int))) (bits .and .u32 (notI .u32 (vget b4 4 (0 : Int))) (vget b4 6 (0 : Int)))))) + (vget b3 (Int.toNat v12) (0 : Int)))) + (vget b2 (Int.toNat v12) (0 : Int))))))) (vget b4 4 (0 : Int))) (vget b4 5 (0 : Int))) (vget b4 6 (0 : Int)))))) (
    Option.map .inr (
      F_mempoolref4_block_c3 b0 b1 b4))
def F_mempoolref4_block_l5s (v12 : Int) (b0 : Vector Int 8) (b1 : Vector Int 8) (b2 : Vector Int 64) (b3 : Vector Int 64) (b4 : Vector Int 8) : Option (Vector Int 8) :=
  iterO (fun v => F_mempoolref4_block_l5 v.1 v.2.1 v.2.2.1 v.2.2.2.1 v.2.2.2.2.1 v.2.2.2.2.2) (v12, b0, b1, b2, b3, b4)
def F_mempoolref4_block_c2 (b0 : Vector Int 8) (b1 : Vector Int 8) (b2 : Vector Int 64) : Option (Vector Int 8) :=
  (F_mempoolref4_constants).bind fun r1 =>
  F_mempoolref4_block_l5s 0 b0 b1 b2 r1 b0
def F_mempoolref4_block_l6 (v7 : Int) (b0 : Vector Int 8) (b1 : Vector Int 8) (b2 : Vector Int 64) : Option ((Int × Vector Int 8 × Vector Int 8 × Vector Int 64) ⊕ (Vector Int 8)) :=
  sel (decide (v7 < 64)) (
    chk (decide ((0 : Int) ≤ (wi64 (v7 - 15)) ∧ (wi64 (v7 - 15)) < 64)) <|
    chk (decide ((Int.toNat (wi64 (v7 - 15))) < 64)) <|
    chk (decide ((0 : Int) ≤ (wi64 (v7 - 2)) ∧ (wi64 (v7 - 2)) < 64)) <|
    chk (decide ((Int.toNat (wi64 (v7 - 2))) < 64)) <|
    (F_mempoolref4_turn (vget b2 (Int.toNat (wi64 (v7 - 2))) (0 : Int)) 17).bind fun r8 =>
    (F_mempoolref4_turn (vget b2 (Int.toNat (wi64 (v7 - 2))) (0 : Int)) 19).bind fun r9 =>
    chk (decide ((0 : Int) ≤ (wi64 (v7 - 7)) ∧ (wi64 (v7 - 7)) < 64)) <|
    chk (decide ((Int.toNat (wi64 (v7 - 7))) < 64)) <|
    (F_mempoolref4_turn (vget b2 (Int.toNat (wi64 (v7 - 15))) (0 : Int)) 7).bind fun r10 =>
    (F_mempoolref4_turn (vget b2 (Int.toNat (wi64 (v7 - 15))) (0 : Int)) 18).bind fun r11 =>
    chk (decide ((0 : Int) ≤ (wi64 (v7 - 16)) ∧ (wi64 (v7 - 16)) < 64)) <|
    chk (decide ((Int.toNat (wi64 (v7 - 16))) < 64)) <|
    chk (decide ((0 : Int) ≤ v7 ∧ v7 < 64)) <|
    chk (decide ((Int.toNat v7) < 64)) <|
    some (.inl ((wi64 (v7 + 1)), b0, b1, (vset b2 (Int.toNat v7) (wu32 ((wu32 ((wu32 ((bits .xor .u32 (bits .xor .u32 r8 r9) ((vget b2 (Int.toNat (wi64 (v7 - 2))) (0 : Int)) / 2 ^ 10)) + (vget b2 (Int.toNat (wi64 (v7 - 7))) (0 : Int)))) + (bits .xor .u32 (bits .xor .u32 r10 r11) ((vget b2 (Int.toNat (wi64 (v7 - 15))) (0 : Int)) / 2 ^ 3)))) + (vget b2 (Int.toNat (wi64 (v7 - 16))) (0 : Int)))))))) (
    Option.map .inr (
      F_mempoolref4_block_c2 b0 b1 b2))
def F_mempoolref4_block_l6s (v7 : Int) (b0 : Vector Int 8) (b1 : Vector Int 8) (b2 : Vector Int 64) : Option (Vector Int 8) :=
  iterO (fun v => F_mempoolref4_block_l6 v.1 v.2.1 v.2.2.1 v.2.2.2) (v7, b0, b1, b2)
def F_mempoolref4_block_c1 (b0 : Vector Int 8) (b1 : Vector Int 8) (b2 : Vector Int 64) : Option (Vector Int 8) :=
  F_mempoolref4_block_l6s 16 b0 b1 b2
def F_mempoolref4_block_l7 (v1 : List UInt8) (v6 : Int) (b0 : Vector Int 8) (b1 : Vector Int 8) (b2 : Vector Int 64) : Option ((List UInt8 × Int × Vector Int 8 × Vector Int 8 × Vector Int 64) ⊕ (Vector Int 8)) :=
  sel (decide (v6 < 16)) (
    chk (decide ((0 : Int) ≤ (wi64 (4 * v6)) ∧ (wi64 (4 * v6)) < (((List.length v1) : Nat) : Int))) <|
    chk (decide ((0 : Int) ≤ (wi64 ((wi64 (4 * v6)) + 1)) ∧ (wi64 ((wi64 (4 * v6)) + 1)) < (((List.length v1) : Nat) : Int))) <|
    chk (decide ((0 : Int) ≤ (wi64 ((wi64 (4 * v6)) + 2)) ∧ (wi64 ((wi64 (4 * v6)) + 2)) < (((List.length v1) : Nat) : Int))) <|
    chk (decide ((0 : Int) ≤ (wi64 ((wi64 (4 * v6)) + 3)) ∧ (wi64 ((wi64 (4 * v6)) + 3)) < (((List.length v1) : Nat) : Int))) <|
    chk (decide ((0 : Int) ≤ v6 ∧ v6 < 64)) <|
    chk (decide ((Int.toNat v6) < 64)) <|
    some (.inl (v1, (wi64 (v6 + 1)), b0, b1, (vset b2 (Int.toNat v6) (bits .or .u32 (bits .or .u32 (bits .or .u32 (wu32 ((wu32 ((UInt8.toNat (List.getD v1 (Int.toNat (wi64 (4 * v6))) (0 : UInt8)) : Nat) : Int)) * 2 ^ 24)) (wu32 ((wu32 ((UInt8.toNat (List.getD v1 (Int.toNat (wi64 ((wi64 (4 * v6)) + 1))) (0 : UInt8)) : Nat) : Int)) * 2 ^ 16))) (wu32 ((wu32 ((UInt8.toNat (List.getD v1 (Int.toNat (wi64 ((wi64 (4 * v6)) + 2))) (0 : UInt8)) : Nat) : Int)) * 2 ^ 8))) (wu32 ((UInt8.toNat (List.getD v1 (Int.toNat (wi64 ((wi64 (4 * v6)) + 3))) (0 : UInt8)) : Nat) : Int))))))) (
    Option.map .inr (
      F_mempoolref4_block_c1 b0 b1 b2))
def F_mempoolref4_block_l7s (v1 : List UInt8) (v6 : Int) (b0 : Vector Int 8) (b1 : Vector Int 8) (b2 : Vector Int 64) : Option (Vector Int 8) :=
  iterO (fun v => F_mempoolref4_block_l7 v.1 v.2.1 v.2.2.1 v.2.2.2.1 v.2.2.2.2) (v1, v6, b0, b1, b2)
def F_mempoolref4_block (a0 : Vector Int 8) (a1 : List UInt8) : Option (Vector Int 8) :=
  F_mempoolref4_block_l7s a1 0 a0 (Vector.replicate 8 (0 : Int)) (Vector.replicate 64 (0 : Int))
def F_mempoolref4_Sha_l4 (v52 : Int) (b0 : Vector UInt8 32) (b1 : Vector Int 8) (b2 : Vector UInt8 32) : Option ((Int × Vector UInt8 32 × Vector Int 8 × Vector UInt8 32) ⊕ (Vector UInt8 32)) :=
  sel (decide (v52 < 32)) (
    chk (decide ((0 : Int) ≤ (wi64 (Int.tdiv v52 4)) ∧ (wi64 (Int.tdiv v52 4)) < 8)) <|
    chk (decide ((Int.toNat (wi64 (Int.tdiv v52 4))) < 8)) <|
    chk (decide ((0 : Int) ≤ (wi64 (24 - (wi64 ((Int.tmod v52 4) * 8)))))) <|
    chk (decide ((0 : Int) ≤ v52 ∧ v52 < 32)) <|
    chk (decide ((Int.toNat v52) < 32)) <|
    chk (decide ((0 : Int) ≤ (wu8 ((vget b1 (Int.toNat (wi64 (Int.tdiv v52 4))) (0 : Int)) / 2 ^ (min (Int.toNat (wi64 (24 - (wi64 ((Int.tmod v52 4) * 8))))) 32))) ∧ (wu8 ((vget b1 (Int.toNat (wi64 (Int.tdiv v52 4))) (0 : Int)) / 2 ^ (min (Int.toNat (wi64 (24 - (wi64 ((Int.tmod v52 4) * 8))))) 32))) < 256)) <|
    some (.inl ((wi64 (v52 + 1)), b0, b1, (vset b2 (Int.toNat v52) (UInt8.ofNat (Int.toNat (wu8 ((vget b1 (Int.toNat (wi64 (Int.tdiv v52 4))) (0 : Int)) / 2 ^ (min (Int.toNat (wi64 (24 - (wi64 ((Int.tmod v52 4) * 8))))) 32))))))))) (
    some (.inr b2))
def F_mempoolref4_Sha_l4s (v52 : Int) (b0 : Vector UInt8 32) (b1 : Vector Int 8) (b2 : Vector UInt8 32) : Option (Vector UInt8 32) :=
  iterO (fun v => F_mempoolref4_Sha_l4 v.1 v.2.1 v.2.2.1 v.2.2.2) (v52, b0, b1, b2)
def F_mempoolref4_Sha_c3 (b0 : Vector UInt8 32) (b1 : Vector Int 8) : Option (Vector UInt8 32) :=
  F_mempoolref4_Sha_l4s 0 b0 b1 (Vector.replicate 32 (0 : UInt8))
def F_mempoolref4_Sha_l5 (v7 : Int) (b0 : Vector UInt8 32) (b1 : Vector Int 8) (l0 : List UInt8) : Option ((Int × Vector UInt8 32 × Vector Int 8 × List UInt8) ⊕ (Vector UInt8 32)) :=
  sel (decide (v7 < (((List.length l0) : Nat) : Int))) (
    chk (decide ((0 : Int) ≤ v7 ∧ v7 ≤ (wi64 (v7 + 64)) ∧ (wi64 (v7 + 64)) ≤ (((List.length l0) : Nat) : Int))) <|
    (F_mempoolref4_block b1 (List.drop (Int.toNat v7) (List.take (Int.toNat (wi64 (v7 + 64))) l0))).bind fun r1 =>
    some (.inl ((wi64 (v7 + 64)), b0, r1, l0))) (
    Option.map .inr (
      F_mempoolref4_Sha_c3 b0 b1))
def F_mempoolref4_Sha_l5s (v7 : Int) (b0 : Vector UInt8 32) (b1 : Vector Int 8) (l0 : List UInt8) : Option (Vector UInt8 32) :=
  iterO (fun v => F_mempoolref4_Sha_l5 v.1 v.2.1 v.2.2.1 v.2.2.2) (v7, b0, b1, l0)
def F_mempoolref4_Sha_c2 (b0 : Vector UInt8 32) (l0 : List UInt8) : Option (Vector UInt8 32) :=
  F_mempoolref4_Sha_l5s 0 b0 (Vector.push (Vector.push (Vector.push (Vector.push (Vector.push (Vector.push (Vector.push (Vector.push #v[] 1779033703) 3144134277) 1013904242) 2773480762) 1359893119) 2600822924) 528734635) 1541459225) l0
def F_mempoolref4_Sha_l6 (v4 : Int) (v5 : Int) (b0 : Vector UInt8 32) (l0 : List UInt8) : Option ((Int × Int × Vector UInt8 32 × List UInt8) ⊕ (Vector UInt8 32)) :=
  sel (decide (0 ≤ v5)) (
    chk (decide ((0 : Int) ≤ (wi64 (8 * v5)))) <|
    chk (decide ((0 : Int) ≤ (wu8 (v4 / 2 ^ (min (Int.toNat (wi64 (8 * v5))) 64))) ∧ (wu8 (v4 / 2 ^ (min (Int.toNat (wi64 (8 * v5))) 64))) < 256)) <|
    chk (decide (((List.length l0) + 1) * 1 ≤ LIM ∧ (List.length l0) + 1 ≤ LEN)) <|
    some (.inl (v4, (wi64 (v5 - 1)), b0, (l0 ++ [(UInt8.ofNat (Int.toNat (wu8 (v4 / 2 ^ (min (Int.toNat (wi64 (8 * v5))) 64)))))])))) (
    Option.map .inr (
      F_mempoolref4_Sha_c2 b0 l0))
def F_mempoolref4_Sha_l6s (v4 : Int) (v5 : Int) (b0 : Vector UInt8 32) (l0 : List UInt8) : Option (Vector UInt8 32) :=
  iterO (fun v => F_mempoolref4_Sha_l6 v.1 v.2.1 v.2.2.1 v.2.2.2) (v4, v5, b0, l0)
def F_mempoolref4_Sha_c1 (v0 : List UInt8) (b0 : Vector UInt8 32) (l0 : List UInt8) : Option (Vector UInt8 32) :=
  F_mempoolref4_Sha_l6s (wu64 ((wu64 (((List.length v0) : Nat) : Int)) * 8)) 7 b0 l0
def F_mempoolref4_Sha_l7 (v0 : List UInt8) (b0 : Vector UInt8 32) (l0 : List UInt8) : Option ((List UInt8 × Vector UInt8 32 × List UInt8) ⊕ (Vector UInt8 32)) :=
  sel (!decide ((Int.tmod (((List.length l0) : Nat) : Int) 64) = 56)) (
    chk (decide (((List.length l0) + 1) * 1 ≤ LIM ∧ (List.length l0) + 1 ≤ LEN)) <|
    some (.inl (v0, b0, (l0 ++ [(0 : UInt8)])))) (
    Option.map .inr (
      F_mempoolref4_Sha_c1 v0 b0 l0))
def F_mempoolref4_Sha_l7s (v0 : List UInt8) (b0 : Vector UInt8 32) (l0 : List UInt8) : Option (Vector UInt8 32) :=
  iterO (fun v => F_mempoolref4_Sha_l7 v.1 v.2.1 v.2.2) (v0, b0, l0)
def F_mempoolref4_Sha (a0 : List UInt8) : Option (Vector UInt8 32) :=
  chk (decide ((0 + (List.length a0)) * 1 ≤ LIM ∧ 0 + (List.length a0) ≤ LEN)) <|
  chk (decide (((List.length a0) + 1) * 1 ≤ LIM ∧ (List.length a0) + 1 ≤ LEN)) <|
  F_mempoolref4_Sha_l7s a0 (Vector.replicate 32 (0 : UInt8)) (a0 ++ [(128 : UInt8)])
def F_mempoolref4_Leaf (a0 : List UInt8) : Option (Vector UInt8 32) :=
  chk (decide ((1 + (List.length a0)) * 1 ≤ LIM ∧ 1 + (List.length a0) ≤ LEN)) <|
  (F_mempoolref4_Sha ([(0 : UInt8)] ++ a0)).bind fun r1 =>
  some r1
def F_mempoolref4_half_l1 (v0 : Int) (v3 : Int) : Option ((Int × Int) ⊕ (Int)) :=
  sel (decide (v3 < (wi64 (v0 - v3)))) (
    some (.inl (v0, (wi64 (v3 * 2))))) (
    some (.inr v3))
def F_mempoolref4_half_l1s (v0 : Int) (v3 : Int) : Option (Int) :=
  iterO (fun v => F_mempoolref4_half_l1 v.1 v.2) (v0, v3)
def F_mempoolref4_half (a0 : Int) : Option (Int) :=
  F_mempoolref4_half_l1s a0 1
def F_mempoolref4_Inner (a0 : Vector UInt8 32) (a1 : Vector UInt8 32) : Option (Vector UInt8 32) :=
  chk (decide ((1 + (List.length (Vector.toList a0))) * 1 ≤ LIM ∧ 1 + (List.length (Vector.toList a0)) ≤ LEN)) <|
  chk (decide (((List.length ([(1 : UInt8)] ++ (Vector.toList a0))) + (List.length (Vector.toList a1))) * 1 ≤ LIM ∧ (List.length ([(1 : UInt8)] ++ (Vector.toList a0))) + (List.length (Vector.toList a1)) ≤ LEN)) <|
  (F_mempoolref4_Sha (([(1 : UInt8)] ++ (Vector.toList a0)) ++ (Vector.toList a1))).bind fun r1 =>
  some r1
noncomputable def F_mempoolref4_Root_body (rec : List (List UInt8) → Option (Vector UInt8 32)) (a0 : List (List UInt8)) : Option (Vector UInt8 32) :=
  sel (decide ((((List.length a0) : Nat) : Int) = 0)) (
    (F_mempoolref4_Sha []).bind fun r1 =>
    some r1) (
    sel (decide ((((List.length a0) : Nat) : Int) = 1)) (
      chk (decide ((0 : Int) ≤ 0 ∧ 0 < (((List.length a0) : Nat) : Int))) <|
      (F_mempoolref4_Leaf (List.getD a0 0 [])).bind fun r2 =>
      some r2) (
      (F_mempoolref4_half (((List.length a0) : Nat) : Int)).bind fun r3 =>
      chk (decide ((0 : Int) ≤ 0 ∧ 0 ≤ r3 ∧ r3 ≤ (((List.length a0) : Nat) : Int))) <|
      (rec (List.take (Int.toNat r3) a0)).bind fun r4 =>
      chk (decide ((0 : Int) ≤ r3 ∧ r3 ≤ (((List.length a0) : Nat) : Int) ∧ (((List.length a0) : Nat) : Int) ≤ (((List.length a0) : Nat) : Int))) <|
      (rec (List.drop (Int.toNat r3) (List.take (Int.toNat (((List.length a0) : Nat) : Int)) a0))).bind fun r5 =>
      (F_mempoolref4_Inner r4 r5).bind fun r6 =>
      some r6))
noncomputable def F_mempoolref4_Root (n : Nat) : List (List UInt8) → Option (Vector UInt8 32) := Nat.rec (motive := fun _ => List (List UInt8) → Option (Vector UInt8 32)) (fun _ => none) (fun _ ih => F_mempoolref4_Root_body ih) n
noncomputable def F_mempoolref10_DigestLedger_c1 (b0 : D_api_Ledger) (_b1 : Vector UInt8 32) (l0 : List (List UInt8)) : Option (Vector UInt8 32) :=
  (F_mempoolref4_Message [(4, (0 : Int), b0.2, [])]).bind fun r1 =>
  chk (decide (((List.length l0) + 1) * 24 ≤ LIM ∧ (List.length l0) + 1 ≤ LEN)) <|
  (F_mempoolref4_Root FUEL (l0 ++ [r1])).bind fun r2 =>
  some r2
noncomputable def F_mempoolref10_DigestLedger_l2 (v7 : List D_api_Account) (v8 : Int) (v9 : Int) (b0 : D_api_Ledger) (b1 : Vector UInt8 32) (l0 : List (List UInt8)) : Option ((List D_api_Account × Int × Int × D_api_Ledger × Vector UInt8 32 × List (List UInt8)) ⊕ (Vector UInt8 32)) :=
  sel (decide (v9 < v8)) (
    chk (decide ((0 : Int) ≤ v9 ∧ v9 < (((List.length v7) : Nat) : Int))) <|
    chk (decide ((List.length (List.getD v7 (Int.toNat v9) d_api_Account).1) ≤ maxLen)) <|
    (F_mempoolref4_Message [(1, 2, (0 : Int), (List.getD v7 (Int.toNat v9) d_api_Account).1), (2, (0 : Int), (List.getD v7 (Int.toNat v9) d_api_Account).2.1, []), (3, (0 : Int), (List.getD v7 (Int.toNat v9) d_api_Account).2.2, [])]).bind fun r3 =>
    chk (decide (((List.length l0) + 1) * 24 ≤ LIM ∧ (List.length l0) + 1 ≤ LEN)) <|
    some (.inl (v7, v8, (wi64 (v9 + 1)), b0, b1, (l0 ++ [r3])))) (
    Option.map .inr (
      F_mempoolref10_DigestLedger_c1 b0 b1 l0))
noncomputable def F_mempoolref10_DigestLedger_l2s (v7 : List D_api_Account) (v8 : Int) (v9 : Int) (b0 : D_api_Ledger) (b1 : Vector UInt8 32) (l0 : List (List UInt8)) : Option (Vector UInt8 32) :=
  iterO (fun v => F_mempoolref10_DigestLedger_l2 v.1 v.2.1 v.2.2.1 v.2.2.2.1 v.2.2.2.2.1 v.2.2.2.2.2) (v7, v8, v9, b0, b1, l0)
noncomputable def F_mempoolref10_DigestLedger (a0 : D_api_Ledger) : Option (Vector UInt8 32) :=
  F_mempoolref10_DigestLedger_l2s a0.1 (((List.length a0.1) : Nat) : Int) 0 a0 (Vector.replicate 32 (0 : UInt8)) []
noncomputable def F_mempoollaw11_LedgerDigests (a0 : D_api_Ledger) (a1 : List Int) : Option (Bool) :=
  (F_mempoollaw11_long [a1]).bind fun r1 =>
  sel r1 (
    (F_mempoollaw11_known).bind fun r2 =>
    some r2) (
    (F_mempoollaw11_big a0.1).bind fun r3 =>
    sel r3 (
      (F_mempoollaw11_known).bind fun r4 =>
      some r4) (
      (F_mempoollaw11_made a1).bind fun r5 =>
      (F_ledger_Digest a0).bind fun r6 =>
      (F_mempoolref10_DigestLedger a0).bind fun r7 =>
      sel (U.beq (.arr 32 .byte) r6 r7) (
        (F_ledger_Digest r5).bind fun r8 =>
        (F_mempoolref10_DigestLedger r5).bind fun r9 =>
        sel (U.beq (.arr 32 .byte) r8 r9) (
          (F_mempoollaw11_known).bind fun r10 =>
          some r10) (
          some false)) (
        some false)))
def F_ledger_Genesis_1 (a0 : D_api_Account) (a1 : D_api_Account) : Option (Int) :=
  (F_cmp_Compare_string a0.1 a1.1).bind fun r1 =>
  some r1
def F_slices_Reverse_api_Account_api_Account_l1 (v2 : Int) (v3 : Int) (l0 : List D_api_Account) : Option ((Int × Int × List D_api_Account) ⊕ (List D_api_Account)) :=
  sel (decide (v2 < v3)) (
    chk (decide ((0 : Int) ≤ v3 ∧ v3 < (((List.length l0) : Nat) : Int))) <|
    chk (decide ((Int.toNat v3) < (List.length l0))) <|
    chk (decide ((0 : Int) ≤ v2 ∧ v2 < (((List.length l0) : Nat) : Int))) <|
    chk (decide ((Int.toNat v2) < (List.length l0))) <|
    chk (decide ((0 : Int) ≤ v2 ∧ v2 < (((List.length l0) : Nat) : Int))) <|
    chk (decide ((Int.toNat v2) < (List.length l0))) <|
    chk (decide ((0 : Int) ≤ v3 ∧ v3 < (((List.length (List.set l0 (Int.toNat v2) (List.getD l0 (Int.toNat v3) d_api_Account))) : Nat) : Int))) <|
    chk (decide ((Int.toNat v3) < (List.length (List.set l0 (Int.toNat v2) (List.getD l0 (Int.toNat v3) d_api_Account))))) <|
    some (.inl ((wi64 (v2 + 1)), (wi64 (v3 - 1)), (List.set (List.set l0 (Int.toNat v2) (List.getD l0 (Int.toNat v3) d_api_Account)) (Int.toNat v3) (List.getD l0 (Int.toNat v2) d_api_Account))))) (
    some (.inr l0))
def F_slices_Reverse_api_Account_api_Account_l1s (v2 : Int) (v3 : Int) (l0 : List D_api_Account) : Option (List D_api_Account) :=
  iterO (fun v => F_slices_Reverse_api_Account_api_Account_l1 v.1 v.2.1 v.2.2) (v2, v3, l0)
def F_slices_Reverse_api_Account_api_Account (a0 : List D_api_Account) : Option (List D_api_Account) :=
  F_slices_Reverse_api_Account_api_Account_l1s 0 (wi64 ((((List.length a0) : Nat) : Int) - 1)) a0
def F_money_only (a0 : Int) (a1 : Bool) : Option (Int × Bool) :=
  sel (!a1) (
    some (0, false)) (
    some (a0, true))
def F_math_bits_Len32_c2 (v0 : Int) (v2 : Int) : Option (Int) :=
  chk (decide ((0 : Int) ≤ (wu8 v0) ∧ (wu8 v0) < 256)) <|
  some (wi64 (v2 + (wi64 ((UInt8.toNat (List.getD [(0 : UInt8), (1 : UInt8), (2 : UInt8), (2 : UInt8), (3 : UInt8), (3 : UInt8), (3 : UInt8), (3 : UInt8), (4 : UInt8), (4 : UInt8), (4 : UInt8), (4 : UInt8), (4 : UInt8), (4 : UInt8), (4 : UInt8), (4 : UInt8), (5 : UInt8), (5 : UInt8), (5 : UInt8), (5 : UInt8), (5 : UInt8), (5 : UInt8), (5 : UInt8), (5 : UInt8), (5 : UInt8), (5 : UInt8), (5 : UInt8), (5 : UInt8), (5 : UInt8), (5 : UInt8), (5 : UInt8), (5 : UInt8), (6 : UInt8), (6 : UInt8), (6 : UInt8), (6 : UInt8), (6 : UInt8), (6 : UInt8), (6 : UInt8), (6 : UInt8), (6 : UInt8), (6 : UInt8), (6 : UInt8), (6 : UInt8), (6 : UInt8), (6 : UInt8), (6 : UInt8), (6 : UInt8), (6 : UInt8), (6 : UInt8), (6 : UInt8), (6 : UInt8), (6 : UInt8), (6 : UInt8), (6 : UInt8), (6 : UInt8), (6 : UInt8), (6 : UInt8), (6 : UInt8), (6 : UInt8), (6 : UInt8), (6 : UInt8), (6 : UInt8), (6 : UInt8), (7 : UInt8), (7 : UInt8), (7 : UInt8), (7 : UInt8), (7 : UInt8), (7 : UInt8), (7 : UInt8), (7 : UInt8), (7 : UInt8), (7 : UInt8), (7 : UInt8), (7 : UInt8), (7 : UInt8), (7 : UInt8), (7 : UInt8), (7 : UInt8), (7 : UInt8), (7 : UInt8), (7 : UInt8), (7 : UInt8), (7 : UInt8), (7 : UInt8), (7 : UInt8), (7 : UInt8), (7 : UInt8), (7 : UInt8), (7 : UInt8), (7 : UInt8), (7 : UInt8), (7 : UInt8), (7 : UInt8), (7 : UInt8), (7 : UInt8), (7 : UInt8), (7 : UInt8), (7 : UInt8), (7 : UInt8), (7 : UInt8), (7 : UInt8), (7 : UInt8), (7 : UInt8), (7 : UInt8), (7 : UInt8), (7 : UInt8), (7 : UInt8), (7 : UInt8), (7 : UInt8), (7 : UInt8), (7 : UInt8), (7 : UInt8), (7 : UInt8), (7 : UInt8), (7 : UInt8), (7 : UInt8), (7 : UInt8), (7 : UInt8), (7 : UInt8), (7 : UInt8), (7 : UInt8), (7 : UInt8), (7 : UInt8), (7 : UInt8), (7 : UInt8), (7 : UInt8), (8 : UInt8), (8 : UInt8), (8 : UInt8), (8 : UInt8), (8 : UInt8), (8 : UInt8), (8 : UInt8), (8 : UInt8), (8 : UInt8), (8 : UInt8), (8 : UInt8), (8 : UInt8), (8 : UInt8), (8 : UInt8), (8 : UInt8), (8 : UInt8), (8 : UInt8), (8 : UInt8), (8 : UInt8), (8 : UInt8), (8 : UInt8), (8 : UInt8), (8 : UInt8), (8 : UInt8), (8 : UInt8), (8 : UInt8), (8 : UInt8), (8 : UInt8), (8 : UInt8), (8 : UInt8), (8 : UInt8), (8 : UInt8), (8 : UInt8), (8 : UInt8), (8 : UInt8), (8 : UInt8), (8 : UInt8), (8 : UInt8), (8 : UInt8), (8 : UInt8), (8 : UInt8), (8 : UInt8), (8 : UInt8), (8 : UInt8), (8 : UInt8), (8 : UInt8), (8 : UInt8), (8 : UInt8), (8 : UInt8), (8 : UInt8), (8 : UInt8), (8 : UInt8), (8 : UInt8), (8 : UInt8), (8 : UInt8), (8 : UInt8), (8 : UInt8), (8 : UInt8), (8 : UInt8), (8 : UInt8), (8 : UInt8), (8 : UInt8), (8 : UInt8), (8 : UInt8), (8 : UInt8), (8 : UInt8), (8 : UInt8), (8 : UInt8), (8 : UInt8), (8 : UInt8), (8 : UInt8), (8 : UInt8), (8 : UInt8), (8 : UInt8), (8 : UInt8), (8 : UInt8), (8 : UInt8), (8 : UInt8), (8 : UInt8), (8 : UInt8), (8 : UInt8), (8 : UInt8), (8 : UInt8), (8 : UInt8), (8 : UInt8), (8 : UInt8), (8 : UInt8), (8 : UInt8), (8 : UInt8), (8 : UInt8), (8 : UInt8), (8 : UInt8), (8 : UInt8), (8 : UInt8), (8 : UInt8), (8 : UInt8), (8 : UInt8), (8 : UInt8), (8 : UInt8), (8 : UInt8), (8 : UInt8), (8 : UInt8), (8 : UInt8), (8 : UInt8), (8 : UInt8), (8 : UInt8), (8 : UInt8), (8 : UInt8), (8 : UInt8), (8 : UInt8), (8 : UInt8), (8 : UInt8), (8 : UInt8), (8 : UInt8), (8 : UInt8), (8 : UInt8), (8 : UInt8), (8 : UInt8), (8 : UInt8), (8 : UInt8), (8 : UInt8), (8 : UInt8), (8 : UInt8), (8 : UInt8), (8 : UInt8), (8 : UInt8), (8 : UInt8), (8 : UInt8)] (Int.toNat (wu8 v0)) (0 : UInt8)) : Nat) : Int))))
def F_math_bits_Len32_c1 (v0 : Int) (v2 : Int) : Option (Int) :=
  sel (decide (256 ≤ v0)) (
    F_math_bits_Len32_c2 (v0 / 2 ^ 8) (wi64 (v2 + 8))) (
    F_math_bits_Len32_c2 v0 v2)
def F_math_bits_Len32 (a0 : Int) : Option (Int) :=
  sel (decide (65536 ≤ a0)) (
    F_math_bits_Len32_c1 (a0 / 2 ^ 16) 16) (
    F_math_bits_Len32_c1 a0 0)
def F_slices_nextPowerOfTwo (a0 : Int) : Option (Int) :=
  (F_math_bits_Len (wu64 a0)).bind fun r1 =>
  chk (decide ((0 : Int) ≤ r1)) <|
  some (wu64 (1 * 2 ^ (min (Int.toNat r1) 64)))
def F_slices_xorshift_Next (a0 : Int) : Option (Int × Int) :=
  some ((bits .xor .u64 (bits .xor .u64 (bits .xor .u64 a0 (wu64 (a0 * 2 ^ 13))) ((bits .xor .u64 a0 (wu64 (a0 * 2 ^ 13))) / 2 ^ 7)) (wu64 ((bits .xor .u64 (bits .xor .u64 a0 (wu64 (a0 * 2 ^ 13))) ((bits .xor .u64 a0 (wu64 (a0 * 2 ^ 13))) / 2 ^ 7)) * 2 ^ 17))), (bits .xor .u64 (bits .xor .u64 (bits .xor .u64 a0 (wu64 (a0 * 2 ^ 13))) ((bits .xor .u64 a0 (wu64 (a0 * 2 ^ 13))) / 2 ^ 7)) (wu64 ((bits .xor .u64 (bits .xor .u64 a0 (wu64 (a0 * 2 ^ 13))) ((bits .xor .u64 a0 (wu64 (a0 * 2 ^ 13))) / 2 ^ 7)) * 2 ^ 17))))
end Go.Proofs.Ytfaceeglocjkbaa.Am
