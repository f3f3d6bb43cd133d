/- A fixed example holds: by reckoning. No conditions. -/
import Derived.Test.YtfaceeglocjkbaaFAll
import Derived.KernelRfl
namespace Go.Proofs.Ytfaceeglocjkbaa.Am
open Go
set_option maxRecDepth 100000
namespace Kmempoollaw11
def K_tx_IsName_c1 (_m : Nat) (v0 : List UInt8) : Option (Bool) :=
  sel (decide (1 ≤ (((List.length v0) : Nat) : Int))) (
    some (decide ((((List.length v0) : Nat) : Int) ≤ 20))) (
    some false)
def K_tx_IsName_l2 (m : Nat) (v0 : List UInt8) (v6 : Int) (v7 : Int) : Option ((List UInt8 × Int × Int) ⊕ (Bool)) :=
  sel (decide (v7 < v6)) (
    chk (decide ((0 : Int) ≤ v7 ∧ v7 < (((List.length v0) : Nat) : Int))) <|
    sel (decide (((UInt8.toNat (List.getD v0 (Int.toNat v7) (0 : UInt8)) : Nat) : Int) < 97)) (
      sel (decide (((UInt8.toNat (List.getD v0 (Int.toNat v7) (0 : UInt8)) : Nat) : Int) < 48)) (
        sel (!decide (((UInt8.toNat (List.getD v0 (Int.toNat v7) (0 : UInt8)) : Nat) : Int) = 45)) (
          some (.inr false)) (
          some (.inl (v0, v6, (wi64 (v7 + 1)))))) (
        sel (decide (57 < ((UInt8.toNat (List.getD v0 (Int.toNat v7) (0 : UInt8)) : Nat) : Int))) (
          sel (!decide (((UInt8.toNat (List.getD v0 (Int.toNat v7) (0 : UInt8)) : Nat) : Int) = 45)) (
            some (.inr false)) (
            some (.inl (v0, v6, (wi64 (v7 + 1)))))) (
          some (.inl (v0, v6, (wi64 (v7 + 1))))))) (
      sel (decide (122 < ((UInt8.toNat (List.getD v0 (Int.toNat v7) (0 : UInt8)) : Nat) : Int))) (
        sel (decide (((UInt8.toNat (List.getD v0 (Int.toNat v7) (0 : UInt8)) : Nat) : Int) < 48)) (
          sel (!decide (((UInt8.toNat (List.getD v0 (Int.toNat v7) (0 : UInt8)) : Nat) : Int) = 45)) (
            some (.inr false)) (
            some (.inl (v0, v6, (wi64 (v7 + 1)))))) (
          sel (decide (57 < ((UInt8.toNat (List.getD v0 (Int.toNat v7) (0 : UInt8)) : Nat) : Int))) (
            sel (!decide (((UInt8.toNat (List.getD v0 (Int.toNat v7) (0 : UInt8)) : Nat) : Int) = 45)) (
              some (.inr false)) (
              some (.inl (v0, v6, (wi64 (v7 + 1)))))) (
            some (.inl (v0, v6, (wi64 (v7 + 1))))))) (
        some (.inl (v0, v6, (wi64 (v7 + 1))))))) (
    Option.map .inr (
      (K_tx_IsName_c1 m) v0))
def K_tx_IsName_l2s (m : Nat) (v0 : List UInt8) (v6 : Int) (v7 : Int) : Option (Bool) :=
  iter m (fun v => (K_tx_IsName_l2 m) v.1 v.2.1 v.2.2) (v0, v6, v7)
def K_tx_IsName (m : Nat) (a0 : List UInt8) : Option (Bool) :=
  (K_tx_IsName_l2s m) a0 (((List.length a0) : Nat) : Int) 0
def K_slices_Clone_api_Account_api_Account (_m : Nat) (a0 : List D_api_Account) : Option (List D_api_Account) := cloneF (u := U_api_Account) 32 a0
def K_own_Ledger (m : Nat) (a0 : D_api_Ledger) : Option (List D_api_Account × Int) :=
  ((K_slices_Clone_api_Account_api_Account m) a0.1).bind fun r1 =>
  some (r1, a0.2)
def K_money_Sum_l1 (_m : Nat) (v4 : Int) (v9 : List Int) (v10 : Int) (v11 : Int) : Option ((Int × List Int × Int × Int) ⊕ (Int × Bool)) :=
  sel (decide (v11 < v10)) (
    chk (decide ((0 : Int) ≤ v11 ∧ v11 < (((List.length v9) : Nat) : Int))) <|
    (F_money_Add v4 (List.getD v9 (Int.toNat v11) (0 : Int))).bind fun r1 =>
    sel (!r1.2) (
      some (.inr (0, false))) (
      some (.inl (r1.1, v9, v10, (wi64 (v11 + 1)))))) (
    some (.inr (v4, true)))
def K_money_Sum_l1s (m : Nat) (v4 : Int) (v9 : List Int) (v10 : Int) (v11 : Int) : Option (Int × Bool) :=
  iter m (fun v => (K_money_Sum_l1 m) v.1 v.2.1 v.2.2.1 v.2.2.2) (v4, v9, v10, v11)
def K_money_Sum (m : Nat) (a0 : List Int) : Option (Int × Bool) :=
  (K_money_Sum_l1s m) 0 a0 (((List.length a0) : Nat) : Int) 0
def K_ledger_Total_c1 (m : Nat) (l0 : List Int) : Option (Int × Bool) :=
  ((K_money_Sum m) l0).bind fun r1 =>
  some (r1.1, r1.2)
def K_ledger_Total_l2 (m : Nat) (v11 : List D_api_Account) (v12 : Int) (v13 : Int) (l0 : List Int) : Option ((List D_api_Account × Int × Int × List Int) ⊕ (Int × Bool)) :=
  sel (decide (v13 < v12)) (
    chk (decide ((0 : Int) ≤ v13 ∧ v13 < (((List.length v11) : Nat) : Int))) <|
    chk (decide (((List.length l0) + 1) * 8 ≤ LIM ∧ (List.length l0) + 1 ≤ LEN)) <|
    some (.inl (v11, v12, (wi64 (v13 + 1)), (l0 ++ [(List.getD v11 (Int.toNat v13) d_api_Account).2.1])))) (
    Option.map .inr (
      (K_ledger_Total_c1 m) l0))
def K_ledger_Total_l2s (m : Nat) (v11 : List D_api_Account) (v12 : Int) (v13 : Int) (l0 : List Int) : Option (Int × Bool) :=
  iter m (fun v => (K_ledger_Total_l2 m) v.1 v.2.1 v.2.2.1 v.2.2.2) (v11, v12, v13, l0)
def K_ledger_Total (m : Nat) (a0 : D_api_Ledger) : Option (Int × Bool) :=
  (K_ledger_Total_l2s m) a0.1 (((List.length a0.1) : Nat) : Int) 0 [a0.2]
def K_slices_SortFunc_api_Account_api_Account_of_ledger_Genesis_1 (_m : Nat) (a0 : List D_api_Account) : Option (List D_api_Account) := chk (Nat.blt a0.length 4611686018427387904) (some (pdqL (d_api_Account) cfAcc a0))
def K_ledger_Genesis_c1 (m : Nat) (v0 : List D_api_Account) (_b0 : D_api_Ledger) : Option (D_api_Ledger × Int) :=
  ((K_own_Ledger m) (v0, (0 : Int))).bind fun r1 =>
  ((K_ledger_Total m) r1).bind fun r2 =>
  sel (!r2.2) (
    some (([], (0 : Int)), 6)) (
    ((K_slices_SortFunc_api_Account_api_Account_of_ledger_Genesis_1 m) r1.1).bind fun r3 =>
    some ((r3, r1.2), 0))
def K_ledger_Genesis_l2 (m : Nat) (v0 : List D_api_Account) (v17 : List D_api_Account) (v18 : Int) (v19 : Int) (b0 : D_api_Ledger) (l0 : List (List UInt8 × Vector UInt8 0)) : Option ((List D_api_Account × List D_api_Account × Int × Int × D_api_Ledger × List (List UInt8 × Vector UInt8 0)) ⊕ (D_api_Ledger × Int)) :=
  sel (decide (v19 < v18)) (
    chk (decide ((0 : Int) ≤ v19 ∧ v19 < (((List.length v17) : Nat) : Int))) <|
    ((K_tx_IsName m) (List.getD v17 (Int.toNat v19) d_api_Account).1).bind fun r4 =>
    sel (!r4) (
      some (.inr (([], (0 : Int)), 10))) (
      sel (Option.isSome (mIdx strEq (List.getD v17 (Int.toNat v19) d_api_Account).1 l0)) (
        some (.inr (([], (0 : Int)), 8))) (
        some (.inl (v0, v17, v18, (wi64 (v19 + 1)), b0, (mSet strEq (List.getD v17 (Int.toNat v19) d_api_Account).1 (Vector.replicate 0 (0 : UInt8)) l0)))))) (
    Option.map .inr (
      (K_ledger_Genesis_c1 m) v0 b0))
def K_ledger_Genesis_l2s (m : Nat) (v0 : List D_api_Account) (v17 : List D_api_Account) (v18 : Int) (v19 : Int) (b0 : D_api_Ledger) (l0 : List (List UInt8 × Vector UInt8 0)) : Option (D_api_Ledger × Int) :=
  iter m (fun v => (K_ledger_Genesis_l2 m) v.1 v.2.1 v.2.2.1 v.2.2.2.1 v.2.2.2.2.1 v.2.2.2.2.2) (v0, v17, v18, v19, b0, l0)
def K_ledger_Genesis (m : Nat) (a0 : List D_api_Account) : Option (D_api_Ledger × Int) :=
  sel (decide (256 < (((List.length a0) : Nat) : Int))) (
    some (([], (0 : Int)), 3)) (
    (K_ledger_Genesis_l2s m) a0 a0 (((List.length a0) : Nat) : Int) 0 ([], (0 : Int)) [])
def K_ledger_Validate_c1 (m : Nat) (b0 : D_api_Ledger) : Option (Int) :=
  ((K_ledger_Total m) b0).bind fun r1 =>
  sel (!r1.2) (
    some 6) (
    some 0)
def K_ledger_Validate_c3 (_m : Nat) (v3 : Int) (v12 : List D_api_Account) (v13 : Int) (v14 : Int) (v24 : Bool) (b0 : D_api_Ledger) (b1 : D_api_Account) : Option ((List D_api_Account × Int × Int × D_api_Ledger) ⊕ (Int)) :=
  sel v24 (
    some (.inr 8)) (
    sel (decide (0 < v3)) (
      chk (decide ((0 : Int) ≤ (wi64 (v3 - 1)) ∧ (wi64 (v3 - 1)) < (((List.length b0.1) : Nat) : Int))) <|
      sel (!(Op.bytesLess (List.getD b0.1 (Int.toNat (wi64 (v3 - 1))) d_api_Account).1 b1.1 || decide ((List.getD b0.1 (Int.toNat (wi64 (v3 - 1))) d_api_Account).1 = b1.1))) (
        some (.inr 1)) (
        some (.inl (v12, v13, (wi64 (v14 + 1)), b0)))) (
      some (.inl (v12, v13, (wi64 (v14 + 1)), b0))))
def K_ledger_Validate_l2 (m : Nat) (v12 : List D_api_Account) (v13 : Int) (v14 : Int) (b0 : D_api_Ledger) : Option ((List D_api_Account × Int × Int × D_api_Ledger) ⊕ (Int)) :=
  sel (decide (v14 < v13)) (
    chk (decide ((0 : Int) ≤ v14 ∧ v14 < (((List.length v12) : Nat) : Int))) <|
    ((K_tx_IsName m) (List.getD v12 (Int.toNat v14) d_api_Account).1).bind fun r2 =>
    sel (!r2) (
      some (.inr 10)) (
      sel (decide (0 < v14)) (
        chk (decide ((0 : Int) ≤ (wi64 (v14 - 1)) ∧ (wi64 (v14 - 1)) < (((List.length b0.1) : Nat) : Int))) <|
        (K_ledger_Validate_c3 m) v14 v12 v13 v14 (decide ((List.getD b0.1 (Int.toNat (wi64 (v14 - 1))) d_api_Account).1 = (List.getD v12 (Int.toNat v14) d_api_Account).1)) b0 (List.getD v12 (Int.toNat v14) d_api_Account)) (
        (K_ledger_Validate_c3 m) v14 v12 v13 v14 false b0 (List.getD v12 (Int.toNat v14) d_api_Account)))) (
    Option.map .inr (
      (K_ledger_Validate_c1 m) b0))
def K_ledger_Validate_l2s (m : Nat) (v12 : List D_api_Account) (v13 : Int) (v14 : Int) (b0 : D_api_Ledger) : Option (Int) :=
  iter m (fun v => (K_ledger_Validate_l2 m) v.1 v.2.1 v.2.2.1 v.2.2.2) (v12, v13, v14, b0)
def K_ledger_Validate (m : Nat) (a0 : D_api_Ledger) : Option (Int) :=
  sel (decide (256 < (((List.length a0.1) : Nat) : Int))) (
    some 3) (
    (K_ledger_Validate_l2s m) a0.1 (((List.length a0.1) : Nat) : Int) 0 a0)
def K_cmp_isNaN_string (_m : Nat) (a0 : List UInt8) : Option (Bool) :=
  some (!decide (a0 = a0))
def K_cmp_Compare_string (m : Nat) (a0 : List UInt8) (a1 : List UInt8) : Option (Int) :=
  ((K_cmp_isNaN_string m) a0).bind fun r1 =>
  ((K_cmp_isNaN_string m) a1).bind fun r2 =>
  sel r1 (
    sel r2 (
      some 0) (
      some (-1))) (
    sel r2 (
      some 1) (
      sel (Op.bytesLess a0 a1) (
        some (-1)) (
        sel (!(Op.bytesLess a0 a1 || decide (a0 = a1))) (
          some 1) (
          some 0))))
def K_ledger_Set_1 (m : Nat) (a0 : D_api_Account) (a1 : List UInt8) : Option (Int) :=
  ((K_cmp_Compare_string m) a0.1 a1).bind fun r1 =>
  some r1
def K_slices_BinarySearchFunc_api_Account_api_Account_string_of_ledger_Set_1_c1 (m : Nat) (v0 : List D_api_Account) (v1 : List UInt8) (v8 : Int) (v9 : Int) : Option (Int × Bool) :=
  sel (decide (v9 < v8)) (
    chk (decide ((0 : Int) ≤ v9 ∧ v9 < (((List.length v0) : Nat) : Int))) <|
    ((K_ledger_Set_1 m) (List.getD v0 (Int.toNat v9) d_api_Account) v1).bind fun r1 =>
    some (v9, (decide (r1 = 0)))) (
    some (v9, false))
def K_slices_BinarySearchFunc_api_Account_api_Account_string_of_ledger_Set_1_l2 (m : Nat) (v0 : List D_api_Account) (v1 : List UInt8) (v8 : Int) (v9 : Int) (v10 : Int) : Option ((List D_api_Account × List UInt8 × Int × Int × Int) ⊕ (Int × Bool)) :=
  sel (decide (v9 < v10)) (
    chk (decide ((0 : Int) ≤ (wi64 ((wu64 (wi64 (v9 + v10))) / 2 ^ 1)) ∧ (wi64 ((wu64 (wi64 (v9 + v10))) / 2 ^ 1)) < (((List.length v0) : Nat) : Int))) <|
    ((K_ledger_Set_1 m) (List.getD v0 (Int.toNat (wi64 ((wu64 (wi64 (v9 + v10))) / 2 ^ 1))) d_api_Account) v1).bind fun r2 =>
    sel (decide (r2 < 0)) (
      some (.inl (v0, v1, v8, (wi64 ((wi64 ((wu64 (wi64 (v9 + v10))) / 2 ^ 1)) + 1)), v10))) (
      some (.inl (v0, v1, v8, v9, (wi64 ((wu64 (wi64 (v9 + v10))) / 2 ^ 1)))))) (
    Option.map .inr (
      (K_slices_BinarySearchFunc_api_Account_api_Account_string_of_ledger_Set_1_c1 m) v0 v1 v8 v9))
def K_slices_BinarySearchFunc_api_Account_api_Account_string_of_ledger_Set_1_l2s (m : Nat) (v0 : List D_api_Account) (v1 : List UInt8) (v8 : Int) (v9 : Int) (v10 : Int) : Option (Int × Bool) :=
  iter m (fun v => (K_slices_BinarySearchFunc_api_Account_api_Account_string_of_ledger_Set_1_l2 m) v.1 v.2.1 v.2.2.1 v.2.2.2.1 v.2.2.2.2) (v0, v1, v8, v9, v10)
def K_slices_BinarySearchFunc_api_Account_api_Account_string_of_ledger_Set_1 (m : Nat) (a0 : List D_api_Account) (a1 : List UInt8) : Option (Int × Bool) :=
  (K_slices_BinarySearchFunc_api_Account_api_Account_string_of_ledger_Set_1_l2s m) a0 a1 (((List.length a0) : Nat) : Int) 0 (((List.length a0) : Nat) : Int)
def K_slices_Insert_api_Account_api_Account (_m : Nat) (a0 : List D_api_Account) (a1 : Int) (a2 : List D_api_Account) : Option (List D_api_Account) := insX a0 a1 a2
def K_ledger_Set_c2 (m : Nat) (_b0 : D_api_Ledger) (b1_1 : Int) (l0 : List D_api_Account) : Option (D_api_Ledger × Int) :=
  ((K_ledger_Total m) (l0, b1_1)).bind fun r5 =>
  sel (!r5.2) (
    some (([], (0 : Int)), 6)) (
    some ((l0, b1_1), 0))
def K_ledger_Set_c1 (m : Nat) (v7 : Int) (v8 : Bool) (b0 : D_api_Ledger) (b1 : D_api_Account) (b2 : D_api_Ledger) : Option (D_api_Ledger × Int) :=
  ((K_own_Ledger m) b0).bind fun r4 =>
  sel v8 (
    chk (decide ((0 : Int) ≤ v7 ∧ v7 < (((List.length r4.1) : Nat) : Int))) <|
    chk (decide ((Int.toNat v7) < (List.length r4.1))) <|
    (K_ledger_Set_c2 m) b2 r4.2 (List.set r4.1 (Int.toNat v7) b1)) (
    ((K_slices_Insert_api_Account_api_Account m) r4.1 v7 [b1]).bind fun r6 =>
    (K_ledger_Set_c2 m) b2 r4.2 r6)
def K_ledger_Set (m : Nat) (a0 : D_api_Ledger) (a1 : D_api_Account) : Option (D_api_Ledger × Int) :=
  ((K_ledger_Validate m) a0).bind fun r1 =>
  sel (!decide (r1 = 0)) (
    some (([], (0 : Int)), r1)) (
    ((K_tx_IsName m) a1.1).bind fun r2 =>
    sel (!r2) (
      some (([], (0 : Int)), 10)) (
      ((K_slices_BinarySearchFunc_api_Account_api_Account_string_of_ledger_Set_1 m) a0.1 a1.1).bind fun r3 =>
      sel (!r3.2) (
        sel (decide ((((List.length a0.1) : Nat) : Int) = 256)) (
          some (([], (0 : Int)), 3)) (
          (K_ledger_Set_c1 m) r3.1 r3.2 a0 a1 ([], (0 : Int)))) (
        (K_ledger_Set_c1 m) r3.1 r3.2 a0 a1 ([], (0 : Int)))))
def K_ledger_Get_l1 (_m : Nat) (v1 : List UInt8) (v9 : List D_api_Account) (v10 : Int) (v11 : Int) (b0 : D_api_Account) : Option ((List UInt8 × List D_api_Account × Int × Int × D_api_Account) ⊕ (D_api_Account × Bool)) :=
  sel (decide (v11 < v10)) (
    chk (decide ((0 : Int) ≤ v11 ∧ v11 < (((List.length v9) : Nat) : Int))) <|
    sel (decide ((List.getD v9 (Int.toNat v11) d_api_Account).1 = v1)) (
      some (.inr ((List.getD v9 (Int.toNat v11) d_api_Account), true))) (
      some (.inl (v1, v9, v10, (wi64 (v11 + 1)), b0)))) (
    some (.inr (([], (0 : Int), (0 : Int)), false)))
def K_ledger_Get_l1s (m : Nat) (v1 : List UInt8) (v9 : List D_api_Account) (v10 : Int) (v11 : Int) (b0 : D_api_Account) : Option (D_api_Account × Bool) :=
  iter m (fun v => (K_ledger_Get_l1 m) v.1 v.2.1 v.2.2.1 v.2.2.2.1 v.2.2.2.2) (v1, v9, v10, v11, b0)
def K_ledger_Get (m : Nat) (a0 : D_api_Ledger) (a1 : List UInt8) : Option (D_api_Account × Bool) :=
  (K_ledger_Get_l1s m) a1 a0.1 (((List.length a0.1) : Nat) : Int) 0 ([], (0 : Int), (0 : Int))
def K_mempoollaw11_known (m : Nat) : Option (Bool) :=
  ((K_ledger_Genesis m) [([(98 : UInt8)], 3, (0 : Int)), ([(97 : UInt8)], 4, 1)]).bind fun r1 =>
  sel (!decide (r1.2 = 0)) (
    some false) (
    sel (!decide ((((List.length r1.1.1) : Nat) : Int) = 2)) (
      some false) (
      ((K_ledger_Set m) r1.1 ([(97 : UInt8), (97 : UInt8)], 1, (0 : Int))).bind fun r2 =>
      ((K_ledger_Total m) r2.1).bind fun r3 =>
      ((K_ledger_Get m) r2.1 [(97 : UInt8)]).bind fun r4 =>
      chk (decide ((0 : Int) ≤ 0 ∧ 0 < (((List.length r1.1.1) : Nat) : Int))) <|
      sel (decide ((List.getD r1.1.1 0 d_api_Account).1 = [(97 : UInt8)])) (
        sel (decide (r2.2 = 0)) (
          sel (decide ((((List.length r2.1.1) : Nat) : Int) = 3)) (
            chk (decide ((0 : Int) ≤ 1 ∧ 1 < (((List.length r2.1.1) : Nat) : Int))) <|
            sel (decide ((List.getD r2.1.1 1 d_api_Account).1 = [(97 : UInt8), (97 : UInt8)])) (
              sel (decide (r3.1 = 8)) (
                sel r3.2 (
                  sel r4.2 (
                    sel (decide (r4.1.2.2 = 1)) (
                      ((K_ledger_Validate m) r2.1).bind fun r5 =>
                      some (decide (r5 = 0))) (
                      some false)) (
                    some false)) (
                  some false)) (
                some false)) (
              some false)) (
            some false)) (
          some false)) (
        some false)))
theorem same : F_mempoollaw11_known = K_mempoollaw11_known FUEL := by kernel_rfl
theorem at_ : K_mempoollaw11_known 1180591620717411303424 = some true := by kernel_rfl
end Kmempoollaw11
theorem T_mempoollaw11_known : F_mempoollaw11_known = some true := by rw [Kmempoollaw11.same, FUEL_eq]; exact Kmempoollaw11.at_
end Go.Proofs.Ytfaceeglocjkbaa.Am
