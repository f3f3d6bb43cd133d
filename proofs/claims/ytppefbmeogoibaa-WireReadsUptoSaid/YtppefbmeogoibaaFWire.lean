/- What functions of the program compute on plain data. No conditions. -/
import Derived.Test.YtppefbmeogoibaaAmTab
import Derived.Test.YtppefbmeogoibaaKC
namespace Go.Proofs.Ytppefbmeogoibaa.Am
open Go
def U_runtime_boundsError : U := (.pr (.int .i64) (.pr (.int .i64) (.pr .bool .byte)))
def D_runtime_boundsError : Type := Int × Int × Bool × UInt8
def d_runtime_boundsError : D_runtime_boundsError := ((0 : Int), (0 : Int), false, (0 : UInt8))
def U_runtime_errorAddressString : U := (.pr .str (.int .u64))
def D_runtime_errorAddressString : Type := List UInt8 × Int
def d_runtime_errorAddressString : D_runtime_errorAddressString := ([], (0 : Int))
def U_api_Field : U := (.pr (.int .i64) (.pr (.int .i64) (.pr (.int .u64) (.sl .byte))))
def D_api_Field : Type := Int × Int × Int × List UInt8
def d_api_Field : D_api_Field := ((0 : Int), (0 : Int), (0 : Int), [])
def F_mempoollaw3_big_l1 (v3 : Int) (v8 : List D_api_Field) (v9 : Int) (v10 : Int) : Option ((Int × List D_api_Field × Int × Int) ⊕ (Bool)) :=
  sel (decide (v10 < v9)) (
    chk (decide (0 ≤ v10 ∧ v10 < (((List.length v8) : Nat) : Int))) <|
    some (.inl ((wi64 (v3 + (((List.length (List.getD v8 (Int.toNat v10) d_api_Field).2.2.2) : Nat) : Int))), v8, v9, (wi64 (v10 + 1))))) (
    some (.inr (decide (400 < v3))))
def F_mempoollaw3_big_l1s (v3 : Int) (v8 : List D_api_Field) (v9 : Int) (v10 : Int) : Option (Bool) :=
  iterO (fun v => F_mempoollaw3_big_l1 v.1 v.2.1 v.2.2.1 v.2.2.2) (v3, v8, v9, v10)
def F_mempoollaw3_big (a0 : List D_api_Field) : Option (Bool) :=
  F_mempoollaw3_big_l1s (((List.length a0) : Nat) : Int) a0 (((List.length a0) : Nat) : Int) 0
def F_mempoollaw3_known : Option (Bool) := some true
def F_mempoollaw3_near_c3 (v1 : UInt8) (b0 : D_api_Field) (_b1 : D_api_Field) : Option (D_api_Field) :=
  sel (decide ((bits .and .u8 ((UInt8.toNat v1 : Nat) : Int) 8) = 0)) (
    sel (decide (b0.2.1 = 2)) (
      some (b0.1, b0.2.1, 0, b0.2.2.2)) (
      some b0)) (
    some b0)
def F_mempoollaw3_near_c2 (v1 : UInt8) (b0 : D_api_Field) (b1 : D_api_Field) : Option (D_api_Field) :=
  sel (decide ((bits .and .u8 ((UInt8.toNat v1 : Nat) : Int) 4) = 0)) (
    sel (decide (b0.2.1 = 0)) (
      F_mempoollaw3_near_c3 v1 (b0.1, b0.2.1, b0.2.2.1, []) b1) (
      F_mempoollaw3_near_c3 v1 b0 b1)) (
    F_mempoollaw3_near_c3 v1 b0 b1)
def F_mempoollaw3_near_c1 (v1 : UInt8) (b0 : D_api_Field) (b1 : D_api_Field) : Option (D_api_Field) :=
  sel (decide ((bits .and .u8 ((UInt8.toNat v1 : Nat) : Int) 2) = 0)) (
    F_mempoollaw3_near_c2 v1 (b0.1, (wi64 ((wi64 (Int.tmod (wu64 b0.2.1) 2)) * 2)), b0.2.2) b1) (
    F_mempoollaw3_near_c2 v1 b0 b1)
def F_mempoollaw3_near (a0 : D_api_Field) (a1 : UInt8) : Option (D_api_Field) :=
  sel (decide ((bits .and .u8 ((UInt8.toNat a1 : Nat) : Int) 1) = 0)) (
    F_mempoollaw3_near_c1 a1 ((wi64 (1 + (wi64 (Int.tmod (wu64 a0.1) 40)))), a0.2) ((0 : Int), (0 : Int), (0 : Int), [])) (
    F_mempoollaw3_near_c1 a1 a0 ((0 : Int), (0 : Int), (0 : Int), []))
def F_mempoolref1_right (a0 : D_api_Field) : Option (Bool) :=
  sel (decide (a0.1 < 1)) (
    some false) (
    sel (decide (536870911 < a0.1)) (
      some false) (
      sel (decide (a0.2.1 = 0)) (
        sel (decide ((((List.length a0.2.2.2) : Nat) : Int) = 0)) (
          some true) (
          sel (decide (a0.2.1 = 2)) (
            some (decide (a0.2.2.1 = 0))) (
            some false))) (
        sel (decide (a0.2.1 = 2)) (
          some (decide (a0.2.2.1 = 0))) (
          some false))))
def F_mempoolref1_Varint_c1 (v1 : Int) (l0 : List UInt8) : Option (List UInt8) :=
  chk (decide (0 ≤ (wu8 v1) ∧ (wu8 v1) < 256)) <|
  chk (decide (((List.length l0) + 1) * 1 ≤ LIM ∧ (List.length l0) + 1 ≤ LEN)) <|
  some (l0 ++ [(UInt8.ofNat (Int.toNat (wu8 v1)))])
def F_mempoolref1_Varint_l2 (v1 : Int) (l0 : List UInt8) : Option ((Int × List UInt8) ⊕ (List UInt8)) :=
  sel (decide (128 ≤ v1)) (
    chk (decide (0 ≤ (bits .or .u8 (wu8 v1) 128) ∧ (bits .or .u8 (wu8 v1) 128) < 256)) <|
    chk (decide (((List.length l0) + 1) * 1 ≤ LIM ∧ (List.length l0) + 1 ≤ LEN)) <|
    some (.inl ((v1 / 2 ^ 7), (l0 ++ [(UInt8.ofNat (Int.toNat (bits .or .u8 (wu8 v1) 128)))])))) (
    Option.map .inr (
      F_mempoolref1_Varint_c1 v1 l0))
def F_mempoolref1_Varint_l2s (v1 : Int) (l0 : List UInt8) : Option (List UInt8) :=
  iterO (fun v => F_mempoolref1_Varint_l2 v.1 v.2) (v1, l0)
def F_mempoolref1_Varint (a0 : List UInt8) (a1 : Int) : Option (List UInt8) :=
  chk (decide ((0 + (List.length a0)) * 1 ≤ LIM ∧ 0 + (List.length a0) ≤ LEN)) <|
  F_mempoolref1_Varint_l2s a1 a0
def F_mempoolref1_Field (a0 : List UInt8) (a1 : D_api_Field) : Option (List UInt8 × Int) :=
  (F_mempoolref1_right a1).bind fun r1 =>
  sel (!r1) (
    some ([], 1)) (
    (F_mempoolref1_Varint a0 (wu64 ((wu64 ((wu64 a1.1) * 8)) + (wu64 a1.2.1)))).bind fun r2 =>
    sel (decide (a1.2.1 = 0)) (
      (F_mempoolref1_Varint r2 a1.2.2.1).bind fun r3 =>
      some (r3, 0)) (
      (F_mempoolref1_Varint r2 (wu64 (((List.length a1.2.2.2) : Nat) : Int))).bind fun r4 =>
      chk (decide (((List.length r4) + (List.length a1.2.2.2)) * 1 ≤ LIM ∧ (List.length r4) + (List.length a1.2.2.2) ≤ LEN)) <|
      some ((r4 ++ a1.2.2.2), 0)))
def F_varint_Read_c2 (v0 : List UInt8) (v2 : Int) (v5 : Int) : Option ((List UInt8 × Int × Int) ⊕ (Int × Int × Int)) :=
  chk (decide (0 ≤ v5 ∧ v5 < (((List.length v0) : Nat) : Int))) <|
  chk (decide (0 ≤ (wi64 (7 * v5)))) <|
  chk (decide (0 ≤ v5 ∧ v5 < (((List.length v0) : Nat) : Int))) <|
  sel (decide (((UInt8.toNat (List.getD v0 (Int.toNat v5) (0 : UInt8)) : Nat) : Int) < 128)) (
    some (.inr ((bits .or .u64 v2 (wu64 ((wu64 (bits .and .u8 ((UInt8.toNat (List.getD v0 (Int.toNat v5) (0 : UInt8)) : Nat) : Int) 127)) * 2 ^ (min (Int.toNat (wi64 (7 * v5))) 64)))), (wi64 (v5 + 1)), 0))) (
    some (.inl (v0, (bits .or .u64 v2 (wu64 ((wu64 (bits .and .u8 ((UInt8.toNat (List.getD v0 (Int.toNat v5) (0 : UInt8)) : Nat) : Int) 127)) * 2 ^ (min (Int.toNat (wi64 (7 * v5))) 64)))), (wi64 (v5 + 1)))))
def F_varint_Read_c3 (v0 : List UInt8) (v2 : Int) (v5 : Int) (v13 : Bool) : Option ((List UInt8 × Int × Int) ⊕ (Int × Int × Int)) :=
  sel v13 (
    some (.inr (0, 0, 6))) (
    sel (decide (0 < v5)) (
      chk (decide (0 ≤ v5 ∧ v5 < (((List.length v0) : Nat) : Int))) <|
      sel (decide (((UInt8.toNat (List.getD v0 (Int.toNat v5) (0 : UInt8)) : Nat) : Int) = 0)) (
        some (.inr (0, 0, 4))) (
        F_varint_Read_c2 v0 v2 v5)) (
      F_varint_Read_c2 v0 v2 v5))
def F_varint_Read_l1 (v0 : List UInt8) (v2 : Int) (v5 : Int) : Option ((List UInt8 × Int × Int) ⊕ (Int × Int × Int)) :=
  sel (decide ((((List.length v0) : Nat) : Int) ≤ v5)) (
    some (.inr (0, 0, 5))) (
    sel (decide (v5 = 9)) (
      chk (decide (0 ≤ v5 ∧ v5 < (((List.length v0) : Nat) : Int))) <|
      F_varint_Read_c3 v0 v2 v5 (decide (1 < ((UInt8.toNat (List.getD v0 (Int.toNat v5) (0 : UInt8)) : Nat) : Int)))) (
      F_varint_Read_c3 v0 v2 v5 false))
def F_varint_Read_l1s (v0 : List UInt8) (v2 : Int) (v5 : Int) : Option (Int × Int × Int) :=
  iterO (fun v => F_varint_Read_l1 v.1 v.2.1 v.2.2) (v0, v2, v5)
def F_varint_Read (a0 : List UInt8) : Option (Int × Int × Int) :=
  F_varint_Read_l1s a0 0 0
def F_wire_read_c1 (v0 : List UInt8) (v3 : Int) (v6 : Int) (v7 : Int) (_b0 : D_api_Field) : Option (D_api_Field × Int × Int) :=
  chk (decide ((0 : Int) ≤ v3 ∧ v3 ≤ (((List.length v0) : Nat) : Int) ∧ (((List.length v0) : Nat) : Int) ≤ (((List.length v0) : Nat) : Int))) <|
  (F_varint_Read (List.drop (Int.toNat v3) (List.take (Int.toNat (((List.length v0) : Nat) : Int)) v0))).bind fun r2 =>
  sel (!decide (r2.2.2 = 0)) (
    some (((0 : Int), (0 : Int), (0 : Int), []), 0, r2.2.2)) (
    sel (decide (v6 = 0)) (
      some (((wi64 v7), v6, r2.1, []), (wi64 (v3 + r2.2.1)), 0)) (
      chk (decide ((0 : Int) ≤ (wi64 (v3 + r2.2.1)) ∧ (wi64 (v3 + r2.2.1)) ≤ (((List.length v0) : Nat) : Int) ∧ (((List.length v0) : Nat) : Int) ≤ (((List.length v0) : Nat) : Int))) <|
      sel (decide ((wu64 (((List.length (List.drop (Int.toNat (wi64 (v3 + r2.2.1))) (List.take (Int.toNat (((List.length v0) : Nat) : Int)) v0))) : Nat) : Int)) < r2.1)) (
        some (((0 : Int), (0 : Int), (0 : Int), []), 0, 5)) (
        chk (decide ((0 : Int) ≤ 0 ∧ 0 ≤ r2.1 ∧ r2.1 ≤ (((List.length (List.drop (Int.toNat (wi64 (v3 + r2.2.1))) (List.take (Int.toNat (((List.length v0) : Nat) : Int)) v0))) : Nat) : Int))) <|
        chk (decide ((List.length (List.take (Int.toNat r2.1) (List.drop (Int.toNat (wi64 (v3 + r2.2.1))) (List.take (Int.toNat (((List.length v0) : Nat) : Int)) v0)))) * 1 ≤ LIM ∧ (List.length (List.take (Int.toNat r2.1) (List.drop (Int.toNat (wi64 (v3 + r2.2.1))) (List.take (Int.toNat (((List.length v0) : Nat) : Int)) v0)))) ≤ LEN)) <|
        some (((wi64 v7), v6, (0 : Int), (List.take (Int.toNat r2.1) (List.drop (Int.toNat (wi64 (v3 + r2.2.1))) (List.take (Int.toNat (((List.length v0) : Nat) : Int)) v0)))), (wi64 ((wi64 (v3 + r2.2.1)) + (wi64 r2.1))), 0))))
def F_wire_read (a0 : List UInt8) : Option (D_api_Field × Int × Int) :=
  (F_varint_Read a0).bind fun r1 =>
  sel (!decide (r1.2.2 = 0)) (
    some (((0 : Int), (0 : Int), (0 : Int), []), 0, r1.2.2)) (
    sel (decide ((r1.1 / 2 ^ 3) < 1)) (
      some (((0 : Int), (0 : Int), (0 : Int), []), 0, 4)) (
      sel (decide (536870911 < (r1.1 / 2 ^ 3))) (
        some (((0 : Int), (0 : Int), (0 : Int), []), 0, 4)) (
        sel (!decide ((wi64 (bits .and .u64 r1.1 7)) = 0)) (
          sel (!decide ((wi64 (bits .and .u64 r1.1 7)) = 2)) (
            some (((0 : Int), (0 : Int), (0 : Int), []), 0, 4)) (
            F_wire_read_c1 a0 r1.2.1 (wi64 (bits .and .u64 r1.1 7)) (r1.1 / 2 ^ 3) ((0 : Int), (0 : Int), (0 : Int), []))) (
          F_wire_read_c1 a0 r1.2.1 (wi64 (bits .and .u64 r1.1 7)) (r1.1 / 2 ^ 3) ((0 : Int), (0 : Int), (0 : Int), [])))))
def F_wire_Fields_c1 (l0 : List D_api_Field) : Option (List D_api_Field × Int × Int) :=
  some (l0, 0, 0)
def F_wire_Fields_l2 (v0 : List UInt8) (v3 : Int) (l0 : List D_api_Field) : Option ((List UInt8 × Int × List D_api_Field) ⊕ (List D_api_Field × Int × Int)) :=
  sel (decide (v3 < (((List.length v0) : Nat) : Int))) (
    sel (decide ((((List.length l0) : Nat) : Int) = 1024)) (
      some (.inr ([], v3, 3))) (
      chk (decide ((0 : Int) ≤ v3 ∧ v3 ≤ (((List.length v0) : Nat) : Int) ∧ (((List.length v0) : Nat) : Int) ≤ (((List.length v0) : Nat) : Int))) <|
      (F_wire_read (List.drop (Int.toNat v3) (List.take (Int.toNat (((List.length v0) : Nat) : Int)) v0))).bind fun r1 =>
      sel (!decide (r1.2.2 = 0)) (
        some (.inr ([], v3, r1.2.2))) (
        chk (decide (((List.length l0) + 1) * 48 ≤ LIM ∧ (List.length l0) + 1 ≤ LEN)) <|
        some (.inl (v0, (wi64 (v3 + r1.2.1)), (l0 ++ [r1.1])))))) (
    Option.map .inr (
      F_wire_Fields_c1 l0))
def F_wire_Fields_l2s (v0 : List UInt8) (v3 : Int) (l0 : List D_api_Field) : Option (List D_api_Field × Int × Int) :=
  iterO (fun v => F_wire_Fields_l2 v.1 v.2.1 v.2.2) (v0, v3, l0)
def F_wire_Fields (a0 : List UInt8) : Option (List D_api_Field × Int × Int) :=
  F_wire_Fields_l2s a0 0 []
def F_mempoolref1_Read_c2 (v0 : List UInt8) (v5 : Int) (v6 : Int) : Option ((List UInt8 × Int × Int) ⊕ (Int × Int × Int)) :=
  chk (decide (0 ≤ v6 ∧ v6 < (((List.length v0) : Nat) : Int))) <|
  chk (decide (0 ≤ (wi64 (7 * v6)))) <|
  chk (decide (0 ≤ v6 ∧ v6 < (((List.length v0) : Nat) : Int))) <|
  sel (decide (((UInt8.toNat (List.getD v0 (Int.toNat v6) (0 : UInt8)) : Nat) : Int) < 128)) (
    some (.inr ((bits .or .u64 v5 (wu64 ((wu64 (bits .and .u8 ((UInt8.toNat (List.getD v0 (Int.toNat v6) (0 : UInt8)) : Nat) : Int) 127)) * 2 ^ (min (Int.toNat (wi64 (7 * v6))) 64)))), (wi64 (v6 + 1)), 0))) (
    some (.inl (v0, (bits .or .u64 v5 (wu64 ((wu64 (bits .and .u8 ((UInt8.toNat (List.getD v0 (Int.toNat v6) (0 : UInt8)) : Nat) : Int) 127)) * 2 ^ (min (Int.toNat (wi64 (7 * v6))) 64)))), (wi64 (v6 + 1)))))
def F_mempoolref1_Read_c3 (v0 : List UInt8) (v5 : Int) (v6 : Int) (v14 : Bool) : Option ((List UInt8 × Int × Int) ⊕ (Int × Int × Int)) :=
  sel v14 (
    some (.inr (0, 0, 6))) (
    sel (decide (0 < v6)) (
      chk (decide (0 ≤ v6 ∧ v6 < (((List.length v0) : Nat) : Int))) <|
      sel (decide (((UInt8.toNat (List.getD v0 (Int.toNat v6) (0 : UInt8)) : Nat) : Int) = 0)) (
        some (.inr (0, 0, 4))) (
        F_mempoolref1_Read_c2 v0 v5 v6)) (
      F_mempoolref1_Read_c2 v0 v5 v6))
def F_mempoolref1_Read_l1 (v0 : List UInt8) (v5 : Int) (v6 : Int) : Option ((List UInt8 × Int × Int) ⊕ (Int × Int × Int)) :=
  sel (decide ((((List.length v0) : Nat) : Int) ≤ v6)) (
    some (.inr (0, 0, 5))) (
    sel (decide (v6 = 9)) (
      chk (decide (0 ≤ v6 ∧ v6 < (((List.length v0) : Nat) : Int))) <|
      F_mempoolref1_Read_c3 v0 v5 v6 (decide (1 < ((UInt8.toNat (List.getD v0 (Int.toNat v6) (0 : UInt8)) : Nat) : Int)))) (
      F_mempoolref1_Read_c3 v0 v5 v6 false))
def F_mempoolref1_Read_l1s (v0 : List UInt8) (v5 : Int) (v6 : Int) : Option (Int × Int × Int) :=
  iterO (fun v => F_mempoolref1_Read_l1 v.1 v.2.1 v.2.2) (v0, v5, v6)
def F_mempoolref1_Read (a0 : List UInt8) : Option (Int × Int × Int) :=
  F_mempoolref1_Read_l1s a0 0 0
def F_mempoolref1_one_c1 (v0 : List UInt8) (v5 : Int) (v6 : Int) (v8 : Int) (_b0 : D_api_Field) : Option (D_api_Field × Int × Int) :=
  chk (decide ((0 : Int) ≤ v6 ∧ v6 ≤ (((List.length v0) : Nat) : Int) ∧ (((List.length v0) : Nat) : Int) ≤ (((List.length v0) : Nat) : Int))) <|
  (F_mempoolref1_Read (List.drop (Int.toNat v6) (List.take (Int.toNat (((List.length v0) : Nat) : Int)) v0))).bind fun r2 =>
  sel (!decide (r2.2.2 = 0)) (
    some (((0 : Int), (0 : Int), (0 : Int), []), 0, r2.2.2)) (
    sel (decide (v8 = 0)) (
      some (((wi64 (wu64 (Int.tdiv v5 8))), v8, r2.1, []), (wi64 (v6 + r2.2.1)), 0)) (
      sel (decide ((wu64 (wi64 ((wi64 ((((List.length v0) : Nat) : Int) - v6)) - r2.2.1))) < r2.1)) (
        some (((0 : Int), (0 : Int), (0 : Int), []), 0, 5)) (
        chk (decide ((0 : Int) ≤ (wi64 (v6 + r2.2.1)) ∧ (wi64 (v6 + r2.2.1)) ≤ (wi64 ((wi64 (v6 + r2.2.1)) + (wi64 r2.1))) ∧ (wi64 ((wi64 (v6 + r2.2.1)) + (wi64 r2.1))) ≤ (((List.length v0) : Nat) : Int))) <|
        chk (decide ((0 + (List.length (List.drop (Int.toNat (wi64 (v6 + r2.2.1))) (List.take (Int.toNat (wi64 ((wi64 (v6 + r2.2.1)) + (wi64 r2.1)))) v0)))) * 1 ≤ LIM ∧ 0 + (List.length (List.drop (Int.toNat (wi64 (v6 + r2.2.1))) (List.take (Int.toNat (wi64 ((wi64 (v6 + r2.2.1)) + (wi64 r2.1)))) v0))) ≤ LEN)) <|
        some (((wi64 (wu64 (Int.tdiv v5 8))), v8, (0 : Int), (List.drop (Int.toNat (wi64 (v6 + r2.2.1))) (List.take (Int.toNat (wi64 ((wi64 (v6 + r2.2.1)) + (wi64 r2.1)))) v0))), (wi64 ((wi64 (v6 + r2.2.1)) + (wi64 r2.1))), 0))))
def F_mempoolref1_one (a0 : List UInt8) : Option (D_api_Field × Int × Int) :=
  (F_mempoolref1_Read a0).bind fun r1 =>
  sel (!decide (r1.2.2 = 0)) (
    some (((0 : Int), (0 : Int), (0 : Int), []), 0, r1.2.2)) (
    sel (decide ((wu64 (Int.tdiv r1.1 8)) < 1)) (
      some (((0 : Int), (0 : Int), (0 : Int), []), 0, 4)) (
      sel (decide (536870911 < (wu64 (Int.tdiv r1.1 8)))) (
        some (((0 : Int), (0 : Int), (0 : Int), []), 0, 4)) (
        sel (!decide ((wi64 (Int.tmod r1.1 8)) = 0)) (
          sel (!decide ((wi64 (Int.tmod r1.1 8)) = 2)) (
            some (((0 : Int), (0 : Int), (0 : Int), []), 0, 4)) (
            F_mempoolref1_one_c1 a0 r1.1 r1.2.1 (wi64 (Int.tmod r1.1 8)) ((0 : Int), (0 : Int), (0 : Int), []))) (
          F_mempoolref1_one_c1 a0 r1.1 r1.2.1 (wi64 (Int.tmod r1.1 8)) ((0 : Int), (0 : Int), (0 : Int), [])))))
def F_mempoolref1_Fields_c1 (l0 : List D_api_Field) : Option (List D_api_Field × Int × Int) :=
  some (l0, 0, 0)
def F_mempoolref1_Fields_l2 (v0 : List UInt8) (v6 : Int) (l0 : List D_api_Field) : Option ((List UInt8 × Int × List D_api_Field) ⊕ (List D_api_Field × Int × Int)) :=
  sel (decide (v6 < (((List.length v0) : Nat) : Int))) (
    sel (decide (1024 ≤ (((List.length l0) : Nat) : Int))) (
      some (.inr ([], v6, 3))) (
      chk (decide ((0 : Int) ≤ v6 ∧ v6 ≤ (((List.length v0) : Nat) : Int) ∧ (((List.length v0) : Nat) : Int) ≤ (((List.length v0) : Nat) : Int))) <|
      (F_mempoolref1_one (List.drop (Int.toNat v6) (List.take (Int.toNat (((List.length v0) : Nat) : Int)) v0))).bind fun r1 =>
      sel (!decide (r1.2.2 = 0)) (
        some (.inr ([], v6, r1.2.2))) (
        chk (decide (((List.length l0) + 1) * 48 ≤ LIM ∧ (List.length l0) + 1 ≤ LEN)) <|
        some (.inl (v0, (wi64 (v6 + r1.2.1)), (l0 ++ [r1.1])))))) (
    Option.map .inr (
      F_mempoolref1_Fields_c1 l0))
def F_mempoolref1_Fields_l2s (v0 : List UInt8) (v6 : Int) (l0 : List D_api_Field) : Option (List D_api_Field × Int × Int) :=
  iterO (fun v => F_mempoolref1_Fields_l2 v.1 v.2.1 v.2.2) (v0, v6, l0)
def F_mempoolref1_Fields (a0 : List UInt8) : Option (List D_api_Field × Int × Int) :=
  F_mempoolref1_Fields_l2s a0 0 []
def F_mempoolref1_SameBytes (a0 : List UInt8) (a1 : List UInt8) : Option (Bool) :=
  some (decide (a0 = a1))
def F_mempoolref1_SameFields_l1 (v0 : List D_api_Field) (v1 : List D_api_Field) (v12 : Int) (v13 : Int) : Option ((List D_api_Field × List D_api_Field × Int × Int) ⊕ (Bool)) :=
  sel (decide (v13 < v12)) (
    chk (decide (0 ≤ v13 ∧ v13 < (((List.length v0) : Nat) : Int))) <|
    chk (decide (0 ≤ v13 ∧ v13 < (((List.length v1) : Nat) : Int))) <|
    sel (!decide ((List.getD v0 (Int.toNat v13) d_api_Field).1 = (List.getD v1 (Int.toNat v13) d_api_Field).1)) (
      some (.inr false)) (
      chk (decide (0 ≤ v13 ∧ v13 < (((List.length v0) : Nat) : Int))) <|
      chk (decide (0 ≤ v13 ∧ v13 < (((List.length v1) : Nat) : Int))) <|
      sel (!decide ((List.getD v0 (Int.toNat v13) d_api_Field).2.1 = (List.getD v1 (Int.toNat v13) d_api_Field).2.1)) (
        some (.inr false)) (
        chk (decide (0 ≤ v13 ∧ v13 < (((List.length v0) : Nat) : Int))) <|
        chk (decide (0 ≤ v13 ∧ v13 < (((List.length v1) : Nat) : Int))) <|
        sel (!decide ((List.getD v0 (Int.toNat v13) d_api_Field).2.2.1 = (List.getD v1 (Int.toNat v13) d_api_Field).2.2.1)) (
          some (.inr false)) (
          chk (decide (0 ≤ v13 ∧ v13 < (((List.length v0) : Nat) : Int))) <|
          chk (decide (0 ≤ v13 ∧ v13 < (((List.length v1) : Nat) : Int))) <|
          (F_mempoolref1_SameBytes (List.getD v0 (Int.toNat v13) d_api_Field).2.2.2 (List.getD v1 (Int.toNat v13) d_api_Field).2.2.2).bind fun r1 =>
          sel (!r1) (
            some (.inr false)) (
            some (.inl (v0, v1, v12, (wi64 (v13 + 1))))))))) (
    some (.inr true))
def F_mempoolref1_SameFields_l1s (v0 : List D_api_Field) (v1 : List D_api_Field) (v12 : Int) (v13 : Int) : Option (Bool) :=
  iterO (fun v => F_mempoolref1_SameFields_l1 v.1 v.2.1 v.2.2.1 v.2.2.2) (v0, v1, v12, v13)
def F_mempoolref1_SameFields (a0 : List D_api_Field) (a1 : List D_api_Field) : Option (Bool) :=
  sel (!decide ((((List.length a0) : Nat) : Int) = (((List.length a1) : Nat) : Int))) (
    some false) (
    F_mempoolref1_SameFields_l1s a0 a1 (((List.length a0) : Nat) : Int) 0)
def F_mempoollaw3_WireReads_l4 (v99 : Int) (v100 : Int) (l0 : List (List UInt8)) : Option ((Int × Int × List (List UInt8)) ⊕ (Bool)) :=
  sel (decide (v100 < v99)) (
    chk (decide (0 ≤ v100 ∧ v100 < (((List.length l0) : Nat) : Int))) <|
    chk (decide ((Int.toNat v100) < (List.length l0))) <|
    (F_wire_Fields (List.getD l0 (Int.toNat v100) [])).bind fun r4 =>
    (F_mempoolref1_Fields (List.getD l0 (Int.toNat v100) [])).bind fun r5 =>
    sel (!decide (r4.2.2 = r5.2.2)) (
      some (.inr false)) (
      sel (!decide (r4.2.1 = r5.2.1)) (
        some (.inr false)) (
        (F_mempoolref1_SameFields r4.1 r5.1).bind fun r6 =>
        sel (!r6) (
          some (.inr false)) (
          some (.inl (v99, (wi64 (v100 + 1)), l0)))))) (
    Option.map .inr (
      (F_mempoollaw3_known).bind fun r7 =>
      some r7))
def F_mempoollaw3_WireReads_l4s (v99 : Int) (v100 : Int) (l0 : List (List UInt8)) : Option (Bool) :=
  iterO (fun v => F_mempoollaw3_WireReads_l4 v.1 v.2.1 v.2.2) (v99, v100, l0)
def F_mempoollaw3_WireReads_c3 (v0 : List UInt8) (l0 : List UInt8) (l1 : List UInt8) : Option (Bool) :=
  chk (decide ((0 + (List.length l0)) * 1 ≤ LIM ∧ 0 + (List.length l0) ≤ LEN)) <|
  chk (decide (((List.length l0) + (List.length v0)) * 1 ≤ LIM ∧ (List.length l0) + (List.length v0) ≤ LEN)) <|
  F_mempoollaw3_WireReads_l4s 4 0 [v0, l0, l1, (l0 ++ v0)]
def F_mempoollaw3_WireReads_c5 (v0 : List UInt8) (v3 : UInt8) (v14 : Int) (v76 : Bool) (l0 : List UInt8) (l1 : List UInt8) : Option (Bool) :=
  sel v76 (
    chk (decide ((0 : Int) ≤ 0 ∧ 0 ≤ v14 ∧ v14 ≤ (((List.length l0) : Nat) : Int))) <|
    chk (decide ((0 + (List.length (List.take (Int.toNat v14) l0))) * 1 ≤ LIM ∧ 0 + (List.length (List.take (Int.toNat v14) l0)) ≤ LEN)) <|
    chk (decide (((List.length (List.take (Int.toNat v14) l0)) + 1) * 1 ≤ LIM ∧ (List.length (List.take (Int.toNat v14) l0)) + 1 ≤ LEN)) <|
    chk (decide ((0 : Int) ≤ (wi64 (v14 + 1)) ∧ (wi64 (v14 + 1)) ≤ (((List.length l0) : Nat) : Int) ∧ (((List.length l0) : Nat) : Int) ≤ (((List.length l0) : Nat) : Int))) <|
    chk (decide (((List.length ((List.take (Int.toNat v14) l0) ++ [v3])) + (List.length (List.drop (Int.toNat (wi64 (v14 + 1))) (List.take (Int.toNat (((List.length l0) : Nat) : Int)) l0)))) * 1 ≤ LIM ∧ (List.length ((List.take (Int.toNat v14) l0) ++ [v3])) + (List.length (List.drop (Int.toNat (wi64 (v14 + 1))) (List.take (Int.toNat (((List.length l0) : Nat) : Int)) l0))) ≤ LEN)) <|
    F_mempoollaw3_WireReads_c3 v0 l0 (((List.take (Int.toNat v14) l0) ++ [v3]) ++ (List.drop (Int.toNat (wi64 (v14 + 1))) (List.take (Int.toNat (((List.length l0) : Nat) : Int)) l0)))) (
    F_mempoollaw3_WireReads_c3 v0 l0 l1)
def F_mempoollaw3_WireReads_c2 (v0 : List UInt8) (v3 : UInt8) (v4 : UInt8) (v14 : Int) (l0 : List UInt8) (l1 : List UInt8) : Option (Bool) :=
  sel (decide ((bits .and .u8 ((UInt8.toNat v4 : Nat) : Int) 2) = 2)) (
    F_mempoollaw3_WireReads_c5 v0 v3 v14 (decide (v14 < (((List.length l0) : Nat) : Int))) l0 l1) (
    F_mempoollaw3_WireReads_c5 v0 v3 v14 false l0 l1)
def F_mempoollaw3_WireReads_c1 (v0 : List UInt8) (v2 : Int) (v3 : UInt8) (v4 : UInt8) (l0 : List UInt8) : Option (Bool) :=
  chk (!decide ((wi64 ((((List.length l0) : Nat) : Int) + 1)) = 0)) <|
  chk (decide ((0 : Int) ≤ 0 ∧ 0 ≤ (Int.tmod (wi64 v2) (wi64 ((((List.length l0) : Nat) : Int) + 1))) ∧ (Int.tmod (wi64 v2) (wi64 ((((List.length l0) : Nat) : Int) + 1))) ≤ (((List.length l0) : Nat) : Int))) <|
  chk (decide ((0 + (List.length (List.take (Int.toNat (Int.tmod (wi64 v2) (wi64 ((((List.length l0) : Nat) : Int) + 1)))) l0))) * 1 ≤ LIM ∧ 0 + (List.length (List.take (Int.toNat (Int.tmod (wi64 v2) (wi64 ((((List.length l0) : Nat) : Int) + 1)))) l0)) ≤ LEN)) <|
  sel (decide ((bits .and .u8 ((UInt8.toNat v4 : Nat) : Int) 1) = 1)) (
    chk (decide (((List.length (List.take (Int.toNat (Int.tmod (wi64 v2) (wi64 ((((List.length l0) : Nat) : Int) + 1)))) l0)) + 1) * 1 ≤ LIM ∧ (List.length (List.take (Int.toNat (Int.tmod (wi64 v2) (wi64 ((((List.length l0) : Nat) : Int) + 1)))) l0)) + 1 ≤ LEN)) <|
    chk (decide ((0 : Int) ≤ (Int.tmod (wi64 v2) (wi64 ((((List.length l0) : Nat) : Int) + 1))) ∧ (Int.tmod (wi64 v2) (wi64 ((((List.length l0) : Nat) : Int) + 1))) ≤ (((List.length l0) : Nat) : Int) ∧ (((List.length l0) : Nat) : Int) ≤ (((List.length l0) : Nat) : Int))) <|
    chk (decide (((List.length ((List.take (Int.toNat (Int.tmod (wi64 v2) (wi64 ((((List.length l0) : Nat) : Int) + 1)))) l0) ++ [v3])) + (List.length (List.drop (Int.toNat (Int.tmod (wi64 v2) (wi64 ((((List.length l0) : Nat) : Int) + 1)))) (List.take (Int.toNat (((List.length l0) : Nat) : Int)) l0)))) * 1 ≤ LIM ∧ (List.length ((List.take (Int.toNat (Int.tmod (wi64 v2) (wi64 ((((List.length l0) : Nat) : Int) + 1)))) l0) ++ [v3])) + (List.length (List.drop (Int.toNat (Int.tmod (wi64 v2) (wi64 ((((List.length l0) : Nat) : Int) + 1)))) (List.take (Int.toNat (((List.length l0) : Nat) : Int)) l0))) ≤ LEN)) <|
    F_mempoollaw3_WireReads_c2 v0 v3 v4 (Int.tmod (wi64 v2) (wi64 ((((List.length l0) : Nat) : Int) + 1))) l0 (((List.take (Int.toNat (Int.tmod (wi64 v2) (wi64 ((((List.length l0) : Nat) : Int) + 1)))) l0) ++ [v3]) ++ (List.drop (Int.toNat (Int.tmod (wi64 v2) (wi64 ((((List.length l0) : Nat) : Int) + 1)))) (List.take (Int.toNat (((List.length l0) : Nat) : Int)) l0)))) (
    F_mempoollaw3_WireReads_c2 v0 v3 v4 (Int.tmod (wi64 v2) (wi64 ((((List.length l0) : Nat) : Int) + 1))) l0 (List.take (Int.toNat (Int.tmod (wi64 v2) (wi64 ((((List.length l0) : Nat) : Int) + 1)))) l0))
def F_mempoollaw3_WireReads_l6 (v0 : List UInt8) (v2 : Int) (v3 : UInt8) (v4 : UInt8) (v32 : List D_api_Field) (v33 : Int) (v34 : Int) (l0 : List UInt8) : Option ((List UInt8 × Int × UInt8 × UInt8 × List D_api_Field × Int × Int × List UInt8) ⊕ (Bool)) :=
  sel (decide (v34 < v33)) (
    chk (decide (0 ≤ v34 ∧ v34 < (((List.length v32) : Nat) : Int))) <|
    (F_mempoollaw3_near (List.getD v32 (Int.toNat v34) d_api_Field) (0 : UInt8)).bind fun r8 =>
    (F_mempoolref1_Field l0 r8).bind fun r9 =>
    some (.inl (v0, v2, v3, v4, v32, v33, (wi64 (v34 + 1)), r9.1))) (
    Option.map .inr (
      F_mempoollaw3_WireReads_c1 v0 v2 v3 v4 l0))
def F_mempoollaw3_WireReads_l6s (v0 : List UInt8) (v2 : Int) (v3 : UInt8) (v4 : UInt8) (v32 : List D_api_Field) (v33 : Int) (v34 : Int) (l0 : List UInt8) : Option (Bool) :=
  iterO (fun v => F_mempoollaw3_WireReads_l6 v.1 v.2.1 v.2.2.1 v.2.2.2.1 v.2.2.2.2.1 v.2.2.2.2.2.1 v.2.2.2.2.2.2.1 v.2.2.2.2.2.2.2) (v0, v2, v3, v4, v32, v33, v34, l0)
def F_mempoollaw3_WireReads (a0 : List UInt8) (a1 : List D_api_Field) (a2 : Int) (a3 : UInt8) (a4 : UInt8) : Option (Bool) :=
  sel (decide (300 < (((List.length a0) : Nat) : Int))) (
    (F_mempoollaw3_known).bind fun r1 =>
    some r1) (
    (F_mempoollaw3_big a1).bind fun r2 =>
    sel r2 (
      (F_mempoollaw3_known).bind fun r3 =>
      some r3) (
      F_mempoollaw3_WireReads_l6s a0 a2 a3 a4 a1 (((List.length a1) : Nat) : Int) 0 []))
end Go.Proofs.Ytppefbmeogoibaa.Am
