/- What functions of the program compute on plain data. No conditions. -/
import Derived.Test.YtgfmnpbcbpobbaaDoorDecode
import Derived.Test.YtgfmnpbcbpobbaaDoorAmTab
import Derived.Test.YtgfmnpbcbpobbaaDoorKC
namespace Go.Proofs.YtgfmnpbcbpobbaaDoor.Am
open Go
def U_utf8_acceptRange : U := (.pr .byte .byte)
abbrev D_utf8_acceptRange : Type := UInt8 × UInt8
def d_utf8_acceptRange : D_utf8_acceptRange := ((0 : UInt8), (0 : UInt8))
def U_api_Transfer : U := (.pr .str (.int .u64))
abbrev D_api_Transfer : Type := List UInt8 × Int
def d_api_Transfer : D_api_Transfer := ([], (0 : Int))
def U_mempoolmake_Numbers : U := (.pr (.sl (.int .i64)) (.int .i64))
abbrev D_mempoolmake_Numbers : Type := List Int × Int
def d_mempoolmake_Numbers : D_mempoolmake_Numbers := ([], (0 : Int))
def U_api_Account : U := (.pr .str (.pr (.int .u64) (.int .u64)))
abbrev D_api_Account : Type := List UInt8 × Int × Int
def d_api_Account : D_api_Account := ([], (0 : Int), (0 : Int))
def U_runtime_boundsError : U := (.pr (.int .i64) (.pr (.int .i64) (.pr .bool .byte)))
abbrev D_runtime_boundsError : Type := Int × Int × Bool × UInt8
def d_runtime_boundsError : D_runtime_boundsError := ((0 : Int), (0 : Int), false, (0 : UInt8))
def U_api_Ledger : U := (.pr (.sl (.pr .str (.pr (.int .u64) (.int .u64)))) (.int .u64))
abbrev D_api_Ledger : Type := List D_api_Account × Int
def d_api_Ledger : D_api_Ledger := ([], (0 : Int))
def U_api_Field : U := (.pr (.int .i64) (.pr (.int .i64) (.pr (.int .u64) (.sl .byte))))
abbrev D_api_Field : Type := Int × Int × Int × List UInt8
def d_api_Field : D_api_Field := ((0 : Int), (0 : Int), (0 : Int), [])
def U_api_Tx : U := (.pr .str (.pr (.int .u64) (.pr (.int .u64) (.pr (.int .u64) (.pr .str (.sl (.pr .str (.int .u64))))))))
abbrev D_api_Tx : Type := List UInt8 × Int × Int × Int × List UInt8 × List D_api_Transfer
def d_api_Tx : D_api_Tx := ([], (0 : Int), (0 : Int), (0 : Int), [], [])
def F_tx_IsName_c1 (v0 : List UInt8) : Option (Bool) :=
  sel (decide (1 ≤ (((List.length v0) : Nat) : Int))) (
    some (decide ((((List.length v0) : Nat) : Int) ≤ 20))) (
    some false)
def F_tx_IsName_l2 (v0 : List UInt8) (v6 : Int) (v7 : Int) : Option ((List UInt8 × Int × Int) ⊕ (Bool)) :=
  sel (decide (v7 < v6)) (
    chk (decide ((0 : Int) ≤ v7 ∧ v7 < (((List.length v0) : Nat) : Int))) <|
    sel (decide (((UInt8.toNat (List.getD v0 (Int.toNat v7) (0 : UInt8)) : Nat) : Int) < 97)) (
      sel (decide (((UInt8.toNat (List.getD v0 (Int.toNat v7) (0 : UInt8)) : Nat) : Int) < 48)) (
        sel (!decide (((UInt8.toNat (List.getD v0 (Int.toNat v7) (0 : UInt8)) : Nat) : Int) = 45)) (
          some (.inr false)) (
          some (.inl (v0, v6, (wi64 (v7 + 1)))))) (
        sel (decide (57 < ((UInt8.toNat (List.getD v0 (Int.toNat v7) (0 : UInt8)) : Nat) : Int))) (
          sel (!decide (((UInt8.toNat (List.getD v0 (Int.toNat v7) (0 : UInt8)) : Nat) : Int) = 45)) (
            some (.inr false)) (
            some (.inl (v0, v6, (wi64 (v7 + 1)))))) (
          some (.inl (v0, v6, (wi64 (v7 + 1))))))) (
      sel (decide (122 < ((UInt8.toNat (List.getD v0 (Int.toNat v7) (0 : UInt8)) : Nat) : Int))) (
        sel (decide (((UInt8.toNat (List.getD v0 (Int.toNat v7) (0 : UInt8)) : Nat) : Int) < 48)) (
          sel (!decide (((UInt8.toNat (List.getD v0 (Int.toNat v7) (0 : UInt8)) : Nat) : Int) = 45)) (
            some (.inr false)) (
            some (.inl (v0, v6, (wi64 (v7 + 1)))))) (
          sel (decide (57 < ((UInt8.toNat (List.getD v0 (Int.toNat v7) (0 : UInt8)) : Nat) : Int))) (
            sel (!decide (((UInt8.toNat (List.getD v0 (Int.toNat v7) (0 : UInt8)) : Nat) : Int) = 45)) (
              some (.inr false)) (
              some (.inl (v0, v6, (wi64 (v7 + 1)))))) (
            some (.inl (v0, v6, (wi64 (v7 + 1))))))) (
        some (.inl (v0, v6, (wi64 (v7 + 1))))))) (
    Option.map .inr (
      F_tx_IsName_c1 v0))
def F_tx_IsName_l2s (v0 : List UInt8) (v6 : Int) (v7 : Int) : Option (Bool) :=
  iterO (fun v => F_tx_IsName_l2 v.1 v.2.1 v.2.2) (v0, v6, v7)
def F_tx_IsName (a0 : List UInt8) : Option (Bool) :=
  F_tx_IsName_l2s a0 (((List.length a0) : Nat) : Int) 0
def F_tx_IsMemo_l1 (v0 : List UInt8) (v3 : Int) (l0 : List (List UInt8 × Int)) : Option ((List UInt8 × Int × List (List UInt8 × Int)) ⊕ (Bool)) :=
  chk (Nat.beq (List.length l0) 1) <|
  sel (decide (Int.toNat (firstW l0).2 < List.length (firstW l0).1)) (
    chk ((decide (Int.toNat (firstW l0).2 < List.length (firstW l0).1))) <|
    chk ((decide (Int.toNat (firstW l0).2 < List.length (firstW l0).1))) <|
    chk (decide ((0 : Int) ≤ (firstW l0).2 ∧ (firstW l0).2 ≤ (((List.length v0) : Nat) : Int) ∧ (((List.length v0) : Nat) : Int) ≤ (((List.length v0) : Nat) : Int))) <|
    (F_unicode_utf8_DecodeRuneInString (List.drop (Int.toNat (firstW l0).2) (List.take (Int.toNat (((List.length v0) : Nat) : Int)) v0))).bind fun r1 =>
    sel (decide ((runeT (firstW l0).1 (firstW l0).2) = 65533)) (
      sel (decide (r1.2 = 1)) (
        some (.inr false)) (
        some (.inl (v0, (wi64 (v3 + 1)), [((firstW l0).1, (nextT (firstW l0).1 (firstW l0).2))])))) (
      some (.inl (v0, (wi64 (v3 + 1)), [((firstW l0).1, (nextT (firstW l0).1 (firstW l0).2))])))) (
    some (.inr (decide (v3 ≤ 64))))
def F_tx_IsMemo_l1s (v0 : List UInt8) (v3 : Int) (l0 : List (List UInt8 × Int)) : Option (Bool) :=
  iterO (fun v => F_tx_IsMemo_l1 v.1 v.2.1 v.2.2) (v0, v3, l0)
def F_tx_IsMemo (a0 : List UInt8) : Option (Bool) :=
  F_tx_IsMemo_l1s a0 0 [(a0, (0 : Int))]
def F_tx_Validate_l1 (v31 : List D_api_Transfer) (v32 : Int) (v33 : Int) : Option ((List D_api_Transfer × Int × Int) ⊕ (Int)) :=
  sel (decide (v33 < v32)) (
    chk (decide ((0 : Int) ≤ v33 ∧ v33 < (((List.length v31) : Nat) : Int))) <|
    (F_tx_IsName (List.getD v31 (Int.toNat v33) d_api_Transfer).1).bind fun r3 =>
    sel (!r3) (
      some (.inr 10)) (
      sel (decide ((List.getD v31 (Int.toNat v33) d_api_Transfer).2 = 0)) (
        some (.inr 12)) (
        some (.inl (v31, v32, (wi64 (v33 + 1))))))) (
    some (.inr 0))
def F_tx_Validate_l1s (v31 : List D_api_Transfer) (v32 : Int) (v33 : Int) : Option (Int) :=
  iterO (fun v => F_tx_Validate_l1 v.1 v.2.1 v.2.2) (v31, v32, v33)
def F_tx_Validate (a0 : D_api_Tx) : Option (Int) :=
  (F_tx_IsName a0.1).bind fun r1 =>
  sel (!r1) (
    some 10) (
    sel (decide (a0.2.2.1 = 0)) (
      some 15) (
      (F_tx_IsMemo a0.2.2.2.2.1).bind fun r2 =>
      sel (!r2) (
        some 11) (
        sel (decide ((((List.length a0.2.2.2.2.2) : Nat) : Int) = 0)) (
          some 3) (
          sel (decide (16 < (((List.length a0.2.2.2.2.2) : Nat) : Int))) (
            some 3) (
            F_tx_Validate_l1s a0.2.2.2.2.2 (((List.length a0.2.2.2.2.2) : Nat) : Int) 0)))))
def F_wire_valid (a0 : D_api_Field) : Option (Bool) :=
  sel (decide (a0.1 < 1)) (
    some false) (
    sel (decide (536870911 < a0.1)) (
      some false) (
      sel (decide (a0.2.1 = 0)) (
        sel (decide ((((List.length a0.2.2.2) : Nat) : Int) = 0)) (
          some true) (
          sel (decide (a0.2.1 = 2)) (
            some (decide (a0.2.2.1 = 0))) (
            some false))) (
        sel (decide (a0.2.1 = 2)) (
          some (decide (a0.2.2.1 = 0))) (
          some false))))
def F_wire_tag (a0 : D_api_Field) : Option (Int) :=
  some (wu64 (wi64 ((wi64 (8 * a0.1)) + a0.2.1)))
def F_varint_Append_c1 (v1 : Int) (l0 : List UInt8) : Option (List UInt8) :=
  chk (decide ((0 : Int) ≤ (wu8 v1) ∧ (wu8 v1) < 256)) <|
  chk (decide (((List.length l0) + 1) * 1 ≤ LIM ∧ (List.length l0) + 1 ≤ LEN)) <|
  some (l0 ++ [(UInt8.ofNat (Int.toNat (wu8 v1)))])
def F_varint_Append_l2 (v1 : Int) (l0 : List UInt8) : Option ((Int × List UInt8) ⊕ (List UInt8)) :=
  sel (decide (128 ≤ v1)) (
    chk (decide ((0 : Int) ≤ (bits .or .u8 (wu8 v1) 128) ∧ (bits .or .u8 (wu8 v1) 128) < 256)) <|
    chk (decide (((List.length l0) + 1) * 1 ≤ LIM ∧ (List.length l0) + 1 ≤ LEN)) <|
    some (.inl ((v1 / 2 ^ 7), (l0 ++ [(UInt8.ofNat (Int.toNat (bits .or .u8 (wu8 v1) 128)))])))) (
    Option.map .inr (
      F_varint_Append_c1 v1 l0))
def F_varint_Append_l2s (v1 : Int) (l0 : List UInt8) : Option (List UInt8) :=
  iterO (fun v => F_varint_Append_l2 v.1 v.2) (v1, l0)
def F_varint_Append (a0 : List UInt8) (a1 : Int) : Option (List UInt8) :=
  chk (decide ((List.length a0) * 1 ≤ LIM ∧ (List.length a0) ≤ LEN)) <|
  F_varint_Append_l2s a1 a0
def F_wire_Append (a0 : List UInt8) (a1 : D_api_Field) : Option (List UInt8 × Int) :=
  (F_wire_valid a1).bind fun r1 =>
  sel (!r1) (
    some ([], 1)) (
    (F_wire_tag a1).bind fun r2 =>
    (F_varint_Append a0 r2).bind fun r3 =>
    sel (decide (a1.2.1 = 0)) (
      (F_varint_Append r3 a1.2.2.1).bind fun r4 =>
      some (r4, 0)) (
      (F_varint_Append r3 (wu64 (((List.length a1.2.2.2) : Nat) : Int))).bind fun r5 =>
      chk (decide (((List.length r5) + (List.length a1.2.2.2)) * 1 ≤ LIM ∧ (List.length r5) + (List.length a1.2.2.2) ≤ LEN)) <|
      some ((r5 ++ a1.2.2.2), 0)))
def F_tx_message_add_string (a0 : List UInt8) (a1 : Int) (a2 : List UInt8) : Option (List UInt8) :=
  sel (decide (a2 = [])) (
    some a0) (
    chk (decide ((List.length a2) ≤ maxLen)) <|
    (F_wire_Append [] (a1, 2, (0 : Int), a2)).bind fun r1 =>
    chk (decide (((List.length a0) + (List.length r1.1)) * 1 ≤ LIM ∧ (List.length a0) + (List.length r1.1) ≤ LEN)) <|
    some (a0 ++ r1.1))
def F_tx_message_add_uint64 (a0 : List UInt8) (a1 : Int) (a2 : Int) : Option (List UInt8) :=
  sel (decide (a2 = 0)) (
    some a0) (
    (F_wire_Append [] (a1, 0, a2, [])).bind fun r1 =>
    chk (decide (((List.length a0) + (List.length r1.1)) * 1 ≤ LIM ∧ (List.length a0) + (List.length r1.1) ≤ LEN)) <|
    some (a0 ++ r1.1))
def F_tx_message_add_s_uint8 (a0 : List UInt8) (a1 : Int) (a2 : List UInt8) : Option (List UInt8) :=
  (F_wire_Append [] (a1, 2, (0 : Int), a2)).bind fun r1 =>
  chk (decide (((List.length a0) + (List.length r1.1)) * 1 ≤ LIM ∧ (List.length a0) + (List.length r1.1) ≤ LEN)) <|
  some (a0 ++ r1.1)
def F_tx_written_l1 (v28 : List D_api_Transfer) (v29 : Int) (v30 : Int) (l0 : List UInt8) : Option ((List D_api_Transfer × Int × Int × List UInt8) ⊕ (List UInt8)) :=
  sel (decide (v30 < v29)) (
    chk (decide ((0 : Int) ≤ v30 ∧ v30 < (((List.length v28) : Nat) : Int))) <|
    (F_tx_message_add_string [] 1 (List.getD v28 (Int.toNat v30) d_api_Transfer).1).bind fun r6 =>
    (F_tx_message_add_uint64 r6 2 (List.getD v28 (Int.toNat v30) d_api_Transfer).2).bind fun r7 =>
    (F_tx_message_add_s_uint8 l0 6 r7).bind fun r8 =>
    some (.inl (v28, v29, (wi64 (v30 + 1)), r8))) (
    some (.inr l0))
def F_tx_written_l1s (v28 : List D_api_Transfer) (v29 : Int) (v30 : Int) (l0 : List UInt8) : Option (List UInt8) :=
  iterO (fun v => F_tx_written_l1 v.1 v.2.1 v.2.2.1 v.2.2.2) (v28, v29, v30, l0)
def F_tx_written (a0 : D_api_Tx) : Option (List UInt8) :=
  (F_tx_message_add_string [] 1 a0.1).bind fun r1 =>
  (F_tx_message_add_uint64 r1 2 a0.2.1).bind fun r2 =>
  (F_tx_message_add_uint64 r2 3 a0.2.2.1).bind fun r3 =>
  (F_tx_message_add_uint64 r3 4 a0.2.2.2.1).bind fun r4 =>
  (F_tx_message_add_string r4 5 a0.2.2.2.2.1).bind fun r5 =>
  F_tx_written_l1s a0.2.2.2.2.2 (((List.length a0.2.2.2.2.2) : Nat) : Int) 0 r5
def F_tx_Encode (a0 : D_api_Tx) : Option (List UInt8 × Int) :=
  (F_tx_Validate a0).bind fun r1 =>
  sel (!decide (r1 = 0)) (
    some ([], r1)) (
    (F_tx_written a0).bind fun r2 =>
    sel (decide (4096 < (((List.length r2) : Nat) : Int))) (
      some ([], 3)) (
      some (r2, 0)))
def F_varint_Read_c2 (v0 : List UInt8) (v2 : Int) (v5 : Int) : Option ((List UInt8 × Int × Int) ⊕ (Int × Int × Int)) :=
  chk (decide ((0 : Int) ≤ v5 ∧ v5 < (((List.length v0) : Nat) : Int))) <|
  chk (decide ((0 : Int) ≤ (wi64 (7 * v5)))) <|
  chk (decide ((0 : Int) ≤ v5 ∧ v5 < (((List.length v0) : Nat) : Int))) <|
  sel (decide (((UInt8.toNat (List.getD v0 (Int.toNat v5) (0 : UInt8)) : Nat) : Int) < 128)) (
    some (.inr ((bits .or .u64 v2 (wu64 ((wu64 (bits .and .u8 ((UInt8.toNat (List.getD v0 (Int.toNat v5) (0 : UInt8)) : Nat) : Int) 127)) * 2 ^ (min (Int.toNat (wi64 (7 * v5))) 64)))), (wi64 (v5 + 1)), 0))) (
    some (.inl (v0, (bits .or .u64 v2 (wu64 ((wu64 (bits .and .u8 ((UInt8.toNat (List.getD v0 (Int.toNat v5) (0 : UInt8)) : Nat) : Int) 127)) * 2 ^ (min (Int.toNat (wi64 (7 * v5))) 64)))), (wi64 (v5 + 1)))))
def F_varint_Read_c3 (v0 : List UInt8) (v2 : Int) (v5 : Int) (v13 : Bool) : Option ((List UInt8 × Int × Int) ⊕ (Int × Int × Int)) :=
  sel v13 (
    some (.inr (0, 0, 6))) (
    sel (decide (0 < v5)) (
      chk (decide ((0 : Int) ≤ v5 ∧ v5 < (((List.length v0) : Nat) : Int))) <|
      sel (decide (((UInt8.toNat (List.getD v0 (Int.toNat v5) (0 : UInt8)) : Nat) : Int) = 0)) (
        some (.inr (0, 0, 4))) (
        F_varint_Read_c2 v0 v2 v5)) (
      F_varint_Read_c2 v0 v2 v5))
def F_varint_Read_l1 (v0 : List UInt8) (v2 : Int) (v5 : Int) : Option ((List UInt8 × Int × Int) ⊕ (Int × Int × Int)) :=
  sel (decide ((((List.length v0) : Nat) : Int) ≤ v5)) (
    some (.inr (0, 0, 5))) (
    sel (decide (v5 = 9)) (
      chk (decide ((0 : Int) ≤ v5 ∧ v5 < (((List.length v0) : Nat) : Int))) <|
      F_varint_Read_c3 v0 v2 v5 (decide (1 < ((UInt8.toNat (List.getD v0 (Int.toNat v5) (0 : UInt8)) : Nat) : Int)))) (
      F_varint_Read_c3 v0 v2 v5 false))
def F_varint_Read_l1s (v0 : List UInt8) (v2 : Int) (v5 : Int) : Option (Int × Int × Int) :=
  iterO (fun v => F_varint_Read_l1 v.1 v.2.1 v.2.2) (v0, v2, v5)
def F_varint_Read (a0 : List UInt8) : Option (Int × Int × Int) :=
  F_varint_Read_l1s a0 0 0
def F_wire_read_c1 (v0 : List UInt8) (v3 : Int) (v6 : Int) (v7 : Int) (_b0 : D_api_Field) : Option (D_api_Field × Int × Int) :=
  chk (decide ((0 : Int) ≤ v3 ∧ v3 ≤ (((List.length v0) : Nat) : Int) ∧ (((List.length v0) : Nat) : Int) ≤ (((List.length v0) : Nat) : Int))) <|
  (F_varint_Read (List.drop (Int.toNat v3) (List.take (Int.toNat (((List.length v0) : Nat) : Int)) v0))).bind fun r2 =>
  sel (!decide (r2.2.2 = 0)) (
    some (((0 : Int), (0 : Int), (0 : Int), []), 0, r2.2.2)) (
    sel (decide (v6 = 0)) (
      some (((wi64 v7), v6, r2.1, []), (wi64 (v3 + r2.2.1)), 0)) (
      chk (decide ((0 : Int) ≤ (wi64 (v3 + r2.2.1)) ∧ (wi64 (v3 + r2.2.1)) ≤ (((List.length v0) : Nat) : Int) ∧ (((List.length v0) : Nat) : Int) ≤ (((List.length v0) : Nat) : Int))) <|
      sel (decide ((wu64 (((List.length (List.drop (Int.toNat (wi64 (v3 + r2.2.1))) (List.take (Int.toNat (((List.length v0) : Nat) : Int)) v0))) : Nat) : Int)) < r2.1)) (
        some (((0 : Int), (0 : Int), (0 : Int), []), 0, 5)) (
        chk (decide ((0 : Int) ≤ 0 ∧ 0 ≤ r2.1 ∧ r2.1 ≤ (((List.length (List.drop (Int.toNat (wi64 (v3 + r2.2.1))) (List.take (Int.toNat (((List.length v0) : Nat) : Int)) v0))) : Nat) : Int))) <|
        chk (decide ((List.length (List.take (Int.toNat r2.1) (List.drop (Int.toNat (wi64 (v3 + r2.2.1))) (List.take (Int.toNat (((List.length v0) : Nat) : Int)) v0)))) * 1 ≤ LIM ∧ (List.length (List.take (Int.toNat r2.1) (List.drop (Int.toNat (wi64 (v3 + r2.2.1))) (List.take (Int.toNat (((List.length v0) : Nat) : Int)) v0)))) ≤ LEN)) <|
        some (((wi64 v7), v6, (0 : Int), (List.take (Int.toNat r2.1) (List.drop (Int.toNat (wi64 (v3 + r2.2.1))) (List.take (Int.toNat (((List.length v0) : Nat) : Int)) v0)))), (wi64 ((wi64 (v3 + r2.2.1)) + (wi64 r2.1))), 0))))
def F_wire_read (a0 : List UInt8) : Option (D_api_Field × Int × Int) :=
  (F_varint_Read a0).bind fun r1 =>
  sel (!decide (r1.2.2 = 0)) (
    some (((0 : Int), (0 : Int), (0 : Int), []), 0, r1.2.2)) (
    sel (decide ((r1.1 / 2 ^ 3) < 1)) (
      some (((0 : Int), (0 : Int), (0 : Int), []), 0, 4)) (
      sel (decide (536870911 < (r1.1 / 2 ^ 3))) (
        some (((0 : Int), (0 : Int), (0 : Int), []), 0, 4)) (
        sel (!decide ((wi64 (bits .and .u64 r1.1 7)) = 0)) (
          sel (!decide ((wi64 (bits .and .u64 r1.1 7)) = 2)) (
            some (((0 : Int), (0 : Int), (0 : Int), []), 0, 4)) (
            F_wire_read_c1 a0 r1.2.1 (wi64 (bits .and .u64 r1.1 7)) (r1.1 / 2 ^ 3) ((0 : Int), (0 : Int), (0 : Int), []))) (
          F_wire_read_c1 a0 r1.2.1 (wi64 (bits .and .u64 r1.1 7)) (r1.1 / 2 ^ 3) ((0 : Int), (0 : Int), (0 : Int), [])))))
def F_wire_Fields_c1 (l0 : List D_api_Field) : Option (List D_api_Field × Int × Int) :=
  some (l0, 0, 0)
def F_wire_Fields_l2 (v0 : List UInt8) (v3 : Int) (l0 : List D_api_Field) : Option ((List UInt8 × Int × List D_api_Field) ⊕ (List D_api_Field × Int × Int)) :=
  sel (decide (v3 < (((List.length v0) : Nat) : Int))) (
    sel (decide ((((List.length l0) : Nat) : Int) = 1024)) (
      some (.inr ([], v3, 3))) (
      chk (decide ((0 : Int) ≤ v3 ∧ v3 ≤ (((List.length v0) : Nat) : Int) ∧ (((List.length v0) : Nat) : Int) ≤ (((List.length v0) : Nat) : Int))) <|
      (F_wire_read (List.drop (Int.toNat v3) (List.take (Int.toNat (((List.length v0) : Nat) : Int)) v0))).bind fun r1 =>
      sel (!decide (r1.2.2 = 0)) (
        some (.inr ([], v3, r1.2.2))) (
        chk (decide (((List.length l0) + 1) * 48 ≤ LIM ∧ (List.length l0) + 1 ≤ LEN)) <|
        some (.inl (v0, (wi64 (v3 + r1.2.1)), (l0 ++ ([r1.1] : List D_api_Field))))))) (
    Option.map .inr (
      F_wire_Fields_c1 l0))
def F_wire_Fields_l2s (v0 : List UInt8) (v3 : Int) (l0 : List D_api_Field) : Option (List D_api_Field × Int × Int) :=
  iterO (fun v => F_wire_Fields_l2 v.1 v.2.1 v.2.2) (v0, v3, l0)
def F_wire_Fields (a0 : List UInt8) : Option (List D_api_Field × Int × Int) :=
  F_wire_Fields_l2s a0 0 []
def F_tx_transfer_l1 (v16 : Int) (v17 : Int) (b0 : D_api_Transfer) (b1 : D_api_Transfer) (l0 : List D_api_Field) : Option ((Int × Int × D_api_Transfer × D_api_Transfer × List D_api_Field) ⊕ (D_api_Transfer)) :=
  sel (decide (v17 < v16)) (
    chk (decide ((0 : Int) ≤ v17 ∧ v17 < (((List.length l0) : Nat) : Int))) <|
    chk (decide ((Int.toNat v17) < (List.length l0))) <|
    sel (decide ((List.getD l0 (Int.toNat v17) d_api_Field).1 = 1)) (
      some (.inl (v16, (wi64 (v17 + 1)), b0, ((List.getD l0 (Int.toNat v17) d_api_Field).2.2.2, b1.2), l0))) (
      sel (decide ((List.getD l0 (Int.toNat v17) d_api_Field).1 = 2)) (
        some (.inl (v16, (wi64 (v17 + 1)), b0, (b1.1, (List.getD l0 (Int.toNat v17) d_api_Field).2.2.1), l0))) (
        some (.inl (v16, (wi64 (v17 + 1)), b0, b1, l0))))) (
    some (.inr b1))
def F_tx_transfer_l1s (v16 : Int) (v17 : Int) (b0 : D_api_Transfer) (b1 : D_api_Transfer) (l0 : List D_api_Field) : Option (D_api_Transfer) :=
  iterO (fun v => F_tx_transfer_l1 v.1 v.2.1 v.2.2.1 v.2.2.2.1 v.2.2.2.2) (v16, v17, b0, b1, l0)
def F_tx_transfer (a0 : List UInt8) : Option (D_api_Transfer) :=
  (F_wire_Fields a0).bind fun r1 =>
  F_tx_transfer_l1s (((List.length r1.1) : Nat) : Int) 0 ([], (0 : Int)) ([], (0 : Int)) r1.1
def F_tx_read_l1 (v6 : List D_api_Field) (v7 : Int) (v8 : Int) (b0_0 : List UInt8) (b0_1 : Int) (b0_2 : Int) (b0_3 : Int) (b0_4 : List UInt8) (b1_0 : List UInt8) (b1_1 : Int) (b1_2 : Int) (b1_3 : Int) (b1_4 : List UInt8) (l0 : List D_api_Transfer) : Option ((List D_api_Field × Int × Int × List UInt8 × Int × Int × Int × List UInt8 × List UInt8 × Int × Int × Int × List UInt8 × List D_api_Transfer) ⊕ (D_api_Tx)) :=
  sel (decide (v8 < v7)) (
    chk (decide ((0 : Int) ≤ v8 ∧ v8 < (((List.length v6) : Nat) : Int))) <|
    sel (decide ((List.getD v6 (Int.toNat v8) d_api_Field).1 = 1)) (
      some (.inl (v6, v7, (wi64 (v8 + 1)), b0_0, b0_1, b0_2, b0_3, b0_4, (List.getD v6 (Int.toNat v8) d_api_Field).2.2.2, b1_1, b1_2, b1_3, b1_4, l0))) (
      sel (decide ((List.getD v6 (Int.toNat v8) d_api_Field).1 = 2)) (
        some (.inl (v6, v7, (wi64 (v8 + 1)), b0_0, b0_1, b0_2, b0_3, b0_4, b1_0, (List.getD v6 (Int.toNat v8) d_api_Field).2.2.1, b1_2, b1_3, b1_4, l0))) (
        sel (decide ((List.getD v6 (Int.toNat v8) d_api_Field).1 = 3)) (
          some (.inl (v6, v7, (wi64 (v8 + 1)), b0_0, b0_1, b0_2, b0_3, b0_4, b1_0, b1_1, (List.getD v6 (Int.toNat v8) d_api_Field).2.2.1, b1_3, b1_4, l0))) (
          sel (decide ((List.getD v6 (Int.toNat v8) d_api_Field).1 = 4)) (
            some (.inl (v6, v7, (wi64 (v8 + 1)), b0_0, b0_1, b0_2, b0_3, b0_4, b1_0, b1_1, b1_2, (List.getD v6 (Int.toNat v8) d_api_Field).2.2.1, b1_4, l0))) (
            sel (decide ((List.getD v6 (Int.toNat v8) d_api_Field).1 = 5)) (
              some (.inl (v6, v7, (wi64 (v8 + 1)), b0_0, b0_1, b0_2, b0_3, b0_4, b1_0, b1_1, b1_2, b1_3, (List.getD v6 (Int.toNat v8) d_api_Field).2.2.2, l0))) (
              sel (decide ((List.getD v6 (Int.toNat v8) d_api_Field).1 = 6)) (
                (F_tx_transfer (List.getD v6 (Int.toNat v8) d_api_Field).2.2.2).bind fun r1 =>
                chk (decide (((List.length l0) + 1) * 24 ≤ LIM ∧ (List.length l0) + 1 ≤ LEN)) <|
                some (.inl (v6, v7, (wi64 (v8 + 1)), b0_0, b0_1, b0_2, b0_3, b0_4, b1_0, b1_1, b1_2, b1_3, b1_4, (l0 ++ ([r1] : List D_api_Transfer))))) (
                some (.inl (v6, v7, (wi64 (v8 + 1)), b0_0, b0_1, b0_2, b0_3, b0_4, b1_0, b1_1, b1_2, b1_3, b1_4, l0))))))))) (
    some (.inr (b1_0, b1_1, b1_2, b1_3, b1_4, l0)))
def F_tx_read_l1s (v6 : List D_api_Field) (v7 : Int) (v8 : Int) (b0_0 : List UInt8) (b0_1 : Int) (b0_2 : Int) (b0_3 : Int) (b0_4 : List UInt8) (b1_0 : List UInt8) (b1_1 : Int) (b1_2 : Int) (b1_3 : Int) (b1_4 : List UInt8) (l0 : List D_api_Transfer) : Option (D_api_Tx) :=
  iterO (fun v => F_tx_read_l1 v.1 v.2.1 v.2.2.1 v.2.2.2.1 v.2.2.2.2.1 v.2.2.2.2.2.1 v.2.2.2.2.2.2.1 v.2.2.2.2.2.2.2.1 v.2.2.2.2.2.2.2.2.1 v.2.2.2.2.2.2.2.2.2.1 v.2.2.2.2.2.2.2.2.2.2.1 v.2.2.2.2.2.2.2.2.2.2.2.1 v.2.2.2.2.2.2.2.2.2.2.2.2.1 v.2.2.2.2.2.2.2.2.2.2.2.2.2) (v6, v7, v8, b0_0, b0_1, b0_2, b0_3, b0_4, b1_0, b1_1, b1_2, b1_3, b1_4, l0)
def F_tx_read (a0 : List D_api_Field) : Option (D_api_Tx) :=
  F_tx_read_l1s a0 (((List.length a0) : Nat) : Int) 0 [] (0 : Int) (0 : Int) (0 : Int) [] [] (0 : Int) (0 : Int) (0 : Int) [] []
def F_bytes_Equal (a0 : List UInt8) (a1 : List UInt8) : Option (Bool) :=
  some (decide (a0 = a1))
def F_tx_Decode (a0 : List UInt8) : Option (D_api_Tx × Int) :=
  sel (decide (4096 < (((List.length a0) : Nat) : Int))) (
    some (([], (0 : Int), (0 : Int), (0 : Int), [], []), 3)) (
    (F_wire_Fields a0).bind fun r1 =>
    (F_tx_read r1.1).bind fun r2 =>
    sel (!decide (r1.2.2 = 0)) (
      some (([], (0 : Int), (0 : Int), (0 : Int), [], []), 4)) (
      (F_tx_written r2).bind fun r3 =>
      (F_bytes_Equal r3 a0).bind fun r4 =>
      sel (!r4) (
        some (([], (0 : Int), (0 : Int), (0 : Int), [], []), 4)) (
        (F_tx_Validate r2).bind fun r5 =>
        sel (!decide (r5 = 0)) (
          some (([], (0 : Int), (0 : Int), (0 : Int), [], []), r5)) (
          some (r2, 0)))))
def F_mempoolref10_SameTx_l1 (v50 : Int) (v51 : Int) (b0 : D_api_Tx) (b1 : D_api_Tx) : Option ((Int × Int × D_api_Tx × D_api_Tx) ⊕ (Bool)) :=
  sel (decide (v51 < v50)) (
    chk (decide ((0 : Int) ≤ v51 ∧ v51 < (((List.length b0.2.2.2.2.2) : Nat) : Int))) <|
    chk (decide ((0 : Int) ≤ v51 ∧ v51 < (((List.length b1.2.2.2.2.2) : Nat) : Int))) <|
    sel (!(U.beq U_api_Transfer (List.getD b0.2.2.2.2.2 (Int.toNat v51) d_api_Transfer) (List.getD b1.2.2.2.2.2 (Int.toNat v51) d_api_Transfer))) (
      some (.inr false)) (
      some (.inl (v50, (wi64 (v51 + 1)), b0, b1)))) (
    some (.inr true))
def F_mempoolref10_SameTx_l1s (v50 : Int) (v51 : Int) (b0 : D_api_Tx) (b1 : D_api_Tx) : Option (Bool) :=
  iterO (fun v => F_mempoolref10_SameTx_l1 v.1 v.2.1 v.2.2.1 v.2.2.2) (v50, v51, b0, b1)
def F_mempoolref10_SameTx (a0 : D_api_Tx) (a1 : D_api_Tx) : Option (Bool) :=
  sel (!decide (a0.1 = a1.1)) (
    some false) (
    sel (!decide (a0.2.1 = a1.2.1)) (
      some false) (
      sel (!decide (a0.2.2.1 = a1.2.2.1)) (
        some false) (
        sel (!decide (a0.2.2.2.1 = a1.2.2.2.1)) (
          some false) (
          sel (!decide (a0.2.2.2.2.1 = a1.2.2.2.2.1)) (
            some false) (
            sel (!decide ((((List.length a0.2.2.2.2.2) : Nat) : Int) = (((List.length a1.2.2.2.2.2) : Nat) : Int))) (
              some false) (
              F_mempoolref10_SameTx_l1s (((List.length a0.2.2.2.2.2) : Nat) : Int) 0 a0 a1))))))
def F_mempoollaw10_known : Option (Bool) :=
  (F_tx_Encode ([(97 : UInt8), (110 : UInt8), (110 : UInt8)], (0 : Int), 300, (0 : Int), [(195 : UInt8), (169 : UInt8)], [([(98 : UInt8), (111 : UInt8), (98 : UInt8)], 5)])).bind fun r1 =>
  (F_tx_Decode r1.1).bind fun r2 =>
  sel (decide (r1.2 = 0)) (
    sel (decide ((((List.length r1.1) : Nat) : Int) = 21)) (
      sel (decide (r2.2 = 0)) (
        (F_mempoolref10_SameTx ([(97 : UInt8), (110 : UInt8), (110 : UInt8)], (0 : Int), 300, (0 : Int), [(195 : UInt8), (169 : UInt8)], [([(98 : UInt8), (111 : UInt8), (98 : UInt8)], 5)]) r2.1).bind fun r3 =>
        sel r3 (
          (F_tx_IsMemo [(195 : UInt8), (169 : UInt8)]).bind fun r4 =>
          sel r4 (
            (F_tx_IsMemo [(255 : UInt8)]).bind fun r5 =>
            sel (!r5) (
              (F_tx_IsName [(120 : UInt8), (45 : UInt8), (49 : UInt8)]).bind fun r6 =>
              sel r6 (
                (F_tx_IsName [(88 : UInt8)]).bind fun r7 =>
                sel (!r7) (
                  (F_tx_Validate ([(97 : UInt8), (110 : UInt8), (110 : UInt8)], (0 : Int), 1, (0 : Int), [], [])).bind fun r8 =>
                  some (decide (r8 = 3))) (
                  some false)) (
                some false)) (
              some false)) (
            some false)) (
          some false)) (
        some false)) (
      some false)) (
    some false)
def F_mempoolref10_IsName_c1 (v0 : List UInt8) : Option (Bool) :=
  sel (decide (1 ≤ (((List.length v0) : Nat) : Int))) (
    some (decide ((((List.length v0) : Nat) : Int) ≤ 20))) (
    some false)
def F_mempoolref10_IsName_l2 (v0 : List UInt8) (v3 : Int) : Option ((List UInt8 × Int) ⊕ (Bool)) :=
  sel (decide (v3 < (((List.length v0) : Nat) : Int))) (
    chk (decide ((0 : Int) ≤ v3 ∧ v3 < (((List.length v0) : Nat) : Int))) <|
    sel (decide (97 ≤ ((UInt8.toNat (List.getD v0 (Int.toNat v3) (0 : UInt8)) : Nat) : Int))) (
      sel (decide (((UInt8.toNat (List.getD v0 (Int.toNat v3) (0 : UInt8)) : Nat) : Int) ≤ 122)) (
        some (.inl (v0, (wi64 (v3 + 1))))) (
        sel (decide (48 ≤ ((UInt8.toNat (List.getD v0 (Int.toNat v3) (0 : UInt8)) : Nat) : Int))) (
          sel (decide (((UInt8.toNat (List.getD v0 (Int.toNat v3) (0 : UInt8)) : Nat) : Int) ≤ 57)) (
            some (.inl (v0, (wi64 (v3 + 1))))) (
            sel (!(decide (((UInt8.toNat (List.getD v0 (Int.toNat v3) (0 : UInt8)) : Nat) : Int) = 45))) (
              some (.inr false)) (
              some (.inl (v0, (wi64 (v3 + 1))))))) (
          sel (!(decide (((UInt8.toNat (List.getD v0 (Int.toNat v3) (0 : UInt8)) : Nat) : Int) = 45))) (
            some (.inr false)) (
            some (.inl (v0, (wi64 (v3 + 1)))))))) (
      sel (decide (48 ≤ ((UInt8.toNat (List.getD v0 (Int.toNat v3) (0 : UInt8)) : Nat) : Int))) (
        sel (decide (((UInt8.toNat (List.getD v0 (Int.toNat v3) (0 : UInt8)) : Nat) : Int) ≤ 57)) (
          some (.inl (v0, (wi64 (v3 + 1))))) (
          sel (!(decide (((UInt8.toNat (List.getD v0 (Int.toNat v3) (0 : UInt8)) : Nat) : Int) = 45))) (
            some (.inr false)) (
            some (.inl (v0, (wi64 (v3 + 1))))))) (
        sel (!(decide (((UInt8.toNat (List.getD v0 (Int.toNat v3) (0 : UInt8)) : Nat) : Int) = 45))) (
          some (.inr false)) (
          some (.inl (v0, (wi64 (v3 + 1)))))))) (
    Option.map .inr (
      F_mempoolref10_IsName_c1 v0))
def F_mempoolref10_IsName_l2s (v0 : List UInt8) (v3 : Int) : Option (Bool) :=
  iterO (fun v => F_mempoolref10_IsName_l2 v.1 v.2) (v0, v3)
def F_mempoolref10_IsName (a0 : List UInt8) : Option (Bool) :=
  F_mempoolref10_IsName_l2s a0 0
def F_mempoolref10_follow (a0 : List UInt8) (a1 : Int) : Option (Bool) :=
  sel (decide (a1 < (((List.length a0) : Nat) : Int))) (
    chk (decide ((0 : Int) ≤ a1 ∧ a1 < (((List.length a0) : Nat) : Int))) <|
    sel (decide (128 ≤ ((UInt8.toNat (List.getD a0 (Int.toNat a1) (0 : UInt8)) : Nat) : Int))) (
      chk (decide ((0 : Int) ≤ a1 ∧ a1 < (((List.length a0) : Nat) : Int))) <|
      some (decide (((UInt8.toNat (List.getD a0 (Int.toNat a1) (0 : UInt8)) : Nat) : Int) < 192))) (
      some false)) (
    some false)
def F_mempoolref10_Rune_c3 (v0 : List UInt8) (v1 : Int) (v5 : UInt8) (v64 : Bool) : Option (Int) :=
  sel v64 (
    sel (decide (((UInt8.toNat v5 : Nat) : Int) = 240)) (
      chk (decide ((0 : Int) ≤ (wi64 (v1 + 1)) ∧ (wi64 (v1 + 1)) < (((List.length v0) : Nat) : Int))) <|
      sel (decide (((UInt8.toNat (List.getD v0 (Int.toNat (wi64 (v1 + 1))) (0 : UInt8)) : Nat) : Int) < 144)) (
        some 0) (
        sel (decide (((UInt8.toNat v5 : Nat) : Int) = 244)) (
          chk (decide ((0 : Int) ≤ (wi64 (v1 + 1)) ∧ (wi64 (v1 + 1)) < (((List.length v0) : Nat) : Int))) <|
          sel (decide (144 ≤ ((UInt8.toNat (List.getD v0 (Int.toNat (wi64 (v1 + 1))) (0 : UInt8)) : Nat) : Int))) (
            some 0) (
            some 4)) (
          some 4))) (
      sel (decide (((UInt8.toNat v5 : Nat) : Int) = 244)) (
        chk (decide ((0 : Int) ≤ (wi64 (v1 + 1)) ∧ (wi64 (v1 + 1)) < (((List.length v0) : Nat) : Int))) <|
        sel (decide (144 ≤ ((UInt8.toNat (List.getD v0 (Int.toNat (wi64 (v1 + 1))) (0 : UInt8)) : Nat) : Int))) (
          some 0) (
          some 4)) (
        some 4))) (
    some 0)
def F_mempoolref10_Rune_c2 (v0 : List UInt8) (v1 : Int) (v5 : UInt8) (v25 : Bool) : Option (Int) :=
  sel v25 (
    sel (decide (((UInt8.toNat v5 : Nat) : Int) = 224)) (
      chk (decide ((0 : Int) ≤ (wi64 (v1 + 1)) ∧ (wi64 (v1 + 1)) < (((List.length v0) : Nat) : Int))) <|
      sel (decide (((UInt8.toNat (List.getD v0 (Int.toNat (wi64 (v1 + 1))) (0 : UInt8)) : Nat) : Int) < 160)) (
        some 0) (
        sel (decide (((UInt8.toNat v5 : Nat) : Int) = 237)) (
          chk (decide ((0 : Int) ≤ (wi64 (v1 + 1)) ∧ (wi64 (v1 + 1)) < (((List.length v0) : Nat) : Int))) <|
          sel (decide (160 ≤ ((UInt8.toNat (List.getD v0 (Int.toNat (wi64 (v1 + 1))) (0 : UInt8)) : Nat) : Int))) (
            some 0) (
            some 3)) (
          some 3))) (
      sel (decide (((UInt8.toNat v5 : Nat) : Int) = 237)) (
        chk (decide ((0 : Int) ≤ (wi64 (v1 + 1)) ∧ (wi64 (v1 + 1)) < (((List.length v0) : Nat) : Int))) <|
        sel (decide (160 ≤ ((UInt8.toNat (List.getD v0 (Int.toNat (wi64 (v1 + 1))) (0 : UInt8)) : Nat) : Int))) (
          some 0) (
          some 3)) (
        some 3))) (
    sel (decide (240 ≤ ((UInt8.toNat v5 : Nat) : Int))) (
      sel (decide (((UInt8.toNat v5 : Nat) : Int) < 245)) (
        (F_mempoolref10_follow v0 (wi64 (v1 + 1))).bind fun r1 =>
        sel r1 (
          (F_mempoolref10_follow v0 (wi64 (v1 + 2))).bind fun r2 =>
          sel r2 (
            (F_mempoolref10_follow v0 (wi64 (v1 + 3))).bind fun r3 =>
            F_mempoolref10_Rune_c3 v0 v1 v5 r3) (
            F_mempoolref10_Rune_c3 v0 v1 v5 false)) (
          F_mempoolref10_Rune_c3 v0 v1 v5 false)) (
        F_mempoolref10_Rune_c3 v0 v1 v5 false)) (
      F_mempoolref10_Rune_c3 v0 v1 v5 false))
def F_mempoolref10_Rune_c1 (v0 : List UInt8) (v1 : Int) (v5 : UInt8) (v12 : Bool) : Option (Int) :=
  sel v12 (
    some 2) (
    sel (decide (224 ≤ ((UInt8.toNat v5 : Nat) : Int))) (
      sel (decide (((UInt8.toNat v5 : Nat) : Int) < 240)) (
        (F_mempoolref10_follow v0 (wi64 (v1 + 1))).bind fun r4 =>
        sel r4 (
          (F_mempoolref10_follow v0 (wi64 (v1 + 2))).bind fun r5 =>
          F_mempoolref10_Rune_c2 v0 v1 v5 r5) (
          F_mempoolref10_Rune_c2 v0 v1 v5 false)) (
        F_mempoolref10_Rune_c2 v0 v1 v5 false)) (
      F_mempoolref10_Rune_c2 v0 v1 v5 false))
def F_mempoolref10_Rune (a0 : List UInt8) (a1 : Int) : Option (Int) :=
  chk (decide ((0 : Int) ≤ a1 ∧ a1 < (((List.length a0) : Nat) : Int))) <|
  sel (decide (((UInt8.toNat (List.getD a0 (Int.toNat a1) (0 : UInt8)) : Nat) : Int) < 128)) (
    some 1) (
    sel (decide (194 ≤ ((UInt8.toNat (List.getD a0 (Int.toNat a1) (0 : UInt8)) : Nat) : Int))) (
      sel (decide (((UInt8.toNat (List.getD a0 (Int.toNat a1) (0 : UInt8)) : Nat) : Int) < 224)) (
        (F_mempoolref10_follow a0 (wi64 (a1 + 1))).bind fun r6 =>
        F_mempoolref10_Rune_c1 a0 a1 (List.getD a0 (Int.toNat a1) (0 : UInt8)) r6) (
        F_mempoolref10_Rune_c1 a0 a1 (List.getD a0 (Int.toNat a1) (0 : UInt8)) false)) (
      F_mempoolref10_Rune_c1 a0 a1 (List.getD a0 (Int.toNat a1) (0 : UInt8)) false))
def F_mempoolref10_Runes_l1 (v0 : List UInt8) (v4 : Int) (v5 : Int) : Option ((List UInt8 × Int × Int) ⊕ (Int × Bool)) :=
  sel (decide (v5 < (((List.length v0) : Nat) : Int))) (
    (F_mempoolref10_Rune v0 v5).bind fun r1 =>
    sel (decide (r1 = 0)) (
      some (.inr (0, false))) (
      some (.inl (v0, (wi64 (v4 + 1)), (wi64 (v5 + r1)))))) (
    some (.inr (v4, true)))
def F_mempoolref10_Runes_l1s (v0 : List UInt8) (v4 : Int) (v5 : Int) : Option (Int × Bool) :=
  iterO (fun v => F_mempoolref10_Runes_l1 v.1 v.2.1 v.2.2) (v0, v4, v5)
def F_mempoolref10_Runes (a0 : List UInt8) : Option (Int × Bool) :=
  F_mempoolref10_Runes_l1s a0 0 0
def F_mempoolref10_IsMemo (a0 : List UInt8) : Option (Bool) :=
  (F_mempoolref10_Runes a0).bind fun r1 =>
  sel r1.2 (
    some (decide (r1.1 ≤ 64))) (
    some false)
def F_mempoollaw10_TxWords_l2 (v49 : Int) (v50 : Int) (l0 : List (List UInt8)) : Option ((Int × Int × List (List UInt8)) ⊕ (Bool)) :=
  sel (decide (v50 < v49)) (
    chk (decide ((0 : Int) ≤ v50 ∧ v50 < (((List.length l0) : Nat) : Int))) <|
    chk (decide ((Int.toNat v50) < (List.length l0))) <|
    (F_tx_IsName (List.getD l0 (Int.toNat v50) [])).bind fun r2 =>
    (F_mempoolref10_IsName (List.getD l0 (Int.toNat v50) [])).bind fun r3 =>
    sel (!(beqB r2 r3)) (
      some (.inr false)) (
      (F_tx_IsMemo (List.getD l0 (Int.toNat v50) [])).bind fun r4 =>
      (F_mempoolref10_IsMemo (List.getD l0 (Int.toNat v50) [])).bind fun r5 =>
      sel (!(beqB r4 r5)) (
        some (.inr false)) (
        some (.inl (v49, (wi64 (v50 + 1)), l0))))) (
    Option.map .inr (
      (F_mempoollaw10_known).bind fun r6 =>
      some r6))
def F_mempoollaw10_TxWords_l2s (v49 : Int) (v50 : Int) (l0 : List (List UInt8)) : Option (Bool) :=
  iterO (fun v => F_mempoollaw10_TxWords_l2 v.1 v.2.1 v.2.2) (v49, v50, l0)
def F_mempoollaw10_TxWords_c1 (v0 : List UInt8) (v1 : List UInt8) (v2 : UInt8) (v7 : List UInt8) : Option (Bool) :=
  chk (decide ((List.length v0) + (List.length v1) ≤ 4611686018427387904)) <|
  chk (decide ((List.length v7) + (List.length v0) ≤ 4611686018427387904)) <|
  chk (decide ((0 : Int) ≤ 0 ∧ 0 ≤ (Int.tmod ((UInt8.toNat v2 : Nat) : Int) 25) ∧ (Int.tmod ((UInt8.toNat v2 : Nat) : Int) 25) ≤ 24)) <|
  F_mempoollaw10_TxWords_l2s 9 0 [v0, v1, (v0 ++ v1), v7, (v7 ++ v0), (List.take (Int.toNat (Int.tmod ((UInt8.toNat v2 : Nat) : Int) 25)) [(97 : UInt8), (97 : UInt8), (97 : UInt8), (97 : UInt8), (97 : UInt8), (97 : UInt8), (97 : UInt8), (97 : UInt8), (97 : UInt8), (97 : UInt8), (97 : UInt8), (97 : UInt8), (97 : UInt8), (97 : UInt8), (97 : UInt8), (97 : UInt8), (97 : UInt8), (97 : UInt8), (97 : UInt8), (97 : UInt8), (97 : UInt8), (97 : UInt8), (97 : UInt8), (97 : UInt8)]), [(237 : UInt8), (160 : UInt8), (128 : UInt8)], [(192 : UInt8), (128 : UInt8)], [(244 : UInt8), (144 : UInt8), (128 : UInt8), (128 : UInt8)]]
def F_mempoollaw10_TxWords_l3 (v0 : List UInt8) (v1 : List UInt8) (v2 : UInt8) (v7 : List UInt8) (v8 : Int) : Option ((List UInt8 × List UInt8 × UInt8 × List UInt8 × Int) ⊕ (Bool)) :=
  sel (decide (v8 < (wi64 (60 + (wi64 (Int.tmod ((UInt8.toNat v2 : Nat) : Int) 10)))))) (
    chk (decide ((0 : Int) ≤ (Int.tmod (wi64 (v8 * (wi64 ((UInt8.toNat v2 : Nat) : Int)))) 4) ∧ (Int.tmod (wi64 (v8 * (wi64 ((UInt8.toNat v2 : Nat) : Int)))) 4) < 4)) <|
    chk (decide ((Int.toNat (Int.tmod (wi64 (v8 * (wi64 ((UInt8.toNat v2 : Nat) : Int)))) 4)) < 4)) <|
    chk (decide ((List.length v7) + (List.length (List.getD [[(97 : UInt8)], [(195 : UInt8), (169 : UInt8)], [(228 : UInt8), (184 : UInt8), (150 : UInt8)], [(240 : UInt8), (159 : UInt8), (152 : UInt8), (128 : UInt8)]] (Int.toNat (Int.tmod (wi64 (v8 * (wi64 ((UInt8.toNat v2 : Nat) : Int)))) 4)) [])) ≤ 4611686018427387904)) <|
    some (.inl (v0, v1, v2, (v7 ++ (List.getD [[(97 : UInt8)], [(195 : UInt8), (169 : UInt8)], [(228 : UInt8), (184 : UInt8), (150 : UInt8)], [(240 : UInt8), (159 : UInt8), (152 : UInt8), (128 : UInt8)]] (Int.toNat (Int.tmod (wi64 (v8 * (wi64 ((UInt8.toNat v2 : Nat) : Int)))) 4)) [])), (wi64 (v8 + 1))))) (
    Option.map .inr (
      F_mempoollaw10_TxWords_c1 v0 v1 v2 v7))
def F_mempoollaw10_TxWords_l3s (v0 : List UInt8) (v1 : List UInt8) (v2 : UInt8) (v7 : List UInt8) (v8 : Int) : Option (Bool) :=
  iterO (fun v => F_mempoollaw10_TxWords_l3 v.1 v.2.1 v.2.2.1 v.2.2.2.1 v.2.2.2.2) (v0, v1, v2, v7, v8)
def F_mempoollaw10_TxWords (a0 : List UInt8) (a1 : List UInt8) (a2 : UInt8) : Option (Bool) :=
  sel (decide (600 < (wi64 ((((List.length a0) : Nat) : Int) + (((List.length a1) : Nat) : Int))))) (
    (F_mempoollaw10_known).bind fun r1 =>
    some r1) (
    F_mempoollaw10_TxWords_l3s a0 a1 a2 [] 0)
def F_mempoollaw10_long_l1 (v3 : Int) (v6 : List (List Int)) (v7 : Int) (v8 : Int) : Option ((Int × List (List Int) × Int × Int) ⊕ (Bool)) :=
  sel (decide (v8 < v7)) (
    chk (decide ((0 : Int) ≤ v8 ∧ v8 < (((List.length v6) : Nat) : Int))) <|
    some (.inl ((wi64 (v3 + (((List.length (List.getD v6 (Int.toNat v8) [])) : Nat) : Int))), v6, v7, (wi64 (v8 + 1))))) (
    some (.inr (decide (160 < v3))))
def F_mempoollaw10_long_l1s (v3 : Int) (v6 : List (List Int)) (v7 : Int) (v8 : Int) : Option (Bool) :=
  iterO (fun v => F_mempoollaw10_long_l1 v.1 v.2.1 v.2.2.1 v.2.2.2) (v3, v6, v7, v8)
def F_mempoollaw10_long (a0 : List (List Int)) : Option (Bool) :=
  F_mempoollaw10_long_l1s 0 a0 (((List.length a0) : Nat) : Int) 0
def F_mempoollaw10_big_l1 (v3 : Int) (v18 : List D_api_Transfer) (v19 : Int) (v20 : Int) : Option ((Int × List D_api_Transfer × Int × Int) ⊕ (Bool)) :=
  sel (decide (v20 < v19)) (
    chk (decide ((0 : Int) ≤ v20 ∧ v20 < (((List.length v18) : Nat) : Int))) <|
    some (.inl ((wi64 (v3 + (((List.length (List.getD v18 (Int.toNat v20) d_api_Transfer).1) : Nat) : Int))), v18, v19, (wi64 (v20 + 1))))) (
    some (.inr (decide (800 < v3))))
def F_mempoollaw10_big_l1s (v3 : Int) (v18 : List D_api_Transfer) (v19 : Int) (v20 : Int) : Option (Bool) :=
  iterO (fun v => F_mempoollaw10_big_l1 v.1 v.2.1 v.2.2.1 v.2.2.2) (v3, v18, v19, v20)
def F_mempoollaw10_big (a0 : D_api_Tx) : Option (Bool) :=
  F_mempoollaw10_big_l1s (wi64 ((wi64 ((((List.length a0.1) : Nat) : Int) + (((List.length a0.2.2.2.2.1) : Nat) : Int))) + (((List.length a0.2.2.2.2.2) : Nat) : Int))) a0.2.2.2.2.2 (((List.length a0.2.2.2.2.2) : Nat) : Int) 0
def F_mempoolmake_From (a0 : List Int) : Option (D_mempoolmake_Numbers) :=
  some (a0, (0 : Int))
def F_mempoolmake_Place (a0 : Int) (a1 : Int) : Option (Int) :=
  chk (!decide (a1 = 0)) <|
  sel (decide ((Int.tmod a0 a1) < 0)) (
    some (wi64 ((Int.tmod a0 a1) + a1))) (
    some (Int.tmod a0 a1))
def F_mempoolmake_Numbers_Next_c1 (v1 : Int) (v5 : Int) (b0 : D_mempoolmake_Numbers) : Option (D_mempoolmake_Numbers × Int) :=
  (F_mempoolmake_Place v5 v1).bind fun r1 =>
  some ((b0.1, (wi64 (b0.2 + 1))), r1)
def F_mempoolmake_Numbers_Next (a0 : D_mempoolmake_Numbers) (a1 : Int) : Option (D_mempoolmake_Numbers × Int) :=
  sel (decide (a0.2 < (((List.length a0.1) : Nat) : Int))) (
    chk (decide ((0 : Int) ≤ a0.2 ∧ a0.2 < (((List.length a0.1) : Nat) : Int))) <|
    F_mempoolmake_Numbers_Next_c1 a1 (List.getD a0.1 (Int.toNat a0.2) (0 : Int)) a0) (
    F_mempoolmake_Numbers_Next_c1 a1 0 a0)
def F_mempoolmake_Accounts_l1 (v4 : Int) (b0 : D_mempoolmake_Numbers) (l0 : List D_api_Account) : Option ((Int × D_mempoolmake_Numbers × List D_api_Account) ⊕ (D_mempoolmake_Numbers × List D_api_Account)) :=
  sel (decide (0 ≤ v4)) (
    chk (decide ((0 : Int) ≤ v4 ∧ v4 < 4)) <|
    chk (decide ((Int.toNat v4) < 4)) <|
    (F_mempoolmake_Numbers_Next b0 5).bind fun r2 =>
    chk (decide ((0 : Int) ≤ r2.2 ∧ r2.2 < 5)) <|
    chk (decide ((Int.toNat r2.2) < 5)) <|
    (F_mempoolmake_Numbers_Next r2.1 6).bind fun r3 =>
    sel (decide (r3.2 = 0)) (
      (F_mempoolmake_Numbers_Next r3.1 3).bind fun r4 =>
      chk (decide ((0 : Int) ≤ r4.2 ∧ r4.2 < 3)) <|
      chk (decide ((Int.toNat r4.2) < 3)) <|
      chk (decide (((List.length l0) + 1) * 32 ≤ LIM ∧ (List.length l0) + 1 ≤ LEN)) <|
      some (.inl ((wi64 (v4 - 1)), r4.1, (l0 ++ ([((List.getD [[(97 : UInt8), (110 : UInt8), (110 : UInt8)], [(98 : UInt8), (111 : UInt8), (98 : UInt8)], [(101 : UInt8), (118 : UInt8), (101 : UInt8)], [(122 : UInt8), (111 : UInt8), (101 : UInt8)]] (Int.toNat v4) []), (List.getD [100000, 5000, 700, 0, 1099511627776] (Int.toNat r2.2) (0 : Int)), (List.getD [5, 18446744073709551615, 18446744073709551614] (Int.toNat r4.2) (0 : Int)))] : List D_api_Account))))) (
      chk (decide (((List.length l0) + 1) * 32 ≤ LIM ∧ (List.length l0) + 1 ≤ LEN)) <|
      some (.inl ((wi64 (v4 - 1)), r3.1, (l0 ++ ([((List.getD [[(97 : UInt8), (110 : UInt8), (110 : UInt8)], [(98 : UInt8), (111 : UInt8), (98 : UInt8)], [(101 : UInt8), (118 : UInt8), (101 : UInt8)], [(122 : UInt8), (111 : UInt8), (101 : UInt8)]] (Int.toNat v4) []), (List.getD [100000, 5000, 700, 0, 1099511627776] (Int.toNat r2.2) (0 : Int)), (0 : Int))] : List D_api_Account)))))) (
    some (.inr (b0, l0)))
def F_mempoolmake_Accounts_l1s (v4 : Int) (b0 : D_mempoolmake_Numbers) (l0 : List D_api_Account) : Option (D_mempoolmake_Numbers × List D_api_Account) :=
  iterO (fun v => F_mempoolmake_Accounts_l1 v.1 v.2.1 v.2.2) (v4, b0, l0)
def F_mempoolmake_Accounts (a0 : D_mempoolmake_Numbers) : Option (D_mempoolmake_Numbers × List D_api_Account) :=
  (F_mempoolmake_Numbers_Next a0 4).bind fun r1 =>
  F_mempoolmake_Accounts_l1s r1.2 r1.1 []
def F_mempoolmake_Name (a0 : D_mempoolmake_Numbers) : Option (D_mempoolmake_Numbers × List UInt8) :=
  (F_mempoolmake_Numbers_Next a0 6).bind fun r1 =>
  chk (decide ((0 : Int) ≤ r1.2 ∧ r1.2 < 6)) <|
  chk (decide ((Int.toNat r1.2) < 6)) <|
  some (r1.1, (List.getD [[(97 : UInt8), (110 : UInt8), (110 : UInt8)], [(98 : UInt8), (111 : UInt8), (98 : UInt8)], [(101 : UInt8), (118 : UInt8), (101 : UInt8)], [(122 : UInt8), (111 : UInt8), (101 : UInt8)], [(110 : UInt8), (101 : UInt8), (119 : UInt8)], [(120 : UInt8), (45 : UInt8), (49 : UInt8)]] (Int.toNat r1.2) []))
def F_mempoolmake_Memo (a0 : D_mempoolmake_Numbers) : Option (D_mempoolmake_Numbers × List UInt8) :=
  (F_mempoolmake_Numbers_Next a0 7).bind fun r1 =>
  chk (decide ((0 : Int) ≤ r1.2 ∧ r1.2 < 7)) <|
  chk (decide ((Int.toNat r1.2) < 7)) <|
  some (r1.1, (List.getD [[], [], [], [(114 : UInt8), (101 : UInt8), (110 : UInt8), (116 : UInt8)], [(195 : UInt8), (169 : UInt8), (228 : UInt8), (184 : UInt8), (150 : UInt8)], [(97 : UInt8), (10 : UInt8), (98 : UInt8)], [(116 : UInt8), (104 : UInt8), (97 : UInt8), (110 : UInt8), (107 : UInt8), (115 : UInt8), (32 : UInt8), (102 : UInt8), (111 : UInt8), (114 : UInt8), (32 : UInt8), (97 : UInt8), (108 : UInt8), (108 : UInt8), (32 : UInt8), (116 : UInt8), (104 : UInt8), (101 : UInt8), (32 : UInt8), (102 : UInt8), (105 : UInt8), (115 : UInt8), (104 : UInt8), (44 : UInt8), (32 : UInt8), (97 : UInt8), (110 : UInt8), (100 : UInt8), (32 : UInt8), (102 : UInt8), (111 : UInt8), (114 : UInt8), (32 : UInt8), (116 : UInt8), (104 : UInt8), (101 : UInt8), (32 : UInt8), (99 : UInt8), (104 : UInt8), (105 : UInt8), (112 : UInt8), (115 : UInt8)]] (Int.toNat r1.2) []))
def F_mempoolmake_Tx_c5 (v10 : Int) (b0 : D_mempoolmake_Numbers) (b1_0 : List UInt8) (b1_1 : Int) (b1_2 : Int) (b1_3 : Int) (b1_4 : List UInt8) (b2_0 : List UInt8) (b2_1 : Int) (b2_2 : Int) (b2_3 : Int) (b2_4 : List UInt8) (b3 : D_api_Transfer) (l0 : List D_api_Transfer) : Option ((Int × D_mempoolmake_Numbers × List UInt8 × Int × Int × Int × List UInt8 × List UInt8 × Int × Int × Int × List UInt8 × List D_api_Transfer) ⊕ (D_mempoolmake_Numbers × D_api_Tx)) :=
  chk (decide (((List.length l0) + 1) * 24 ≤ LIM ∧ (List.length l0) + 1 ≤ LEN)) <|
  some (.inl ((wi64 (v10 - 1)), b0, b1_0, b1_1, b1_2, b1_3, b1_4, b2_0, b2_1, b2_2, b2_3, b2_4, (l0 ++ ([b3] : List D_api_Transfer))))
def F_mempoolmake_Tx_l4 (v10 : Int) (b0 : D_mempoolmake_Numbers) (b1_0 : List UInt8) (b1_1 : Int) (b1_2 : Int) (b1_3 : Int) (b1_4 : List UInt8) (b2_0 : List UInt8) (b2_1 : Int) (b2_2 : Int) (b2_3 : Int) (b2_4 : List UInt8) (l0 : List D_api_Transfer) : Option ((Int × D_mempoolmake_Numbers × List UInt8 × Int × Int × Int × List UInt8 × List UInt8 × Int × Int × Int × List UInt8 × List D_api_Transfer) ⊕ (D_mempoolmake_Numbers × D_api_Tx)) :=
  sel (decide (0 ≤ v10)) (
    (F_mempoolmake_Name b0).bind fun r6 =>
    (F_mempoolmake_Numbers_Next r6.1 60).bind fun r7 =>
    (F_mempoolmake_Numbers_Next r7.1 12).bind fun r8 =>
    sel (decide (r8.2 = 0)) (
      F_mempoolmake_Tx_c5 v10 r8.1 b1_0 b1_1 b1_2 b1_3 b1_4 b2_0 b2_1 b2_2 b2_3 b2_4 (r6.2, 9223372036854775808) l0) (
      F_mempoolmake_Tx_c5 v10 r8.1 b1_0 b1_1 b1_2 b1_3 b1_4 b2_0 b2_1 b2_2 b2_3 b2_4 (r6.2, (wu64 (1 + (wu64 r7.2)))) l0)) (
    some (.inr (b0, (b2_0, b2_1, b2_2, b2_3, b2_4, l0))))
def F_mempoolmake_Tx_l4s (v10 : Int) (b0 : D_mempoolmake_Numbers) (b1_0 : List UInt8) (b1_1 : Int) (b1_2 : Int) (b1_3 : Int) (b1_4 : List UInt8) (b2_0 : List UInt8) (b2_1 : Int) (b2_2 : Int) (b2_3 : Int) (b2_4 : List UInt8) (l0 : List D_api_Transfer) : Option (D_mempoolmake_Numbers × D_api_Tx) :=
  iterO (fun v => F_mempoolmake_Tx_l4 v.1 v.2.1 v.2.2.1 v.2.2.2.1 v.2.2.2.2.1 v.2.2.2.2.2.1 v.2.2.2.2.2.2.1 v.2.2.2.2.2.2.2.1 v.2.2.2.2.2.2.2.2.1 v.2.2.2.2.2.2.2.2.2.1 v.2.2.2.2.2.2.2.2.2.2.1 v.2.2.2.2.2.2.2.2.2.2.2.1 v.2.2.2.2.2.2.2.2.2.2.2.2) (v10, b0, b1_0, b1_1, b1_2, b1_3, b1_4, b2_0, b2_1, b2_2, b2_3, b2_4, l0)
def F_mempoolmake_Tx_c3 (b0 : D_mempoolmake_Numbers) (b1_0 : List UInt8) (b1_1 : Int) (b1_2 : Int) (b1_3 : Int) (b1_4 : List UInt8) (b2_0 : List UInt8) (b2_1 : Int) (b2_2 : Int) (b2_3 : Int) (b2_4 : List UInt8) : Option (D_mempoolmake_Numbers × D_api_Tx) :=
  (F_mempoolmake_Numbers_Next b0 3).bind fun r5 =>
  F_mempoolmake_Tx_l4s r5.2 r5.1 b1_0 b1_1 b1_2 b1_3 b1_4 b2_0 b2_1 b2_2 b2_3 b2_4 []
def F_mempoolmake_Tx_c2 (v2 : Int) (b0 : D_mempoolmake_Numbers) (b1_0 : List UInt8) (b1_1 : Int) (b1_2 : Int) (b1_3 : Int) (b1_4 : List UInt8) (b2_0 : List UInt8) (b2_1 : Int) (b2_2 : Int) (_b2_3 : Int) (b2_4 : List UInt8) : Option (D_mempoolmake_Numbers × D_api_Tx) :=
  (F_mempoolmake_Numbers_Next b0 5).bind fun r4 =>
  (F_mempoolmake_Numbers_Next r4.1 9).bind fun r9 =>
  sel (decide (r9.2 = 0)) (
    (F_mempoolmake_Numbers_Next r9.1 200).bind fun r10 =>
    F_mempoolmake_Tx_c3 r10.1 b1_0 b1_1 b1_2 b1_3 b1_4 b2_0 b2_1 b2_2 (wu64 r10.2) b2_4) (
    F_mempoolmake_Tx_c3 r9.1 b1_0 b1_1 b1_2 b1_3 b1_4 b2_0 b2_1 b2_2 (wu64 ((wu64 (b2_2 * v2)) * (wu64 (wi64 (1 + r4.2))))) b2_4)
def F_mempoolmake_Tx_c1 (v2 : Int) (b0 : D_mempoolmake_Numbers) (b1_0 : List UInt8) (b1_1 : Int) (b1_2 : Int) (b1_3 : Int) (b1_4 : List UInt8) (b2_0 : List UInt8) (b2_1 : Int) (b2_2 : Int) (b2_3 : Int) (b2_4 : List UInt8) : Option (D_mempoolmake_Numbers × D_api_Tx) :=
  (F_mempoolmake_Numbers_Next b0 6).bind fun r11 =>
  sel (decide (r11.2 = 0)) (
    (F_mempoolmake_Numbers_Next r11.1 3).bind fun r12 =>
    F_mempoolmake_Tx_c2 v2 r12.1 b1_0 b1_1 b1_2 b1_3 b1_4 b2_0 (wu64 (b2_1 + (wu64 r12.2))) b2_2 b2_3 b2_4) (
    F_mempoolmake_Tx_c2 v2 r11.1 b1_0 b1_1 b1_2 b1_3 b1_4 b2_0 b2_1 b2_2 b2_3 b2_4)
def F_mempoolmake_Tx_c6 (v2 : Int) (v8 : Int) (v31 : Bool) (b0 : D_mempoolmake_Numbers) (b1 : D_api_Ledger) (b2_0 : List UInt8) (b2_1 : Int) (b2_2 : Int) (b2_3 : Int) (b2_4 : List UInt8) (b3_0 : List UInt8) (b3_1 : Int) (b3_2 : Int) (b3_3 : Int) (b3_4 : List UInt8) : Option (D_mempoolmake_Numbers × D_api_Tx) :=
  sel v31 (
    (F_mempoolmake_Numbers_Next b0 v8).bind fun r13 =>
    chk (decide ((0 : Int) ≤ r13.2 ∧ r13.2 < (((List.length b1.1) : Nat) : Int))) <|
    F_mempoolmake_Tx_c1 v2 r13.1 b2_0 b2_1 b2_2 b2_3 b2_4 (List.getD b1.1 (Int.toNat r13.2) d_api_Account).1 (List.getD b1.1 (Int.toNat r13.2) d_api_Account).2.2 b3_2 b3_3 b3_4) (
    F_mempoolmake_Tx_c1 v2 b0 b2_0 b2_1 b2_2 b2_3 b2_4 b3_0 b3_1 b3_2 b3_3 b3_4)
def F_mempoolmake_Tx (a0 : D_mempoolmake_Numbers) (a1 : D_api_Ledger) (a2 : Int) : Option (D_mempoolmake_Numbers × D_api_Tx) :=
  (F_mempoolmake_Name a0).bind fun r1 =>
  (F_mempoolmake_Numbers_Next r1.1 6).bind fun r2 =>
  (F_mempoolmake_Memo r2.1).bind fun r3 =>
  sel (decide (0 < (((List.length a1.1) : Nat) : Int))) (
    (F_mempoolmake_Numbers_Next r3.1 8).bind fun r14 =>
    F_mempoolmake_Tx_c6 a2 (((List.length a1.1) : Nat) : Int) (decide (0 < r14.2)) r14.1 a1 [] (0 : Int) (0 : Int) (0 : Int) [] r1.2 (0 : Int) (wu64 (150 + (wu64 ((wu64 r2.2) * 40)))) (0 : Int) r3.2) (
    F_mempoolmake_Tx_c6 a2 (((List.length a1.1) : Nat) : Int) false r3.1 a1 [] (0 : Int) (0 : Int) (0 : Int) [] r1.2 (0 : Int) (wu64 (150 + (wu64 ((wu64 r2.2) * 40)))) (0 : Int) r3.2)
def F_mempoollaw10_made (a0 : List Int) (a1 : D_api_Tx) : Option (D_api_Tx × D_api_Tx) :=
  (F_mempoolmake_From a0).bind fun r1 =>
  (F_mempoolmake_Accounts r1).bind fun r2 =>
  (F_mempoolmake_Tx r2.1 (r2.2, (0 : Int)) 1).bind fun r3 =>
  (F_mempoolmake_Numbers_Next r3.1 8).bind fun r4 =>
  sel (decide (r4.2 = 0)) (
    some (r3.2, (a1.1, r3.2.2))) (
    sel (decide (r4.2 = 1)) (
      some (r3.2, (r3.2.1, a1.2.1, r3.2.2.2))) (
      sel (decide (r4.2 = 2)) (
        (F_mempoolmake_Numbers_Next r4.1 2).bind fun r5 =>
        some (r3.2, (r3.2.1, r3.2.2.1, (wu64 r5.2), r3.2.2.2.2))) (
        sel (decide (r4.2 = 3)) (
          some (r3.2, (r3.2.1, r3.2.2.1, r3.2.2.2.1, r3.2.2.2.2.1, a1.2.2.2.2.1, r3.2.2.2.2.2.2))) (
          sel (decide (r4.2 = 4)) (
            some (r3.2, (r3.2.1, r3.2.2.1, r3.2.2.2.1, r3.2.2.2.2.1, r3.2.2.2.2.2.1, a1.2.2.2.2.2))) (
            sel (decide (r4.2 = 5)) (
              chk (decide ((0 + (List.length r3.2.2.2.2.2.2)) * 24 ≤ LIM ∧ 0 + (List.length r3.2.2.2.2.2.2) ≤ LEN)) <|
              chk (decide (((List.length r3.2.2.2.2.2.2) + (List.length a1.2.2.2.2.2)) * 24 ≤ LIM ∧ (List.length r3.2.2.2.2.2.2) + (List.length a1.2.2.2.2.2) ≤ LEN)) <|
              some (r3.2, (r3.2.1, r3.2.2.1, r3.2.2.2.1, r3.2.2.2.2.1, r3.2.2.2.2.2.1, (r3.2.2.2.2.2.2 ++ a1.2.2.2.2.2)))) (
              sel (decide (r4.2 = 6)) (
                chk (decide ((0 + (List.length r3.2.2.2.2.2.2)) * 24 ≤ LIM ∧ 0 + (List.length r3.2.2.2.2.2.2) ≤ LEN)) <|
                chk (decide (((List.length r3.2.2.2.2.2.2) + 1) * 24 ≤ LIM ∧ (List.length r3.2.2.2.2.2.2) + 1 ≤ LEN)) <|
                some (r3.2, (r3.2.1, r3.2.2.1, r3.2.2.2.1, r3.2.2.2.2.1, r3.2.2.2.2.2.1, (r3.2.2.2.2.2.2 ++ ([([(97 : UInt8), (110 : UInt8), (110 : UInt8)], (0 : Int))] : List D_api_Transfer))))) (
                some (r3.2, (r3.2.1, r3.2.2.1, r3.2.2.2.1, a1.2.2.2.1, r3.2.2.2.2.2)))))))))
def F_mempoolref10_ValidateTx_l1 (v31 : List D_api_Transfer) (v32 : Int) (v33 : Int) : Option ((List D_api_Transfer × Int × Int) ⊕ (Int)) :=
  sel (decide (v33 < v32)) (
    chk (decide ((0 : Int) ≤ v33 ∧ v33 < (((List.length v31) : Nat) : Int))) <|
    (F_mempoolref10_IsName (List.getD v31 (Int.toNat v33) d_api_Transfer).1).bind fun r3 =>
    sel (!r3) (
      some (.inr 10)) (
      sel (decide ((List.getD v31 (Int.toNat v33) d_api_Transfer).2 = 0)) (
        some (.inr 12)) (
        some (.inl (v31, v32, (wi64 (v33 + 1))))))) (
    some (.inr 0))
def F_mempoolref10_ValidateTx_l1s (v31 : List D_api_Transfer) (v32 : Int) (v33 : Int) : Option (Int) :=
  iterO (fun v => F_mempoolref10_ValidateTx_l1 v.1 v.2.1 v.2.2) (v31, v32, v33)
def F_mempoolref10_ValidateTx (a0 : D_api_Tx) : Option (Int) :=
  (F_mempoolref10_IsName a0.1).bind fun r1 =>
  sel (!r1) (
    some 10) (
    sel (decide (a0.2.2.1 = 0)) (
      some 15) (
      (F_mempoolref10_IsMemo a0.2.2.2.2.1).bind fun r2 =>
      sel (!r2) (
        some 11) (
        sel (decide ((((List.length a0.2.2.2.2.2) : Nat) : Int) = 0)) (
          some 3) (
          sel (decide (16 < (((List.length a0.2.2.2.2.2) : Nat) : Int))) (
            some 3) (
            F_mempoolref10_ValidateTx_l1s a0.2.2.2.2.2 (((List.length a0.2.2.2.2.2) : Nat) : Int) 0)))))
def F_mempoollaw10_TxValidates (a0 : D_api_Tx) (a1 : List Int) : Option (Bool) :=
  (F_mempoollaw10_long [a1]).bind fun r1 =>
  sel r1 (
    (F_mempoollaw10_known).bind fun r2 =>
    some r2) (
    (F_mempoollaw10_big a0).bind fun r3 =>
    sel r3 (
      (F_mempoollaw10_known).bind fun r4 =>
      some r4) (
      (F_mempoollaw10_made a1 a0).bind fun r5 =>
      (F_tx_Validate a0).bind fun r6 =>
      (F_mempoolref10_ValidateTx a0).bind fun r7 =>
      sel (decide (r6 = r7)) (
        (F_tx_Validate r5.1).bind fun r8 =>
        sel (decide (r8 = 0)) (
          (F_tx_Validate r5.2).bind fun r9 =>
          (F_mempoolref10_ValidateTx r5.2).bind fun r10 =>
          sel (decide (r9 = r10)) (
            (F_mempoollaw10_known).bind fun r11 =>
            some r11) (
            some false)) (
          some false)) (
        some false)))
def F_mempoolref10_text (a0 : List D_api_Field) (a1 : Int) (a2 : List UInt8) : Option (List D_api_Field) :=
  sel (decide (a2 = [])) (
    some a0) (
    chk (decide ((List.length a2) ≤ maxLen)) <|
    chk (decide (((List.length a0) + 1) * 48 ≤ LIM ∧ (List.length a0) + 1 ≤ LEN)) <|
    some (a0 ++ ([(a1, 2, (0 : Int), a2)] : List D_api_Field)))
def F_mempoolref10_number (a0 : List D_api_Field) (a1 : Int) (a2 : Int) : Option (List D_api_Field) :=
  sel (decide (a2 = 0)) (
    some a0) (
    chk (decide (((List.length a0) + 1) * 48 ≤ LIM ∧ (List.length a0) + 1 ≤ LEN)) <|
    some (a0 ++ ([(a1, 0, a2, [])] : List D_api_Field)))
def F_mempoolref1_right (a0 : D_api_Field) : Option (Bool) :=
  sel (decide (a0.1 < 1)) (
    some false) (
    sel (decide (536870911 < a0.1)) (
      some false) (
      sel (decide (a0.2.1 = 0)) (
        sel (decide ((((List.length a0.2.2.2) : Nat) : Int) = 0)) (
          some true) (
          sel (decide (a0.2.1 = 2)) (
            some (decide (a0.2.2.1 = 0))) (
            some false))) (
        sel (decide (a0.2.1 = 2)) (
          some (decide (a0.2.2.1 = 0))) (
          some false))))
def F_mempoolref1_Varint_c1 (v1 : Int) (l0 : List UInt8) : Option (List UInt8) :=
  chk (decide ((0 : Int) ≤ (wu8 v1) ∧ (wu8 v1) < 256)) <|
  chk (decide (((List.length l0) + 1) * 1 ≤ LIM ∧ (List.length l0) + 1 ≤ LEN)) <|
  some (l0 ++ [(UInt8.ofNat (Int.toNat (wu8 v1)))])
def F_mempoolref1_Varint_l2 (v1 : Int) (l0 : List UInt8) : Option ((Int × List UInt8) ⊕ (List UInt8)) :=
  sel (decide (128 ≤ v1)) (
    chk (decide ((0 : Int) ≤ (bits .or .u8 (wu8 v1) 128) ∧ (bits .or .u8 (wu8 v1) 128) < 256)) <|
    chk (decide (((List.length l0) + 1) * 1 ≤ LIM ∧ (List.length l0) + 1 ≤ LEN)) <|
    some (.inl ((v1 / 2 ^ 7), (l0 ++ [(UInt8.ofNat (Int.toNat (bits .or .u8 (wu8 v1) 128)))])))) (
    Option.map .inr (
      F_mempoolref1_Varint_c1 v1 l0))
def F_mempoolref1_Varint_l2s (v1 : Int) (l0 : List UInt8) : Option (List UInt8) :=
  iterO (fun v => F_mempoolref1_Varint_l2 v.1 v.2) (v1, l0)
def F_mempoolref1_Varint (a0 : List UInt8) (a1 : Int) : Option (List UInt8) :=
  chk (decide ((0 + (List.length a0)) * 1 ≤ LIM ∧ 0 + (List.length a0) ≤ LEN)) <|
  F_mempoolref1_Varint_l2s a1 a0
def F_mempoolref1_Field (a0 : List UInt8) (a1 : D_api_Field) : Option (List UInt8 × Int) :=
  (F_mempoolref1_right a1).bind fun r1 =>
  sel (!r1) (
    some ([], 1)) (
    (F_mempoolref1_Varint a0 (wu64 ((wu64 ((wu64 a1.1) * 8)) + (wu64 a1.2.1)))).bind fun r2 =>
    sel (decide (a1.2.1 = 0)) (
      (F_mempoolref1_Varint r2 a1.2.2.1).bind fun r3 =>
      some (r3, 0)) (
      (F_mempoolref1_Varint r2 (wu64 (((List.length a1.2.2.2) : Nat) : Int))).bind fun r4 =>
      chk (decide (((List.length r4) + (List.length a1.2.2.2)) * 1 ≤ LIM ∧ (List.length r4) + (List.length a1.2.2.2) ≤ LEN)) <|
      some ((r4 ++ a1.2.2.2), 0)))
def F_mempoolref4_Message_l1 (v6 : List D_api_Field) (v7 : Int) (v8 : Int) (l0 : List UInt8) : Option ((List D_api_Field × Int × Int × List UInt8) ⊕ (List UInt8)) :=
  sel (decide (v8 < v7)) (
    chk (decide ((0 : Int) ≤ v8 ∧ v8 < (((List.length v6) : Nat) : Int))) <|
    (F_mempoolref1_Field l0 (List.getD v6 (Int.toNat v8) d_api_Field)).bind fun r1 =>
    some (.inl (v6, v7, (wi64 (v8 + 1)), r1.1))) (
    some (.inr l0))
def F_mempoolref4_Message_l1s (v6 : List D_api_Field) (v7 : Int) (v8 : Int) (l0 : List UInt8) : Option (List UInt8) :=
  iterO (fun v => F_mempoolref4_Message_l1 v.1 v.2.1 v.2.2.1 v.2.2.2) (v6, v7, v8, l0)
def F_mempoolref4_Message (a0 : List D_api_Field) : Option (List UInt8) :=
  F_mempoolref4_Message_l1s a0 (((List.length a0) : Nat) : Int) 0 []
def F_mempoolref10_Form_l1 (v26 : List D_api_Transfer) (v27 : Int) (v28 : Int) (l0 : List D_api_Field) : Option ((List D_api_Transfer × Int × Int × List D_api_Field) ⊕ (List UInt8)) :=
  sel (decide (v28 < v27)) (
    chk (decide ((0 : Int) ≤ v28 ∧ v28 < (((List.length v26) : Nat) : Int))) <|
    (F_mempoolref10_text [] 1 (List.getD v26 (Int.toNat v28) d_api_Transfer).1).bind fun r6 =>
    (F_mempoolref10_number r6 2 (List.getD v26 (Int.toNat v28) d_api_Transfer).2).bind fun r7 =>
    (F_mempoolref4_Message r7).bind fun r8 =>
    chk (decide (((List.length l0) + 1) * 48 ≤ LIM ∧ (List.length l0) + 1 ≤ LEN)) <|
    some (.inl (v26, v27, (wi64 (v28 + 1)), (l0 ++ ([(6, 2, (0 : Int), r8)] : List D_api_Field))))) (
    Option.map .inr (
      (F_mempoolref4_Message l0).bind fun r9 =>
      some r9))
def F_mempoolref10_Form_l1s (v26 : List D_api_Transfer) (v27 : Int) (v28 : Int) (l0 : List D_api_Field) : Option (List UInt8) :=
  iterO (fun v => F_mempoolref10_Form_l1 v.1 v.2.1 v.2.2.1 v.2.2.2) (v26, v27, v28, l0)
def F_mempoolref10_Form (a0 : D_api_Tx) : Option (List UInt8) :=
  (F_mempoolref10_text [] 1 a0.1).bind fun r1 =>
  (F_mempoolref10_number r1 2 a0.2.1).bind fun r2 =>
  (F_mempoolref10_number r2 3 a0.2.2.1).bind fun r3 =>
  (F_mempoolref10_number r3 4 a0.2.2.2.1).bind fun r4 =>
  (F_mempoolref10_text r4 5 a0.2.2.2.2.1).bind fun r5 =>
  F_mempoolref10_Form_l1s a0.2.2.2.2.2 (((List.length a0.2.2.2.2.2) : Nat) : Int) 0 r5
def F_mempoolref10_EncodeTx (a0 : D_api_Tx) : Option (List UInt8 × Int) :=
  (F_mempoolref10_ValidateTx a0).bind fun r1 =>
  sel (!decide (r1 = 0)) (
    some ([], r1)) (
    (F_mempoolref10_Form a0).bind fun r2 =>
    sel (decide (4096 < (((List.length r2) : Nat) : Int))) (
      some ([], 3)) (
      some (r2, 0)))
def F_mempoolref1_SameBytes (a0 : List UInt8) (a1 : List UInt8) : Option (Bool) :=
  some (decide (a0 = a1))
def F_mempoollaw10_TxEncodes_l1 (v33 : Int) (v34 : Int) (l0 : List D_api_Tx) : Option ((Int × Int × List D_api_Tx) ⊕ (Bool)) :=
  sel (decide (v34 < v33)) (
    chk (decide ((0 : Int) ≤ v34 ∧ v34 < (((List.length l0) : Nat) : Int))) <|
    chk (decide ((Int.toNat v34) < (List.length l0))) <|
    (F_tx_Encode (List.getD l0 (Int.toNat v34) d_api_Tx)).bind fun r6 =>
    (F_mempoolref10_EncodeTx (List.getD l0 (Int.toNat v34) d_api_Tx)).bind fun r7 =>
    sel (!decide (r6.2 = r7.2)) (
      some (.inr false)) (
      (F_mempoolref1_SameBytes r6.1 r7.1).bind fun r8 =>
      sel (!r8) (
        some (.inr false)) (
        sel (decide (r6.2 = 0)) (
          (F_tx_Decode r6.1).bind fun r9 =>
          sel (!decide (r9.2 = 0)) (
            some (.inr false)) (
            (F_mempoolref10_SameTx (List.getD l0 (Int.toNat v34) d_api_Tx) r9.1).bind fun r10 =>
            sel (!r10) (
              some (.inr false)) (
              some (.inl (v33, (wi64 (v34 + 1)), l0))))) (
          some (.inl (v33, (wi64 (v34 + 1)), l0)))))) (
    Option.map .inr (
      (F_mempoollaw10_known).bind fun r11 =>
      some r11))
def F_mempoollaw10_TxEncodes_l1s (v33 : Int) (v34 : Int) (l0 : List D_api_Tx) : Option (Bool) :=
  iterO (fun v => F_mempoollaw10_TxEncodes_l1 v.1 v.2.1 v.2.2) (v33, v34, l0)
def F_mempoollaw10_TxEncodes (a0 : D_api_Tx) (a1 : List Int) : Option (Bool) :=
  (F_mempoollaw10_long [a1]).bind fun r1 =>
  sel r1 (
    (F_mempoollaw10_known).bind fun r2 =>
    some r2) (
    (F_mempoollaw10_big a0).bind fun r3 =>
    sel r3 (
      (F_mempoollaw10_known).bind fun r4 =>
      some r4) (
      (F_mempoollaw10_made a1 a0).bind fun r5 =>
      F_mempoollaw10_TxEncodes_l1s 3 0 [a0, r5.1, r5.2]))
def F_mempoolref1_Read_c2 (v0 : List UInt8) (v5 : Int) (v6 : Int) : Option ((List UInt8 × Int × Int) ⊕ (Int × Int × Int)) :=
  chk (decide ((0 : Int) ≤ v6 ∧ v6 < (((List.length v0) : Nat) : Int))) <|
  chk (decide ((0 : Int) ≤ (wi64 (7 * v6)))) <|
  chk (decide ((0 : Int) ≤ v6 ∧ v6 < (((List.length v0) : Nat) : Int))) <|
  sel (decide (((UInt8.toNat (List.getD v0 (Int.toNat v6) (0 : UInt8)) : Nat) : Int) < 128)) (
    some (.inr ((bits .or .u64 v5 (wu64 ((wu64 (bits .and .u8 ((UInt8.toNat (List.getD v0 (Int.toNat v6) (0 : UInt8)) : Nat) : Int) 127)) * 2 ^ (min (Int.toNat (wi64 (7 * v6))) 64)))), (wi64 (v6 + 1)), 0))) (
    some (.inl (v0, (bits .or .u64 v5 (wu64 ((wu64 (bits .and .u8 ((UInt8.toNat (List.getD v0 (Int.toNat v6) (0 : UInt8)) : Nat) : Int) 127)) * 2 ^ (min (Int.toNat (wi64 (7 * v6))) 64)))), (wi64 (v6 + 1)))))
def F_mempoolref1_Read_c3 (v0 : List UInt8) (v5 : Int) (v6 : Int) (v14 : Bool) : Option ((List UInt8 × Int × Int) ⊕ (Int × Int × Int)) :=
  sel v14 (
    some (.inr (0, 0, 6))) (
    sel (decide (0 < v6)) (
      chk (decide ((0 : Int) ≤ v6 ∧ v6 < (((List.length v0) : Nat) : Int))) <|
      sel (decide (((UInt8.toNat (List.getD v0 (Int.toNat v6) (0 : UInt8)) : Nat) : Int) = 0)) (
        some (.inr (0, 0, 4))) (
        F_mempoolref1_Read_c2 v0 v5 v6)) (
      F_mempoolref1_Read_c2 v0 v5 v6))
def F_mempoolref1_Read_l1 (v0 : List UInt8) (v5 : Int) (v6 : Int) : Option ((List UInt8 × Int × Int) ⊕ (Int × Int × Int)) :=
  sel (decide ((((List.length v0) : Nat) : Int) ≤ v6)) (
    some (.inr (0, 0, 5))) (
    sel (decide (v6 = 9)) (
      chk (decide ((0 : Int) ≤ v6 ∧ v6 < (((List.length v0) : Nat) : Int))) <|
      F_mempoolref1_Read_c3 v0 v5 v6 (decide (1 < ((UInt8.toNat (List.getD v0 (Int.toNat v6) (0 : UInt8)) : Nat) : Int)))) (
      F_mempoolref1_Read_c3 v0 v5 v6 false))
def F_mempoolref1_Read_l1s (v0 : List UInt8) (v5 : Int) (v6 : Int) : Option (Int × Int × Int) :=
  iterO (fun v => F_mempoolref1_Read_l1 v.1 v.2.1 v.2.2) (v0, v5, v6)
def F_mempoolref1_Read (a0 : List UInt8) : Option (Int × Int × Int) :=
  F_mempoolref1_Read_l1s a0 0 0
def F_mempoolref1_one_c1 (v0 : List UInt8) (v5 : Int) (v6 : Int) (v8 : Int) (_b0 : D_api_Field) : Option (D_api_Field × Int × Int) :=
  chk (decide ((0 : Int) ≤ v6 ∧ v6 ≤ (((List.length v0) : Nat) : Int) ∧ (((List.length v0) : Nat) : Int) ≤ (((List.length v0) : Nat) : Int))) <|
  (F_mempoolref1_Read (List.drop (Int.toNat v6) (List.take (Int.toNat (((List.length v0) : Nat) : Int)) v0))).bind fun r2 =>
  sel (!decide (r2.2.2 = 0)) (
    some (((0 : Int), (0 : Int), (0 : Int), []), 0, r2.2.2)) (
    sel (decide (v8 = 0)) (
      some (((wi64 (wu64 (Int.tdiv v5 8))), v8, r2.1, []), (wi64 (v6 + r2.2.1)), 0)) (
      sel (decide ((wu64 (wi64 ((wi64 ((((List.length v0) : Nat) : Int) - v6)) - r2.2.1))) < r2.1)) (
        some (((0 : Int), (0 : Int), (0 : Int), []), 0, 5)) (
        chk (decide ((0 : Int) ≤ (wi64 (v6 + r2.2.1)) ∧ (wi64 (v6 + r2.2.1)) ≤ (wi64 ((wi64 (v6 + r2.2.1)) + (wi64 r2.1))) ∧ (wi64 ((wi64 (v6 + r2.2.1)) + (wi64 r2.1))) ≤ (((List.length v0) : Nat) : Int))) <|
        chk (decide ((0 + (List.length (List.drop (Int.toNat (wi64 (v6 + r2.2.1))) (List.take (Int.toNat (wi64 ((wi64 (v6 + r2.2.1)) + (wi64 r2.1)))) v0)))) * 1 ≤ LIM ∧ 0 + (List.length (List.drop (Int.toNat (wi64 (v6 + r2.2.1))) (List.take (Int.toNat (wi64 ((wi64 (v6 + r2.2.1)) + (wi64 r2.1)))) v0))) ≤ LEN)) <|
        some (((wi64 (wu64 (Int.tdiv v5 8))), v8, (0 : Int), (List.drop (Int.toNat (wi64 (v6 + r2.2.1))) (List.take (Int.toNat (wi64 ((wi64 (v6 + r2.2.1)) + (wi64 r2.1)))) v0))), (wi64 ((wi64 (v6 + r2.2.1)) + (wi64 r2.1))), 0))))
def F_mempoolref1_one (a0 : List UInt8) : Option (D_api_Field × Int × Int) :=
  (F_mempoolref1_Read a0).bind fun r1 =>
  sel (!decide (r1.2.2 = 0)) (
    some (((0 : Int), (0 : Int), (0 : Int), []), 0, r1.2.2)) (
    sel (decide ((wu64 (Int.tdiv r1.1 8)) < 1)) (
      some (((0 : Int), (0 : Int), (0 : Int), []), 0, 4)) (
      sel (decide (536870911 < (wu64 (Int.tdiv r1.1 8)))) (
        some (((0 : Int), (0 : Int), (0 : Int), []), 0, 4)) (
        sel (!decide ((wi64 (Int.tmod r1.1 8)) = 0)) (
          sel (!decide ((wi64 (Int.tmod r1.1 8)) = 2)) (
            some (((0 : Int), (0 : Int), (0 : Int), []), 0, 4)) (
            F_mempoolref1_one_c1 a0 r1.1 r1.2.1 (wi64 (Int.tmod r1.1 8)) ((0 : Int), (0 : Int), (0 : Int), []))) (
          F_mempoolref1_one_c1 a0 r1.1 r1.2.1 (wi64 (Int.tmod r1.1 8)) ((0 : Int), (0 : Int), (0 : Int), [])))))
def F_mempoolref1_Fields_c1 (l0 : List D_api_Field) : Option (List D_api_Field × Int × Int) :=
  some (l0, 0, 0)
def F_mempoolref1_Fields_l2 (v0 : List UInt8) (v6 : Int) (l0 : List D_api_Field) : Option ((List UInt8 × Int × List D_api_Field) ⊕ (List D_api_Field × Int × Int)) :=
  sel (decide (v6 < (((List.length v0) : Nat) : Int))) (
    sel (decide (1024 ≤ (((List.length l0) : Nat) : Int))) (
      some (.inr ([], v6, 3))) (
      chk (decide ((0 : Int) ≤ v6 ∧ v6 ≤ (((List.length v0) : Nat) : Int) ∧ (((List.length v0) : Nat) : Int) ≤ (((List.length v0) : Nat) : Int))) <|
      (F_mempoolref1_one (List.drop (Int.toNat v6) (List.take (Int.toNat (((List.length v0) : Nat) : Int)) v0))).bind fun r1 =>
      sel (!decide (r1.2.2 = 0)) (
        some (.inr ([], v6, r1.2.2))) (
        chk (decide (((List.length l0) + 1) * 48 ≤ LIM ∧ (List.length l0) + 1 ≤ LEN)) <|
        some (.inl (v0, (wi64 (v6 + r1.2.1)), (l0 ++ ([r1.1] : List D_api_Field))))))) (
    Option.map .inr (
      F_mempoolref1_Fields_c1 l0))
def F_mempoolref1_Fields_l2s (v0 : List UInt8) (v6 : Int) (l0 : List D_api_Field) : Option (List D_api_Field × Int × Int) :=
  iterO (fun v => F_mempoolref1_Fields_l2 v.1 v.2.1 v.2.2) (v0, v6, l0)
def F_mempoolref1_Fields (a0 : List UInt8) : Option (List D_api_Field × Int × Int) :=
  F_mempoolref1_Fields_l2s a0 0 []
def F_mempoolref10_transfer_c1 (v0 : List UInt8) (v6 : Int) (_b0 : D_api_Transfer) (b1 : D_api_Transfer) : Option (D_api_Transfer × Bool) :=
  sel (decide (v6 = 0)) (
    (F_mempoolref10_text [] 1 b1.1).bind fun r2 =>
    (F_mempoolref10_number r2 2 b1.2).bind fun r3 =>
    (F_mempoolref4_Message r3).bind fun r4 =>
    (F_mempoolref1_SameBytes r4 v0).bind fun r5 =>
    some (b1, r5)) (
    some (b1, false))
def F_mempoolref10_transfer_c4 (v0 : List UInt8) (v6 : Int) (v17 : Int) (v18 : Int) (v36 : Bool) (b0 : D_api_Transfer) (b1 : D_api_Transfer) (b2 : D_api_Field) (l0 : List D_api_Field) : Option ((List UInt8 × Int × Int × Int × D_api_Transfer × D_api_Transfer × List D_api_Field) ⊕ (D_api_Transfer × Bool)) :=
  sel v36 (
    some (.inl (v0, v6, v17, (wi64 (v18 + 1)), b0, (b1.1, b2.2.2.1), l0))) (
    some (.inr (b1, false)))
def F_mempoolref10_transfer_c3 (v0 : List UInt8) (v6 : Int) (v17 : Int) (v18 : Int) (v23 : Bool) (b0 : D_api_Transfer) (b1 : D_api_Transfer) (b2 : D_api_Field) (l0 : List D_api_Field) : Option ((List UInt8 × Int × Int × Int × D_api_Transfer × D_api_Transfer × List D_api_Field) ⊕ (D_api_Transfer × Bool)) :=
  sel v23 (
    some (.inl (v0, v6, v17, (wi64 (v18 + 1)), b0, (b2.2.2.2, b1.2), l0))) (
    sel (decide (b2.1 = 2)) (
      F_mempoolref10_transfer_c4 v0 v6 v17 v18 (decide (b2.2.1 = 0)) b0 b1 b2 l0) (
      F_mempoolref10_transfer_c4 v0 v6 v17 v18 false b0 b1 b2 l0))
def F_mempoolref10_transfer_l2 (v0 : List UInt8) (v6 : Int) (v17 : Int) (v18 : Int) (b0 : D_api_Transfer) (b1 : D_api_Transfer) (l0 : List D_api_Field) : Option ((List UInt8 × Int × Int × Int × D_api_Transfer × D_api_Transfer × List D_api_Field) ⊕ (D_api_Transfer × Bool)) :=
  sel (decide (v18 < v17)) (
    chk (decide ((0 : Int) ≤ v18 ∧ v18 < (((List.length l0) : Nat) : Int))) <|
    chk (decide ((Int.toNat v18) < (List.length l0))) <|
    sel (decide ((List.getD l0 (Int.toNat v18) d_api_Field).1 = 1)) (
      F_mempoolref10_transfer_c3 v0 v6 v17 v18 (decide ((List.getD l0 (Int.toNat v18) d_api_Field).2.1 = 2)) b0 b1 (List.getD l0 (Int.toNat v18) d_api_Field) l0) (
      F_mempoolref10_transfer_c3 v0 v6 v17 v18 false b0 b1 (List.getD l0 (Int.toNat v18) d_api_Field) l0)) (
    Option.map .inr (
      F_mempoolref10_transfer_c1 v0 v6 b0 b1))
def F_mempoolref10_transfer_l2s (v0 : List UInt8) (v6 : Int) (v17 : Int) (v18 : Int) (b0 : D_api_Transfer) (b1 : D_api_Transfer) (l0 : List D_api_Field) : Option (D_api_Transfer × Bool) :=
  iterO (fun v => F_mempoolref10_transfer_l2 v.1 v.2.1 v.2.2.1 v.2.2.2.1 v.2.2.2.2.1 v.2.2.2.2.2.1 v.2.2.2.2.2.2) (v0, v6, v17, v18, b0, b1, l0)
def F_mempoolref10_transfer (a0 : List UInt8) : Option (D_api_Transfer × Bool) :=
  (F_mempoolref1_Fields a0).bind fun r1 =>
  F_mempoolref10_transfer_l2s a0 r1.2.2 (((List.length r1.1) : Nat) : Int) 0 ([], (0 : Int)) ([], (0 : Int)) r1.1
def F_mempoolref10_read_c7 (v9 : List D_api_Field) (v10 : Int) (v11 : Int) (v78 : Bool) (b0_0 : List UInt8) (b0_1 : Int) (b0_2 : Int) (b0_3 : Int) (b0_4 : List UInt8) (b1_0 : List UInt8) (b1_1 : Int) (b1_2 : Int) (b1_3 : Int) (b1_4 : List UInt8) (b2 : D_api_Field) (l0 : List D_api_Transfer) : Option ((List D_api_Field × Int × Int × List UInt8 × Int × Int × Int × List UInt8 × List UInt8 × Int × Int × Int × List UInt8 × List D_api_Transfer) ⊕ (D_api_Tx × Bool)) :=
  sel v78 (
    (F_mempoolref10_transfer b2.2.2.2).bind fun r1 =>
    sel (!r1.2) (
      some (.inr ((b1_0, b1_1, b1_2, b1_3, b1_4, l0), false))) (
      chk (decide (((List.length l0) + 1) * 24 ≤ LIM ∧ (List.length l0) + 1 ≤ LEN)) <|
      some (.inl (v9, v10, (wi64 (v11 + 1)), b0_0, b0_1, b0_2, b0_3, b0_4, b1_0, b1_1, b1_2, b1_3, b1_4, (l0 ++ ([r1.1] : List D_api_Transfer)))))) (
    some (.inr ((b1_0, b1_1, b1_2, b1_3, b1_4, l0), false)))
def F_mempoolref10_read_c6 (v9 : List D_api_Field) (v10 : Int) (v11 : Int) (v65 : Bool) (b0_0 : List UInt8) (b0_1 : Int) (b0_2 : Int) (b0_3 : Int) (b0_4 : List UInt8) (b1_0 : List UInt8) (b1_1 : Int) (b1_2 : Int) (b1_3 : Int) (b1_4 : List UInt8) (b2 : D_api_Field) (l0 : List D_api_Transfer) : Option ((List D_api_Field × Int × Int × List UInt8 × Int × Int × Int × List UInt8 × List UInt8 × Int × Int × Int × List UInt8 × List D_api_Transfer) ⊕ (D_api_Tx × Bool)) :=
  sel v65 (
    some (.inl (v9, v10, (wi64 (v11 + 1)), b0_0, b0_1, b0_2, b0_3, b0_4, b1_0, b1_1, b1_2, b1_3, b2.2.2.2, l0))) (
    sel (decide (b2.1 = 6)) (
      F_mempoolref10_read_c7 v9 v10 v11 (decide (b2.2.1 = 2)) b0_0 b0_1 b0_2 b0_3 b0_4 b1_0 b1_1 b1_2 b1_3 b1_4 b2 l0) (
      F_mempoolref10_read_c7 v9 v10 v11 false b0_0 b0_1 b0_2 b0_3 b0_4 b1_0 b1_1 b1_2 b1_3 b1_4 b2 l0))
def F_mempoolref10_read_c5 (v9 : List D_api_Field) (v10 : Int) (v11 : Int) (v53 : Bool) (b0_0 : List UInt8) (b0_1 : Int) (b0_2 : Int) (b0_3 : Int) (b0_4 : List UInt8) (b1_0 : List UInt8) (b1_1 : Int) (b1_2 : Int) (b1_3 : Int) (b1_4 : List UInt8) (b2 : D_api_Field) (l0 : List D_api_Transfer) : Option ((List D_api_Field × Int × Int × List UInt8 × Int × Int × Int × List UInt8 × List UInt8 × Int × Int × Int × List UInt8 × List D_api_Transfer) ⊕ (D_api_Tx × Bool)) :=
  sel v53 (
    some (.inl (v9, v10, (wi64 (v11 + 1)), b0_0, b0_1, b0_2, b0_3, b0_4, b1_0, b1_1, b1_2, b2.2.2.1, b1_4, l0))) (
    sel (decide (b2.1 = 5)) (
      F_mempoolref10_read_c6 v9 v10 v11 (decide (b2.2.1 = 2)) b0_0 b0_1 b0_2 b0_3 b0_4 b1_0 b1_1 b1_2 b1_3 b1_4 b2 l0) (
      F_mempoolref10_read_c6 v9 v10 v11 false b0_0 b0_1 b0_2 b0_3 b0_4 b1_0 b1_1 b1_2 b1_3 b1_4 b2 l0))
def F_mempoolref10_read_c4 (v9 : List D_api_Field) (v10 : Int) (v11 : Int) (v41 : Bool) (b0_0 : List UInt8) (b0_1 : Int) (b0_2 : Int) (b0_3 : Int) (b0_4 : List UInt8) (b1_0 : List UInt8) (b1_1 : Int) (b1_2 : Int) (b1_3 : Int) (b1_4 : List UInt8) (b2 : D_api_Field) (l0 : List D_api_Transfer) : Option ((List D_api_Field × Int × Int × List UInt8 × Int × Int × Int × List UInt8 × List UInt8 × Int × Int × Int × List UInt8 × List D_api_Transfer) ⊕ (D_api_Tx × Bool)) :=
  sel v41 (
    some (.inl (v9, v10, (wi64 (v11 + 1)), b0_0, b0_1, b0_2, b0_3, b0_4, b1_0, b1_1, b2.2.2.1, b1_3, b1_4, l0))) (
    sel (decide (b2.1 = 4)) (
      F_mempoolref10_read_c5 v9 v10 v11 (decide (b2.2.1 = 0)) b0_0 b0_1 b0_2 b0_3 b0_4 b1_0 b1_1 b1_2 b1_3 b1_4 b2 l0) (
      F_mempoolref10_read_c5 v9 v10 v11 false b0_0 b0_1 b0_2 b0_3 b0_4 b1_0 b1_1 b1_2 b1_3 b1_4 b2 l0))
def F_mempoolref10_read_c3 (v9 : List D_api_Field) (v10 : Int) (v11 : Int) (v29 : Bool) (b0_0 : List UInt8) (b0_1 : Int) (b0_2 : Int) (b0_3 : Int) (b0_4 : List UInt8) (b1_0 : List UInt8) (b1_1 : Int) (b1_2 : Int) (b1_3 : Int) (b1_4 : List UInt8) (b2 : D_api_Field) (l0 : List D_api_Transfer) : Option ((List D_api_Field × Int × Int × List UInt8 × Int × Int × Int × List UInt8 × List UInt8 × Int × Int × Int × List UInt8 × List D_api_Transfer) ⊕ (D_api_Tx × Bool)) :=
  sel v29 (
    some (.inl (v9, v10, (wi64 (v11 + 1)), b0_0, b0_1, b0_2, b0_3, b0_4, b1_0, b2.2.2.1, b1_2, b1_3, b1_4, l0))) (
    sel (decide (b2.1 = 3)) (
      F_mempoolref10_read_c4 v9 v10 v11 (decide (b2.2.1 = 0)) b0_0 b0_1 b0_2 b0_3 b0_4 b1_0 b1_1 b1_2 b1_3 b1_4 b2 l0) (
      F_mempoolref10_read_c4 v9 v10 v11 false b0_0 b0_1 b0_2 b0_3 b0_4 b1_0 b1_1 b1_2 b1_3 b1_4 b2 l0))
def F_mempoolref10_read_c2 (v9 : List D_api_Field) (v10 : Int) (v11 : Int) (v16 : Bool) (b0_0 : List UInt8) (b0_1 : Int) (b0_2 : Int) (b0_3 : Int) (b0_4 : List UInt8) (b1_0 : List UInt8) (b1_1 : Int) (b1_2 : Int) (b1_3 : Int) (b1_4 : List UInt8) (b2 : D_api_Field) (l0 : List D_api_Transfer) : Option ((List D_api_Field × Int × Int × List UInt8 × Int × Int × Int × List UInt8 × List UInt8 × Int × Int × Int × List UInt8 × List D_api_Transfer) ⊕ (D_api_Tx × Bool)) :=
  sel v16 (
    some (.inl (v9, v10, (wi64 (v11 + 1)), b0_0, b0_1, b0_2, b0_3, b0_4, b2.2.2.2, b1_1, b1_2, b1_3, b1_4, l0))) (
    sel (decide (b2.1 = 2)) (
      F_mempoolref10_read_c3 v9 v10 v11 (decide (b2.2.1 = 0)) b0_0 b0_1 b0_2 b0_3 b0_4 b1_0 b1_1 b1_2 b1_3 b1_4 b2 l0) (
      F_mempoolref10_read_c3 v9 v10 v11 false b0_0 b0_1 b0_2 b0_3 b0_4 b1_0 b1_1 b1_2 b1_3 b1_4 b2 l0))
def F_mempoolref10_read_l1 (v9 : List D_api_Field) (v10 : Int) (v11 : Int) (b0_0 : List UInt8) (b0_1 : Int) (b0_2 : Int) (b0_3 : Int) (b0_4 : List UInt8) (b1_0 : List UInt8) (b1_1 : Int) (b1_2 : Int) (b1_3 : Int) (b1_4 : List UInt8) (l0 : List D_api_Transfer) : Option ((List D_api_Field × Int × Int × List UInt8 × Int × Int × Int × List UInt8 × List UInt8 × Int × Int × Int × List UInt8 × List D_api_Transfer) ⊕ (D_api_Tx × Bool)) :=
  sel (decide (v11 < v10)) (
    chk (decide ((0 : Int) ≤ v11 ∧ v11 < (((List.length v9) : Nat) : Int))) <|
    sel (decide ((List.getD v9 (Int.toNat v11) d_api_Field).1 = 1)) (
      F_mempoolref10_read_c2 v9 v10 v11 (decide ((List.getD v9 (Int.toNat v11) d_api_Field).2.1 = 2)) b0_0 b0_1 b0_2 b0_3 b0_4 b1_0 b1_1 b1_2 b1_3 b1_4 (List.getD v9 (Int.toNat v11) d_api_Field) l0) (
      F_mempoolref10_read_c2 v9 v10 v11 false b0_0 b0_1 b0_2 b0_3 b0_4 b1_0 b1_1 b1_2 b1_3 b1_4 (List.getD v9 (Int.toNat v11) d_api_Field) l0)) (
    some (.inr ((b1_0, b1_1, b1_2, b1_3, b1_4, l0), true)))
def F_mempoolref10_read_l1s (v9 : List D_api_Field) (v10 : Int) (v11 : Int) (b0_0 : List UInt8) (b0_1 : Int) (b0_2 : Int) (b0_3 : Int) (b0_4 : List UInt8) (b1_0 : List UInt8) (b1_1 : Int) (b1_2 : Int) (b1_3 : Int) (b1_4 : List UInt8) (l0 : List D_api_Transfer) : Option (D_api_Tx × Bool) :=
  iterO (fun v => F_mempoolref10_read_l1 v.1 v.2.1 v.2.2.1 v.2.2.2.1 v.2.2.2.2.1 v.2.2.2.2.2.1 v.2.2.2.2.2.2.1 v.2.2.2.2.2.2.2.1 v.2.2.2.2.2.2.2.2.1 v.2.2.2.2.2.2.2.2.2.1 v.2.2.2.2.2.2.2.2.2.2.1 v.2.2.2.2.2.2.2.2.2.2.2.1 v.2.2.2.2.2.2.2.2.2.2.2.2.1 v.2.2.2.2.2.2.2.2.2.2.2.2.2) (v9, v10, v11, b0_0, b0_1, b0_2, b0_3, b0_4, b1_0, b1_1, b1_2, b1_3, b1_4, l0)
def F_mempoolref10_read (a0 : List D_api_Field) : Option (D_api_Tx × Bool) :=
  F_mempoolref10_read_l1s a0 (((List.length a0) : Nat) : Int) 0 [] (0 : Int) (0 : Int) (0 : Int) [] [] (0 : Int) (0 : Int) (0 : Int) [] []
def F_mempoolref10_DecodeTx (a0 : List UInt8) : Option (D_api_Tx × Int) :=
  sel (decide (4096 < (((List.length a0) : Nat) : Int))) (
    some (([], (0 : Int), (0 : Int), (0 : Int), [], []), 3)) (
    (F_mempoolref1_Fields a0).bind fun r1 =>
    (F_mempoolref10_read r1.1).bind fun r2 =>
    sel (!decide (r1.2.2 = 0)) (
      some (([], (0 : Int), (0 : Int), (0 : Int), [], []), 4)) (
      sel (!r2.2) (
        some (([], (0 : Int), (0 : Int), (0 : Int), [], []), 4)) (
        (F_mempoolref10_Form r2.1).bind fun r3 =>
        (F_mempoolref1_SameBytes r3 a0).bind fun r4 =>
        sel (!r4) (
          some (([], (0 : Int), (0 : Int), (0 : Int), [], []), 4)) (
          (F_mempoolref10_ValidateTx r2.1).bind fun r5 =>
          sel (!decide (r5 = 0)) (
            some (([], (0 : Int), (0 : Int), (0 : Int), [], []), r5)) (
            some (r2.1, 0))))))
def F_mempoollaw10_TxDecodes_l3 (v87 : Int) (v88 : Int) (l0 : List (List UInt8)) : Option ((Int × Int × List (List UInt8)) ⊕ (Bool)) :=
  sel (decide (v88 < v87)) (
    chk (decide ((0 : Int) ≤ v88 ∧ v88 < (((List.length l0) : Nat) : Int))) <|
    chk (decide ((Int.toNat v88) < (List.length l0))) <|
    (F_tx_Decode (List.getD l0 (Int.toNat v88) [])).bind fun r7 =>
    (F_mempoolref10_DecodeTx (List.getD l0 (Int.toNat v88) [])).bind fun r8 =>
    sel (!decide (r7.2 = r8.2)) (
      some (.inr false)) (
      (F_mempoolref10_SameTx r7.1 r8.1).bind fun r9 =>
      sel (!r9) (
        some (.inr false)) (
        sel (decide (r7.2 = 0)) (
          (F_tx_Encode r7.1).bind fun r10 =>
          sel (!decide (r10.2 = 0)) (
            some (.inr false)) (
            (F_mempoolref1_SameBytes r10.1 (List.getD l0 (Int.toNat v88) [])).bind fun r11 =>
            sel (!r11) (
              some (.inr false)) (
              some (.inl (v87, (wi64 (v88 + 1)), l0))))) (
          some (.inl (v87, (wi64 (v88 + 1)), l0)))))) (
    Option.map .inr (
      (F_mempoollaw10_known).bind fun r12 =>
      some r12))
def F_mempoollaw10_TxDecodes_l3s (v87 : Int) (v88 : Int) (l0 : List (List UInt8)) : Option (Bool) :=
  iterO (fun v => F_mempoollaw10_TxDecodes_l3 v.1 v.2.1 v.2.2) (v87, v88, l0)
def F_mempoollaw10_TxDecodes_c2 (v0 : List UInt8) (l0 : List UInt8) (l1 : List UInt8) (l2 : List UInt8) : Option (Bool) :=
  chk (decide ((0 + (List.length l0)) * 1 ≤ LIM ∧ 0 + (List.length l0) ≤ LEN)) <|
  chk (decide (((List.length l0) + (List.length v0)) * 1 ≤ LIM ∧ (List.length l0) + (List.length v0) ≤ LEN)) <|
  F_mempoollaw10_TxDecodes_l3s 5 0 [v0, l0, l1, l2, (l0 ++ v0)]
def F_mempoollaw10_TxDecodes_c1 (v0 : List UInt8) (v4 : UInt8) (v15 : Int) (l0 : List UInt8) (l1 : List UInt8) (l2 : List UInt8) : Option (Bool) :=
  sel (decide ((bits .and .u8 ((UInt8.toNat v4 : Nat) : Int) 2) = 2)) (
    chk (decide ((0 : Int) ≤ (min (wi64 (v15 + (wi64 (bits .and .u8 ((UInt8.toNat v4 : Nat) : Int) 1)))) (((List.length l0) : Nat) : Int)) ∧ (min (wi64 (v15 + (wi64 (bits .and .u8 ((UInt8.toNat v4 : Nat) : Int) 1)))) (((List.length l0) : Nat) : Int)) ≤ (((List.length l0) : Nat) : Int) ∧ (((List.length l0) : Nat) : Int) ≤ (((List.length l0) : Nat) : Int))) <|
    chk (decide (((List.length l2) + (List.length (List.drop (Int.toNat (min (wi64 (v15 + (wi64 (bits .and .u8 ((UInt8.toNat v4 : Nat) : Int) 1)))) (((List.length l0) : Nat) : Int))) (List.take (Int.toNat (((List.length l0) : Nat) : Int)) l0)))) * 1 ≤ LIM ∧ (List.length l2) + (List.length (List.drop (Int.toNat (min (wi64 (v15 + (wi64 (bits .and .u8 ((UInt8.toNat v4 : Nat) : Int) 1)))) (((List.length l0) : Nat) : Int))) (List.take (Int.toNat (((List.length l0) : Nat) : Int)) l0))) ≤ LEN)) <|
    F_mempoollaw10_TxDecodes_c2 v0 l0 l1 (l2 ++ (List.drop (Int.toNat (min (wi64 (v15 + (wi64 (bits .and .u8 ((UInt8.toNat v4 : Nat) : Int) 1)))) (((List.length l0) : Nat) : Int))) (List.take (Int.toNat (((List.length l0) : Nat) : Int)) l0)))) (
    F_mempoollaw10_TxDecodes_c2 v0 l0 l1 l2)
def F_mempoollaw10_TxDecodes (a0 : List UInt8) (a1 : List Int) (a2 : Int) (a3 : UInt8) (a4 : UInt8) : Option (Bool) :=
  (F_mempoollaw10_long [a1]).bind fun r1 =>
  sel r1 (
    (F_mempoollaw10_known).bind fun r2 =>
    some r2) (
    sel (decide (300 < (((List.length a0) : Nat) : Int))) (
      (F_mempoollaw10_known).bind fun r3 =>
      some r3) (
      (F_mempoollaw10_made a1 ([], (0 : Int), (0 : Int), 7, [], [])).bind fun r4 =>
      (F_mempoolref10_Form r4.1).bind fun r5 =>
      (F_mempoolref10_Form r4.2).bind fun r6 =>
      chk (!decide ((wi64 ((((List.length r5) : Nat) : Int) + 1)) = 0)) <|
      chk (decide ((0 : Int) ≤ 0 ∧ 0 ≤ (Int.tmod (wi64 a2) (wi64 ((((List.length r5) : Nat) : Int) + 1))) ∧ (Int.tmod (wi64 a2) (wi64 ((((List.length r5) : Nat) : Int) + 1))) ≤ (((List.length r5) : Nat) : Int))) <|
      chk (decide ((0 + (List.length (List.take (Int.toNat (Int.tmod (wi64 a2) (wi64 ((((List.length r5) : Nat) : Int) + 1)))) r5))) * 1 ≤ LIM ∧ 0 + (List.length (List.take (Int.toNat (Int.tmod (wi64 a2) (wi64 ((((List.length r5) : Nat) : Int) + 1)))) r5)) ≤ LEN)) <|
      sel (decide ((bits .and .u8 ((UInt8.toNat a4 : Nat) : Int) 1) = 1)) (
        chk (decide (((List.length (List.take (Int.toNat (Int.tmod (wi64 a2) (wi64 ((((List.length r5) : Nat) : Int) + 1)))) r5)) + 1) * 1 ≤ LIM ∧ (List.length (List.take (Int.toNat (Int.tmod (wi64 a2) (wi64 ((((List.length r5) : Nat) : Int) + 1)))) r5)) + 1 ≤ LEN)) <|
        F_mempoollaw10_TxDecodes_c1 a0 a4 (Int.tmod (wi64 a2) (wi64 ((((List.length r5) : Nat) : Int) + 1))) r5 r6 ((List.take (Int.toNat (Int.tmod (wi64 a2) (wi64 ((((List.length r5) : Nat) : Int) + 1)))) r5) ++ [a3])) (
        F_mempoollaw10_TxDecodes_c1 a0 a4 (Int.tmod (wi64 a2) (wi64 ((((List.length r5) : Nat) : Int) + 1))) r5 r6 (List.take (Int.toNat (Int.tmod (wi64 a2) (wi64 ((((List.length r5) : Nat) : Int) + 1)))) r5))))
def F_mempoollaw10_TxFields_c1 (l0 : List D_api_Field) : Option (Bool) :=
  (F_mempoolref4_Message l0).bind fun r7 =>
  (F_tx_Decode r7).bind fun r8 =>
  (F_mempoolref10_DecodeTx r7).bind fun r9 =>
  sel (decide (r8.2 = r9.2)) (
    (F_mempoolref10_SameTx r8.1 r9.1).bind fun r10 =>
    sel r10 (
      sel (!decide (r8.2 = 0)) (
        (F_mempoollaw10_known).bind fun r11 =>
        some r11) (
        (F_mempoolref10_Form r8.1).bind fun r12 =>
        (F_mempoolref1_SameBytes r12 r7).bind fun r13 =>
        sel r13 (
          (F_mempoollaw10_known).bind fun r14 =>
          some r14) (
          some false))) (
      some false)) (
    some false)
def F_mempoollaw10_TxFields (a0 : List Int) (a1 : UInt8) (a2 : UInt8) (a3 : UInt8) : Option (Bool) :=
  (F_mempoollaw10_long [a0]).bind fun r1 =>
  sel r1 (
    (F_mempoollaw10_known).bind fun r2 =>
    some r2) (
    (F_mempoollaw10_made a0 ([], (0 : Int), (0 : Int), (0 : Int), [], [])).bind fun r3 =>
    (F_mempoolref10_Form r3.1).bind fun r4 =>
    (F_mempoolref1_Fields r4).bind fun r5 =>
    sel (decide ((((List.length r5.1) : Nat) : Int) < 2)) (
      (F_mempoollaw10_known).bind fun r6 =>
      some r6) (
      chk (!decide ((((List.length r5.1) : Nat) : Int) = 0)) <|
      chk (!decide ((((List.length r5.1) : Nat) : Int) = 0)) <|
      chk (decide ((0 + (List.length r5.1)) * 48 ≤ LIM ∧ 0 + (List.length r5.1) ≤ LEN)) <|
      sel (decide ((Int.tmod ((UInt8.toNat a3 : Nat) : Int) 5) = 0)) (
        chk (decide ((0 : Int) ≤ (Int.tmod (wi64 ((UInt8.toNat a2 : Nat) : Int)) (((List.length r5.1) : Nat) : Int)) ∧ (Int.tmod (wi64 ((UInt8.toNat a2 : Nat) : Int)) (((List.length r5.1) : Nat) : Int)) < (((List.length r5.1) : Nat) : Int))) <|
        chk (decide ((Int.toNat (Int.tmod (wi64 ((UInt8.toNat a2 : Nat) : Int)) (((List.length r5.1) : Nat) : Int))) < (List.length r5.1))) <|
        chk (decide ((0 : Int) ≤ (Int.tmod (wi64 ((UInt8.toNat a1 : Nat) : Int)) (((List.length r5.1) : Nat) : Int)) ∧ (Int.tmod (wi64 ((UInt8.toNat a1 : Nat) : Int)) (((List.length r5.1) : Nat) : Int)) < (((List.length r5.1) : Nat) : Int))) <|
        chk (decide ((Int.toNat (Int.tmod (wi64 ((UInt8.toNat a1 : Nat) : Int)) (((List.length r5.1) : Nat) : Int))) < (List.length r5.1))) <|
        chk (decide ((0 : Int) ≤ (Int.tmod (wi64 ((UInt8.toNat a1 : Nat) : Int)) (((List.length r5.1) : Nat) : Int)) ∧ (Int.tmod (wi64 ((UInt8.toNat a1 : Nat) : Int)) (((List.length r5.1) : Nat) : Int)) < (((List.length r5.1) : Nat) : Int))) <|
        chk (decide ((Int.toNat (Int.tmod (wi64 ((UInt8.toNat a1 : Nat) : Int)) (((List.length r5.1) : Nat) : Int))) < (List.length r5.1))) <|
        chk (decide ((0 : Int) ≤ (Int.tmod (wi64 ((UInt8.toNat a2 : Nat) : Int)) (((List.length r5.1) : Nat) : Int)) ∧ (Int.tmod (wi64 ((UInt8.toNat a2 : Nat) : Int)) (((List.length r5.1) : Nat) : Int)) < (((List.length (List.set r5.1 (Int.toNat (Int.tmod (wi64 ((UInt8.toNat a1 : Nat) : Int)) (((List.length r5.1) : Nat) : Int))) (List.getD r5.1 (Int.toNat (Int.tmod (wi64 ((UInt8.toNat a2 : Nat) : Int)) (((List.length r5.1) : Nat) : Int))) d_api_Field))) : Nat) : Int))) <|
        chk (decide ((Int.toNat (Int.tmod (wi64 ((UInt8.toNat a2 : Nat) : Int)) (((List.length r5.1) : Nat) : Int))) < (List.length (List.set r5.1 (Int.toNat (Int.tmod (wi64 ((UInt8.toNat a1 : Nat) : Int)) (((List.length r5.1) : Nat) : Int))) (List.getD r5.1 (Int.toNat (Int.tmod (wi64 ((UInt8.toNat a2 : Nat) : Int)) (((List.length r5.1) : Nat) : Int))) d_api_Field))))) <|
        F_mempoollaw10_TxFields_c1 (List.set (List.set r5.1 (Int.toNat (Int.tmod (wi64 ((UInt8.toNat a1 : Nat) : Int)) (((List.length r5.1) : Nat) : Int))) (List.getD r5.1 (Int.toNat (Int.tmod (wi64 ((UInt8.toNat a2 : Nat) : Int)) (((List.length r5.1) : Nat) : Int))) d_api_Field)) (Int.toNat (Int.tmod (wi64 ((UInt8.toNat a2 : Nat) : Int)) (((List.length r5.1) : Nat) : Int))) (List.getD r5.1 (Int.toNat (Int.tmod (wi64 ((UInt8.toNat a1 : Nat) : Int)) (((List.length r5.1) : Nat) : Int))) d_api_Field))) (
        sel (decide ((Int.tmod ((UInt8.toNat a3 : Nat) : Int) 5) = 1)) (
          chk (decide ((0 : Int) ≤ 0 ∧ 0 ≤ (Int.tmod (wi64 ((UInt8.toNat a1 : Nat) : Int)) (((List.length r5.1) : Nat) : Int)) ∧ (Int.tmod (wi64 ((UInt8.toNat a1 : Nat) : Int)) (((List.length r5.1) : Nat) : Int)) ≤ (((List.length r5.1) : Nat) : Int))) <|
          chk (decide ((0 + (List.length (List.take (Int.toNat (Int.tmod (wi64 ((UInt8.toNat a1 : Nat) : Int)) (((List.length r5.1) : Nat) : Int))) r5.1))) * 48 ≤ LIM ∧ 0 + (List.length (List.take (Int.toNat (Int.tmod (wi64 ((UInt8.toNat a1 : Nat) : Int)) (((List.length r5.1) : Nat) : Int))) r5.1)) ≤ LEN)) <|
          chk (decide ((0 : Int) ≤ (Int.tmod (wi64 ((UInt8.toNat a2 : Nat) : Int)) (((List.length r5.1) : Nat) : Int)) ∧ (Int.tmod (wi64 ((UInt8.toNat a2 : Nat) : Int)) (((List.length r5.1) : Nat) : Int)) < (((List.length r5.1) : Nat) : Int))) <|
          chk (decide ((Int.toNat (Int.tmod (wi64 ((UInt8.toNat a2 : Nat) : Int)) (((List.length r5.1) : Nat) : Int))) < (List.length r5.1))) <|
          chk (decide (((List.length (List.take (Int.toNat (Int.tmod (wi64 ((UInt8.toNat a1 : Nat) : Int)) (((List.length r5.1) : Nat) : Int))) r5.1)) + 1) * 48 ≤ LIM ∧ (List.length (List.take (Int.toNat (Int.tmod (wi64 ((UInt8.toNat a1 : Nat) : Int)) (((List.length r5.1) : Nat) : Int))) r5.1)) + 1 ≤ LEN)) <|
          chk (decide ((0 : Int) ≤ (Int.tmod (wi64 ((UInt8.toNat a1 : Nat) : Int)) (((List.length r5.1) : Nat) : Int)) ∧ (Int.tmod (wi64 ((UInt8.toNat a1 : Nat) : Int)) (((List.length r5.1) : Nat) : Int)) ≤ (((List.length r5.1) : Nat) : Int) ∧ (((List.length r5.1) : Nat) : Int) ≤ (((List.length r5.1) : Nat) : Int))) <|
          chk (decide (((List.length ((List.take (Int.toNat (Int.tmod (wi64 ((UInt8.toNat a1 : Nat) : Int)) (((List.length r5.1) : Nat) : Int))) r5.1) ++ ([(List.getD r5.1 (Int.toNat (Int.tmod (wi64 ((UInt8.toNat a2 : Nat) : Int)) (((List.length r5.1) : Nat) : Int))) d_api_Field)] : List D_api_Field))) + (List.length (List.drop (Int.toNat (Int.tmod (wi64 ((UInt8.toNat a1 : Nat) : Int)) (((List.length r5.1) : Nat) : Int))) (List.take (Int.toNat (((List.length r5.1) : Nat) : Int)) r5.1)))) * 48 ≤ LIM ∧ (List.length ((List.take (Int.toNat (Int.tmod (wi64 ((UInt8.toNat a1 : Nat) : Int)) (((List.length r5.1) : Nat) : Int))) r5.1) ++ ([(List.getD r5.1 (Int.toNat (Int.tmod (wi64 ((UInt8.toNat a2 : Nat) : Int)) (((List.length r5.1) : Nat) : Int))) d_api_Field)] : List D_api_Field))) + (List.length (List.drop (Int.toNat (Int.tmod (wi64 ((UInt8.toNat a1 : Nat) : Int)) (((List.length r5.1) : Nat) : Int))) (List.take (Int.toNat (((List.length r5.1) : Nat) : Int)) r5.1))) ≤ LEN)) <|
          F_mempoollaw10_TxFields_c1 (((List.take (Int.toNat (Int.tmod (wi64 ((UInt8.toNat a1 : Nat) : Int)) (((List.length r5.1) : Nat) : Int))) r5.1) ++ ([(List.getD r5.1 (Int.toNat (Int.tmod (wi64 ((UInt8.toNat a2 : Nat) : Int)) (((List.length r5.1) : Nat) : Int))) d_api_Field)] : List D_api_Field)) ++ (List.drop (Int.toNat (Int.tmod (wi64 ((UInt8.toNat a1 : Nat) : Int)) (((List.length r5.1) : Nat) : Int))) (List.take (Int.toNat (((List.length r5.1) : Nat) : Int)) r5.1)))) (
          sel (decide ((Int.tmod ((UInt8.toNat a3 : Nat) : Int) 5) = 2)) (
            chk (decide ((0 : Int) ≤ (Int.tmod (wi64 ((UInt8.toNat a1 : Nat) : Int)) (((List.length r5.1) : Nat) : Int)) ∧ (Int.tmod (wi64 ((UInt8.toNat a1 : Nat) : Int)) (((List.length r5.1) : Nat) : Int)) < (((List.length r5.1) : Nat) : Int))) <|
            chk (decide ((Int.toNat (Int.tmod (wi64 ((UInt8.toNat a1 : Nat) : Int)) (((List.length r5.1) : Nat) : Int))) < (List.length r5.1))) <|
            F_mempoollaw10_TxFields_c1 (List.set r5.1 (Int.toNat (Int.tmod (wi64 ((UInt8.toNat a1 : Nat) : Int)) (((List.length r5.1) : Nat) : Int))) ((wi64 (1 + (Int.tmod (wi64 (wu8 (Int.tdiv ((UInt8.toNat a3 : Nat) : Int) 5))) 8))), (List.getD r5.1 (Int.toNat (Int.tmod (wi64 ((UInt8.toNat a1 : Nat) : Int)) (((List.length r5.1) : Nat) : Int))) d_api_Field).2))) (
            sel (decide ((Int.tmod ((UInt8.toNat a3 : Nat) : Int) 5) = 3)) (
              chk (decide ((0 : Int) ≤ 0 ∧ 0 ≤ (Int.tmod (wi64 ((UInt8.toNat a1 : Nat) : Int)) (((List.length r5.1) : Nat) : Int)) ∧ (Int.tmod (wi64 ((UInt8.toNat a1 : Nat) : Int)) (((List.length r5.1) : Nat) : Int)) ≤ (((List.length r5.1) : Nat) : Int))) <|
              chk (decide ((0 + (List.length (List.take (Int.toNat (Int.tmod (wi64 ((UInt8.toNat a1 : Nat) : Int)) (((List.length r5.1) : Nat) : Int))) r5.1))) * 48 ≤ LIM ∧ 0 + (List.length (List.take (Int.toNat (Int.tmod (wi64 ((UInt8.toNat a1 : Nat) : Int)) (((List.length r5.1) : Nat) : Int))) r5.1)) ≤ LEN)) <|
              chk (decide (((List.length (List.take (Int.toNat (Int.tmod (wi64 ((UInt8.toNat a1 : Nat) : Int)) (((List.length r5.1) : Nat) : Int))) r5.1)) + 1) * 48 ≤ LIM ∧ (List.length (List.take (Int.toNat (Int.tmod (wi64 ((UInt8.toNat a1 : Nat) : Int)) (((List.length r5.1) : Nat) : Int))) r5.1)) + 1 ≤ LEN)) <|
              chk (decide ((0 : Int) ≤ (Int.tmod (wi64 ((UInt8.toNat a1 : Nat) : Int)) (((List.length r5.1) : Nat) : Int)) ∧ (Int.tmod (wi64 ((UInt8.toNat a1 : Nat) : Int)) (((List.length r5.1) : Nat) : Int)) ≤ (((List.length r5.1) : Nat) : Int) ∧ (((List.length r5.1) : Nat) : Int) ≤ (((List.length r5.1) : Nat) : Int))) <|
              chk (decide (((List.length ((List.take (Int.toNat (Int.tmod (wi64 ((UInt8.toNat a1 : Nat) : Int)) (((List.length r5.1) : Nat) : Int))) r5.1) ++ ([((wi64 (2 + (Int.tmod (wi64 (wu8 (Int.tdiv ((UInt8.toNat a3 : Nat) : Int) 5))) 3))), (0 : Int), (0 : Int), [])] : List D_api_Field))) + (List.length (List.drop (Int.toNat (Int.tmod (wi64 ((UInt8.toNat a1 : Nat) : Int)) (((List.length r5.1) : Nat) : Int))) (List.take (Int.toNat (((List.length r5.1) : Nat) : Int)) r5.1)))) * 48 ≤ LIM ∧ (List.length ((List.take (Int.toNat (Int.tmod (wi64 ((UInt8.toNat a1 : Nat) : Int)) (((List.length r5.1) : Nat) : Int))) r5.1) ++ ([((wi64 (2 + (Int.tmod (wi64 (wu8 (Int.tdiv ((UInt8.toNat a3 : Nat) : Int) 5))) 3))), (0 : Int), (0 : Int), [])] : List D_api_Field))) + (List.length (List.drop (Int.toNat (Int.tmod (wi64 ((UInt8.toNat a1 : Nat) : Int)) (((List.length r5.1) : Nat) : Int))) (List.take (Int.toNat (((List.length r5.1) : Nat) : Int)) r5.1))) ≤ LEN)) <|
              F_mempoollaw10_TxFields_c1 (((List.take (Int.toNat (Int.tmod (wi64 ((UInt8.toNat a1 : Nat) : Int)) (((List.length r5.1) : Nat) : Int))) r5.1) ++ ([((wi64 (2 + (Int.tmod (wi64 (wu8 (Int.tdiv ((UInt8.toNat a3 : Nat) : Int) 5))) 3))), (0 : Int), (0 : Int), [])] : List D_api_Field)) ++ (List.drop (Int.toNat (Int.tmod (wi64 ((UInt8.toNat a1 : Nat) : Int)) (((List.length r5.1) : Nat) : Int))) (List.take (Int.toNat (((List.length r5.1) : Nat) : Int)) r5.1)))) (
              chk (decide ((0 : Int) ≤ 0 ∧ 0 ≤ (Int.tmod (wi64 ((UInt8.toNat a1 : Nat) : Int)) (((List.length r5.1) : Nat) : Int)) ∧ (Int.tmod (wi64 ((UInt8.toNat a1 : Nat) : Int)) (((List.length r5.1) : Nat) : Int)) ≤ (((List.length r5.1) : Nat) : Int))) <|
              chk (decide ((0 + (List.length (List.take (Int.toNat (Int.tmod (wi64 ((UInt8.toNat a1 : Nat) : Int)) (((List.length r5.1) : Nat) : Int))) r5.1))) * 48 ≤ LIM ∧ 0 + (List.length (List.take (Int.toNat (Int.tmod (wi64 ((UInt8.toNat a1 : Nat) : Int)) (((List.length r5.1) : Nat) : Int))) r5.1)) ≤ LEN)) <|
              chk (decide (((List.length (List.take (Int.toNat (Int.tmod (wi64 ((UInt8.toNat a1 : Nat) : Int)) (((List.length r5.1) : Nat) : Int))) r5.1)) + 1) * 48 ≤ LIM ∧ (List.length (List.take (Int.toNat (Int.tmod (wi64 ((UInt8.toNat a1 : Nat) : Int)) (((List.length r5.1) : Nat) : Int))) r5.1)) + 1 ≤ LEN)) <|
              chk (decide ((0 : Int) ≤ (Int.tmod (wi64 ((UInt8.toNat a1 : Nat) : Int)) (((List.length r5.1) : Nat) : Int)) ∧ (Int.tmod (wi64 ((UInt8.toNat a1 : Nat) : Int)) (((List.length r5.1) : Nat) : Int)) ≤ (((List.length r5.1) : Nat) : Int) ∧ (((List.length r5.1) : Nat) : Int) ≤ (((List.length r5.1) : Nat) : Int))) <|
              chk (decide (((List.length ((List.take (Int.toNat (Int.tmod (wi64 ((UInt8.toNat a1 : Nat) : Int)) (((List.length r5.1) : Nat) : Int))) r5.1) ++ ([((wi64 (1 + (Int.tmod (wi64 (wu8 (Int.tdiv ((UInt8.toNat a3 : Nat) : Int) 5))) 6))), 2, (0 : Int), [])] : List D_api_Field))) + (List.length (List.drop (Int.toNat (Int.tmod (wi64 ((UInt8.toNat a1 : Nat) : Int)) (((List.length r5.1) : Nat) : Int))) (List.take (Int.toNat (((List.length r5.1) : Nat) : Int)) r5.1)))) * 48 ≤ LIM ∧ (List.length ((List.take (Int.toNat (Int.tmod (wi64 ((UInt8.toNat a1 : Nat) : Int)) (((List.length r5.1) : Nat) : Int))) r5.1) ++ ([((wi64 (1 + (Int.tmod (wi64 (wu8 (Int.tdiv ((UInt8.toNat a3 : Nat) : Int) 5))) 6))), 2, (0 : Int), [])] : List D_api_Field))) + (List.length (List.drop (Int.toNat (Int.tmod (wi64 ((UInt8.toNat a1 : Nat) : Int)) (((List.length r5.1) : Nat) : Int))) (List.take (Int.toNat (((List.length r5.1) : Nat) : Int)) r5.1))) ≤ LEN)) <|
              F_mempoollaw10_TxFields_c1 (((List.take (Int.toNat (Int.tmod (wi64 ((UInt8.toNat a1 : Nat) : Int)) (((List.length r5.1) : Nat) : Int))) r5.1) ++ ([((wi64 (1 + (Int.tmod (wi64 (wu8 (Int.tdiv ((UInt8.toNat a3 : Nat) : Int) 5))) 6))), 2, (0 : Int), [])] : List D_api_Field)) ++ (List.drop (Int.toNat (Int.tmod (wi64 ((UInt8.toNat a1 : Nat) : Int)) (((List.length r5.1) : Nat) : Int))) (List.take (Int.toNat (((List.length r5.1) : Nat) : Int)) r5.1)))))))))
def F_mempoollaw10_TxLimits_c2 (v0 : UInt8) (v1 : UInt8) (v2 : UInt8) (b0_0 : List UInt8) (b0_1 : Int) (b0_2 : Int) (b0_3 : Int) (b0_4 : List UInt8) (l0 : List D_api_Transfer) : Option (Bool) :=
  (F_tx_Encode (b0_0, b0_1, b0_2, b0_3, b0_4, l0)).bind fun r1 =>
  (F_mempoolref10_EncodeTx (b0_0, b0_1, b0_2, b0_3, b0_4, l0)).bind fun r2 =>
  chk (decide ((0 : Int) ≤ (wi64 (4095 + (wi64 (Int.tmod ((UInt8.toNat v1 : Nat) : Int) 3)))) ∧ (wi64 (4095 + (wi64 (Int.tmod ((UInt8.toNat v1 : Nat) : Int) 3)))) ≤ (wi64 (4095 + (wi64 (Int.tmod ((UInt8.toNat v1 : Nat) : Int) 3)))) ∧ (1 : Int) * (wi64 (4095 + (wi64 (Int.tmod ((UInt8.toNat v1 : Nat) : Int) 3)))) ≤ 281474976710656 ∧ (wi64 (4095 + (wi64 (Int.tmod ((UInt8.toNat v1 : Nat) : Int) 3)))) ≤ 4611686018427387904)) <|
  (F_tx_Decode (List.replicate (Int.toNat (wi64 (4095 + (wi64 (Int.tmod ((UInt8.toNat v1 : Nat) : Int) 3))))) (0 : UInt8))).bind fun r3 =>
  (F_mempoolref10_DecodeTx (List.replicate (Int.toNat (wi64 (4095 + (wi64 (Int.tmod ((UInt8.toNat v1 : Nat) : Int) 3))))) (0 : UInt8))).bind fun r4 =>
  sel (decide (r1.2 = r2.2)) (
    (F_mempoolref1_SameBytes r1.1 r2.1).bind fun r5 =>
    sel r5 (
      sel (decide (r3.2 = r4.2)) (
        sel (decide ((Int.tmod ((UInt8.toNat v0 : Nat) : Int) 3) < 2)) (
          sel (beqB (decide (r1.2 = 0)) (decide ((Int.tmod ((UInt8.toNat v2 : Nat) : Int) 3) < 2))) (
            (F_mempoollaw10_known).bind fun r6 =>
            some r6) (
            some false)) (
          sel (beqB (decide (r1.2 = 0)) false) (
            (F_mempoollaw10_known).bind fun r7 =>
            some r7) (
            some false))) (
        some false)) (
      some false)) (
    some false)
def F_mempoollaw10_TxLimits_l3 (v0 : UInt8) (v1 : UInt8) (v2 : UInt8) (v9 : Int) (b0_0 : List UInt8) (b0_1 : Int) (b0_2 : Int) (b0_3 : Int) (b0_4 : List UInt8) (l0 : List D_api_Transfer) : Option ((UInt8 × UInt8 × UInt8 × Int × List UInt8 × Int × Int × Int × List UInt8 × List D_api_Transfer) ⊕ (Bool)) :=
  sel (decide (v9 < (wi64 (63 + (wi64 (Int.tmod ((UInt8.toNat v2 : Nat) : Int) 3)))))) (
    chk (decide ((List.length b0_4) + 4 ≤ 4611686018427387904)) <|
    some (.inl (v0, v1, v2, (wi64 (v9 + 1)), b0_0, b0_1, b0_2, b0_3, (b0_4 ++ [(240 : UInt8), (159 : UInt8), (152 : UInt8), (128 : UInt8)]), l0))) (
    Option.map .inr (
      F_mempoollaw10_TxLimits_c2 v0 v1 v2 b0_0 b0_1 b0_2 b0_3 b0_4 l0))
def F_mempoollaw10_TxLimits_l3s (v0 : UInt8) (v1 : UInt8) (v2 : UInt8) (v9 : Int) (b0_0 : List UInt8) (b0_1 : Int) (b0_2 : Int) (b0_3 : Int) (b0_4 : List UInt8) (l0 : List D_api_Transfer) : Option (Bool) :=
  iterO (fun v => F_mempoollaw10_TxLimits_l3 v.1 v.2.1 v.2.2.1 v.2.2.2.1 v.2.2.2.2.1 v.2.2.2.2.2.1 v.2.2.2.2.2.2.1 v.2.2.2.2.2.2.2.1 v.2.2.2.2.2.2.2.2.1 v.2.2.2.2.2.2.2.2.2) (v0, v1, v2, v9, b0_0, b0_1, b0_2, b0_3, b0_4, l0)
def F_mempoollaw10_TxLimits_c1 (v0 : UInt8) (v1 : UInt8) (v2 : UInt8) (b0_0 : List UInt8) (b0_1 : Int) (b0_2 : Int) (b0_3 : Int) (b0_4 : List UInt8) (l0 : List D_api_Transfer) : Option (Bool) :=
  F_mempoollaw10_TxLimits_l3s v0 v1 v2 0 b0_0 b0_1 b0_2 b0_3 b0_4 l0
def F_mempoollaw10_TxLimits_l4 (v0 : UInt8) (v1 : UInt8) (v2 : UInt8) (v8 : Int) (b0_0 : List UInt8) (b0_1 : Int) (b0_2 : Int) (b0_3 : Int) (b0_4 : List UInt8) (l0 : List D_api_Transfer) : Option ((UInt8 × UInt8 × UInt8 × Int × List UInt8 × Int × Int × Int × List UInt8 × List D_api_Transfer) ⊕ (Bool)) :=
  sel (decide (v8 < (wi64 (15 + (wi64 (Int.tmod ((UInt8.toNat v0 : Nat) : Int) 3)))))) (
    chk (decide (((List.length l0) + 1) * 24 ≤ LIM ∧ (List.length l0) + 1 ≤ LEN)) <|
    some (.inl (v0, v1, v2, (wi64 (v8 + 1)), b0_0, b0_1, b0_2, b0_3, b0_4, (l0 ++ ([([(98 : UInt8), (111 : UInt8), (98 : UInt8)], 9223372036854775808)] : List D_api_Transfer))))) (
    Option.map .inr (
      F_mempoollaw10_TxLimits_c1 v0 v1 v2 b0_0 b0_1 b0_2 b0_3 b0_4 l0))
def F_mempoollaw10_TxLimits_l4s (v0 : UInt8) (v1 : UInt8) (v2 : UInt8) (v8 : Int) (b0_0 : List UInt8) (b0_1 : Int) (b0_2 : Int) (b0_3 : Int) (b0_4 : List UInt8) (l0 : List D_api_Transfer) : Option (Bool) :=
  iterO (fun v => F_mempoollaw10_TxLimits_l4 v.1 v.2.1 v.2.2.1 v.2.2.2.1 v.2.2.2.2.1 v.2.2.2.2.2.1 v.2.2.2.2.2.2.1 v.2.2.2.2.2.2.2.1 v.2.2.2.2.2.2.2.2.1 v.2.2.2.2.2.2.2.2.2) (v0, v1, v2, v8, b0_0, b0_1, b0_2, b0_3, b0_4, l0)
def F_mempoollaw10_TxLimits (a0 : UInt8) (a1 : UInt8) (a2 : UInt8) : Option (Bool) :=
  F_mempoollaw10_TxLimits_l4s a0 a1 a2 0 [(97 : UInt8), (110 : UInt8), (110 : UInt8)] (0 : Int) 1 (0 : Int) [] []
end Go.Proofs.YtgfmnpbcbpobbaaDoor.Am
