/- A fixed example holds: by reckoning. No conditions. -/
import Derived.Test.YtgfmnpbcbpobbaaDoorFAll
import Derived.KernelRfl
namespace Go.Proofs.YtgfmnpbcbpobbaaDoor.Am
open Go
set_option maxRecDepth 100000
namespace Kmempoollaw10
def K_tx_IsName_c1 (_m : Nat) (v0 : List UInt8) : Option (Bool) :=
  sel (decide (1 ≤ (((List.length v0) : Nat) : Int))) (
    some (decide ((((List.length v0) : Nat) : Int) ≤ 20))) (
    some false)
def K_tx_IsName_l2 (m : Nat) (v0 : List UInt8) (v6 : Int) (v7 : Int) : Option ((List UInt8 × Int × Int) ⊕ (Bool)) :=
  sel (decide (v7 < v6)) (
    chk (decide ((0 : Int) ≤ v7 ∧ v7 < (((List.length v0) : Nat) : Int))) <|
    sel (decide (((UInt8.toNat (List.getD v0 (Int.toNat v7) (0 : UInt8)) : Nat) : Int) < 97)) (
      sel (decide (((UInt8.toNat (List.getD v0 (Int.toNat v7) (0 : UInt8)) : Nat) : Int) < 48)) (
        sel (!decide (((UInt8.toNat (List.getD v0 (Int.toNat v7) (0 : UInt8)) : Nat) : Int) = 45)) (
          some (.inr false)) (
          some (.inl (v0, v6, (wi64 (v7 + 1)))))) (
        sel (decide (57 < ((UInt8.toNat (List.getD v0 (Int.toNat v7) (0 : UInt8)) : Nat) : Int))) (
          sel (!decide (((UInt8.toNat (List.getD v0 (Int.toNat v7) (0 : UInt8)) : Nat) : Int) = 45)) (
            some (.inr false)) (
            some (.inl (v0, v6, (wi64 (v7 + 1)))))) (
          some (.inl (v0, v6, (wi64 (v7 + 1))))))) (
      sel (decide (122 < ((UInt8.toNat (List.getD v0 (Int.toNat v7) (0 : UInt8)) : Nat) : Int))) (
        sel (decide (((UInt8.toNat (List.getD v0 (Int.toNat v7) (0 : UInt8)) : Nat) : Int) < 48)) (
          sel (!decide (((UInt8.toNat (List.getD v0 (Int.toNat v7) (0 : UInt8)) : Nat) : Int) = 45)) (
            some (.inr false)) (
            some (.inl (v0, v6, (wi64 (v7 + 1)))))) (
          sel (decide (57 < ((UInt8.toNat (List.getD v0 (Int.toNat v7) (0 : UInt8)) : Nat) : Int))) (
            sel (!decide (((UInt8.toNat (List.getD v0 (Int.toNat v7) (0 : UInt8)) : Nat) : Int) = 45)) (
              some (.inr false)) (
              some (.inl (v0, v6, (wi64 (v7 + 1)))))) (
            some (.inl (v0, v6, (wi64 (v7 + 1))))))) (
        some (.inl (v0, v6, (wi64 (v7 + 1))))))) (
    Option.map .inr (
      (K_tx_IsName_c1 m) v0))
def K_tx_IsName_l2s (m : Nat) (v0 : List UInt8) (v6 : Int) (v7 : Int) : Option (Bool) :=
  iter m (fun v => (K_tx_IsName_l2 m) v.1 v.2.1 v.2.2) (v0, v6, v7)
def K_tx_IsName (m : Nat) (a0 : List UInt8) : Option (Bool) :=
  (K_tx_IsName_l2s m) a0 (((List.length a0) : Nat) : Int) 0
def K_tx_IsMemo_l1 (_m : Nat) (v0 : List UInt8) (v3 : Int) (l0 : List (List UInt8 × Int)) : Option ((List UInt8 × Int × List (List UInt8 × Int)) ⊕ (Bool)) :=
  chk (Nat.beq (List.length l0) 1) <|
  sel (decide (Int.toNat (firstW l0).2 < List.length (firstW l0).1)) (
    chk ((decide (Int.toNat (firstW l0).2 < List.length (firstW l0).1))) <|
    chk ((decide (Int.toNat (firstW l0).2 < List.length (firstW l0).1))) <|
    chk (decide ((0 : Int) ≤ (firstW l0).2 ∧ (firstW l0).2 ≤ (((List.length v0) : Nat) : Int) ∧ (((List.length v0) : Nat) : Int) ≤ (((List.length v0) : Nat) : Int))) <|
    (F_unicode_utf8_DecodeRuneInString (List.drop (Int.toNat (firstW l0).2) (List.take (Int.toNat (((List.length v0) : Nat) : Int)) v0))).bind fun r1 =>
    sel (decide ((runeT (firstW l0).1 (firstW l0).2) = 65533)) (
      sel (decide (r1.2 = 1)) (
        some (.inr false)) (
        some (.inl (v0, (wi64 (v3 + 1)), [((firstW l0).1, (nextT (firstW l0).1 (firstW l0).2))])))) (
      some (.inl (v0, (wi64 (v3 + 1)), [((firstW l0).1, (nextT (firstW l0).1 (firstW l0).2))])))) (
    some (.inr (decide (v3 ≤ 64))))
def K_tx_IsMemo_l1s (m : Nat) (v0 : List UInt8) (v3 : Int) (l0 : List (List UInt8 × Int)) : Option (Bool) :=
  iter m (fun v => (K_tx_IsMemo_l1 m) v.1 v.2.1 v.2.2) (v0, v3, l0)
def K_tx_IsMemo (m : Nat) (a0 : List UInt8) : Option (Bool) :=
  (K_tx_IsMemo_l1s m) a0 0 [(a0, (0 : Int))]
def K_tx_Validate_l1 (m : Nat) (v31 : List D_api_Transfer) (v32 : Int) (v33 : Int) : Option ((List D_api_Transfer × Int × Int) ⊕ (Int)) :=
  sel (decide (v33 < v32)) (
    chk (decide ((0 : Int) ≤ v33 ∧ v33 < (((List.length v31) : Nat) : Int))) <|
    ((K_tx_IsName m) (List.getD v31 (Int.toNat v33) d_api_Transfer).1).bind fun r3 =>
    sel (!r3) (
      some (.inr 10)) (
      sel (decide ((List.getD v31 (Int.toNat v33) d_api_Transfer).2 = 0)) (
        some (.inr 12)) (
        some (.inl (v31, v32, (wi64 (v33 + 1))))))) (
    some (.inr 0))
def K_tx_Validate_l1s (m : Nat) (v31 : List D_api_Transfer) (v32 : Int) (v33 : Int) : Option (Int) :=
  iter m (fun v => (K_tx_Validate_l1 m) v.1 v.2.1 v.2.2) (v31, v32, v33)
def K_tx_Validate (m : Nat) (a0 : D_api_Tx) : Option (Int) :=
  ((K_tx_IsName m) a0.1).bind fun r1 =>
  sel (!r1) (
    some 10) (
    sel (decide (a0.2.2.1 = 0)) (
      some 15) (
      ((K_tx_IsMemo m) a0.2.2.2.2.1).bind fun r2 =>
      sel (!r2) (
        some 11) (
        sel (decide ((((List.length a0.2.2.2.2.2) : Nat) : Int) = 0)) (
          some 3) (
          sel (decide (16 < (((List.length a0.2.2.2.2.2) : Nat) : Int))) (
            some 3) (
            (K_tx_Validate_l1s m) a0.2.2.2.2.2 (((List.length a0.2.2.2.2.2) : Nat) : Int) 0)))))
def K_wire_valid (_m : Nat) (a0 : D_api_Field) : Option (Bool) :=
  sel (decide (a0.1 < 1)) (
    some false) (
    sel (decide (536870911 < a0.1)) (
      some false) (
      sel (decide (a0.2.1 = 0)) (
        sel (decide ((((List.length a0.2.2.2) : Nat) : Int) = 0)) (
          some true) (
          sel (decide (a0.2.1 = 2)) (
            some (decide (a0.2.2.1 = 0))) (
            some false))) (
        sel (decide (a0.2.1 = 2)) (
          some (decide (a0.2.2.1 = 0))) (
          some false))))
def K_wire_tag (_m : Nat) (a0 : D_api_Field) : Option (Int) :=
  some (wu64 (wi64 ((wi64 (8 * a0.1)) + a0.2.1)))
def K_varint_Append_c1 (_m : Nat) (v1 : Int) (l0 : List UInt8) : Option (List UInt8) :=
  chk (decide ((0 : Int) ≤ (wu8 v1) ∧ (wu8 v1) < 256)) <|
  chk (decide (((List.length l0) + 1) * 1 ≤ LIM ∧ (List.length l0) + 1 ≤ LEN)) <|
  some (l0 ++ [(UInt8.ofNat (Int.toNat (wu8 v1)))])
def K_varint_Append_l2 (m : Nat) (v1 : Int) (l0 : List UInt8) : Option ((Int × List UInt8) ⊕ (List UInt8)) :=
  sel (decide (128 ≤ v1)) (
    chk (decide ((0 : Int) ≤ (bits .or .u8 (wu8 v1) 128) ∧ (bits .or .u8 (wu8 v1) 128) < 256)) <|
    chk (decide (((List.length l0) + 1) * 1 ≤ LIM ∧ (List.length l0) + 1 ≤ LEN)) <|
    some (.inl ((v1 / 2 ^ 7), (l0 ++ [(UInt8.ofNat (Int.toNat (bits .or .u8 (wu8 v1) 128)))])))) (
    Option.map .inr (
      (K_varint_Append_c1 m) v1 l0))
def K_varint_Append_l2s (m : Nat) (v1 : Int) (l0 : List UInt8) : Option (List UInt8) :=
  iter m (fun v => (K_varint_Append_l2 m) v.1 v.2) (v1, l0)
def K_varint_Append (m : Nat) (a0 : List UInt8) (a1 : Int) : Option (List UInt8) :=
  chk (decide ((List.length a0) * 1 ≤ LIM ∧ (List.length a0) ≤ LEN)) <|
  (K_varint_Append_l2s m) a1 a0
def K_wire_Append (m : Nat) (a0 : List UInt8) (a1 : D_api_Field) : Option (List UInt8 × Int) :=
  ((K_wire_valid m) a1).bind fun r1 =>
  sel (!r1) (
    some ([], 1)) (
    ((K_wire_tag m) a1).bind fun r2 =>
    ((K_varint_Append m) a0 r2).bind fun r3 =>
    sel (decide (a1.2.1 = 0)) (
      ((K_varint_Append m) r3 a1.2.2.1).bind fun r4 =>
      some (r4, 0)) (
      ((K_varint_Append m) r3 (wu64 (((List.length a1.2.2.2) : Nat) : Int))).bind fun r5 =>
      chk (decide (((List.length r5) + (List.length a1.2.2.2)) * 1 ≤ LIM ∧ (List.length r5) + (List.length a1.2.2.2) ≤ LEN)) <|
      some ((r5 ++ a1.2.2.2), 0)))
def K_tx_message_add_string (m : Nat) (a0 : List UInt8) (a1 : Int) (a2 : List UInt8) : Option (List UInt8) :=
  sel (decide (a2 = [])) (
    some a0) (
    chk (decide ((List.length a2) ≤ maxLen)) <|
    ((K_wire_Append m) [] (a1, 2, (0 : Int), a2)).bind fun r1 =>
    chk (decide (((List.length a0) + (List.length r1.1)) * 1 ≤ LIM ∧ (List.length a0) + (List.length r1.1) ≤ LEN)) <|
    some (a0 ++ r1.1))
def K_tx_message_add_uint64 (m : Nat) (a0 : List UInt8) (a1 : Int) (a2 : Int) : Option (List UInt8) :=
  sel (decide (a2 = 0)) (
    some a0) (
    ((K_wire_Append m) [] (a1, 0, a2, [])).bind fun r1 =>
    chk (decide (((List.length a0) + (List.length r1.1)) * 1 ≤ LIM ∧ (List.length a0) + (List.length r1.1) ≤ LEN)) <|
    some (a0 ++ r1.1))
def K_tx_message_add_s_uint8 (m : Nat) (a0 : List UInt8) (a1 : Int) (a2 : List UInt8) : Option (List UInt8) :=
  ((K_wire_Append m) [] (a1, 2, (0 : Int), a2)).bind fun r1 =>
  chk (decide (((List.length a0) + (List.length r1.1)) * 1 ≤ LIM ∧ (List.length a0) + (List.length r1.1) ≤ LEN)) <|
  some (a0 ++ r1.1)
def K_tx_written_l1 (m : Nat) (v28 : List D_api_Transfer) (v29 : Int) (v30 : Int) (l0 : List UInt8) : Option ((List D_api_Transfer × Int × Int × List UInt8) ⊕ (List UInt8)) :=
  sel (decide (v30 < v29)) (
    chk (decide ((0 : Int) ≤ v30 ∧ v30 < (((List.length v28) : Nat) : Int))) <|
    ((K_tx_message_add_string m) [] 1 (List.getD v28 (Int.toNat v30) d_api_Transfer).1).bind fun r6 =>
    ((K_tx_message_add_uint64 m) r6 2 (List.getD v28 (Int.toNat v30) d_api_Transfer).2).bind fun r7 =>
    ((K_tx_message_add_s_uint8 m) l0 6 r7).bind fun r8 =>
    some (.inl (v28, v29, (wi64 (v30 + 1)), r8))) (
    some (.inr l0))
def K_tx_written_l1s (m : Nat) (v28 : List D_api_Transfer) (v29 : Int) (v30 : Int) (l0 : List UInt8) : Option (List UInt8) :=
  iter m (fun v => (K_tx_written_l1 m) v.1 v.2.1 v.2.2.1 v.2.2.2) (v28, v29, v30, l0)
def K_tx_written (m : Nat) (a0 : D_api_Tx) : Option (List UInt8) :=
  ((K_tx_message_add_string m) [] 1 a0.1).bind fun r1 =>
  ((K_tx_message_add_uint64 m) r1 2 a0.2.1).bind fun r2 =>
  ((K_tx_message_add_uint64 m) r2 3 a0.2.2.1).bind fun r3 =>
  ((K_tx_message_add_uint64 m) r3 4 a0.2.2.2.1).bind fun r4 =>
  ((K_tx_message_add_string m) r4 5 a0.2.2.2.2.1).bind fun r5 =>
  (K_tx_written_l1s m) a0.2.2.2.2.2 (((List.length a0.2.2.2.2.2) : Nat) : Int) 0 r5
def K_tx_Encode (m : Nat) (a0 : D_api_Tx) : Option (List UInt8 × Int) :=
  ((K_tx_Validate m) a0).bind fun r1 =>
  sel (!decide (r1 = 0)) (
    some ([], r1)) (
    ((K_tx_written m) a0).bind fun r2 =>
    sel (decide (4096 < (((List.length r2) : Nat) : Int))) (
      some ([], 3)) (
      some (r2, 0)))
def K_varint_Read_c2 (_m : Nat) (v0 : List UInt8) (v2 : Int) (v5 : Int) : Option ((List UInt8 × Int × Int) ⊕ (Int × Int × Int)) :=
  chk (decide ((0 : Int) ≤ v5 ∧ v5 < (((List.length v0) : Nat) : Int))) <|
  chk (decide ((0 : Int) ≤ (wi64 (7 * v5)))) <|
  chk (decide ((0 : Int) ≤ v5 ∧ v5 < (((List.length v0) : Nat) : Int))) <|
  sel (decide (((UInt8.toNat (List.getD v0 (Int.toNat v5) (0 : UInt8)) : Nat) : Int) < 128)) (
    some (.inr ((bits .or .u64 v2 (wu64 ((wu64 (bits .and .u8 ((UInt8.toNat (List.getD v0 (Int.toNat v5) (0 : UInt8)) : Nat) : Int) 127)) * 2 ^ (min (Int.toNat (wi64 (7 * v5))) 64)))), (wi64 (v5 + 1)), 0))) (
    some (.inl (v0, (bits .or .u64 v2 (wu64 ((wu64 (bits .and .u8 ((UInt8.toNat (List.getD v0 (Int.toNat v5) (0 : UInt8)) : Nat) : Int) 127)) * 2 ^ (min (Int.toNat (wi64 (7 * v5))) 64)))), (wi64 (v5 + 1)))))
def K_varint_Read_c3 (m : Nat) (v0 : List UInt8) (v2 : Int) (v5 : Int) (v13 : Bool) : Option ((List UInt8 × Int × Int) ⊕ (Int × Int × Int)) :=
  sel v13 (
    some (.inr (0, 0, 6))) (
    sel (decide (0 < v5)) (
      chk (decide ((0 : Int) ≤ v5 ∧ v5 < (((List.length v0) : Nat) : Int))) <|
      sel (decide (((UInt8.toNat (List.getD v0 (Int.toNat v5) (0 : UInt8)) : Nat) : Int) = 0)) (
        some (.inr (0, 0, 4))) (
        (K_varint_Read_c2 m) v0 v2 v5)) (
      (K_varint_Read_c2 m) v0 v2 v5))
def K_varint_Read_l1 (m : Nat) (v0 : List UInt8) (v2 : Int) (v5 : Int) : Option ((List UInt8 × Int × Int) ⊕ (Int × Int × Int)) :=
  sel (decide ((((List.length v0) : Nat) : Int) ≤ v5)) (
    some (.inr (0, 0, 5))) (
    sel (decide (v5 = 9)) (
      chk (decide ((0 : Int) ≤ v5 ∧ v5 < (((List.length v0) : Nat) : Int))) <|
      (K_varint_Read_c3 m) v0 v2 v5 (decide (1 < ((UInt8.toNat (List.getD v0 (Int.toNat v5) (0 : UInt8)) : Nat) : Int)))) (
      (K_varint_Read_c3 m) v0 v2 v5 false))
def K_varint_Read_l1s (m : Nat) (v0 : List UInt8) (v2 : Int) (v5 : Int) : Option (Int × Int × Int) :=
  iter m (fun v => (K_varint_Read_l1 m) v.1 v.2.1 v.2.2) (v0, v2, v5)
def K_varint_Read (m : Nat) (a0 : List UInt8) : Option (Int × Int × Int) :=
  (K_varint_Read_l1s m) a0 0 0
def K_wire_read_c1 (m : Nat) (v0 : List UInt8) (v3 : Int) (v6 : Int) (v7 : Int) (_b0 : D_api_Field) : Option (D_api_Field × Int × Int) :=
  chk (decide ((0 : Int) ≤ v3 ∧ v3 ≤ (((List.length v0) : Nat) : Int) ∧ (((List.length v0) : Nat) : Int) ≤ (((List.length v0) : Nat) : Int))) <|
  ((K_varint_Read m) (List.drop (Int.toNat v3) (List.take (Int.toNat (((List.length v0) : Nat) : Int)) v0))).bind fun r2 =>
  sel (!decide (r2.2.2 = 0)) (
    some (((0 : Int), (0 : Int), (0 : Int), []), 0, r2.2.2)) (
    sel (decide (v6 = 0)) (
      some (((wi64 v7), v6, r2.1, []), (wi64 (v3 + r2.2.1)), 0)) (
      chk (decide ((0 : Int) ≤ (wi64 (v3 + r2.2.1)) ∧ (wi64 (v3 + r2.2.1)) ≤ (((List.length v0) : Nat) : Int) ∧ (((List.length v0) : Nat) : Int) ≤ (((List.length v0) : Nat) : Int))) <|
      sel (decide ((wu64 (((List.length (List.drop (Int.toNat (wi64 (v3 + r2.2.1))) (List.take (Int.toNat (((List.length v0) : Nat) : Int)) v0))) : Nat) : Int)) < r2.1)) (
        some (((0 : Int), (0 : Int), (0 : Int), []), 0, 5)) (
        chk (decide ((0 : Int) ≤ 0 ∧ 0 ≤ r2.1 ∧ r2.1 ≤ (((List.length (List.drop (Int.toNat (wi64 (v3 + r2.2.1))) (List.take (Int.toNat (((List.length v0) : Nat) : Int)) v0))) : Nat) : Int))) <|
        chk (decide ((List.length (List.take (Int.toNat r2.1) (List.drop (Int.toNat (wi64 (v3 + r2.2.1))) (List.take (Int.toNat (((List.length v0) : Nat) : Int)) v0)))) * 1 ≤ LIM ∧ (List.length (List.take (Int.toNat r2.1) (List.drop (Int.toNat (wi64 (v3 + r2.2.1))) (List.take (Int.toNat (((List.length v0) : Nat) : Int)) v0)))) ≤ LEN)) <|
        some (((wi64 v7), v6, (0 : Int), (List.take (Int.toNat r2.1) (List.drop (Int.toNat (wi64 (v3 + r2.2.1))) (List.take (Int.toNat (((List.length v0) : Nat) : Int)) v0)))), (wi64 ((wi64 (v3 + r2.2.1)) + (wi64 r2.1))), 0))))
def K_wire_read (m : Nat) (a0 : List UInt8) : Option (D_api_Field × Int × Int) :=
  ((K_varint_Read m) a0).bind fun r1 =>
  sel (!decide (r1.2.2 = 0)) (
    some (((0 : Int), (0 : Int), (0 : Int), []), 0, r1.2.2)) (
    sel (decide ((r1.1 / 2 ^ 3) < 1)) (
      some (((0 : Int), (0 : Int), (0 : Int), []), 0, 4)) (
      sel (decide (536870911 < (r1.1 / 2 ^ 3))) (
        some (((0 : Int), (0 : Int), (0 : Int), []), 0, 4)) (
        sel (!decide ((wi64 (bits .and .u64 r1.1 7)) = 0)) (
          sel (!decide ((wi64 (bits .and .u64 r1.1 7)) = 2)) (
            some (((0 : Int), (0 : Int), (0 : Int), []), 0, 4)) (
            (K_wire_read_c1 m) a0 r1.2.1 (wi64 (bits .and .u64 r1.1 7)) (r1.1 / 2 ^ 3) ((0 : Int), (0 : Int), (0 : Int), []))) (
          (K_wire_read_c1 m) a0 r1.2.1 (wi64 (bits .and .u64 r1.1 7)) (r1.1 / 2 ^ 3) ((0 : Int), (0 : Int), (0 : Int), [])))))
def K_wire_Fields_c1 (_m : Nat) (l0 : List D_api_Field) : Option (List D_api_Field × Int × Int) :=
  some (l0, 0, 0)
def K_wire_Fields_l2 (m : Nat) (v0 : List UInt8) (v3 : Int) (l0 : List D_api_Field) : Option ((List UInt8 × Int × List D_api_Field) ⊕ (List D_api_Field × Int × Int)) :=
  sel (decide (v3 < (((List.length v0) : Nat) : Int))) (
    sel (decide ((((List.length l0) : Nat) : Int) = 1024)) (
      some (.inr ([], v3, 3))) (
      chk (decide ((0 : Int) ≤ v3 ∧ v3 ≤ (((List.length v0) : Nat) : Int) ∧ (((List.length v0) : Nat) : Int) ≤ (((List.length v0) : Nat) : Int))) <|
      ((K_wire_read m) (List.drop (Int.toNat v3) (List.take (Int.toNat (((List.length v0) : Nat) : Int)) v0))).bind fun r1 =>
      sel (!decide (r1.2.2 = 0)) (
        some (.inr ([], v3, r1.2.2))) (
        chk (decide (((List.length l0) + 1) * 48 ≤ LIM ∧ (List.length l0) + 1 ≤ LEN)) <|
        some (.inl (v0, (wi64 (v3 + r1.2.1)), (l0 ++ ([r1.1] : List D_api_Field))))))) (
    Option.map .inr (
      (K_wire_Fields_c1 m) l0))
def K_wire_Fields_l2s (m : Nat) (v0 : List UInt8) (v3 : Int) (l0 : List D_api_Field) : Option (List D_api_Field × Int × Int) :=
  iter m (fun v => (K_wire_Fields_l2 m) v.1 v.2.1 v.2.2) (v0, v3, l0)
def K_wire_Fields (m : Nat) (a0 : List UInt8) : Option (List D_api_Field × Int × Int) :=
  (K_wire_Fields_l2s m) a0 0 []
def K_tx_transfer_l1 (_m : Nat) (v16 : Int) (v17 : Int) (b0 : D_api_Transfer) (b1 : D_api_Transfer) (l0 : List D_api_Field) : Option ((Int × Int × D_api_Transfer × D_api_Transfer × List D_api_Field) ⊕ (D_api_Transfer)) :=
  sel (decide (v17 < v16)) (
    chk (decide ((0 : Int) ≤ v17 ∧ v17 < (((List.length l0) : Nat) : Int))) <|
    chk (decide ((Int.toNat v17) < (List.length l0))) <|
    sel (decide ((List.getD l0 (Int.toNat v17) d_api_Field).1 = 1)) (
      some (.inl (v16, (wi64 (v17 + 1)), b0, ((List.getD l0 (Int.toNat v17) d_api_Field).2.2.2, b1.2), l0))) (
      sel (decide ((List.getD l0 (Int.toNat v17) d_api_Field).1 = 2)) (
        some (.inl (v16, (wi64 (v17 + 1)), b0, (b1.1, (List.getD l0 (Int.toNat v17) d_api_Field).2.2.1), l0))) (
        some (.inl (v16, (wi64 (v17 + 1)), b0, b1, l0))))) (
    some (.inr b1))
def K_tx_transfer_l1s (m : Nat) (v16 : Int) (v17 : Int) (b0 : D_api_Transfer) (b1 : D_api_Transfer) (l0 : List D_api_Field) : Option (D_api_Transfer) :=
  iter m (fun v => (K_tx_transfer_l1 m) v.1 v.2.1 v.2.2.1 v.2.2.2.1 v.2.2.2.2) (v16, v17, b0, b1, l0)
def K_tx_transfer (m : Nat) (a0 : List UInt8) : Option (D_api_Transfer) :=
  ((K_wire_Fields m) a0).bind fun r1 =>
  (K_tx_transfer_l1s m) (((List.length r1.1) : Nat) : Int) 0 ([], (0 : Int)) ([], (0 : Int)) r1.1
def K_tx_read_l1 (m : Nat) (v6 : List D_api_Field) (v7 : Int) (v8 : Int) (b0_0 : List UInt8) (b0_1 : Int) (b0_2 : Int) (b0_3 : Int) (b0_4 : List UInt8) (b1_0 : List UInt8) (b1_1 : Int) (b1_2 : Int) (b1_3 : Int) (b1_4 : List UInt8) (l0 : List D_api_Transfer) : Option ((List D_api_Field × Int × Int × List UInt8 × Int × Int × Int × List UInt8 × List UInt8 × Int × Int × Int × List UInt8 × List D_api_Transfer) ⊕ (D_api_Tx)) :=
  sel (decide (v8 < v7)) (
    chk (decide ((0 : Int) ≤ v8 ∧ v8 < (((List.length v6) : Nat) : Int))) <|
    sel (decide ((List.getD v6 (Int.toNat v8) d_api_Field).1 = 1)) (
      some (.inl (v6, v7, (wi64 (v8 + 1)), b0_0, b0_1, b0_2, b0_3, b0_4, (List.getD v6 (Int.toNat v8) d_api_Field).2.2.2, b1_1, b1_2, b1_3, b1_4, l0))) (
      sel (decide ((List.getD v6 (Int.toNat v8) d_api_Field).1 = 2)) (
        some (.inl (v6, v7, (wi64 (v8 + 1)), b0_0, b0_1, b0_2, b0_3, b0_4, b1_0, (List.getD v6 (Int.toNat v8) d_api_Field).2.2.1, b1_2, b1_3, b1_4, l0))) (
        sel (decide ((List.getD v6 (Int.toNat v8) d_api_Field).1 = 3)) (
          some (.inl (v6, v7, (wi64 (v8 + 1)), b0_0, b0_1, b0_2, b0_3, b0_4, b1_0, b1_1, (List.getD v6 (Int.toNat v8) d_api_Field).2.2.1, b1_3, b1_4, l0))) (
          sel (decide ((List.getD v6 (Int.toNat v8) d_api_Field).1 = 4)) (
            some (.inl (v6, v7, (wi64 (v8 + 1)), b0_0, b0_1, b0_2, b0_3, b0_4, b1_0, b1_1, b1_2, (List.getD v6 (Int.toNat v8) d_api_Field).2.2.1, b1_4, l0))) (
            sel (decide ((List.getD v6 (Int.toNat v8) d_api_Field).1 = 5)) (
              some (.inl (v6, v7, (wi64 (v8 + 1)), b0_0, b0_1, b0_2, b0_3, b0_4, b1_0, b1_1, b1_2, b1_3, (List.getD v6 (Int.toNat v8) d_api_Field).2.2.2, l0))) (
              sel (decide ((List.getD v6 (Int.toNat v8) d_api_Field).1 = 6)) (
                ((K_tx_transfer m) (List.getD v6 (Int.toNat v8) d_api_Field).2.2.2).bind fun r1 =>
                chk (decide (((List.length l0) + 1) * 24 ≤ LIM ∧ (List.length l0) + 1 ≤ LEN)) <|
                some (.inl (v6, v7, (wi64 (v8 + 1)), b0_0, b0_1, b0_2, b0_3, b0_4, b1_0, b1_1, b1_2, b1_3, b1_4, (l0 ++ ([r1] : List D_api_Transfer))))) (
                some (.inl (v6, v7, (wi64 (v8 + 1)), b0_0, b0_1, b0_2, b0_3, b0_4, b1_0, b1_1, b1_2, b1_3, b1_4, l0))))))))) (
    some (.inr (b1_0, b1_1, b1_2, b1_3, b1_4, l0)))
def K_tx_read_l1s (m : Nat) (v6 : List D_api_Field) (v7 : Int) (v8 : Int) (b0_0 : List UInt8) (b0_1 : Int) (b0_2 : Int) (b0_3 : Int) (b0_4 : List UInt8) (b1_0 : List UInt8) (b1_1 : Int) (b1_2 : Int) (b1_3 : Int) (b1_4 : List UInt8) (l0 : List D_api_Transfer) : Option (D_api_Tx) :=
  iter m (fun v => (K_tx_read_l1 m) v.1 v.2.1 v.2.2.1 v.2.2.2.1 v.2.2.2.2.1 v.2.2.2.2.2.1 v.2.2.2.2.2.2.1 v.2.2.2.2.2.2.2.1 v.2.2.2.2.2.2.2.2.1 v.2.2.2.2.2.2.2.2.2.1 v.2.2.2.2.2.2.2.2.2.2.1 v.2.2.2.2.2.2.2.2.2.2.2.1 v.2.2.2.2.2.2.2.2.2.2.2.2.1 v.2.2.2.2.2.2.2.2.2.2.2.2.2) (v6, v7, v8, b0_0, b0_1, b0_2, b0_3, b0_4, b1_0, b1_1, b1_2, b1_3, b1_4, l0)
def K_tx_read (m : Nat) (a0 : List D_api_Field) : Option (D_api_Tx) :=
  (K_tx_read_l1s m) a0 (((List.length a0) : Nat) : Int) 0 [] (0 : Int) (0 : Int) (0 : Int) [] [] (0 : Int) (0 : Int) (0 : Int) [] []
def K_bytes_Equal (_m : Nat) (a0 : List UInt8) (a1 : List UInt8) : Option (Bool) :=
  some (decide (a0 = a1))
def K_tx_Decode (m : Nat) (a0 : List UInt8) : Option (D_api_Tx × Int) :=
  sel (decide (4096 < (((List.length a0) : Nat) : Int))) (
    some (([], (0 : Int), (0 : Int), (0 : Int), [], []), 3)) (
    ((K_wire_Fields m) a0).bind fun r1 =>
    ((K_tx_read m) r1.1).bind fun r2 =>
    sel (!decide (r1.2.2 = 0)) (
      some (([], (0 : Int), (0 : Int), (0 : Int), [], []), 4)) (
      ((K_tx_written m) r2).bind fun r3 =>
      ((K_bytes_Equal m) r3 a0).bind fun r4 =>
      sel (!r4) (
        some (([], (0 : Int), (0 : Int), (0 : Int), [], []), 4)) (
        ((K_tx_Validate m) r2).bind fun r5 =>
        sel (!decide (r5 = 0)) (
          some (([], (0 : Int), (0 : Int), (0 : Int), [], []), r5)) (
          some (r2, 0)))))
def K_mempoolref10_SameTx_l1 (_m : Nat) (v50 : Int) (v51 : Int) (b0 : D_api_Tx) (b1 : D_api_Tx) : Option ((Int × Int × D_api_Tx × D_api_Tx) ⊕ (Bool)) :=
  sel (decide (v51 < v50)) (
    chk (decide ((0 : Int) ≤ v51 ∧ v51 < (((List.length b0.2.2.2.2.2) : Nat) : Int))) <|
    chk (decide ((0 : Int) ≤ v51 ∧ v51 < (((List.length b1.2.2.2.2.2) : Nat) : Int))) <|
    sel (!(U.beq U_api_Transfer (List.getD b0.2.2.2.2.2 (Int.toNat v51) d_api_Transfer) (List.getD b1.2.2.2.2.2 (Int.toNat v51) d_api_Transfer))) (
      some (.inr false)) (
      some (.inl (v50, (wi64 (v51 + 1)), b0, b1)))) (
    some (.inr true))
def K_mempoolref10_SameTx_l1s (m : Nat) (v50 : Int) (v51 : Int) (b0 : D_api_Tx) (b1 : D_api_Tx) : Option (Bool) :=
  iter m (fun v => (K_mempoolref10_SameTx_l1 m) v.1 v.2.1 v.2.2.1 v.2.2.2) (v50, v51, b0, b1)
def K_mempoolref10_SameTx (m : Nat) (a0 : D_api_Tx) (a1 : D_api_Tx) : Option (Bool) :=
  sel (!decide (a0.1 = a1.1)) (
    some false) (
    sel (!decide (a0.2.1 = a1.2.1)) (
      some false) (
      sel (!decide (a0.2.2.1 = a1.2.2.1)) (
        some false) (
        sel (!decide (a0.2.2.2.1 = a1.2.2.2.1)) (
          some false) (
          sel (!decide (a0.2.2.2.2.1 = a1.2.2.2.2.1)) (
            some false) (
            sel (!decide ((((List.length a0.2.2.2.2.2) : Nat) : Int) = (((List.length a1.2.2.2.2.2) : Nat) : Int))) (
              some false) (
              (K_mempoolref10_SameTx_l1s m) (((List.length a0.2.2.2.2.2) : Nat) : Int) 0 a0 a1))))))
def K_mempoollaw10_known (m : Nat) : Option (Bool) :=
  ((K_tx_Encode m) ([(97 : UInt8), (110 : UInt8), (110 : UInt8)], (0 : Int), 300, (0 : Int), [(195 : UInt8), (169 : UInt8)], [([(98 : UInt8), (111 : UInt8), (98 : UInt8)], 5)])).bind fun r1 =>
  ((K_tx_Decode m) r1.1).bind fun r2 =>
  sel (decide (r1.2 = 0)) (
    sel (decide ((((List.length r1.1) : Nat) : Int) = 21)) (
      sel (decide (r2.2 = 0)) (
        ((K_mempoolref10_SameTx m) ([(97 : UInt8), (110 : UInt8), (110 : UInt8)], (0 : Int), 300, (0 : Int), [(195 : UInt8), (169 : UInt8)], [([(98 : UInt8), (111 : UInt8), (98 : UInt8)], 5)]) r2.1).bind fun r3 =>
        sel r3 (
          ((K_tx_IsMemo m) [(195 : UInt8), (169 : UInt8)]).bind fun r4 =>
          sel r4 (
            ((K_tx_IsMemo m) [(255 : UInt8)]).bind fun r5 =>
            sel (!r5) (
              ((K_tx_IsName m) [(120 : UInt8), (45 : UInt8), (49 : UInt8)]).bind fun r6 =>
              sel r6 (
                ((K_tx_IsName m) [(88 : UInt8)]).bind fun r7 =>
                sel (!r7) (
                  ((K_tx_Validate m) ([(97 : UInt8), (110 : UInt8), (110 : UInt8)], (0 : Int), 1, (0 : Int), [], [])).bind fun r8 =>
                  some (decide (r8 = 3))) (
                  some false)) (
                some false)) (
              some false)) (
            some false)) (
          some false)) (
        some false)) (
      some false)) (
    some false)
theorem same : F_mempoollaw10_known = K_mempoollaw10_known FUEL := by kernel_rfl
theorem at_ : K_mempoollaw10_known 1180591620717411303424 = some true := by kernel_rfl
end Kmempoollaw10
theorem T_mempoollaw10_known : F_mempoollaw10_known = some true := by rw [Kmempoollaw10.same, FUEL_eq]; exact Kmempoollaw10.at_
end Go.Proofs.YtgfmnpbcbpobbaaDoor.Am
