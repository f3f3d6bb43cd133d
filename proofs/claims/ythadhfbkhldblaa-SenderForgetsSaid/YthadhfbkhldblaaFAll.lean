/- What functions of the program compute on plain data. No conditions. -/
import Derived.Test.YthadhfbkhldblaaQAJ
import Derived.Test.YthadhfbkhldblaaQAC
import Derived.Test.YthadhfbkhldblaaKD
namespace Go.Proofs.Ythadhfbkhldblaa.Am
open Go
def A1:U:=(.pr (.int .u64) (.int .i64))
abbrev o4:Type:=Int × Int
def d_sender_place:o4:=((0:Int),(0:Int))
def B0:U:=(.pr (.sl (.int .i64)) (.int .i64))
abbrev o6:Type:=List Int × Int
def o5:U:=(.pr .str (.pr (.int .u64) (.int .i64)))
abbrev o3:Type:=List UInt8 × o4
def o9:o3:=([],(0:Int),(0:Int))
def J0 (v3:Int) (v6:List (List Int)) (v7:Int) (v8:Int):Option ((Int × List (List Int) × Int × Int) ⊕ (Bool)):=
 sel (decide (v8 < v7)) (
  chk (decide ((0:Int)<=v8/\v8 < (((List.length v6):Nat):Int))) <|
  some (.inl ((I9 (v3 + (((List.length (List.getD v6 (Int.toNat v8) [])):Nat):Int))),v6,v7,(I9 (v8 + 1))))) (
  some (.inr (decide (160 < v3))))
def S3 (v3:Int) (v6:List (List Int)) (v7:Int) (v8:Int):Option (Bool):=
 W5 (fun v=>J0 v.1 v.2.1 v.2.2.1 v.2.2.2) (v3,v6,v7,v8)
def D4 (a0:List (List Int)):Option (Bool):=
 S3 0 a0 (((List.length a0):Nat):Int) 0
def G9 (v0:List Int) (v1:List Int) (v12:Int) (v13:Int):Option ((List Int × List Int × Int × Int) ⊕ (Bool)):=
 sel (decide (v13 < v12)) (
  chk (decide ((0:Int)<=v13/\v13 < (((List.length v0):Nat):Int))) <|
  chk (decide ((0:Int)<=v13/\v13 < (((List.length v1):Nat):Int))) <|
  sel (!decide ((List.getD v0 (Int.toNat v13) (0:Int))=(List.getD v1 (Int.toNat v13) (0:Int)))) (
   some (.inr false)) (
   some (.inl (v0,v1,v12,(I9 (v13 + 1)))))) (
  some (.inr true))
def P5 (v0:List Int) (v1:List Int) (v12:Int) (v13:Int):Option (Bool):=
 W5 (fun v=>G9 v.1 v.2.1 v.2.2.1 v.2.2.2) (v0,v1,v12,v13)
def B4 (a0:List Int) (a1:List Int):Option (Bool):=
 sel (!decide ((((List.length a0):Nat):Int)=(((List.length a1):Nat):Int))) (
  some false) (
  P5 a0 a1 (((List.length a0):Nat):Int) 0)
def E7 (v0:List (List UInt8)) (v1:List (List UInt8)) (v12:Int) (v13:Int):Option ((List (List UInt8) × List (List UInt8) × Int × Int) ⊕ (Bool)):=
 sel (decide (v13 < v12)) (
  chk (decide ((0:Int)<=v13/\v13 < (((List.length v0):Nat):Int))) <|
  chk (decide ((0:Int)<=v13/\v13 < (((List.length v1):Nat):Int))) <|
  sel (!decide ((List.getD v0 (Int.toNat v13) [])=(List.getD v1 (Int.toNat v13) []))) (
   some (.inr false)) (
   some (.inl (v0,v1,v12,(I9 (v13 + 1)))))) (
  some (.inr true))
def N4 (v0:List (List UInt8)) (v1:List (List UInt8)) (v12:Int) (v13:Int):Option (Bool):=
 W5 (fun v=>E7 v.1 v.2.1 v.2.2.1 v.2.2.2) (v0,v1,v12,v13)
def D7 (a0:List (List UInt8)) (a1:List (List UInt8)):Option (Bool):=
 sel (!decide ((((List.length a0):Nat):Int)=(((List.length a1):Nat):Int))) (
  some false) (
  N4 a0 a1 (((List.length a0):Nat):Int) 0)
def E8 (a0_0:List (List UInt8 × List o4)) (a0_1:Int):Option ((List (List UInt8 × List o4)) × Int × Int):=
 some (a0_0,a0_1,a0_1)
def A5:Option (Bool):=
 (R5).bind fun r1=>
 (C8 r1.1 r1.2 [(97:UInt8)] 7 1).bind fun r2=>
 (C8 r2.1 r2.2.1 [(97:UInt8)] 5 2).bind fun r3=>
 (C8 r3.1 r3.2.1 [(97:UInt8)] 6 3).bind fun r4=>
 (C8 r4.1 r4.2.1 [(97:UInt8)] 5 4).bind fun r5=>
 sel r2.2.2 (
  sel r3.2.2 (
   sel r4.2.2 (
    sel (!r5.2.2) (
     (D3 r5.1 r5.2.1 [(97:UInt8)]).bind fun r6=>
     (B4 r6.2.2 [2,3,1]).bind fun r7=>
     sel r7 (
      (C1 r6.1 r6.2.1 [(97:UInt8)] 6).bind fun r8=>
      (B4 r8.2.2 [3,1]).bind fun r9=>
      sel r9 (
       (C1 r8.1 r8.2.1 [(97:UInt8)] 4).bind fun r10=>
       sel (decide ((((List.length r10.2.2):Nat):Int)=0)) (
        (C7 r10.1 r10.2.1).bind fun r11=>
        (D7 r11.2.2 [[(97:UInt8)]]).bind fun r12=>
        sel r12 (
         (E8 r11.1 r11.2.1).bind fun r13=>
         some (decide (r13.2.2=3))) (
         some false)) (
        some false)) (
       some false)) (
      some false)) (
     some false)) (
    some false)) (
   some false)) (
  some false)
def S4 (a0:List Int):Option (o6):=
 some (a0,(0:Int))
def L9 (a0:Int) (a1:Int):Option (Int):=
 chk (!decide (a1=0)) <|
 sel (decide ((Int.tmod a0 a1) < 0)) (
  some (I9 ((Int.tmod a0 a1) + a1))) (
  some (Int.tmod a0 a1))
def B7 (v1:Int) (v5:Int) (b0:o6):Option (o6 × Int):=
 (L9 v5 v1).bind fun r1=>
 some ((b0.1,(I9 (b0.2 + 1))),r1)
def A6 (a0:o6) (a1:Int):Option (o6 × Int):=
 sel (decide (a0.2 < (((List.length a0.1):Nat):Int))) (
  chk (decide ((0:Int)<=a0.2/\a0.2 < (((List.length a0.1):Nat):Int))) <|
  B7 a1 (List.getD a0.1 (Int.toNat a0.2) (0:Int)) a0) (
  B7 a1 0 a0)
def N5 (a0:o6):Option (o6 × List UInt8):=
 (A6 a0 6).bind fun r1=>
 chk (decide ((0:Int)<=r1.2/\r1.2 < 6)) <|
 chk (decide ((Int.toNat r1.2) < 6)) <|
 some (r1.1,(List.getD [([97,110,110]:List UInt8),([98,111,98]:List UInt8),([101,118,101]:List UInt8),([122,111,101]:List UInt8),([110,101,119]:List UInt8),([120,45,49]:List UInt8)] (Int.toNat r1.2) []))
def I0 (a0:o6):Option (o6 × Int):=
 (A6 a0 6).bind fun r1=>
 (A6 r1.1 5).bind fun r2=>
 sel (decide (r2.2=0)) (
  some (r2.1,(a1J (18446744073709551615 - (Int.tmod (a1J r1.2) 3))))) (
  some (r2.1,(a1J r1.2)))
def E9 (v0:List o3) (v1:List UInt8) (v2:Int) (v8:Int) (v10:List o3) (v11:Int) (v12:Int) (v26:Bool):Option ((List o3 × List UInt8 × Int × List o3 × Int × Int) ⊕ (List o3 × Bool)):=
 sel v26 (
  chk (decide ((0:Int)<=0/\0<=v8/\v8<=(((List.length v0):Nat):Int))) <|
  chk (decide ((0 + (List.length (List.take (Int.toNat v8) v0))) * 32<=LIM/\0 + (List.length (List.take (Int.toNat v8) v0))<=LEN)) <|
  chk (decide ((0:Int)<=(I9 (v8 + 1))/\(I9 (v8 + 1))<=(((List.length v0):Nat):Int)/\(((List.length v0):Nat):Int)<=(((List.length v0):Nat):Int))) <|
  chk (decide (((List.length (List.take (Int.toNat v8) v0)) + (List.length (List.drop (Int.toNat (I9 (v8 + 1))) (List.take (Int.toNat (((List.length v0):Nat):Int)) v0)))) * 32<=LIM/\(List.length (List.take (Int.toNat v8) v0)) + (List.length (List.drop (Int.toNat (I9 (v8 + 1))) (List.take (Int.toNat (((List.length v0):Nat):Int)) v0)))<=LEN)) <|
  some (.inr (((List.take (Int.toNat v8) v0) ++ (List.drop (Int.toNat (I9 (v8 + 1))) (List.take (Int.toNat (((List.length v0):Nat):Int)) v0))),true))) (
  some (.inl (v0,v1,v2,v10,v11,(I9 (v12 + 1)))))
def F0 (v0:List o3) (v1:List UInt8) (v2:Int) (v10:List o3) (v11:Int) (v12:Int):Option ((List o3 × List UInt8 × Int × List o3 × Int × Int) ⊕ (List o3 × Bool)):=
 sel (decide (v12 < v11)) (
  chk (decide ((0:Int)<=v12/\v12 < (((List.length v10):Nat):Int))) <|
  sel (decide ((List.getD v10 (Int.toNat v12) o9).1=v1)) (
   E9 v0 v1 v2 v12 v10 v11 v12 (decide ((List.getD v10 (Int.toNat v12) o9).2.1=v2))) (
   E9 v0 v1 v2 v12 v10 v11 v12 false)) (
  some (.inr (v0,false)))
def N6 (v0:List o3) (v1:List UInt8) (v2:Int) (v10:List o3) (v11:Int) (v12:Int):Option (List o3 × Bool):=
 W5 (fun v=>F0 v.1 v.2.1 v.2.2.1 v.2.2.2.1 v.2.2.2.2.1 v.2.2.2.2.2) (v0,v1,v2,v10,v11,v12)
def H4 (a0:List o3) (a1:List UInt8) (a2:Int):Option (List o3 × Bool):=
 N6 a0 a1 a2 a0 (((List.length a0):Nat):Int) 0
def L3 (v0:List o3) (v1:List UInt8) (v2:Int) (v3:Int) (v10:Int):Option (List o3 × Bool):=
 chk (decide ((0:Int)<=0/\0<=v10/\v10<=(((List.length v0):Nat):Int))) <|
 chk (decide ((0 + (List.length (List.take (Int.toNat v10) v0))) * 32<=LIM/\0 + (List.length (List.take (Int.toNat v10) v0))<=LEN)) <|
 chk (decide (((List.length (List.take (Int.toNat v10) v0)) + 1) * 32<=LIM/\(List.length (List.take (Int.toNat v10) v0)) + 1<=LEN)) <|
 chk (decide ((0:Int)<=v10/\v10<=(((List.length v0):Nat):Int)/\(((List.length v0):Nat):Int)<=(((List.length v0):Nat):Int))) <|
 chk (decide (((List.length ((List.take (Int.toNat v10) v0) ++ ([(v1,v2,v3)]:List o3))) + (List.length (List.drop (Int.toNat v10) (List.take (Int.toNat (((List.length v0):Nat):Int)) v0)))) * 32<=LIM/\(List.length ((List.take (Int.toNat v10) v0) ++ ([(v1,v2,v3)]:List o3))) + (List.length (List.drop (Int.toNat v10) (List.take (Int.toNat (((List.length v0):Nat):Int)) v0)))<=LEN)) <|
 some ((((List.take (Int.toNat v10) v0) ++ ([(v1,v2,v3)]:List o3)) ++ (List.drop (Int.toNat v10) (List.take (Int.toNat (((List.length v0):Nat):Int)) v0))),true)
def D8 (v0:List o3) (v1:List UInt8) (v2:Int) (v3:Int) (v10:Int) (v11:Int) (v13:List o3) (v14:Int) (v15:Int) (b0:o3):Option ((List o3 × List UInt8 × Int × Int × Int × List o3 × Int × Int) ⊕ (List o3 × Bool)):=
 sel (Op.bytesLess b0.1 v1) (
  some (.inl (v0,v1,v2,v3,(I9 (v11 + 1)),v13,v14,(I9 (v15 + 1))))) (
  sel (decide (b0.1=v1)) (
   sel (decide (b0.2.1 < v2)) (
    some (.inl (v0,v1,v2,v3,(I9 (v11 + 1)),v13,v14,(I9 (v15 + 1))))) (
    some (.inl (v0,v1,v2,v3,v10,v13,v14,(I9 (v15 + 1)))))) (
   some (.inl (v0,v1,v2,v3,v10,v13,v14,(I9 (v15 + 1))))))
def H5 (v0:List o3) (v1:List UInt8) (v2:Int) (v3:Int) (v10:Int) (v13:List o3) (v14:Int) (v15:Int):Option ((List o3 × List UInt8 × Int × Int × Int × List o3 × Int × Int) ⊕ (List o3 × Bool)):=
 sel (decide (v15 < v14)) (
  chk (decide ((0:Int)<=v15/\v15 < (((List.length v13):Nat):Int))) <|
  sel (decide ((List.getD v13 (Int.toNat v15) o9).1=v1)) (
   sel (decide ((List.getD v13 (Int.toNat v15) o9).2.1=v2)) (
    some (.inr (v0,false))) (
    D8 v0 v1 v2 v3 v10 v15 v13 v14 v15 (List.getD v13 (Int.toNat v15) o9))) (
   D8 v0 v1 v2 v3 v10 v15 v13 v14 v15 (List.getD v13 (Int.toNat v15) o9))) (
  Option.map .inr (
   L3 v0 v1 v2 v3 v10))
def Q2 (v0:List o3) (v1:List UInt8) (v2:Int) (v3:Int) (v10:Int) (v13:List o3) (v14:Int) (v15:Int):Option (List o3 × Bool):=
 W5 (fun v=>H5 v.1 v.2.1 v.2.2.1 v.2.2.2.1 v.2.2.2.2.1 v.2.2.2.2.2.1 v.2.2.2.2.2.2.1 v.2.2.2.2.2.2.2) (v0,v1,v2,v3,v10,v13,v14,v15)
def J9 (a0:List o3) (a1:List UInt8) (a2:Int) (a3:Int):Option (List o3 × Bool):=
 Q2 a0 a1 a2 a3 0 a0 (((List.length a0):Nat):Int) 0
def M9 (v9:List o3) (b0_1:Int) (l0:List (List UInt8 × List o4)):Option ((List (List UInt8 × List o4)) × Int × List o3 × Bool):=
 some (l0,b0_1,v9,true)
def F9 (v0:List Int) (v1:List UInt8) (v9:List o3) (v10:List UInt8) (b0:o6) (b1_1:Int) (l0:List (List UInt8 × List o4)):Option ((List Int × List UInt8 × List o3 × o6 × Int × List (List UInt8 × List o4)) ⊕ ((List (List UInt8 × List o4)) × Int × List o3 × Bool)):=
 (I0 b0).bind fun r4=>
 (A6 r4.1 3).bind fun r5=>
 sel (decide (r5.2=0)) (
  (H4 v9 v10 r4.2).bind fun r6=>
  (B6 l0 b1_1 v10 r4.2).bind fun r7=>
  sel (!(b4I r7.2.2 r6.2)) (
   some (.inr (r7.1,r7.2.1,v9,false))) (
   some (.inl (v0,v1,r6.1,r5.1,r7.2.1,r7.1)))) (
  (A6 r5.1 50).bind fun r8=>
  (J9 v9 v10 r4.2 (I9 (r8.2 - 5))).bind fun r9=>
  (C8 l0 b1_1 v10 r4.2 (I9 (r8.2 - 5))).bind fun r10=>
  sel (!(b4I r10.2.2 r9.2)) (
   some (.inr (r10.1,r10.2.1,v9,false))) (
   some (.inl (v0,v1,r9.1,r8.1,r10.2.1,r10.1))))
def N0 (v0:List Int) (v1:List UInt8) (v9:List o3) (b0:o6) (b1_1:Int) (l0:List (List UInt8 × List o4)):Option ((List Int × List UInt8 × List o3 × o6 × Int × List (List UInt8 × List o4)) ⊕ ((List (List UInt8 × List o4)) × Int × List o3 × Bool)):=
 sel (decide (b0.2 < (((List.length v0):Nat):Int))) (
  (N5 b0).bind fun r3=>
  (A6 r3.1 9).bind fun r11=>
  sel (decide (r11.2=0)) (
   F9 v0 v1 v9 v1 r11.1 b1_1 l0) (
   F9 v0 v1 v9 r3.2 r11.1 b1_1 l0)) (
  Option.map .inr (
   M9 v9 b1_1 l0))
def S5 (v0:List Int) (v1:List UInt8) (v9:List o3) (b0:o6) (b1_1:Int) (l0:List (List UInt8 × List o4)):Option ((List (List UInt8 × List o4)) × Int × List o3 × Bool):=
 W5 (fun v=>N0 v.1 v.2.1 v.2.2.1 v.2.2.2.1 v.2.2.2.2.1 v.2.2.2.2.2) (v0,v1,v9,b0,b1_1,l0)
def D5 (a0:List Int) (a1:List UInt8):Option ((List (List UInt8 × List o4)) × Int × List o3 × Bool):=
 (S4 a0).bind fun r1=>
 (R5).bind fun r2=>
 S5 a0 a1 [] r1 r2.2 r2.1
def F6 (a0:List Int) (a1:List UInt8):Option (Bool):=
 (D4 [a0]).bind fun r1=>
 sel r1 (
  (A5).bind fun r2=>
  some r2) (
  sel (decide (60 < (((List.length a1):Nat):Int))) (
   (A5).bind fun r3=>
   some r3) (
   (D5 a0 a1).bind fun r4=>
   sel r4.2.2.2 (
    (E8 r4.1 r4.2.1).bind fun r5=>
    sel (decide (r5.2.2=(((List.length r4.2.2.1):Nat):Int))) (
     (A5).bind fun r6=>
     some r6) (
     some false)) (
    some false)))
def I1 (v0:List o3) (v6:List o3) (v7:Int) (v8:Int) (l0:List (List UInt8)):Option ((List o3 × List o3 × Int × Int × List (List UInt8)) ⊕ (List (List UInt8))):=
 sel (decide (v8 < v7)) (
  chk (decide ((0:Int)<=v8/\v8 < (((List.length v6):Nat):Int))) <|
  sel (decide (v8=0)) (
   chk (decide (((List.length l0) + 1) * 16<=LIM/\(List.length l0) + 1<=LEN)) <|
   some (.inl (v0,v6,v7,(I9 (v8 + 1)),(l0 ++ [(List.getD v6 (Int.toNat v8) o9).1])))) (
   chk (decide ((0:Int)<=(I9 (v8 - 1))/\(I9 (v8 - 1)) < (((List.length v0):Nat):Int))) <|
   sel (!decide ((List.getD v0 (Int.toNat (I9 (v8 - 1))) o9).1=(List.getD v6 (Int.toNat v8) o9).1)) (
    chk (decide (((List.length l0) + 1) * 16<=LIM/\(List.length l0) + 1<=LEN)) <|
    some (.inl (v0,v6,v7,(I9 (v8 + 1)),(l0 ++ [(List.getD v6 (Int.toNat v8) o9).1])))) (
    some (.inl (v0,v6,v7,(I9 (v8 + 1)),l0))))) (
  some (.inr l0))
def R6 (v0:List o3) (v6:List o3) (v7:Int) (v8:Int) (l0:List (List UInt8)):Option (List (List UInt8)):=
 W5 (fun v=>I1 v.1 v.2.1 v.2.2.1 v.2.2.2.1 v.2.2.2.2) (v0,v6,v7,v8,l0)
def F5 (a0:List o3):Option (List (List UInt8)):=
 R6 a0 a0 (((List.length a0):Nat):Int) 0 []
def J1 (v1:List UInt8) (v8:List o3) (v9:Int) (v10:Int) (l0:List Int):Option ((List UInt8 × List o3 × Int × Int × List Int) ⊕ (List Int)):=
 sel (decide (v10 < v9)) (
  chk (decide ((0:Int)<=v10/\v10 < (((List.length v8):Nat):Int))) <|
  sel (decide ((List.getD v8 (Int.toNat v10) o9).1=v1)) (
   chk (decide (((List.length l0) + 1) * 8<=LIM/\(List.length l0) + 1<=LEN)) <|
   some (.inl (v1,v8,v9,(I9 (v10 + 1)),(l0 ++ [(List.getD v8 (Int.toNat v10) o9).2.2])))) (
   some (.inl (v1,v8,v9,(I9 (v10 + 1)),l0)))) (
  some (.inr l0))
def S6 (v1:List UInt8) (v8:List o3) (v9:Int) (v10:Int) (l0:List Int):Option (List Int):=
 W5 (fun v=>J1 v.1 v.2.1 v.2.2.1 v.2.2.2.1 v.2.2.2.2) (v1,v8,v9,v10,l0)
def M0 (a0:List o3) (a1:List UInt8):Option (List Int):=
 S6 a1 a0 (((List.length a0):Nat):Int) 0 []
def D1 (v6:List o3) (v41:Int) (v42:Int) (b0_1:Int) (l0:List (List UInt8 × List o4)) (l1:List (List UInt8)):Option ((List o3 × Int × Int × Int × (List (List UInt8 × List o4)) × List (List UInt8)) ⊕ (Bool)):=
 sel (decide (v42 < v41)) (
  chk (decide ((0:Int)<=v42/\v42 < (((List.length l1):Nat):Int))) <|
  chk (decide ((Int.toNat v42) < (List.length l1))) <|
  (D3 l0 b0_1 (List.getD l1 (Int.toNat v42) [])).bind fun r9=>
  (M0 v6 (List.getD l1 (Int.toNat v42) [])).bind fun r10=>
  (B4 r9.2.2 r10).bind fun r11=>
  sel (!r11) (
   some (.inr false)) (
   some (.inl (v6,v41,(I9 (v42 + 1)),r9.2.1,r9.1,l1)))) (
  Option.map .inr (
   (A5).bind fun r12=>
   some r12))
def L7 (v6:List o3) (v41:Int) (v42:Int) (b0_1:Int) (l0:List (List UInt8 × List o4)) (l1:List (List UInt8)):Option (Bool):=
 W5 (fun v=>D1 v.1 v.2.1 v.2.2.1 v.2.2.2.1 v.2.2.2.2.1 v.2.2.2.2.2) (v6,v41,v42,b0_1,l0,l1)
def F7 (a0:List Int) (a1:List UInt8):Option (Bool):=
 (D4 [a0]).bind fun r1=>
 sel r1 (
  (A5).bind fun r2=>
  some r2) (
  sel (decide (60 < (((List.length a1):Nat):Int))) (
   (A5).bind fun r3=>
   some r3) (
   (D5 a0 a1).bind fun r4=>
   sel (!r4.2.2.2) (
    some false) (
    (C7 r4.1 r4.2.1).bind fun r5=>
    (F5 r4.2.2.1).bind fun r6=>
    (D7 r5.2.2 r6).bind fun r7=>
    sel (!r7) (
     some false) (
     (F5 r4.2.2.1).bind fun r8=>
     chk (decide (((List.length r8) + 2) * 16<=LIM/\(List.length r8) + 2<=LEN)) <|
     L7 r4.2.2.1 (((List.length (r8 ++ [a1,([110,111,110,101]:List UInt8)])):Nat):Int) 0 r5.2.1 r5.1 (r8 ++ [a1,([110,111,110,101]:List UInt8)])))))
def K0 (v1:List UInt8) (v2:Int) (v8:Bool) (v11:List o3) (v12:Int) (v13:Int) (l0:List Int):Option ((List UInt8 × Int × Bool × List o3 × Int × Int × List Int) ⊕ (List Int)):=
 sel (decide (v13 < v12)) (
  chk (decide ((0:Int)<=v13/\v13 < (((List.length v11):Nat):Int))) <|
  sel (!decide ((List.getD v11 (Int.toNat v13) o9).1=v1)) (
   some (.inl (v1,v2,v8,v11,v12,(I9 (v13 + 1)),l0))) (
   sel (decide ((List.getD v11 (Int.toNat v13) o9).2.1 < v2)) (
    some (.inl (v1,v2,v8,v11,v12,(I9 (v13 + 1)),l0))) (
    sel v8 (
     some (.inl (v1,v2,v8,v11,v12,(I9 (v13 + 1)),l0))) (
     sel (decide (v2 < (List.getD v11 (Int.toNat v13) o9).2.1)) (
      some (.inr l0)) (
      chk (decide (((List.length l0) + 1) * 8<=LIM/\(List.length l0) + 1<=LEN)) <|
      some (.inl (v1,(a1J (v2 + 1)),(decide (v2=18446744073709551615)),v11,v12,(I9 (v13 + 1)),(l0 ++ [(List.getD v11 (Int.toNat v13) o9).2.2])))))))) (
  some (.inr l0))
def T4 (v1:List UInt8) (v2:Int) (v8:Bool) (v11:List o3) (v12:Int) (v13:Int) (l0:List Int):Option (List Int):=
 W5 (fun v=>K0 v.1 v.2.1 v.2.2.1 v.2.2.2.1 v.2.2.2.2.1 v.2.2.2.2.2.1 v.2.2.2.2.2.2) (v1,v2,v8,v11,v12,v13,l0)
def N7 (a0:List o3) (a1:List UInt8) (a2:Int):Option (List Int):=
 T4 a1 a2 false a0 (((List.length a0):Nat):Int) 0 []
def C2 (v6:List o3) (v56:List o3) (v57:Int) (v58:Int) (b0_1:Int) (b1:o3) (l0:List (List UInt8 × List o4)):Option ((List o3 × List o3 × Int × Int × Int × List (List UInt8 × List o4)) ⊕ (Bool)):=
 (C1 l0 b0_1 b1.1 b1.2.1).bind fun r4=>
 (D3 r4.1 r4.2.1 b1.1).bind fun r5=>
 sel (decide ((((List.length r4.2.2):Nat):Int) < 1)) (
  some (.inr false)) (
  sel (decide ((((List.length r5.2.2):Nat):Int) < (((List.length r4.2.2):Nat):Int))) (
   some (.inr false)) (
   chk (decide ((0:Int)<=0/\0<=(((List.length r4.2.2):Nat):Int)/\(((List.length r4.2.2):Nat):Int)<=(((List.length r5.2.2):Nat):Int))) <|
   (B4 r4.2.2 (List.take (Int.toNat (((List.length r4.2.2):Nat):Int)) r5.2.2)).bind fun r6=>
   sel (!r6) (
    some (.inr false)) (
    some (.inl (v6,v56,v57,(I9 (v58 + 1)),r5.2.1,r5.1)))))
def E0 (v6:List o3) (v56:List o3) (v57:Int) (v58:Int) (b0_1:Int) (l0:List (List UInt8 × List o4)):Option ((List o3 × List o3 × Int × Int × Int × List (List UInt8 × List o4)) ⊕ (Bool)):=
 sel (decide (v58 < v57)) (
  chk (decide ((0:Int)<=v58/\v58 < (((List.length v56):Nat):Int))) <|
  sel (decide (0 < v58)) (
   chk (decide ((0:Int)<=(I9 (v58 - 1))/\(I9 (v58 - 1)) < (((List.length v6):Nat):Int))) <|
   sel (decide ((List.getD v6 (Int.toNat (I9 (v58 - 1))) o9).1=(List.getD v56 (Int.toNat v58) o9).1)) (
    some (.inl (v6,v56,v57,(I9 (v58 + 1)),b0_1,l0))) (
    C2 v6 v56 v57 v58 b0_1 (List.getD v56 (Int.toNat v58) o9) l0)) (
   C2 v6 v56 v57 v58 b0_1 (List.getD v56 (Int.toNat v58) o9) l0)) (
  Option.map .inr (
   (A5).bind fun r7=>
   some r7))
def M4 (v6:List o3) (v56:List o3) (v57:Int) (v58:Int) (b0_1:Int) (l0:List (List UInt8 × List o4)):Option (Bool):=
 W5 (fun v=>E0 v.1 v.2.1 v.2.2.1 v.2.2.2.1 v.2.2.2.2.1 v.2.2.2.2.2) (v6,v56,v57,v58,b0_1,l0)
def I2 (v6:List o3) (b0_1:Int) (l0:List (List UInt8 × List o4)):Option (Bool):=
 M4 v6 v6 (((List.length v6):Nat):Int) 0 b0_1 l0
def E2 (v1:Int) (v6:List o3) (v9:List UInt8) (v32:Int) (v33:Int) (v39:Int) (v40:Int) (b0_1:Int) (l0:List (List UInt8 × List o4)) (l1:List (List UInt8)) (l2:List Int):Option ((Int × List o3 × List UInt8 × Int × Int × Int × Int × Int × (List (List UInt8 × List o4)) × List (List UInt8) × List Int) ⊕ ((Int × List o3 × Int × Int × Int × (List (List UInt8 × List o4)) × List (List UInt8)) ⊕ (Bool))):=
 sel (decide (v40 < v39)) (
  chk (decide ((0:Int)<=v40/\v40 < (((List.length l2):Nat):Int))) <|
  chk (decide ((Int.toNat v40) < (List.length l2))) <|
  (C1 l0 b0_1 v9 (List.getD l2 (Int.toNat v40) (0:Int))).bind fun r9=>
  (N7 v6 v9 (List.getD l2 (Int.toNat v40) (0:Int))).bind fun r10=>
  (B4 r9.2.2 r10).bind fun r11=>
  sel (!r11) (
   some (.inr (.inr false))) (
   some (.inl (v1,v6,v9,v32,v33,v39,(I9 (v40 + 1)),r9.2.1,r9.1,l1,l2)))) (
  some (.inr (.inl (v1,v6,v32,(I9 (v33 + 1)),b0_1,l0,l1))))
def M5 (v1:Int) (v6:List o3) (v9:List UInt8) (v32:Int) (v33:Int) (v39:Int) (v40:Int) (b0_1:Int) (l0:List (List UInt8 × List o4)) (l1:List (List UInt8)) (l2:List Int):Option ((Int × List o3 × Int × Int × Int × (List (List UInt8 × List o4)) × List (List UInt8)) ⊕ (Bool)):=
 W5 (fun v=>E2 v.1 v.2.1 v.2.2.1 v.2.2.2.1 v.2.2.2.2.1 v.2.2.2.2.2.1 v.2.2.2.2.2.2.1 v.2.2.2.2.2.2.2.1 v.2.2.2.2.2.2.2.2.1 v.2.2.2.2.2.2.2.2.2.1 v.2.2.2.2.2.2.2.2.2.2) (v1,v6,v9,v32,v33,v39,v40,b0_1,l0,l1,l2)
def E3 (v1:Int) (v6:List o3) (v32:Int) (v33:Int) (b0_1:Int) (l0:List (List UInt8 × List o4)) (l1:List (List UInt8)):Option ((Int × List o3 × Int × Int × Int × (List (List UInt8 × List o4)) × List (List UInt8)) ⊕ (Bool)):=
 sel (decide (v33 < v32)) (
  chk (decide ((0:Int)<=v33/\v33 < (((List.length l1):Nat):Int))) <|
  chk (decide ((Int.toNat v33) < (List.length l1))) <|
  M5 v1 v6 (List.getD l1 (Int.toNat v33) []) v32 v33 8 0 b0_1 l0 l1 [v1,0,1,2,3,18446744073709551615,18446744073709551614,18446744073709551613]) (
  Option.map .inr (
   I2 v6 b0_1 l0))
def M6 (v1:Int) (v6:List o3) (v32:Int) (v33:Int) (b0_1:Int) (l0:List (List UInt8 × List o4)) (l1:List (List UInt8)):Option (Bool):=
 W5 (fun v=>E3 v.1 v.2.1 v.2.2.1 v.2.2.2.1 v.2.2.2.2.1 v.2.2.2.2.2.1 v.2.2.2.2.2.2) (v1,v6,v32,v33,b0_1,l0,l1)
def H0 (a0:List Int) (a1:Int):Option (Bool):=
 (D4 [a0]).bind fun r1=>
 sel r1 (
  (A5).bind fun r2=>
  some r2) (
  (D5 a0 [(122:UInt8)]).bind fun r3=>
  sel (!r3.2.2.2) (
   some false) (
   (F5 r3.2.2.1).bind fun r8=>
   chk (decide (((List.length r8) + 1) * 16<=LIM/\(List.length r8) + 1<=LEN)) <|
   M6 a1 r3.2.2.1 (((List.length (r8 ++ [([110,111,110,101]:List UInt8)])):Nat):Int) 0 r3.2.1 r3.1 (r8 ++ [([110,111,110,101]:List UInt8)])))
def N1 (_a1:List UInt8) (_a2:Int) (_a3:Int):Option (Bool):=
 some false
def K4 (_a1:List UInt8) (_a2:Int):Option (Bool):=
 some false
def H1 (_a1:List UInt8):Option (List o4):=
 some []
def J6 (v11:Int) (v12:Int) (l0:List Int) (l1:List o4):Option ((Int × Int × List Int × List o4) ⊕ (List Int)):=
 sel (decide (v12 < v11)) (
  chk (decide ((0:Int)<=v12/\v12 < (((List.length l1):Nat):Int))) <|
  chk (decide ((Int.toNat v12) < (List.length l1))) <|
  chk (decide (((List.length l0) + 1) * 8<=LIM/\(List.length l0) + 1<=LEN)) <|
  some (.inl (v11,(I9 (v12 + 1)),(l0 ++ [(List.getD l1 (Int.toNat v12) d_sender_place).2]),l1))) (
  some (.inr l0))
def O8 (v11:Int) (v12:Int) (l0:List Int) (l1:List o4):Option (List Int):=
 W5 (fun v=>J6 v.1 v.2.1 v.2.2.1 v.2.2.2) (v11,v12,l0,l1)
def I3 (a1:List UInt8):Option (List Int):=
 (H1 a1).bind fun r1=>
 O8 (((List.length r1):Nat):Int) 0 [] r1
def L4:Option (List (List UInt8)):=
 some []
def F_cmp_isNaN_uint64 (a0:Int):Option (Bool):=
 some (!decide (a0=a0))
def F_cmp_Compare_uint64 (a0:Int) (a1:Int):Option (Int):=
 (F_cmp_isNaN_uint64 a0).bind fun r1=>
 (F_cmp_isNaN_uint64 a1).bind fun r2=>
 sel r1 (
  sel r2 (
   some 0) (
   some (-1))) (
  sel r2 (
   some 1) (
   sel (decide (a0 < a1)) (
    some (-1)) (
    sel (decide (a1 < a0)) (
     some 1) (
     some 0))))
def F_sender_find_1 (a0:o4) (a1:Int):Option (Int):=
 (F_cmp_Compare_uint64 a0.1 a1).bind fun r1=>
 some r1
def F_slices_BinarySearchFunc_sender_place_sender_place_uint64_of_sender_find_1_c1 (v0:List o4) (v1:Int) (v8:Int) (v9:Int):Option (Int × Bool):=
 sel (decide (v9 < v8)) (
  chk (decide ((0:Int)<=v9/\v9 < (((List.length v0):Nat):Int))) <|
  (F_sender_find_1 (List.getD v0 (Int.toNat v9) d_sender_place) v1).bind fun r1=>
  some (v9,(decide (r1=0)))) (
  some (v9,false))
def F_slices_BinarySearchFunc_sender_place_sender_place_uint64_of_sender_find_1_l2 (v0:List o4) (v1:Int) (v8:Int) (v9:Int) (v10:Int):Option ((List o4 × Int × Int × Int × Int) ⊕ (Int × Bool)):=
 sel (decide (v9 < v10)) (
  chk (decide ((0:Int)<=(I9 ((a1J (I9 (v9 + v10))) / 2 ^ 1))/\(I9 ((a1J (I9 (v9 + v10))) / 2 ^ 1)) < (((List.length v0):Nat):Int))) <|
  (F_sender_find_1 (List.getD v0 (Int.toNat (I9 ((a1J (I9 (v9 + v10))) / 2 ^ 1))) d_sender_place) v1).bind fun r2=>
  sel (decide (r2 < 0)) (
   some (.inl (v0,v1,v8,(I9 ((I9 ((a1J (I9 (v9 + v10))) / 2 ^ 1)) + 1)),v10))) (
   some (.inl (v0,v1,v8,v9,(I9 ((a1J (I9 (v9 + v10))) / 2 ^ 1)))))) (
  Option.map .inr (
   F_slices_BinarySearchFunc_sender_place_sender_place_uint64_of_sender_find_1_c1 v0 v1 v8 v9))
def F_slices_BinarySearchFunc_sender_place_sender_place_uint64_of_sender_find_1_l2s (v0:List o4) (v1:Int) (v8:Int) (v9:Int) (v10:Int):Option (Int × Bool):=
 W5 (fun v=>F_slices_BinarySearchFunc_sender_place_sender_place_uint64_of_sender_find_1_l2 v.1 v.2.1 v.2.2.1 v.2.2.2.1 v.2.2.2.2) (v0,v1,v8,v9,v10)
def F_slices_BinarySearchFunc_sender_place_sender_place_uint64_of_sender_find_1 (a0:List o4) (a1:Int):Option (Int × Bool):=
 F_slices_BinarySearchFunc_sender_place_sender_place_uint64_of_sender_find_1_l2s a0 a1 (((List.length a0):Nat):Int) 0 (((List.length a0):Nat):Int)
def F_sender_find (a0:List o4) (a1:Int):Option (Int × Bool):=
 (F_slices_BinarySearchFunc_sender_place_sender_place_uint64_of_sender_find_1 a0 a1).bind fun r1=>
 some (r1.1,r1.2)
def K5 (v2:Int) (v8:Int) (l0:List o4) (l1:List Int):Option ((Int × Int × List o4 × List Int) ⊕ (List Int)):=
 sel (decide (v8 < (((List.length l0):Nat):Int))) (
  chk (decide ((0:Int)<=v8/\v8 < (((List.length l0):Nat):Int))) <|
  chk (decide ((Int.toNat v8) < (List.length l0))) <|
  sel (decide ((List.getD l0 (Int.toNat v8) d_sender_place).1=v2)) (
   chk (decide ((0:Int)<=v8/\v8 < (((List.length l0):Nat):Int))) <|
   chk (decide ((Int.toNat v8) < (List.length l0))) <|
   chk (decide (((List.length l1) + 1) * 8<=LIM/\(List.length l1) + 1<=LEN)) <|
   some (.inl ((a1J (v2 + 1)),(I9 (v8 + 1)),l0,(l1 ++ [(List.getD l0 (Int.toNat v8) d_sender_place).2])))) (
   some (.inr l1))) (
  some (.inr l1))
def P6 (v2:Int) (v8:Int) (l0:List o4) (l1:List Int):Option (List Int):=
 W5 (fun v=>K5 v.1 v.2.1 v.2.2.1 v.2.2.2) (v2,v8,l0,l1)
def J2 (a1:List UInt8) (a2:Int):Option (List Int):=
 (H1 a1).bind fun r1=>
 (F_sender_find r1 a2).bind fun r2=>
 P6 a2 r2.1 r1 []
def N2:Option (Int):=
 some 0
def G7 (v1:List UInt8) (v2:Int) (b0_1:Int) (l0:List (List UInt8 × List o4)):Option (Bool):=
 (C7 l0 b0_1).bind fun r5=>
 sel (decide ((((List.length r5.2.2):Nat):Int)=0)) (
  (E8 r5.1 r5.2.1).bind fun r6=>
  sel (decide (r6.2.2=0)) (
   (N1 v1 v2 1).bind fun r7=>
   sel (!r7) (
    (K4 v1 v2).bind fun r8=>
    sel (!r8) (
     (I3 v1).bind fun r9=>
     (L4).bind fun r10=>
     (J2 v1 v2).bind fun r11=>
     (N2).bind fun r12=>
     sel (decide ((I9 ((I9 ((I9 ((((List.length r9):Nat):Int) + (((List.length r10):Nat):Int))) + (((List.length r11):Nat):Int))) + r12))=0)) (
      (A5).bind fun r13=>
      some r13) (
      some false)) (
     some false)) (
    some false)) (
   some false)) (
  some false)
def C5 (v1:List UInt8) (v2:Int) (v31:List o3) (v32:Int) (v33:Int) (b0_1:Int) (l0:List (List UInt8 × List o4)):Option ((List UInt8 × Int × List o3 × Int × Int × Int × List (List UInt8 × List o4)) ⊕ (Bool)):=
 sel (decide (v33 < v32)) (
  chk (decide ((0:Int)<=v33/\v33 < (((List.length v31):Nat):Int))) <|
  (B6 l0 b0_1 (List.getD v31 (Int.toNat v33) o9).1 (List.getD v31 (Int.toNat v33) o9).2.1).bind fun r14=>
  sel (!r14.2.2) (
   some (.inr false)) (
   (B6 r14.1 r14.2.1 (List.getD v31 (Int.toNat v33) o9).1 (List.getD v31 (Int.toNat v33) o9).2.1).bind fun r15=>
   sel r15.2.2 (
    some (.inr false)) (
    some (.inl (v1,v2,v31,v32,(I9 (v33 + 1)),r15.2.1,r15.1))))) (
  Option.map .inr (
   G7 v1 v2 b0_1 l0))
def K7 (v1:List UInt8) (v2:Int) (v31:List o3) (v32:Int) (v33:Int) (b0_1:Int) (l0:List (List UInt8 × List o4)):Option (Bool):=
 W5 (fun v=>C5 v.1 v.2.1 v.2.2.1 v.2.2.2.1 v.2.2.2.2.1 v.2.2.2.2.2.1 v.2.2.2.2.2.2) (v1,v2,v31,v32,v33,b0_1,l0)
def E4 (a0:List Int) (a1:List UInt8) (a2:Int):Option (Bool):=
 (D4 [a0]).bind fun r1=>
 sel r1 (
  (A5).bind fun r2=>
  some r2) (
  sel (decide (60 < (((List.length a1):Nat):Int))) (
   (A5).bind fun r3=>
   some r3) (
   (D5 a0 a1).bind fun r4=>
   sel (!r4.2.2.2) (
    some false) (
    K7 a1 a2 r4.2.2.1 (((List.length r4.2.2.1):Nat):Int) 0 r4.2.1 r4.1)))
end Go.Proofs.Ythadhfbkhldblaa.Am
