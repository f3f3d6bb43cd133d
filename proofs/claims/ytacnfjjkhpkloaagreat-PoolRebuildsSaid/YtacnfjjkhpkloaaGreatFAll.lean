/- What functions of the program compute on plain data. No conditions. -/
import Derived.Test.YtacnfjjkhpkloaaGreatQAE
import Derived.Test.YtacnfjjkhpkloaaGreatQAF
import Derived.Test.YtacnfjjkhpkloaaGreatQAH
import Derived.Test.YtacnfjjkhpkloaaGreatQAN
import Derived.Test.YtacnfjjkhpkloaaGreatQAG
import Derived.Test.YtacnfjjkhpkloaaGreatKD
namespace Go.Proofs.YtacnfjjkhpkloaaGreat.Am
open Go
def Z0:U:=(.pr (.int .u64) .bool)
abbrev E7:Type:=Int × Bool
def a1W:E7:=((0:Int),false)
def o6:U:=(.pr (.int .i64) (.int .i64))
abbrev o5:Type:=Int × Int
def U8:o5:=((0:Int),(0:Int))
def B0:U:=(.pr (.int .u64) (.int .i64))
abbrev A1:Type:=Int × Int
def d_sender_place:A1:=((0:Int),(0:Int))
def C0:U:=(.pr (.sl (.int .i64)) (.int .i64))
abbrev A4:Type:=List Int × Int
def B1:U:=(.pr (.int .i64) (.pr (.int .u64) (.int .i64)))
abbrev o9:Type:=Int × A1
def C3:o9:=((0:Int),(0:Int),(0:Int))
def a2W:U:=(.pr .str (.pr (.pr (.int .u64) .bool) (.pr (.pr (.int .u64) .bool) (.pr (.int .u64) .bool))))
abbrev I9:Type:=List UInt8 × E7 × E7 × E7
def Y8:I9:=([],a1W,a1W,(0:Int),false)
def B2:U:=(.pr (.arr 32 .byte) (.pr (.sl .byte) (.pr .str (.pr (.int .u64) (.pr (.int .u64) (.pr (.int .u64) (.pr (.int .i64) (.pr (.int .i64) (.pr (.int .i64) (.sl (.int .i64)))))))))))
abbrev o7:Type:=Vector UInt8 32 × List UInt8 × List UInt8 × Int × Int × Int × Int × Int × Int × List Int
def B7:o7:=((Vector.replicate 32 (0:UInt8)),[],[],(0:Int),(0:Int),(0:Int),(0:Int),(0:Int),(0:Int),[])
def A8:U:=(.pr (.int .i64) (.pr (.int .i64) (.pr (.int .i64) (.pr (.int .i64) (.pr (.int .i64) (.pr (.int .i64) (.pr .bool (.pr (.int .i64) (.pr (.int .i64) (.pr (.int .u64) (.pr (.int .i64) (.int .i64))))))))))))
abbrev A0:Type:=Int × Int × Int × Int × Int × Int × Bool × Int × Int × Int × o5
def B3:U:=(.pr (.pr (.arr 32 .byte) (.pr (.sl .byte) (.pr .str (.pr (.int .u64) (.pr (.int .u64) (.pr (.int .u64) (.pr (.int .i64) (.pr (.int .i64) (.pr (.int .i64) (.sl (.int .i64))))))))))) (.pr (.int .i64) (.pr .bool (.int .i64))))
abbrev A6:Type:=o7 × Int × Bool × Int
def C4:A6:=(B7,(0:Int),false,(0:Int))
def B4:U:=(.pr (.pr (.int .i64) (.pr (.int .i64) (.pr (.int .i64) (.pr (.int .i64) (.pr (.int .i64) (.pr (.int .i64) (.pr .bool (.pr (.int .i64) (.pr (.int .i64) (.pr (.int .u64) (.pr (.int .i64) (.int .i64)))))))))))) (.sl (.pr (.arr 32 .byte) (.pr (.sl .byte) (.pr .str (.pr (.int .u64) (.pr (.int .u64) (.pr (.int .u64) (.pr (.int .i64) (.pr (.int .i64) (.pr (.int .i64) (.sl (.int .i64)))))))))))))
abbrev A5:Type:=A0 × List o7
def T3 (v3:Int) (v6:List (List Int)) (v7:Int) (v8:Int):Option ((Int × List (List Int) × Int × Int) ⊕ (Bool)):=
 sel (decide (v8 < v7)) (
  chk (decide ((0:Int)<=v8/\v8 < (((List.length v6):Nat):Int))) <|
  some (.inl ((C6 (v3 + (((List.length (List.getD v6 (Int.toNat v8) [])):Nat):Int))),v6,v7,(C6 (v8 + 1))))) (
  some (.inr (decide (160 < v3))))
def a15 (v3:Int) (v6:List (List Int)) (v7:Int) (v8:Int):Option (Bool):=
 Q9 (fun v=>T3 v.1 v.2.1 v.2.2.1 v.2.2.2) (v3,v6,v7,v8)
def H0 (a0:List (List Int)):Option (Bool):=
 a15 0 a0 (((List.length a0):Nat):Int) 0
def B8 (a0:Int):Option (E7):=
 some ((a3P a0),false)
def a3G:Option (Vector I9 12):=
 (B8 1).bind fun r1=>
 (B8 512).bind fun r2=>
 (B8 100).bind fun r3=>
 (B8 1).bind fun r4=>
 (B8 1048576).bind fun r5=>
 (B8 65536).bind fun r6=>
 (B8 1).bind fun r7=>
 (B8 4096).bind fun r8=>
 (B8 1024).bind fun r9=>
 (B8 0).bind fun r10=>
 (B8 1024).bind fun r11=>
 (B8 200).bind fun r12=>
 (B8 0).bind fun r13=>
 (B8 1073741824).bind fun r14=>
 (B8 0).bind fun r15=>
 (B8 0).bind fun r16=>
 (B8 1073741824).bind fun r17=>
 (B8 0).bind fun r18=>
 (B8 0).bind fun r19=>
 (B8 1).bind fun r20=>
 (B8 0).bind fun r21=>
 (B8 1).bind fun r22=>
 (B8 1048576).bind fun r23=>
 (B8 32768).bind fun r24=>
 (B8 1125899906842624).bind fun r25=>
 (B8 0).bind fun r26=>
 (B8 1).bind fun r27=>
 (B8 0).bind fun r28=>
 (B8 7).bind fun r29=>
 (B8 0).bind fun r30=>
 (B8 1).bind fun r31=>
 (B8 8).bind fun r32=>
 (B8 1).bind fun r33=>
 some (Vector.push (Vector.push (Vector.push (Vector.push (Vector.push (Vector.push (Vector.push (Vector.push (Vector.push (Vector.push (Vector.push (Vector.push #v[] (([109,97,120,45,116,120,115]:List UInt8),r1,r2,r3)) (([109,97,120,45,98,121,116,101,115]:List UInt8),r4,r5,r6)) (([109,97,120,45,116,120,45,98,121,116,101,115]:List UInt8),r7,r8,r9)) (([99,97,99,104,101,45,115,105,122,101]:List UInt8),r10,r11,r12)) (([116,116,108,45,98,108,111,99,107,115]:List UInt8),r13,r14,r15)) (([116,116,108,45,116,105,109,101]:List UInt8),r16,r17,r18)) (([107,101,101,112,45,105,110,118,97,108,105,100]:List UInt8),r19,r20,r21)) (([98,108,111,99,107,45,98,121,116,101,115]:List UInt8),r22,r23,r24)) (([98,108,111,99,107,45,103,97,115]:List UInt8),((0:Int),true),r25,(0:Int),true)) (([112,114,105,99,101]:List UInt8),r26,(18446744073709551615,false),r27)) (([115,101,108,102]:List UInt8),r28,r29,r30)) (([110,111,100,101,115]:List UInt8),r31,r32,r33))
def a1s (v10:Bool) (b0:E7) (b1:E7):Option (Bool):=
 sel v10 (
  sel b0.2 (
   some (!b1.2)) (
   some false)) (
  some (decide (b0.1 < b1.1)))
def a0U (a0:E7) (a1:E7):Option (Bool):=
 sel a0.2 (
  a1s true a0 a1) (
  a1s a1.2 a0 a1)
def a16 (a0:I9) (a1:E7):Option (Bool):=
 (a0U a1 a0.2.1).bind fun r1=>
 sel (!r1) (
  (a0U a0.2.2.1 a1).bind fun r2=>
  some (!r2)) (
  some false)
def a09 (b0:A0):Option (Int):=
 sel (decide (b0.2.2.2.2.2.2.2.2.2.2.2<=b0.2.2.2.2.2.2.2.2.2.2.1)) (
  some 1) (
  some 0)
def I6 (v7:Vector I9 12) (v8:Int) (b0:A0):Option ((Vector I9 12 × Int × A0) ⊕ (Int)):=
 sel (decide (v8 < 12)) (
  chk (decide ((0:Int)<=v8/\v8 < 12)) <|
  (a2M b0 v8).bind fun r2=>
  sel (!r2.2) (
   some (.inr 1)) (
   (a16 (O5 v7 (Int.toNat v8) Y8) r2.1).bind fun r3=>
   sel (!r3) (
    some (.inr 1)) (
    some (.inl (v7,(C6 (v8 + 1)),b0))))) (
  Option.map .inr (
   a09 b0))
def a2X (v7:Vector I9 12) (v8:Int) (b0:A0):Option (Int):=
 Q9 (fun v=>I6 v.1 v.2.1 v.2.2) (v7,v8,b0)
def a0V (a0:A0):Option (Int):=
 (a3G).bind fun r1=>
 a2X r1 0 a0
def a1A (v4:Vector I9 12) (v5:Int) (b0:A0) (b1:A0):Option ((Vector I9 12 × Int × A0 × A0) ⊕ (A0)):=
 sel (decide (v5 < 12)) (
  chk (decide ((0:Int)<=v5/\v5 < 12)) <|
  (a4c b1 v5 (O5 v4 (Int.toNat v5) Y8).2.2.2).bind fun r2=>
  some (.inl (v4,(C6 (v5 + 1)),b0,r2))) (
  some (.inr b1))
def a3s (v4:Vector I9 12) (v5:Int) (b0:A0) (b1:A0):Option (A0):=
 Q9 (fun v=>a1A v.1 v.2.1 v.2.2.1 v.2.2.2) (v4,v5,b0,b1)
def a0d:Option (A0):=
 (a3G).bind fun r1=>
 a3s r1 0 ((0:Int),(0:Int),(0:Int),(0:Int),(0:Int),(0:Int),false,(0:Int),(0:Int),(0:Int),(0:Int),(0:Int)) ((0:Int),(0:Int),(0:Int),(0:Int),(0:Int),(0:Int),false,(0:Int),(0:Int),(0:Int),(0:Int),(0:Int))
def a8n (a0:Int):Option (Int × Int × List A6 × Int):=
 some ((min (max a0 0) 512),(0:Int),[],(-1))
def a8o:Option (List o9 × List o5):=
 some ([],[])
def a5W (a0:Int) (a1:Int):Option (Int × Int × (List (Int × o5))):=
 some (a0,a1,[])
def a17 (b0:A0):Option (A0 × Int × Int × List A6 × Int × List o9 × List o5 × (List (List UInt8 × List A1)) × Int × Int × Int × (List (Int × o5)) × (List (Int × o5)) × (List (List UInt8 × Int)) × Int):=
 (a8n b0.1).bind fun r1=>
 (a8o).bind fun r2=>
 (a4e).bind fun r3=>
 (a5W b0.2.2.2.2.1 b0.2.2.2.2.2.1).bind fun r4=>
 some (b0,r1.1,r1.2.1,r1.2.2.1,r1.2.2.2,r2.1,r2.2,r3.1,r3.2,r4.1,r4.2.1,r4.2.2,[],[],0)
def a0W (a0:A0):Option (A0 × Int × Int × List A6 × Int × List o9 × List o5 × (List (List UInt8 × List A1)) × Int × Int × Int × (List (Int × o5)) × (List (Int × o5)) × (List (List UInt8 × Int)) × Int):=
 (a0V a0).bind fun r5=>
 sel (!decide (r5=0)) (
  (a0d).bind fun r6=>
  a17 r6) (
  a17 a0)
def D5 (a0:Int) (a1:List UInt8) (a2:Int) (a3:Int):Option (o7):=
 chk (decide ((0:Int)<=(wu8 a0)/\(wu8 a0) < 256)) <|
 chk (decide ((0:Int)<=(wu8 a0)/\(wu8 a0) < 256)) <|
 some ((Vector.push (Vector.push (Vector.push (Vector.push (Vector.push (Vector.push (Vector.push (Vector.push (Vector.push (Vector.push (Vector.push (Vector.push (Vector.push (Vector.push (Vector.push (Vector.push (Vector.push (Vector.push (Vector.push (Vector.push (Vector.push (Vector.push (Vector.push (Vector.push (Vector.push (Vector.push (Vector.push (Vector.push (Vector.push (Vector.push (Vector.push (Vector.push #v[] (UInt8.ofNat (Int.toNat (wu8 a0)))) (O5 (Vector.replicate 32 (0:UInt8)) 1 (0:UInt8))) (O5 (Vector.replicate 32 (0:UInt8)) 2 (0:UInt8))) (O5 (Vector.replicate 32 (0:UInt8)) 3 (0:UInt8))) (O5 (Vector.replicate 32 (0:UInt8)) 4 (0:UInt8))) (O5 (Vector.replicate 32 (0:UInt8)) 5 (0:UInt8))) (O5 (Vector.replicate 32 (0:UInt8)) 6 (0:UInt8))) (O5 (Vector.replicate 32 (0:UInt8)) 7 (0:UInt8))) (O5 (Vector.replicate 32 (0:UInt8)) 8 (0:UInt8))) (O5 (Vector.replicate 32 (0:UInt8)) 9 (0:UInt8))) (O5 (Vector.replicate 32 (0:UInt8)) 10 (0:UInt8))) (O5 (Vector.replicate 32 (0:UInt8)) 11 (0:UInt8))) (O5 (Vector.replicate 32 (0:UInt8)) 12 (0:UInt8))) (O5 (Vector.replicate 32 (0:UInt8)) 13 (0:UInt8))) (O5 (Vector.replicate 32 (0:UInt8)) 14 (0:UInt8))) (O5 (Vector.replicate 32 (0:UInt8)) 15 (0:UInt8))) (O5 (Vector.replicate 32 (0:UInt8)) 16 (0:UInt8))) (O5 (Vector.replicate 32 (0:UInt8)) 17 (0:UInt8))) (O5 (Vector.replicate 32 (0:UInt8)) 18 (0:UInt8))) (O5 (Vector.replicate 32 (0:UInt8)) 19 (0:UInt8))) (O5 (Vector.replicate 32 (0:UInt8)) 20 (0:UInt8))) (O5 (Vector.replicate 32 (0:UInt8)) 21 (0:UInt8))) (O5 (Vector.replicate 32 (0:UInt8)) 22 (0:UInt8))) (O5 (Vector.replicate 32 (0:UInt8)) 23 (0:UInt8))) (O5 (Vector.replicate 32 (0:UInt8)) 24 (0:UInt8))) (O5 (Vector.replicate 32 (0:UInt8)) 25 (0:UInt8))) (O5 (Vector.replicate 32 (0:UInt8)) 26 (0:UInt8))) (O5 (Vector.replicate 32 (0:UInt8)) 27 (0:UInt8))) (O5 (Vector.replicate 32 (0:UInt8)) 28 (0:UInt8))) (O5 (Vector.replicate 32 (0:UInt8)) 29 (0:UInt8))) (O5 (Vector.replicate 32 (0:UInt8)) 30 (0:UInt8))) (O5 (Vector.replicate 32 (0:UInt8)) 31 (0:UInt8))),[(UInt8.ofNat (Int.toNat (wu8 a0)))],a1,a2,(0:Int),a3,(0:Int),(0:Int),a0,[])
def a0e (a0_0:Int) (a0_1:Int) (a0_2:List A6) (a0_3:Int):Option (Int × Int × List A6 × Int × Int):=
 some (a0_0,a0_1,a0_2,a0_3,a0_1)
def U9 (v3:Int) (v12:Int) (v13:Int) (b0_0:Int) (b0_1:Int) (b0_3:Int) (l0:List A6):Option ((Int × Int × Int × Int × Int × Int × List A6) ⊕ (Int × Int × List A6 × Int × Int)):=
 sel (decide (v13 < v12)) (
  chk (decide ((0:Int)<=v13/\v13 < (((List.length l0):Nat):Int))) <|
  chk (decide ((Int.toNat v13) < (List.length l0))) <|
  some (.inl ((C6 (v3 + (((List.length (List.getD l0 (Int.toNat v13) C4).1.2.1):Nat):Int))),v12,(C6 (v13 + 1)),b0_0,b0_1,b0_3,l0))) (
  some (.inr (b0_0,b0_1,l0,b0_3,v3)))
def a2t (v3:Int) (v12:Int) (v13:Int) (b0_0:Int) (b0_1:Int) (b0_3:Int) (l0:List A6):Option (Int × Int × List A6 × Int × Int):=
 Q9 (fun v=>U9 v.1 v.2.1 v.2.2.1 v.2.2.2.1 v.2.2.2.2.1 v.2.2.2.2.2.1 v.2.2.2.2.2.2) (v3,v12,v13,b0_0,b0_1,b0_3,l0)
def L5 (a0_0:Int) (a0_1:Int) (a0_2:List A6) (a0_3:Int):Option (Int × Int × List A6 × Int × Int):=
 a2t 0 (((List.length a0_2):Nat):Int) 0 a0_0 a0_1 a0_3 a0_2
def a1O (a0:List UInt8):Option (List UInt8):=a5w (u:= .byte) 1 a0
def a2u (a0:List Int):Option (List Int):=a5w (u:=(.int .i64)) 8 a0
def a3Q (a0:o7):Option (o7):=
 (a1O a0.2.1).bind fun r1=>
 (a2u a0.2.2.2.2.2.2.2.2.2).bind fun r2=>
 some (a0.1,r1,a0.2.2.1,a0.2.2.2.1,a0.2.2.2.2.1,a0.2.2.2.2.2.1,a0.2.2.2.2.2.2.1,a0.2.2.2.2.2.2.2.1,a0.2.2.2.2.2.2.2.2.1,r2)
def S2 (v6:Int) (b0_0:Int) (b0_1:Int) (b0_3:Int) (b1:o7) (_b2:o5) (l0:List A6):Option (Int × Int × List A6 × Int × o5 × Bool):=
 (a3Q b1).bind fun r1=>
 chk (decide ((0:Int)<=v6/\v6 < (((List.length l0):Nat):Int))) <|
 chk (decide ((Int.toNat v6) < (List.length l0))) <|
 chk (decide ((0:Int)<=v6/\v6 < (((List.length (List.set l0 (Int.toNat v6) (r1,(List.getD l0 (Int.toNat v6) C4).2))):Nat):Int))) <|
 chk (decide ((Int.toNat v6) < (List.length (List.set l0 (Int.toNat v6) (r1,(List.getD l0 (Int.toNat v6) C4).2))))) <|
 chk (decide ((0:Int)<=v6/\v6 < (((List.length (List.set (List.set l0 (Int.toNat v6) (r1,(List.getD l0 (Int.toNat v6) C4).2)) (Int.toNat v6) ((List.getD (List.set l0 (Int.toNat v6) (r1,(List.getD l0 (Int.toNat v6) C4).2)) (Int.toNat v6) C4).1,(List.getD (List.set l0 (Int.toNat v6) (r1,(List.getD l0 (Int.toNat v6) C4).2)) (Int.toNat v6) C4).2.1,true,(List.getD (List.set l0 (Int.toNat v6) (r1,(List.getD l0 (Int.toNat v6) C4).2)) (Int.toNat v6) C4).2.2.2))):Nat):Int))) <|
 chk (decide ((Int.toNat v6) < (List.length (List.set (List.set l0 (Int.toNat v6) (r1,(List.getD l0 (Int.toNat v6) C4).2)) (Int.toNat v6) ((List.getD (List.set l0 (Int.toNat v6) (r1,(List.getD l0 (Int.toNat v6) C4).2)) (Int.toNat v6) C4).1,(List.getD (List.set l0 (Int.toNat v6) (r1,(List.getD l0 (Int.toNat v6) C4).2)) (Int.toNat v6) C4).2.1,true,(List.getD (List.set l0 (Int.toNat v6) (r1,(List.getD l0 (Int.toNat v6) C4).2)) (Int.toNat v6) C4).2.2.2))))) <|
 some (b0_0,(C6 (b0_1 + 1)),(List.set (List.set l0 (Int.toNat v6) (r1,(List.getD l0 (Int.toNat v6) C4).2)) (Int.toNat v6) ((List.getD (List.set l0 (Int.toNat v6) (r1,(List.getD l0 (Int.toNat v6) C4).2)) (Int.toNat v6) C4).1,(List.getD (List.set l0 (Int.toNat v6) (r1,(List.getD l0 (Int.toNat v6) C4).2)) (Int.toNat v6) C4).2.1,true,(List.getD (List.set l0 (Int.toNat v6) (r1,(List.getD l0 (Int.toNat v6) C4).2)) (Int.toNat v6) C4).2.2.2)),b0_3,(v6,(List.getD (List.set (List.set l0 (Int.toNat v6) (r1,(List.getD l0 (Int.toNat v6) C4).2)) (Int.toNat v6) ((List.getD (List.set l0 (Int.toNat v6) (r1,(List.getD l0 (Int.toNat v6) C4).2)) (Int.toNat v6) C4).1,(List.getD (List.set l0 (Int.toNat v6) (r1,(List.getD l0 (Int.toNat v6) C4).2)) (Int.toNat v6) C4).2.1,true,(List.getD (List.set l0 (Int.toNat v6) (r1,(List.getD l0 (Int.toNat v6) C4).2)) (Int.toNat v6) C4).2.2.2)) (Int.toNat v6) C4).2.1),true)
def a1t (a0_0:Int) (a0_1:Int) (a0_2:List A6) (a0_3:Int) (a1:o7):Option (Int × Int × List A6 × Int × o5 × Bool):=
 sel (decide (a0_1=a0_0)) (
  some (a0_0,a0_1,a0_2,a0_3,((0:Int),(0:Int)),false)) (
  sel (decide (a0_3 < 0)) (
   chk (decide (((List.length a0_2) + 1) * 168<=LIM/\(List.length a0_2) + 1<=LEN)) <|
   S2 (((List.length a0_2):Nat):Int) a0_0 a0_1 a0_3 a1 ((0:Int),(0:Int)) (a0_2 ++ ([(((Vector.replicate 32 (0:UInt8)),[],[],(0:Int),(0:Int),(0:Int),(0:Int),(0:Int),(0:Int),[]),(0:Int),false,(0:Int))]:List A6))) (
   chk (decide ((0:Int)<=a0_3/\a0_3 < (((List.length a0_2):Nat):Int))) <|
   chk (decide ((Int.toNat a0_3) < (List.length a0_2))) <|
   S2 a0_3 a0_0 a0_1 (List.getD a0_2 (Int.toNat a0_3) C4).2.2.2 a1 ((0:Int),(0:Int)) a0_2))
def a18 (a0:o9) (a1:o9):Option (Bool):=
 sel (!decide (a0.2.1=a1.2.1)) (
  some (decide (a1.2.1 < a0.2.1))) (
  sel (!decide (a0.2.2=a1.2.2)) (
   some (decide (a0.2.2 < a1.2.2))) (
   some (decide (a0.1 < a1.1))))
def U4 (a0_0:List o9) (a0_1:List o5) (a1:Int) (a2:Int):Option (List o9 × List o5):=
 chk (decide ((0:Int)<=a2/\a2 < (((List.length a0_0):Nat):Int))) <|
 chk (decide ((Int.toNat a2) < (List.length a0_0))) <|
 chk (decide ((0:Int)<=a1/\a1 < (((List.length a0_0):Nat):Int))) <|
 chk (decide ((Int.toNat a1) < (List.length a0_0))) <|
 chk (decide ((0:Int)<=a1/\a1 < (((List.length a0_0):Nat):Int))) <|
 chk (decide ((Int.toNat a1) < (List.length a0_0))) <|
 chk (decide ((0:Int)<=a2/\a2 < (((List.length (List.set a0_0 (Int.toNat a1) (List.getD a0_0 (Int.toNat a2) C3))):Nat):Int))) <|
 chk (decide ((Int.toNat a2) < (List.length (List.set a0_0 (Int.toNat a1) (List.getD a0_0 (Int.toNat a2) C3))))) <|
 chk (decide ((0:Int)<=a1/\a1 < (((List.length (List.set (List.set a0_0 (Int.toNat a1) (List.getD a0_0 (Int.toNat a2) C3)) (Int.toNat a2) (List.getD a0_0 (Int.toNat a1) C3))):Nat):Int))) <|
 chk (decide ((Int.toNat a1) < (List.length (List.set (List.set a0_0 (Int.toNat a1) (List.getD a0_0 (Int.toNat a2) C3)) (Int.toNat a2) (List.getD a0_0 (Int.toNat a1) C3))))) <|
 chk (decide ((0:Int)<=a2/\a2 < (((List.length (List.set (List.set a0_0 (Int.toNat a1) (List.getD a0_0 (Int.toNat a2) C3)) (Int.toNat a2) (List.getD a0_0 (Int.toNat a1) C3))):Nat):Int))) <|
 chk (decide ((Int.toNat a2) < (List.length (List.set (List.set a0_0 (Int.toNat a1) (List.getD a0_0 (Int.toNat a2) C3)) (Int.toNat a2) (List.getD a0_0 (Int.toNat a1) C3))))) <|
 some ((List.set (List.set a0_0 (Int.toNat a1) (List.getD a0_0 (Int.toNat a2) C3)) (Int.toNat a2) (List.getD a0_0 (Int.toNat a1) C3)),(a1V J8 (List.getD (List.set (List.set a0_0 (Int.toNat a1) (List.getD a0_0 (Int.toNat a2) C3)) (Int.toNat a2) (List.getD a0_0 (Int.toNat a1) C3)) (Int.toNat a2) C3).1 a2 (a1V J8 (List.getD (List.set (List.set a0_0 (Int.toNat a1) (List.getD a0_0 (Int.toNat a2) C3)) (Int.toNat a2) (List.getD a0_0 (Int.toNat a1) C3)) (Int.toNat a2) C3).1 (W4 J8 (List.getD (List.set (List.set a0_0 (Int.toNat a1) (List.getD a0_0 (Int.toNat a2) C3)) (Int.toNat a2) (List.getD a0_0 (Int.toNat a1) C3)) (Int.toNat a2) C3).1 (0:Int) (a1V J8 (List.getD (List.set (List.set a0_0 (Int.toNat a1) (List.getD a0_0 (Int.toNat a2) C3)) (Int.toNat a2) (List.getD a0_0 (Int.toNat a1) C3)) (Int.toNat a1) C3).1 a1 (a1V J8 (List.getD (List.set (List.set a0_0 (Int.toNat a1) (List.getD a0_0 (Int.toNat a2) C3)) (Int.toNat a2) (List.getD a0_0 (Int.toNat a1) C3)) (Int.toNat a1) C3).1 (W4 J8 (List.getD (List.set (List.set a0_0 (Int.toNat a1) (List.getD a0_0 (Int.toNat a2) C3)) (Int.toNat a2) (List.getD a0_0 (Int.toNat a1) C3)) (Int.toNat a1) C3).1 (0:Int) a0_1) a0_1))) (a1V J8 (List.getD (List.set (List.set a0_0 (Int.toNat a1) (List.getD a0_0 (Int.toNat a2) C3)) (Int.toNat a2) (List.getD a0_0 (Int.toNat a1) C3)) (Int.toNat a1) C3).1 a1 (a1V J8 (List.getD (List.set (List.set a0_0 (Int.toNat a1) (List.getD a0_0 (Int.toNat a2) C3)) (Int.toNat a2) (List.getD a0_0 (Int.toNat a1) C3)) (Int.toNat a1) C3).1 (W4 J8 (List.getD (List.set (List.set a0_0 (Int.toNat a1) (List.getD a0_0 (Int.toNat a2) C3)) (Int.toNat a2) (List.getD a0_0 (Int.toNat a1) C3)) (Int.toNat a1) C3).1 (0:Int) a0_1) a0_1)))))
def a2H (v1:Int) (l0:List o9) (l1:List o5):Option ((Int × List o9 × List o5) ⊕ (List o9 × List o5)):=
 sel (decide (0 < v1)) (
  chk (decide ((0:Int)<=v1/\v1 < (((List.length l0):Nat):Int))) <|
  chk (decide ((Int.toNat v1) < (List.length l0))) <|
  chk (decide ((0:Int)<=(C6 (Int.tdiv (C6 (v1 - 1)) 2))/\(C6 (Int.tdiv (C6 (v1 - 1)) 2)) < (((List.length l0):Nat):Int))) <|
  chk (decide ((Int.toNat (C6 (Int.tdiv (C6 (v1 - 1)) 2))) < (List.length l0))) <|
  (a18 (List.getD l0 (Int.toNat v1) C3) (List.getD l0 (Int.toNat (C6 (Int.tdiv (C6 (v1 - 1)) 2))) C3)).bind fun r1=>
  sel r1 (
   (U4 l0 l1 v1 (C6 (Int.tdiv (C6 (v1 - 1)) 2))).bind fun r2=>
   some (.inl ((C6 (Int.tdiv (C6 (v1 - 1)) 2)),r2.1,r2.2))) (
   some (.inr (l0,l1)))) (
  some (.inr (l0,l1)))
def a4f (v1:Int) (l0:List o9) (l1:List o5):Option (List o9 × List o5):=
 Q9 (fun v=>a2H v.1 v.2.1 v.2.2) (v1,l0,l1)
def a1l (a0_0:List o9) (a0_1:List o5) (a1:Int):Option (List o9 × List o5):=
 a4f a1 a0_0 a0_1
def a1u (a0_0:List o9) (a0_1:List o5) (a1:o9):Option (List o9 × List o5 × Bool):=
 sel (Option.isSome (a1r J8 a1.1 a0_1)) (
  some (a0_0,a0_1,false)) (
  chk (decide (((List.length a0_0) + 1) * 24<=LIM/\(List.length a0_0) + 1<=LEN)) <|
  (a1l (a0_0 ++ ([a1]:List o9)) (a1V J8 a1.1 (C6 ((((List.length (a0_0 ++ ([a1]:List o9))):Nat):Int) - 1)) a0_1) (C6 ((((List.length (a0_0 ++ ([a1]:List o9))):Nat):Int) - 1))).bind fun r1=>
  some (r1.1,r1.2,true))
def V0 (a0_0:Int) (a0_1:Int) (a0_2:List (Int × o5)) (a1:Int) (a2:Int) (a3:Int):Option (Int × Int × (List (Int × o5)) × Bool):=
 sel (Option.isSome (a1r J8 a1 a0_2)) (
  some (a0_0,a0_1,a0_2,false)) (
  some (a0_0,a0_1,(a1V J8 a1 (a2,a3) a0_2),true))
def K4 (v9:Bool) (b0_0:A0) (b0_7:Int) (b1_0:Int) (b1_1:Int) (b1_3:Int) (b3_1:Int) (b4_0:Int) (b4_1:Int) (b5:o7) (b6:o5) (l0:List A6) (l1:List o9) (l2:List o5) (l3:List (List UInt8 × List A1)) (l4:List (Int × o5)) (l5:List (Int × o5)) (l6:List (List UInt8 × Int)):Option (A0 × Int × Int × List A6 × Int × List o9 × List o5 × (List (List UInt8 × List A1)) × Int × Int × Int × (List (Int × o5)) × (List (Int × o5)) × (List (List UInt8 × Int)) × Int × Int):=
 sel (!v9) (
  (H9 l3 b3_1 b5.2.2.1 b5.2.2.2.1).bind fun r2=>
  some (b0_0,b1_0,b1_1,l0,b1_3,l1,l2,r2.1,r2.2.1,b4_0,b4_1,l4,l5,l6,b0_7,24)) (
  (a1u l1 l2 (b0_7,b5.2.2.2.2.2.1,b5.2.2.2.2.2.2.2.2.1)).bind fun r3=>
  (V0 b4_0 b4_1 l4 b0_7 b5.2.2.2.2.2.2.1 b5.2.2.2.2.2.2.2.1).bind fun r4=>
  some (b0_0,b1_0,b1_1,l0,b1_3,r3.1,r3.2.1,l3,b3_1,r4.1,r4.2.1,r4.2.2.1,(a1V J8 b0_7 b6 (a1V J8 b0_7 (W4 J8 b0_7 U8 l5) l5)),(a1V D3 (Vector.toList b5.1) b0_7 (a1V D3 (Vector.toList b5.1) (W4 D3 (Vector.toList b5.1) (0:Int) l6) l6)),(C6 (b0_7 + 1)),0))
def K5 (v7:Bool) (b0_0:A0) (b0_7:Int) (b1_0:Int) (b1_1:Int) (b1_3:Int) (b3_1:Int) (b4_0:Int) (b4_1:Int) (b5:o7) (l0:List A6) (l1:List o9) (l2:List o5) (l3:List (List UInt8 × List A1)) (l4:List (Int × o5)) (l5:List (Int × o5)) (l6:List (List UInt8 × Int)):Option (A0 × Int × Int × List A6 × Int × List o9 × List o5 × (List (List UInt8 × List A1)) × Int × Int × Int × (List (Int × o5)) × (List (Int × o5)) × (List (List UInt8 × Int)) × Int × Int):=
 sel (!v7) (
  (a1t b1_0 b1_1 l0 b1_3 b5).bind fun r5=>
  K4 r5.2.2.2.2.2 b0_0 b0_7 r5.1 r5.2.1 r5.2.2.2.1 b3_1 b4_0 b4_1 b5 r5.2.2.2.2.1 r5.2.2.1 l1 l2 l3 l4 l5 l6) (
  K4 false b0_0 b0_7 b1_0 b1_1 b1_3 b3_1 b4_0 b4_1 b5 ((0:Int),(0:Int)) l0 l1 l2 l3 l4 l5 l6)
def F7 (a0_0:A0) (a0_1_0:Int) (a0_1_1:Int) (a0_1_2:List A6) (a0_1_3:Int) (a0_2_0:List o9) (a0_2_1:List o5) (a0_3_0:List (List UInt8 × List A1)) (a0_3_1:Int) (a0_4_0:Int) (a0_4_1:Int) (a0_4_2:List (Int × o5)) (a0_5:List (Int × o5)) (a0_6:List (List UInt8 × Int)) (a0_7:Int) (a1:o7):Option (A0 × Int × Int × List A6 × Int × List o9 × List o5 × (List (List UInt8 × List A1)) × Int × Int × Int × (List (Int × o5)) × (List (Int × o5)) × (List (List UInt8 × Int)) × Int × Int):=
 sel (Option.isSome (a1r D3 (Vector.toList a1.1) a0_6)) (
  some (a0_0,a0_1_0,a0_1_1,a0_1_2,a0_1_3,a0_2_0,a0_2_1,a0_3_0,a0_3_1,a0_4_0,a0_4_1,a0_4_2,a0_5,a0_6,a0_7,8)) (
  (a0z a0_3_0 a0_3_1 a1.2.2.1 a1.2.2.2.1 a0_7).bind fun r1=>
  sel (!r1.2.2) (
   some (a0_0,a0_1_0,a0_1_1,a0_1_2,a0_1_3,a0_2_0,a0_2_1,r1.1,r1.2.1,a0_4_0,a0_4_1,a0_4_2,a0_5,a0_6,a0_7,9)) (
   (a0e a0_1_0 a0_1_1 a0_1_2 a0_1_3).bind fun r6=>
   sel (decide (a0_0.1<=r6.2.2.2.2)) (
    K5 true a0_0 a0_7 r6.1 r6.2.1 r6.2.2.2.1 r1.2.1 a0_4_0 a0_4_1 a1 r6.2.2.1 a0_2_0 a0_2_1 r1.1 a0_4_2 a0_5 a0_6) (
    (L5 r6.1 r6.2.1 r6.2.2.1 r6.2.2.2.1).bind fun r7=>
    K5 (decide ((C6 (a0_0.2.1 - r7.2.2.2.2)) < (((List.length a1.2.1):Nat):Int))) a0_0 a0_7 r7.1 r7.2.1 r7.2.2.2.1 r1.2.1 a0_4_0 a0_4_1 a1 r7.2.2.1 a0_2_0 a0_2_1 r1.1 a0_4_2 a0_5 a0_6)))
def J5 (a0:List o9):Option ((List o9) × List o9):=c0e (u:=B1) 24 a0
def G7 (a0:List o9):Option (List o9):=chk (Nat.blt a0.length 4611686018427387904) (some (c3c (C3) a7S a0))
def a0A (a0_0:List o9) (a0_1:List o5):Option (List o9 × List o5 × List o9):=
 (J5 a0_0).bind fun r1=>
 (G7 r1.2).bind fun r2=>
 some (r1.1,a0_1,r2)
def a0f (a0_0:Int) (a0_1:Int) (a0_2:List A6) (a0_3:Int) (a1:o5):Option (Int × Int × List A6 × Int × Bool):=
 sel (decide (0<=a1.1)) (
  sel (decide (a1.1 < (((List.length a0_2):Nat):Int))) (
   chk (decide ((0:Int)<=a1.1/\a1.1 < (((List.length a0_2):Nat):Int))) <|
   chk (decide ((Int.toNat a1.1) < (List.length a0_2))) <|
   sel ((List.getD a0_2 (Int.toNat a1.1) C4).2.2.1) (
    chk (decide ((0:Int)<=a1.1/\a1.1 < (((List.length a0_2):Nat):Int))) <|
    chk (decide ((Int.toNat a1.1) < (List.length a0_2))) <|
    some (a0_0,a0_1,a0_2,a0_3,(decide ((List.getD a0_2 (Int.toNat a1.1) C4).2.1=a1.2)))) (
    some (a0_0,a0_1,a0_2,a0_3,false))) (
   some (a0_0,a0_1,a0_2,a0_3,false))) (
  some (a0_0,a0_1,a0_2,a0_3,false))
def U5 (a0_0:Int) (a0_1:Int) (a0_2:List A6) (a0_3:Int) (a1:o5):Option (Int × Int × List A6 × Int × o7 × Bool):=
 (a0f a0_0 a0_1 a0_2 a0_3 a1).bind fun r1=>
 sel (!r1.2.2.2.2) (
  some (r1.1,r1.2.1,r1.2.2.1,r1.2.2.2.1,((Vector.replicate 32 (0:UInt8)),[],[],(0:Int),(0:Int),(0:Int),(0:Int),(0:Int),(0:Int),[]),false)) (
  chk (decide ((0:Int)<=a1.1/\a1.1 < (((List.length r1.2.2.1):Nat):Int))) <|
  chk (decide ((Int.toNat a1.1) < (List.length r1.2.2.1))) <|
  (a3Q (List.getD r1.2.2.1 (Int.toNat a1.1) C4).1).bind fun r2=>
  some (r1.1,r1.2.1,r1.2.2.1,r1.2.2.2.1,r2,true))
def a0X (v10:List Int) (v11:Int) (v12:Int) (b0_0:A0) (b0_7:Int) (b1_0:Int) (b1_1:Int) (b1_3:Int) (b3_1:Int) (b4_0:Int) (b4_1:Int) (l0:List A6) (l1:List o9) (l2:List o5) (l3:List (List UInt8 × List A1)) (l4:List (Int × o5)) (l5:List (Int × o5)) (l6:List (List UInt8 × Int)) (l7:List o7):Option ((List Int × Int × Int × A0 × Int × Int × Int × Int × Int × Int × Int × List A6 × List o9 × List o5 × (List (List UInt8 × List A1)) × (List (Int × o5)) × (List (Int × o5)) × (List (List UInt8 × Int)) × List o7) ⊕ (A0 × Int × Int × List A6 × Int × List o9 × List o5 × (List (List UInt8 × List A1)) × Int × Int × Int × (List (Int × o5)) × (List (Int × o5)) × (List (List UInt8 × Int)) × Int × List o7)):=
 sel (decide (v12 < v11)) (
  chk (decide ((0:Int)<=v12/\v12 < (((List.length v10):Nat):Int))) <|
  (U5 b1_0 b1_1 l0 b1_3 (W4 J8 (List.getD v10 (Int.toNat v12) (0:Int)) U8 l5)).bind fun r1=>
  chk (decide (((List.length l7) + 1) * 144<=LIM/\(List.length l7) + 1<=LEN)) <|
  some (.inl (v10,v11,(C6 (v12 + 1)),b0_0,b0_7,r1.1,r1.2.1,r1.2.2.2.1,b3_1,b4_0,b4_1,r1.2.2.1,l1,l2,l3,l4,l5,l6,(l7 ++ ([r1.2.2.2.2.1]:List o7))))) (
  some (.inr (b0_0,b1_0,b1_1,l0,b1_3,l1,l2,l3,b3_1,b4_0,b4_1,l4,l5,l6,b0_7,l7)))
def a4g (v10:List Int) (v11:Int) (v12:Int) (b0_0:A0) (b0_7:Int) (b1_0:Int) (b1_1:Int) (b1_3:Int) (b3_1:Int) (b4_0:Int) (b4_1:Int) (l0:List A6) (l1:List o9) (l2:List o5) (l3:List (List UInt8 × List A1)) (l4:List (Int × o5)) (l5:List (Int × o5)) (l6:List (List UInt8 × Int)) (l7:List o7):Option (A0 × Int × Int × List A6 × Int × List o9 × List o5 × (List (List UInt8 × List A1)) × Int × Int × Int × (List (Int × o5)) × (List (Int × o5)) × (List (List UInt8 × Int)) × Int × List o7):=
 Q9 (fun v=>a0X v.1 v.2.1 v.2.2.1 v.2.2.2.1 v.2.2.2.2.1 v.2.2.2.2.2.1 v.2.2.2.2.2.2.1 v.2.2.2.2.2.2.2.1 v.2.2.2.2.2.2.2.2.1 v.2.2.2.2.2.2.2.2.2.1 v.2.2.2.2.2.2.2.2.2.2.1 v.2.2.2.2.2.2.2.2.2.2.2.1 v.2.2.2.2.2.2.2.2.2.2.2.2.1 v.2.2.2.2.2.2.2.2.2.2.2.2.2.1 v.2.2.2.2.2.2.2.2.2.2.2.2.2.2.1 v.2.2.2.2.2.2.2.2.2.2.2.2.2.2.2.1 v.2.2.2.2.2.2.2.2.2.2.2.2.2.2.2.2.1 v.2.2.2.2.2.2.2.2.2.2.2.2.2.2.2.2.2.1 v.2.2.2.2.2.2.2.2.2.2.2.2.2.2.2.2.2.2) (v10,v11,v12,b0_0,b0_7,b1_0,b1_1,b1_3,b3_1,b4_0,b4_1,l0,l1,l2,l3,l4,l5,l6,l7)
def W6 (a0_0:A0) (a0_1_0:Int) (a0_1_1:Int) (a0_1_2:List A6) (a0_1_3:Int) (a0_2_0:List o9) (a0_2_1:List o5) (a0_3_0:List (List UInt8 × List A1)) (a0_3_1:Int) (a0_4_0:Int) (a0_4_1:Int) (a0_4_2:List (Int × o5)) (a0_5:List (Int × o5)) (a0_6:List (List UInt8 × Int)) (a0_7:Int) (a1:List Int):Option (A0 × Int × Int × List A6 × Int × List o9 × List o5 × (List (List UInt8 × List A1)) × Int × Int × Int × (List (Int × o5)) × (List (Int × o5)) × (List (List UInt8 × Int)) × Int × List o7):=
 a4g a1 (((List.length a1):Nat):Int) 0 a0_0 a0_7 a0_1_0 a0_1_1 a0_1_3 a0_3_1 a0_4_0 a0_4_1 a0_1_2 a0_2_0 a0_2_1 a0_3_0 a0_4_2 a0_5 a0_6 []
def a0P (b0_0:A0) (b0_7:Int) (b1_0:Int) (b1_1:Int) (b1_3:Int) (b3_1:Int) (b4_0:Int) (b4_1:Int) (l0:List A6) (l1:List o9) (l2:List o5) (l3:List (List UInt8 × List A1)) (l4:List (Int × o5)) (l5:List (Int × o5)) (l6:List (List UInt8 × Int)) (l7:List Int):Option (A0 × Int × Int × List A6 × Int × List o9 × List o5 × (List (List UInt8 × List A1)) × Int × Int × Int × (List (Int × o5)) × (List (Int × o5)) × (List (List UInt8 × Int)) × Int × List o7):=
 (W6 b0_0 b1_0 b1_1 l0 b1_3 l1 l2 l3 b3_1 b4_0 b4_1 l4 l5 l6 b0_7 l7).bind fun r1=>
 some (r1.1,r1.2.1,r1.2.2.1,r1.2.2.2.1,r1.2.2.2.2.1,r1.2.2.2.2.2.1,r1.2.2.2.2.2.2.1,r1.2.2.2.2.2.2.2.1,r1.2.2.2.2.2.2.2.2.1,r1.2.2.2.2.2.2.2.2.2.1,r1.2.2.2.2.2.2.2.2.2.2.1,r1.2.2.2.2.2.2.2.2.2.2.2.1,r1.2.2.2.2.2.2.2.2.2.2.2.2.1,r1.2.2.2.2.2.2.2.2.2.2.2.2.2.1,r1.2.2.2.2.2.2.2.2.2.2.2.2.2.2.1,r1.2.2.2.2.2.2.2.2.2.2.2.2.2.2.2)
def V1 (v13:Int) (v14:Int) (b0_0:A0) (b0_7:Int) (b1_0:Int) (b1_1:Int) (b1_3:Int) (b3_1:Int) (b4_0:Int) (b4_1:Int) (l0:List A6) (l1:List o9) (l2:List o5) (l3:List (List UInt8 × List A1)) (l4:List (Int × o5)) (l5:List (Int × o5)) (l6:List (List UInt8 × Int)) (l7:List Int) (l8:List o9):Option ((Int × Int × A0 × Int × Int × Int × Int × Int × Int × Int × List A6 × List o9 × List o5 × (List (List UInt8 × List A1)) × (List (Int × o5)) × (List (Int × o5)) × (List (List UInt8 × Int)) × List Int × List o9) ⊕ (A0 × Int × Int × List A6 × Int × List o9 × List o5 × (List (List UInt8 × List A1)) × Int × Int × Int × (List (Int × o5)) × (List (Int × o5)) × (List (List UInt8 × Int)) × Int × List o7)):=
 sel (decide (v14 < v13)) (
  chk (decide ((0:Int)<=v14/\v14 < (((List.length l8):Nat):Int))) <|
  chk (decide ((Int.toNat v14) < (List.length l8))) <|
  chk (decide (((List.length l7) + 1) * 8<=LIM/\(List.length l7) + 1<=LEN)) <|
  some (.inl (v13,(C6 (v14 + 1)),b0_0,b0_7,b1_0,b1_1,b1_3,b3_1,b4_0,b4_1,l0,l1,l2,l3,l4,l5,l6,(l7 ++ [(List.getD l8 (Int.toNat v14) C3).1]),l8))) (
  Option.map .inr (
   a0P b0_0 b0_7 b1_0 b1_1 b1_3 b3_1 b4_0 b4_1 l0 l1 l2 l3 l4 l5 l6 l7))
def a2v (v13:Int) (v14:Int) (b0_0:A0) (b0_7:Int) (b1_0:Int) (b1_1:Int) (b1_3:Int) (b3_1:Int) (b4_0:Int) (b4_1:Int) (l0:List A6) (l1:List o9) (l2:List o5) (l3:List (List UInt8 × List A1)) (l4:List (Int × o5)) (l5:List (Int × o5)) (l6:List (List UInt8 × Int)) (l7:List Int) (l8:List o9):Option (A0 × Int × Int × List A6 × Int × List o9 × List o5 × (List (List UInt8 × List A1)) × Int × Int × Int × (List (Int × o5)) × (List (Int × o5)) × (List (List UInt8 × Int)) × Int × List o7):=
 Q9 (fun v=>V1 v.1 v.2.1 v.2.2.1 v.2.2.2.1 v.2.2.2.2.1 v.2.2.2.2.2.1 v.2.2.2.2.2.2.1 v.2.2.2.2.2.2.2.1 v.2.2.2.2.2.2.2.2.1 v.2.2.2.2.2.2.2.2.2.1 v.2.2.2.2.2.2.2.2.2.2.1 v.2.2.2.2.2.2.2.2.2.2.2.1 v.2.2.2.2.2.2.2.2.2.2.2.2.1 v.2.2.2.2.2.2.2.2.2.2.2.2.2.1 v.2.2.2.2.2.2.2.2.2.2.2.2.2.2.1 v.2.2.2.2.2.2.2.2.2.2.2.2.2.2.2.1 v.2.2.2.2.2.2.2.2.2.2.2.2.2.2.2.2.1 v.2.2.2.2.2.2.2.2.2.2.2.2.2.2.2.2.2.1 v.2.2.2.2.2.2.2.2.2.2.2.2.2.2.2.2.2.2) (v13,v14,b0_0,b0_7,b1_0,b1_1,b1_3,b3_1,b4_0,b4_1,l0,l1,l2,l3,l4,l5,l6,l7,l8)
def J0 (a0_0:A0) (a0_1_0:Int) (a0_1_1:Int) (a0_1_2:List A6) (a0_1_3:Int) (a0_2_0:List o9) (a0_2_1:List o5) (a0_3_0:List (List UInt8 × List A1)) (a0_3_1:Int) (a0_4_0:Int) (a0_4_1:Int) (a0_4_2:List (Int × o5)) (a0_5:List (Int × o5)) (a0_6:List (List UInt8 × Int)) (a0_7:Int):Option (A0 × Int × Int × List A6 × Int × List o9 × List o5 × (List (List UInt8 × List A1)) × Int × Int × Int × (List (Int × o5)) × (List (Int × o5)) × (List (List UInt8 × Int)) × Int × List o7):=
 (a0A a0_2_0 a0_2_1).bind fun r2=>
 a2v (((List.length r2.2.2):Nat):Int) 0 a0_0 a0_7 a0_1_0 a0_1_1 a0_1_3 a0_3_1 a0_4_0 a0_4_1 a0_1_2 r2.1 r2.2.1 a0_3_0 a0_4_2 a0_5 a0_6 [] r2.2.2
def P4 (a0_0:A0) (a0_1_0:Int) (a0_1_1:Int) (a0_1_2:List A6) (a0_1_3:Int) (a0_2_0:List o9) (a0_2_1:List o5) (a0_3_0:List (List UInt8 × List A1)) (a0_3_1:Int) (a0_4_0:Int) (a0_4_1:Int) (a0_4_2:List (Int × o5)) (a0_5:List (Int × o5)) (a0_6:List (List UInt8 × Int)) (a0_7:Int) (a1:List UInt8):Option (A0 × Int × Int × List A6 × Int × List o9 × List o5 × (List (List UInt8 × List A1)) × Int × Int × Int × (List (Int × o5)) × (List (Int × o5)) × (List (List UInt8 × Int)) × Int × List o7):=
 (S1 a0_3_0 a0_3_1 a1).bind fun r1=>
 (W6 a0_0 a0_1_0 a0_1_1 a0_1_2 a0_1_3 a0_2_0 a0_2_1 r1.1 r1.2.1 a0_4_0 a0_4_1 a0_4_2 a0_5 a0_6 a0_7 r1.2.2).bind fun r2=>
 some (r2.1,r2.2.1,r2.2.2.1,r2.2.2.2.1,r2.2.2.2.2.1,r2.2.2.2.2.2.1,r2.2.2.2.2.2.2.1,r2.2.2.2.2.2.2.2.1,r2.2.2.2.2.2.2.2.2.1,r2.2.2.2.2.2.2.2.2.2.1,r2.2.2.2.2.2.2.2.2.2.2.1,r2.2.2.2.2.2.2.2.2.2.2.2.1,r2.2.2.2.2.2.2.2.2.2.2.2.2.1,r2.2.2.2.2.2.2.2.2.2.2.2.2.2.1,r2.2.2.2.2.2.2.2.2.2.2.2.2.2.2.1,r2.2.2.2.2.2.2.2.2.2.2.2.2.2.2.2)
def a3H (a0:Int) (a1:Int) (a2:Int):Option (Bool):=
 sel (decide (0 < a2)) (
  sel (decide (a1 < a0)) (
   some (decide ((a3P a2) < (a3P ((a3P a0) - (a3P a1)))))) (
   some false)) (
  some false)
def N8 (v1:Int) (v2:Int) (v19:Int) (v20:Int) (b0_0:Int) (b0_1:Int) (l0:List (Int × o5)) (l1:List Int) (l2:List Int):Option ((Int × Int × Int × Int × Int × Int × (List (Int × o5)) × List Int × List Int) ⊕ (Int × Int × (List (Int × o5)) × List Int)):=
 sel (decide (v20 < v19)) (
  chk (decide ((0:Int)<=v20/\v20 < (((List.length l2):Nat):Int))) <|
  chk (decide ((Int.toNat v20) < (List.length l2))) <|
  (a3H v1 (W4 J8 (List.getD l2 (Int.toNat v20) (0:Int)) U8 l0).1 b0_0).bind fun r1=>
  sel r1 (
   chk (decide (((List.length l1) + 1) * 8<=LIM/\(List.length l1) + 1<=LEN)) <|
   some (.inl (v1,v2,v19,(C6 (v20 + 1)),b0_0,b0_1,l0,(l1 ++ [(List.getD l2 (Int.toNat v20) (0:Int))]),l2))) (
   (a3H v2 (W4 J8 (List.getD l2 (Int.toNat v20) (0:Int)) U8 l0).2 b0_1).bind fun r2=>
   sel r2 (
    chk (decide (((List.length l1) + 1) * 8<=LIM/\(List.length l1) + 1<=LEN)) <|
    some (.inl (v1,v2,v19,(C6 (v20 + 1)),b0_0,b0_1,l0,(l1 ++ [(List.getD l2 (Int.toNat v20) (0:Int))]),l2))) (
    some (.inl (v1,v2,v19,(C6 (v20 + 1)),b0_0,b0_1,l0,l1,l2))))) (
  some (.inr (b0_0,b0_1,l0,l1)))
def a06 (v1:Int) (v2:Int) (v19:Int) (v20:Int) (b0_0:Int) (b0_1:Int) (l0:List (Int × o5)) (l1:List Int) (l2:List Int):Option (Int × Int × (List (Int × o5)) × List Int):=
 Q9 (fun v=>N8 v.1 v.2.1 v.2.2.1 v.2.2.2.1 v.2.2.2.2.1 v.2.2.2.2.2.1 v.2.2.2.2.2.2.1 v.2.2.2.2.2.2.2.1 v.2.2.2.2.2.2.2.2) (v1,v2,v19,v20,b0_0,b0_1,l0,l1,l2)
def T4 (a0_0:Int) (a0_1:Int) (a0_2:List (Int × o5)) (a1:Int) (a2:Int):Option (Int × Int × (List (Int × o5)) × List Int):=
 chk (a5e (D1 a0_2)) <|
 a06 a1 a2 (((List.length (a4b (D1 a0_2))):Nat):Int) 0 a0_0 a0_1 a0_2 [] (a4b (D1 a0_2))
def T5 (v21:Int) (v22:Int) (b0_0:A0) (b0_7:Int) (b1_0:Int) (b1_1:Int) (b1_3:Int) (b3_1:Int) (b4_0:Int) (b4_1:Int) (l0:List (Vector UInt8 32)) (l1:List o7) (l2:List A6) (l3:List o9) (l4:List o5) (l5:List (List UInt8 × List A1)) (l6:List (Int × o5)) (l7:List (Int × o5)) (l8:List (List UInt8 × Int)):Option ((Int × Int × A0 × Int × Int × Int × Int × Int × Int × Int × List (Vector UInt8 32) × List o7 × List A6 × List o9 × List o5 × (List (List UInt8 × List A1)) × (List (Int × o5)) × (List (Int × o5)) × List (List UInt8 × Int)) ⊕ (A0 × Int × Int × List A6 × Int × List o9 × List o5 × (List (List UInt8 × List A1)) × Int × Int × Int × (List (Int × o5)) × (List (Int × o5)) × (List (List UInt8 × Int)) × Int × List (Vector UInt8 32))):=
 sel (decide (v22 < v21)) (
  chk (decide ((0:Int)<=v22/\v22 < (((List.length l1):Nat):Int))) <|
  chk (decide ((Int.toNat v22) < (List.length l1))) <|
  chk (decide (((List.length l0) + 1) * 32<=LIM/\(List.length l0) + 1<=LEN)) <|
  some (.inl (v21,(C6 (v22 + 1)),b0_0,b0_7,b1_0,b1_1,b1_3,b3_1,b4_0,b4_1,(l0 ++ [(List.getD l1 (Int.toNat v22) B7).1]),l1,l2,l3,l4,l5,l6,l7,l8))) (
  some (.inr (b0_0,b1_0,b1_1,l2,b1_3,l3,l4,l5,b3_1,b4_0,b4_1,l6,l7,l8,b0_7,l0)))
def a19 (v21:Int) (v22:Int) (b0_0:A0) (b0_7:Int) (b1_0:Int) (b1_1:Int) (b1_3:Int) (b3_1:Int) (b4_0:Int) (b4_1:Int) (l0:List (Vector UInt8 32)) (l1:List o7) (l2:List A6) (l3:List o9) (l4:List o5) (l5:List (List UInt8 × List A1)) (l6:List (Int × o5)) (l7:List (Int × o5)) (l8:List (List UInt8 × Int)):Option (A0 × Int × Int × List A6 × Int × List o9 × List o5 × (List (List UInt8 × List A1)) × Int × Int × Int × (List (Int × o5)) × (List (Int × o5)) × (List (List UInt8 × Int)) × Int × List (Vector UInt8 32)):=
 Q9 (fun v=>T5 v.1 v.2.1 v.2.2.1 v.2.2.2.1 v.2.2.2.2.1 v.2.2.2.2.2.1 v.2.2.2.2.2.2.1 v.2.2.2.2.2.2.2.1 v.2.2.2.2.2.2.2.2.1 v.2.2.2.2.2.2.2.2.2.1 v.2.2.2.2.2.2.2.2.2.2.1 v.2.2.2.2.2.2.2.2.2.2.2.1 v.2.2.2.2.2.2.2.2.2.2.2.2.1 v.2.2.2.2.2.2.2.2.2.2.2.2.2.1 v.2.2.2.2.2.2.2.2.2.2.2.2.2.2.1 v.2.2.2.2.2.2.2.2.2.2.2.2.2.2.2.1 v.2.2.2.2.2.2.2.2.2.2.2.2.2.2.2.2.1 v.2.2.2.2.2.2.2.2.2.2.2.2.2.2.2.2.2.1 v.2.2.2.2.2.2.2.2.2.2.2.2.2.2.2.2.2.2) (v21,v22,b0_0,b0_7,b1_0,b1_1,b1_3,b3_1,b4_0,b4_1,l0,l1,l2,l3,l4,l5,l6,l7,l8)
def N3 (a0_0:A0) (a0_1_0:Int) (a0_1_1:Int) (a0_1_2:List A6) (a0_1_3:Int) (a0_2_0:List o9) (a0_2_1:List o5) (a0_3_0:List (List UInt8 × List A1)) (a0_3_1:Int) (a0_4_0:Int) (a0_4_1:Int) (a0_4_2:List (Int × o5)) (a0_5:List (Int × o5)) (a0_6:List (List UInt8 × Int)) (a0_7:Int) (a1:Int) (a2:Int):Option (A0 × Int × Int × List A6 × Int × List o9 × List o5 × (List (List UInt8 × List A1)) × Int × Int × Int × (List (Int × o5)) × (List (Int × o5)) × (List (List UInt8 × Int)) × Int × List (Vector UInt8 32)):=
 (T4 a0_4_0 a0_4_1 a0_4_2 a1 a2).bind fun r1=>
 (W6 a0_0 a0_1_0 a0_1_1 a0_1_2 a0_1_3 a0_2_0 a0_2_1 a0_3_0 a0_3_1 r1.1 r1.2.1 r1.2.2.1 a0_5 a0_6 a0_7 r1.2.2.2).bind fun r2=>
 a19 (((List.length r2.2.2.2.2.2.2.2.2.2.2.2.2.2.2.2):Nat):Int) 0 r2.1 r2.2.2.2.2.2.2.2.2.2.2.2.2.2.2.1 r2.2.1 r2.2.2.1 r2.2.2.2.2.1 r2.2.2.2.2.2.2.2.2.1 r2.2.2.2.2.2.2.2.2.2.1 r2.2.2.2.2.2.2.2.2.2.2.1 [] r2.2.2.2.2.2.2.2.2.2.2.2.2.2.2.2 r2.2.2.2.1 r2.2.2.2.2.2.1 r2.2.2.2.2.2.2.1 r2.2.2.2.2.2.2.2.1 r2.2.2.2.2.2.2.2.2.2.2.2.1 r2.2.2.2.2.2.2.2.2.2.2.2.2.1 r2.2.2.2.2.2.2.2.2.2.2.2.2.2.1
def S3 (a0_0:A0) (a0_1_0:Int) (a0_1_1:Int) (a0_1_2:List A6) (a0_1_3:Int) (a0_2_0:List o9) (a0_2_1:List o5) (a0_3_0:List (List UInt8 × List A1)) (a0_3_1:Int) (a0_4_0:Int) (a0_4_1:Int) (a0_4_2:List (Int × o5)) (a0_5:List (Int × o5)) (a0_6:List (List UInt8 × Int)) (a0_7:Int):Option (A0 × Int × Int × List A6 × Int × List o9 × List o5 × (List (List UInt8 × List A1)) × Int × Int × Int × (List (Int × o5)) × (List (Int × o5)) × (List (List UInt8 × Int)) × Int × Int):=
 (a0e a0_1_0 a0_1_1 a0_1_2 a0_1_3).bind fun r1=>
 some (a0_0,r1.1,r1.2.1,r1.2.2.1,r1.2.2.2.1,a0_2_0,a0_2_1,a0_3_0,a0_3_1,a0_4_0,a0_4_1,a0_4_2,a0_5,a0_6,a0_7,r1.2.2.2.2)
def R8 (a0_0:A0) (a0_1_0:Int) (a0_1_1:Int) (a0_1_2:List A6) (a0_1_3:Int) (a0_2_0:List o9) (a0_2_1:List o5) (a0_3_0:List (List UInt8 × List A1)) (a0_3_1:Int) (a0_4_0:Int) (a0_4_1:Int) (a0_4_2:List (Int × o5)) (a0_5:List (Int × o5)) (a0_6:List (List UInt8 × Int)) (a0_7:Int):Option (A0 × Int × Int × List A6 × Int × List o9 × List o5 × (List (List UInt8 × List A1)) × Int × Int × Int × (List (Int × o5)) × (List (Int × o5)) × (List (List UInt8 × Int)) × Int × Int):=
 (L5 a0_1_0 a0_1_1 a0_1_2 a0_1_3).bind fun r1=>
 some (a0_0,r1.1,r1.2.1,r1.2.2.1,r1.2.2.2.1,a0_2_0,a0_2_1,a0_3_0,a0_3_1,a0_4_0,a0_4_1,a0_4_2,a0_5,a0_6,a0_7,r1.2.2.2.2)
def D8:Option (Bool):=
 (a0W (2,10,5,(0:Int),1,(0:Int),false,10,(-1),(0:Int),(0:Int),1)).bind fun r1=>
 (D5 1 [(97:UInt8)] 1 5).bind fun r2=>
 (F7 r1.1 r1.2.1 r1.2.2.1 r1.2.2.2.1 r1.2.2.2.2.1 r1.2.2.2.2.2.1 r1.2.2.2.2.2.2.1 r1.2.2.2.2.2.2.2.1 r1.2.2.2.2.2.2.2.2.1 r1.2.2.2.2.2.2.2.2.2.1 r1.2.2.2.2.2.2.2.2.2.2.1 r1.2.2.2.2.2.2.2.2.2.2.2.1 r1.2.2.2.2.2.2.2.2.2.2.2.2.1 r1.2.2.2.2.2.2.2.2.2.2.2.2.2.1 r1.2.2.2.2.2.2.2.2.2.2.2.2.2.2 r2).bind fun r3=>
 (D5 2 [(97:UInt8)] 1 5).bind fun r4=>
 (F7 r3.1 r3.2.1 r3.2.2.1 r3.2.2.2.1 r3.2.2.2.2.1 r3.2.2.2.2.2.1 r3.2.2.2.2.2.2.1 r3.2.2.2.2.2.2.2.1 r3.2.2.2.2.2.2.2.2.1 r3.2.2.2.2.2.2.2.2.2.1 r3.2.2.2.2.2.2.2.2.2.2.1 r3.2.2.2.2.2.2.2.2.2.2.2.1 r3.2.2.2.2.2.2.2.2.2.2.2.2.1 r3.2.2.2.2.2.2.2.2.2.2.2.2.2.1 r3.2.2.2.2.2.2.2.2.2.2.2.2.2.2.1 r4).bind fun r5=>
 (D5 3 [(97:UInt8)] 0 9).bind fun r6=>
 (F7 r5.1 r5.2.1 r5.2.2.1 r5.2.2.2.1 r5.2.2.2.2.1 r5.2.2.2.2.2.1 r5.2.2.2.2.2.2.1 r5.2.2.2.2.2.2.2.1 r5.2.2.2.2.2.2.2.2.1 r5.2.2.2.2.2.2.2.2.2.1 r5.2.2.2.2.2.2.2.2.2.2.1 r5.2.2.2.2.2.2.2.2.2.2.2.1 r5.2.2.2.2.2.2.2.2.2.2.2.2.1 r5.2.2.2.2.2.2.2.2.2.2.2.2.2.1 r5.2.2.2.2.2.2.2.2.2.2.2.2.2.2.1 r6).bind fun r7=>
 (D5 4 [(98:UInt8)] 0 9).bind fun r8=>
 (F7 r7.1 r7.2.1 r7.2.2.1 r7.2.2.2.1 r7.2.2.2.2.1 r7.2.2.2.2.2.1 r7.2.2.2.2.2.2.1 r7.2.2.2.2.2.2.2.1 r7.2.2.2.2.2.2.2.2.1 r7.2.2.2.2.2.2.2.2.2.1 r7.2.2.2.2.2.2.2.2.2.2.1 r7.2.2.2.2.2.2.2.2.2.2.2.1 r7.2.2.2.2.2.2.2.2.2.2.2.2.1 r7.2.2.2.2.2.2.2.2.2.2.2.2.2.1 r7.2.2.2.2.2.2.2.2.2.2.2.2.2.2.1 r8).bind fun r9=>
 (J0 r9.1 r9.2.1 r9.2.2.1 r9.2.2.2.1 r9.2.2.2.2.1 r9.2.2.2.2.2.1 r9.2.2.2.2.2.2.1 r9.2.2.2.2.2.2.2.1 r9.2.2.2.2.2.2.2.2.1 r9.2.2.2.2.2.2.2.2.2.1 r9.2.2.2.2.2.2.2.2.2.2.1 r9.2.2.2.2.2.2.2.2.2.2.2.1 r9.2.2.2.2.2.2.2.2.2.2.2.2.1 r9.2.2.2.2.2.2.2.2.2.2.2.2.2.1 r9.2.2.2.2.2.2.2.2.2.2.2.2.2.2.1).bind fun r10=>
 (P4 r10.1 r10.2.1 r10.2.2.1 r10.2.2.2.1 r10.2.2.2.2.1 r10.2.2.2.2.2.1 r10.2.2.2.2.2.2.1 r10.2.2.2.2.2.2.2.1 r10.2.2.2.2.2.2.2.2.1 r10.2.2.2.2.2.2.2.2.2.1 r10.2.2.2.2.2.2.2.2.2.2.1 r10.2.2.2.2.2.2.2.2.2.2.2.1 r10.2.2.2.2.2.2.2.2.2.2.2.2.1 r10.2.2.2.2.2.2.2.2.2.2.2.2.2.1 r10.2.2.2.2.2.2.2.2.2.2.2.2.2.2.1 [(97:UInt8)]).bind fun r11=>
 sel (decide (r3.2.2.2.2.2.2.2.2.2.2.2.2.2.2.2=0)) (
  sel (decide (r5.2.2.2.2.2.2.2.2.2.2.2.2.2.2.2=9)) (
   sel (decide (r7.2.2.2.2.2.2.2.2.2.2.2.2.2.2.2=0)) (
    sel (decide (r9.2.2.2.2.2.2.2.2.2.2.2.2.2.2.2=24)) (
     sel (decide ((((List.length r10.2.2.2.2.2.2.2.2.2.2.2.2.2.2.2):Nat):Int)=2)) (
      chk (decide ((0:Int)<=0/\0 < (((List.length r10.2.2.2.2.2.2.2.2.2.2.2.2.2.2.2):Nat):Int))) <|
      chk (decide (0 < (List.length r10.2.2.2.2.2.2.2.2.2.2.2.2.2.2.2))) <|
      sel (decide ((List.getD r10.2.2.2.2.2.2.2.2.2.2.2.2.2.2.2 0 B7).2.2.2.2.2.2.2.2.1=3)) (
       sel (decide ((((List.length r11.2.2.2.2.2.2.2.2.2.2.2.2.2.2.2):Nat):Int)=2)) (
        chk (decide ((0:Int)<=0/\0 < (((List.length r11.2.2.2.2.2.2.2.2.2.2.2.2.2.2.2):Nat):Int))) <|
        chk (decide (0 < (List.length r11.2.2.2.2.2.2.2.2.2.2.2.2.2.2.2))) <|
        sel (decide ((List.getD r11.2.2.2.2.2.2.2.2.2.2.2.2.2.2.2 0 B7).2.2.2.1=0)) (
         (N3 r11.1 r11.2.1 r11.2.2.1 r11.2.2.2.1 r11.2.2.2.2.1 r11.2.2.2.2.2.1 r11.2.2.2.2.2.2.1 r11.2.2.2.2.2.2.2.1 r11.2.2.2.2.2.2.2.2.1 r11.2.2.2.2.2.2.2.2.2.1 r11.2.2.2.2.2.2.2.2.2.2.1 r11.2.2.2.2.2.2.2.2.2.2.2.1 r11.2.2.2.2.2.2.2.2.2.2.2.2.1 r11.2.2.2.2.2.2.2.2.2.2.2.2.2.1 r11.2.2.2.2.2.2.2.2.2.2.2.2.2.2.1 2 0).bind fun r12=>
         sel (decide ((((List.length r12.2.2.2.2.2.2.2.2.2.2.2.2.2.2.2):Nat):Int)=2)) (
          (N3 r12.1 r12.2.1 r12.2.2.1 r12.2.2.2.1 r12.2.2.2.2.1 r12.2.2.2.2.2.1 r12.2.2.2.2.2.2.1 r12.2.2.2.2.2.2.2.1 r12.2.2.2.2.2.2.2.2.1 r12.2.2.2.2.2.2.2.2.2.1 r12.2.2.2.2.2.2.2.2.2.2.1 r12.2.2.2.2.2.2.2.2.2.2.2.1 r12.2.2.2.2.2.2.2.2.2.2.2.2.1 r12.2.2.2.2.2.2.2.2.2.2.2.2.2.1 r12.2.2.2.2.2.2.2.2.2.2.2.2.2.2.1 1 0).bind fun r13=>
          sel (decide ((((List.length r13.2.2.2.2.2.2.2.2.2.2.2.2.2.2.2):Nat):Int)=0)) (
           (S3 r13.1 r13.2.1 r13.2.2.1 r13.2.2.2.1 r13.2.2.2.2.1 r13.2.2.2.2.2.1 r13.2.2.2.2.2.2.1 r13.2.2.2.2.2.2.2.1 r13.2.2.2.2.2.2.2.2.1 r13.2.2.2.2.2.2.2.2.2.1 r13.2.2.2.2.2.2.2.2.2.2.1 r13.2.2.2.2.2.2.2.2.2.2.2.1 r13.2.2.2.2.2.2.2.2.2.2.2.2.1 r13.2.2.2.2.2.2.2.2.2.2.2.2.2.1 r13.2.2.2.2.2.2.2.2.2.2.2.2.2.2.1).bind fun r14=>
           sel (decide (r14.2.2.2.2.2.2.2.2.2.2.2.2.2.2.2=2)) (
            (R8 r14.1 r14.2.1 r14.2.2.1 r14.2.2.2.1 r14.2.2.2.2.1 r14.2.2.2.2.2.1 r14.2.2.2.2.2.2.1 r14.2.2.2.2.2.2.2.1 r14.2.2.2.2.2.2.2.2.1 r14.2.2.2.2.2.2.2.2.2.1 r14.2.2.2.2.2.2.2.2.2.2.1 r14.2.2.2.2.2.2.2.2.2.2.2.1 r14.2.2.2.2.2.2.2.2.2.2.2.2.1 r14.2.2.2.2.2.2.2.2.2.2.2.2.2.1 r14.2.2.2.2.2.2.2.2.2.2.2.2.2.2.1).bind fun r15=>
            some (decide (r15.2.2.2.2.2.2.2.2.2.2.2.2.2.2.2=2))) (
            some false)) (
           some false)) (
          some false)) (
         some false)) (
        some false)) (
       some false)) (
      some false)) (
     some false)) (
    some false)) (
   some false)) (
  some false)
def a0B (a0:List Int):Option (A4):=
 some (a0,(0:Int))
def N4 (a0:Int) (a1:Int):Option (Int):=
 chk (!decide (a1=0)) <|
 sel (decide ((Int.tmod a0 a1) < 0)) (
  some (C6 ((Int.tmod a0 a1) + a1))) (
  some (Int.tmod a0 a1))
def H1 (v1:Int) (v5:Int) (b0:A4):Option (A4 × Int):=
 (N4 v5 v1).bind fun r1=>
 some ((b0.1,(C6 (b0.2 + 1))),r1)
def A7 (a0:A4) (a1:Int):Option (A4 × Int):=
 sel (decide (a0.2 < (((List.length a0.1):Nat):Int))) (
  chk (decide ((0:Int)<=a0.2/\a0.2 < (((List.length a0.1):Nat):Int))) <|
  H1 a1 (List.getD a0.1 (Int.toNat a0.2) (0:Int)) a0) (
  H1 a1 0 a0)
def L6 (b0:A4) (_b1:A0) (b2:A0):Option (A4 × A0):=
 (A7 b0 6).bind fun r11=>
 sel (decide (r11.2=0)) (
  (A7 r11.1 40).bind fun r12=>
  some (r12.1,(b2.1,b2.2.1,(C6 (40 + r12.2)),b2.2.2.2))) (
  some (r11.1,b2))
def X4 (a0:A4):Option (A4 × A0):=
 (A7 a0 7).bind fun r1=>
 (A7 r1.1 400).bind fun r2=>
 (A7 r2.1 140).bind fun r3=>
 (A7 r3.1 12).bind fun r4=>
 (A7 r4.1 4).bind fun r5=>
 (A7 r5.1 3).bind fun r6=>
 (A7 r6.1 20).bind fun r7=>
 (A7 r7.1 3).bind fun r8=>
 (A7 r8.1 400).bind fun r9=>
 (A7 r9.1 3).bind fun r10=>
 (A7 r10.1 3).bind fun r13=>
 sel (decide (r13.2=0)) (
  (A7 r13.1 900).bind fun r14=>
  L6 r14.1 ((0:Int),(0:Int),(0:Int),(0:Int),(0:Int),(0:Int),false,(0:Int),(0:Int),(0:Int),(0:Int),(0:Int)) ((C6 (1 + r1.2)),(C6 (250 + r2.2)),(C6 (60 + r3.2)),r4.2,r5.2,(C6 (r6.2 * r7.2)),(decide (r8.2=0)),(C6 (100 + r9.2)),(C6 (200 + r14.2)),(a3P r10.2),(0:Int),1)) (
  L6 r13.1 ((0:Int),(0:Int),(0:Int),(0:Int),(0:Int),(0:Int),false,(0:Int),(0:Int),(0:Int),(0:Int),(0:Int)) ((C6 (1 + r1.2)),(C6 (250 + r2.2)),(C6 (60 + r3.2)),r4.2,r5.2,(C6 (r6.2 * r7.2)),(decide (r8.2=0)),(C6 (100 + r9.2)),(-1),(a3P r10.2),(0:Int),1))
def a1B:Option (List (List UInt8)):=
 some [([109,97,120,45,116,120,115]:List UInt8),([109,97,120,45,98,121,116,101,115]:List UInt8),([109,97,120,45,116,120,45,98,121,116,101,115]:List UInt8),([99,97,99,104,101,45,115,105,122,101]:List UInt8),([116,116,108,45,98,108,111,99,107,115]:List UInt8),([116,116,108,45,116,105,109,101]:List UInt8),([107,101,101,112,45,105,110,118,97,108,105,100]:List UInt8),([98,108,111,99,107,45,98,121,116,101,115]:List UInt8),([98,108,111,99,107,45,103,97,115]:List UInt8),([112,114,105,99,101]:List UInt8),([115,101,108,102]:List UInt8),([110,111,100,101,115]:List UInt8)]
def L7 (v1:Int) (v5:Int) (b0:A0):Option (Int):=
 chk (decide ((0:Int)<=v1/\v1 < 12)) <|
 chk (decide ((Int.toNat v1) < 12)) <|
 some (List.getD [b0.1,b0.2.1,b0.2.2.1,b0.2.2.2.1,b0.2.2.2.2.1,b0.2.2.2.2.2.1,v5,b0.2.2.2.2.2.2.2.1,b0.2.2.2.2.2.2.2.2.1,0,b0.2.2.2.2.2.2.2.2.2.2.1,b0.2.2.2.2.2.2.2.2.2.2.2] (Int.toNat v1) (0:Int))
def I7 (a0:A0) (a1:Int):Option (Int):=
 sel a0.2.2.2.2.2.2.1 (
  L7 a1 1 a0) (
  L7 a1 0 a0)
def a1a (a0:Int):Option (Int):=
 chk (decide ((0:Int)<=a0/\a0 < 12)) <|
 chk (decide ((Int.toNat a0) < 12)) <|
 some (List.getD [1,1,1,0,0,0,0,1,(-1),0,0,1] (Int.toNat a0) (0:Int))
def Z1 (a0:Int):Option (Int):=
 chk (decide ((0:Int)<=a0/\a0 < 12)) <|
 chk (decide ((Int.toNat a0) < 12)) <|
 some (List.getD [512,1048576,4096,1024,1073741824,1073741824,1,1048576,1125899906842624,0,7,8] (Int.toNat a0) (0:Int))
def M4 (b0:A0):Option (Int):=
 sel (decide (b0.2.2.2.2.2.2.2.2.2.2.2<=b0.2.2.2.2.2.2.2.2.2.2.1)) (
  some 1) (
  some 0)
def C8 (v5:Int) (v6:Int) (b0:A0):Option ((Int × Int × A0) ⊕ (Int)):=
 sel (decide (v6 < v5)) (
  sel (!decide (v6=9)) (
   (I7 b0 v6).bind fun r2=>
   (a1a v6).bind fun r3=>
   sel (decide (r2 < r3)) (
    some (.inr 1)) (
    (I7 b0 v6).bind fun r4=>
    (Z1 v6).bind fun r5=>
    sel (decide (r5 < r4)) (
     some (.inr 1)) (
     some (.inl (v5,(C6 (v6 + 1)),b0))))) (
   some (.inl (v5,(C6 (v6 + 1)),b0)))) (
  Option.map .inr (
   M4 b0))
def V2 (v5:Int) (v6:Int) (b0:A0):Option (Int):=
 Q9 (fun v=>C8 v.1 v.2.1 v.2.2) (v5,v6,b0)
def J9 (a0:A0):Option (Int):=
 (a1B).bind fun r1=>
 V2 (((List.length r1):Nat):Int) 0 a0
def a2w:Option (A0):=
 some (100,65536,1024,200,(0:Int),(0:Int),false,32768,(-1),1,(0:Int),1)
def T6 (a0:A0):Option (A5):=
 (J9 a0).bind fun r1=>
 sel (!decide (r1=0)) (
  (a2w).bind fun r2=>
  some (r2,[])) (
  some (a0,[]))
def E3 (a0:Int) (a1:Int):Option (Int):=
 chk (decide ((0:Int)<=a1)) <|
 chk (decide ((0:Int)<=(C6 (32 - a1)))) <|
 some (bits .or .u32 (a0 / 2 ^ (min (Int.toNat a1) 32)) (a96 (a0 * 2 ^ (min (Int.toNat (C6 (32 - a1))) 32))))
def a2a:Option (Vector Int 64):=
 some (Vector.push (Vector.push (Vector.push (Vector.push (Vector.push (Vector.push (Vector.push (Vector.push (Vector.push (Vector.push (Vector.push (Vector.push (Vector.push (Vector.push (Vector.push (Vector.push (Vector.push (Vector.push (Vector.push (Vector.push (Vector.push (Vector.push (Vector.push (Vector.push (Vector.push (Vector.push (Vector.push (Vector.push (Vector.push (Vector.push (Vector.push (Vector.push (Vector.push (Vector.push (Vector.push (Vector.push (Vector.push (Vector.push (Vector.push (Vector.push (Vector.push (Vector.push (Vector.push (Vector.push (Vector.push (Vector.push (Vector.push (Vector.push (Vector.push (Vector.push (Vector.push (Vector.push (Vector.push (Vector.push (Vector.push (Vector.push (Vector.push (Vector.push (Vector.push (Vector.push (Vector.push (Vector.push (Vector.push (Vector.push #v[] 1116352408) 1899447441) 3049323471) 3921009573) 961987163) 1508970993) 2453635748) 2870763221) 3624381080) 310598401) 607225278) 1426881987) 1925078388) 2162078206) 2614888103) 3248222580) 3835390401) 4022224774) 264347078) 604807628) 770255983) 1249150122) 1555081692) 1996064986) 2554220882) 2821834349) 2952996808) 3210313671) 3336571891) 3584528711) 113926993) 338241895) 666307205) 773529912) 1294757372) 1396182291) 1695183700) 1986661051) 2177026350) 2456956037) 2730485921) 2820302411) 3259730800) 3345764771) 3516065817) 3600352804) 4094571909) 275423344) 430227734) 506948616) 659060556) 883997877) 958139571) 1322822218) 1537002063) 1747873779) 1955562222) 2024104815) 2227730452) 2361852424) 2428436474) 2756734187) 3204031479) 3329325298)
def a0m (v180:Int) (b0:Vector Int 8) (b1:Vector Int 8) (b2:Vector Int 8):Option ((Int × Vector Int 8 × Vector Int 8 × Vector Int 8) ⊕ (Vector Int 8)):=
 sel (decide (v180 < 8)) (
  chk (decide ((0:Int)<=v180/\v180 < 8)) <|
  chk (decide ((Int.toNat v180) < 8)) <|
  chk (decide ((0:Int)<=v180/\v180 < 8)) <|
  chk (decide ((Int.toNat v180) < 8)) <|
  chk (decide ((0:Int)<=v180/\v180 < 8)) <|
  chk (decide ((Int.toNat v180) < 8)) <|
  some (.inl ((C6 (v180 + 1)),(c42 b0 (Int.toNat v180) (a96 ((O5 b0 (Int.toNat v180) (0:Int)) + (O5 b2 (Int.toNat v180) (0:Int))))),b1,b2))) (
  some (.inr b0))
def Z2 (v180:Int) (b0:Vector Int 8) (b1:Vector Int 8) (b2:Vector Int 8):Option (Vector Int 8):=
 Q9 (fun v=>a0m v.1 v.2.1 v.2.2.1 v.2.2.2) (v180,b0,b1,b2)
def a2x (b0:Vector Int 8) (b1:Vector Int 8) (b2:Vector Int 8):Option (Vector Int 8):=
 Z2 0 b0 b1 b2
def a0n (v12:Int) (b0:Vector Int 8) (b1:Vector Int 8) (b2:Vector Int 64) (b3:Vector Int 64) (b4:Vector Int 8):Option ((Int × Vector Int 8 × Vector Int 8 × Vector Int 64 × Vector Int 64 × Vector Int 8) ⊕ (Vector Int 8)):=
 sel (decide (v12 < 64)) (
  (E3 (O5 b4 4 (0:Int)) 6).bind fun r2=>
  (E3 (O5 b4 4 (0:Int)) 11).bind fun r3=>
  (E3 (O5 b4 4 (0:Int)) 25).bind fun r4=>
  chk (decide ((0:Int)<=v12/\v12 < 64)) <|
  chk (decide ((Int.toNat v12) < 64)) <|
  chk (decide ((0:Int)<=v12/\v12 < 64)) <|
  chk (decide ((Int.toNat v12) < 64)) <|
  (E3 (O5 b4 0 (0:Int)) 2).bind fun r5=>
  (E3 (O5 b4 0 (0:Int)) 13).bind fun r6=>
  (E3 (O5 b4 0 (0:Int)) 22).bind fun r7=>
  some (.inl ((C6 (v12 + 1)),b0,b1,b2,b3,(Vector.push (Vector.push (Vector.push (Vector.push (Vector.push (Vector.push (Vector.push (Vector.push #v[] (a96 ((a96 ((a96 ((a96 ((a96 ((O5 b4 7 (0:Int)) + (bits .xor .u32 (bits .xor .u32 r2 r3) r4))) + (bits .xor .u32 (bits .and .u32 (O5 b4 4 (0:Int)) (O5 b4 5 (0:Int))) (bits .and .u32 (notI .u32 (O5 b4 4 (0:Int))) (O5 b4 6 (0:Int)))))) + (O5 b3 (Int.toNat v12) (0:Int)))) + (O5 b2 (Int.toNat v12) (0:Int)))) + (a96 ((bits .xor .u32 (bits .xor .u32 r5 r6) r7) + (bits .xor .u32 (bits .xor .u32 (bits .and .u32 (O5 b4 0 (0:Int)) (O5 b4 1 (0:Int))) (bits .and .u32 (O5 b4 0 (0:Int)) (O5 b4 2 (0:Int)))) (bits .and .u32 (O5 b4 1 (0:Int)) (O5 b4 2 (0:Int))))))))) (O5 b4 0 (0:Int))) (O5 b4 1 (0:Int))) (O5 b4 2 (0:Int))) (a96 ((O5 b4 3 (0:Int)) + (a96 ((a96 ((a96 ((a96 ((O5 b4 7 (0:Int)) + (bits .xor .u32 (bits .xor .u32 r2 r3) r4))) + (bits .xor .u32 (bits .and .u32 (O5 b4 4 (0:Int)) (O5 b4 5 (0:Int))) (bits .and .u32 (notI .u32 (O5 b4 4 (0:Int))) (O5 b4 6 (0:Int)))))) + (O5 b3 (Int.toNat v12) (0:Int)))) + (O5 b2 (Int.toNat v12) (0:Int))))))) (O5 b4 4 (0:Int))) (O5 b4 5 (0:Int))) (O5 b4 6 (0:Int)))))) (
  Option.map .inr (
   a2x b0 b1 b4))
def Z3 (v12:Int) (b0:Vector Int 8) (b1:Vector Int 8) (b2:Vector Int 64) (b3:Vector Int 64) (b4:Vector Int 8):Option (Vector Int 8):=
 Q9 (fun v=>a0n v.1 v.2.1 v.2.2.1 v.2.2.2.1 v.2.2.2.2.1 v.2.2.2.2.2) (v12,b0,b1,b2,b3,b4)
def a0o (b0:Vector Int 8) (b1:Vector Int 8) (b2:Vector Int 64):Option (Vector Int 8):=
 (a2a).bind fun r1=>
 Z3 0 b0 b1 b2 r1 b0
def a0p (v7:Int) (b0:Vector Int 8) (b1:Vector Int 8) (b2:Vector Int 64):Option ((Int × Vector Int 8 × Vector Int 8 × Vector Int 64) ⊕ (Vector Int 8)):=
 sel (decide (v7 < 64)) (
  chk (decide ((0:Int)<=(C6 (v7 - 15))/\(C6 (v7 - 15)) < 64)) <|
  chk (decide ((Int.toNat (C6 (v7 - 15))) < 64)) <|
  chk (decide ((0:Int)<=(C6 (v7 - 2))/\(C6 (v7 - 2)) < 64)) <|
  chk (decide ((Int.toNat (C6 (v7 - 2))) < 64)) <|
  (E3 (O5 b2 (Int.toNat (C6 (v7 - 2))) (0:Int)) 17).bind fun r8=>
  (E3 (O5 b2 (Int.toNat (C6 (v7 - 2))) (0:Int)) 19).bind fun r9=>
  chk (decide ((0:Int)<=(C6 (v7 - 7))/\(C6 (v7 - 7)) < 64)) <|
  chk (decide ((Int.toNat (C6 (v7 - 7))) < 64)) <|
  (E3 (O5 b2 (Int.toNat (C6 (v7 - 15))) (0:Int)) 7).bind fun r10=>
  (E3 (O5 b2 (Int.toNat (C6 (v7 - 15))) (0:Int)) 18).bind fun r11=>
  chk (decide ((0:Int)<=(C6 (v7 - 16))/\(C6 (v7 - 16)) < 64)) <|
  chk (decide ((Int.toNat (C6 (v7 - 16))) < 64)) <|
  chk (decide ((0:Int)<=v7/\v7 < 64)) <|
  chk (decide ((Int.toNat v7) < 64)) <|
  some (.inl ((C6 (v7 + 1)),b0,b1,(c42 b2 (Int.toNat v7) (a96 ((a96 ((a96 ((bits .xor .u32 (bits .xor .u32 r8 r9) ((O5 b2 (Int.toNat (C6 (v7 - 2))) (0:Int)) / 2 ^ 10)) + (O5 b2 (Int.toNat (C6 (v7 - 7))) (0:Int)))) + (bits .xor .u32 (bits .xor .u32 r10 r11) ((O5 b2 (Int.toNat (C6 (v7 - 15))) (0:Int)) / 2 ^ 3)))) + (O5 b2 (Int.toNat (C6 (v7 - 16))) (0:Int)))))))) (
  Option.map .inr (
   a0o b0 b1 b2))
def Z4 (v7:Int) (b0:Vector Int 8) (b1:Vector Int 8) (b2:Vector Int 64):Option (Vector Int 8):=
 Q9 (fun v=>a0p v.1 v.2.1 v.2.2.1 v.2.2.2) (v7,b0,b1,b2)
def a0q (b0:Vector Int 8) (b1:Vector Int 8) (b2:Vector Int 64):Option (Vector Int 8):=
 Z4 16 b0 b1 b2
def a0r (v1:List UInt8) (v6:Int) (b0:Vector Int 8) (b1:Vector Int 8) (b2:Vector Int 64):Option ((List UInt8 × Int × Vector Int 8 × Vector Int 8 × Vector Int 64) ⊕ (Vector Int 8)):=
 sel (decide (v6 < 16)) (
  chk (decide ((0:Int)<=(C6 (4 * v6))/\(C6 (4 * v6)) < (((List.length v1):Nat):Int))) <|
  chk (decide ((0:Int)<=(C6 ((C6 (4 * v6)) + 1))/\(C6 ((C6 (4 * v6)) + 1)) < (((List.length v1):Nat):Int))) <|
  chk (decide ((0:Int)<=(C6 ((C6 (4 * v6)) + 2))/\(C6 ((C6 (4 * v6)) + 2)) < (((List.length v1):Nat):Int))) <|
  chk (decide ((0:Int)<=(C6 ((C6 (4 * v6)) + 3))/\(C6 ((C6 (4 * v6)) + 3)) < (((List.length v1):Nat):Int))) <|
  chk (decide ((0:Int)<=v6/\v6 < 64)) <|
  chk (decide ((Int.toNat v6) < 64)) <|
  some (.inl (v1,(C6 (v6 + 1)),b0,b1,(c42 b2 (Int.toNat v6) (bits .or .u32 (bits .or .u32 (bits .or .u32 (a96 ((a96 ((UInt8.toNat (List.getD v1 (Int.toNat (C6 (4 * v6))) (0:UInt8)):Nat):Int)) * 2 ^ 24)) (a96 ((a96 ((UInt8.toNat (List.getD v1 (Int.toNat (C6 ((C6 (4 * v6)) + 1))) (0:UInt8)):Nat):Int)) * 2 ^ 16))) (a96 ((a96 ((UInt8.toNat (List.getD v1 (Int.toNat (C6 ((C6 (4 * v6)) + 2))) (0:UInt8)):Nat):Int)) * 2 ^ 8))) (a96 ((UInt8.toNat (List.getD v1 (Int.toNat (C6 ((C6 (4 * v6)) + 3))) (0:UInt8)):Nat):Int))))))) (
  Option.map .inr (
   a0q b0 b1 b2))
def a2b (v1:List UInt8) (v6:Int) (b0:Vector Int 8) (b1:Vector Int 8) (b2:Vector Int 64):Option (Vector Int 8):=
 Q9 (fun v=>a0r v.1 v.2.1 v.2.2.1 v.2.2.2.1 v.2.2.2.2) (v1,v6,b0,b1,b2)
def Z5 (a0:Vector Int 8) (a1:List UInt8):Option (Vector Int 8):=
 a2b a1 0 a0 (Vector.replicate 8 (0:Int)) (Vector.replicate 64 (0:Int))
def a1b (v52:Int) (b0:Vector UInt8 32) (b1:Vector Int 8) (b2:Vector UInt8 32):Option ((Int × Vector UInt8 32 × Vector Int 8 × Vector UInt8 32) ⊕ (Vector UInt8 32)):=
 sel (decide (v52 < 32)) (
  chk (decide ((0:Int)<=(C6 (Int.tdiv v52 4))/\(C6 (Int.tdiv v52 4)) < 8)) <|
  chk (decide ((Int.toNat (C6 (Int.tdiv v52 4))) < 8)) <|
  chk (decide ((0:Int)<=(C6 (24 - (C6 ((Int.tmod v52 4) * 8)))))) <|
  chk (decide ((0:Int)<=v52/\v52 < 32)) <|
  chk (decide ((Int.toNat v52) < 32)) <|
  chk (decide ((0:Int)<=(wu8 ((O5 b1 (Int.toNat (C6 (Int.tdiv v52 4))) (0:Int)) / 2 ^ (min (Int.toNat (C6 (24 - (C6 ((Int.tmod v52 4) * 8))))) 32)))/\(wu8 ((O5 b1 (Int.toNat (C6 (Int.tdiv v52 4))) (0:Int)) / 2 ^ (min (Int.toNat (C6 (24 - (C6 ((Int.tmod v52 4) * 8))))) 32))) < 256)) <|
  some (.inl ((C6 (v52 + 1)),b0,b1,(c42 b2 (Int.toNat v52) (UInt8.ofNat (Int.toNat (wu8 ((O5 b1 (Int.toNat (C6 (Int.tdiv v52 4))) (0:Int)) / 2 ^ (min (Int.toNat (C6 (24 - (C6 ((Int.tmod v52 4) * 8))))) 32))))))))) (
  some (.inr b2))
def a2Y (v52:Int) (b0:Vector UInt8 32) (b1:Vector Int 8) (b2:Vector UInt8 32):Option (Vector UInt8 32):=
 Q9 (fun v=>a1b v.1 v.2.1 v.2.2.1 v.2.2.2) (v52,b0,b1,b2)
def X5 (b0:Vector UInt8 32) (b1:Vector Int 8):Option (Vector UInt8 32):=
 a2Y 0 b0 b1 (Vector.replicate 32 (0:UInt8))
def a1c (v7:Int) (b0:Vector UInt8 32) (b1:Vector Int 8) (l0:List UInt8):Option ((Int × Vector UInt8 32 × Vector Int 8 × List UInt8) ⊕ (Vector UInt8 32)):=
 sel (decide (v7 < (((List.length l0):Nat):Int))) (
  chk (decide ((0:Int)<=v7/\v7<=(C6 (v7 + 64))/\(C6 (v7 + 64))<=(((List.length l0):Nat):Int))) <|
  (Z5 b1 (List.drop (Int.toNat v7) (List.take (Int.toNat (C6 (v7 + 64))) l0))).bind fun r1=>
  some (.inl ((C6 (v7 + 64)),b0,r1,l0))) (
  Option.map .inr (
   X5 b0 b1))
def a2Z (v7:Int) (b0:Vector UInt8 32) (b1:Vector Int 8) (l0:List UInt8):Option (Vector UInt8 32):=
 Q9 (fun v=>a1c v.1 v.2.1 v.2.2.1 v.2.2.2) (v7,b0,b1,l0)
def X6 (b0:Vector UInt8 32) (l0:List UInt8):Option (Vector UInt8 32):=
 a2Z 0 b0 (Vector.push (Vector.push (Vector.push (Vector.push (Vector.push (Vector.push (Vector.push (Vector.push #v[] 1779033703) 3144134277) 1013904242) 2773480762) 1359893119) 2600822924) 528734635) 1541459225) l0
def a1d (v4:Int) (v5:Int) (b0:Vector UInt8 32) (l0:List UInt8):Option ((Int × Int × Vector UInt8 32 × List UInt8) ⊕ (Vector UInt8 32)):=
 sel (decide (0<=v5)) (
  chk (decide ((0:Int)<=(C6 (8 * v5)))) <|
  chk (decide ((0:Int)<=(wu8 (v4 / 2 ^ (min (Int.toNat (C6 (8 * v5))) 64)))/\(wu8 (v4 / 2 ^ (min (Int.toNat (C6 (8 * v5))) 64))) < 256)) <|
  chk (decide (((List.length l0) + 1) * 1<=LIM/\(List.length l0) + 1<=LEN)) <|
  some (.inl (v4,(C6 (v5 - 1)),b0,(l0 ++ [(UInt8.ofNat (Int.toNat (wu8 (v4 / 2 ^ (min (Int.toNat (C6 (8 * v5))) 64)))))])))) (
  Option.map .inr (
   X6 b0 l0))
def a0Q (v4:Int) (v5:Int) (b0:Vector UInt8 32) (l0:List UInt8):Option (Vector UInt8 32):=
 Q9 (fun v=>a1d v.1 v.2.1 v.2.2.1 v.2.2.2) (v4,v5,b0,l0)
def a1e (v0:List UInt8) (b0:Vector UInt8 32) (l0:List UInt8):Option (Vector UInt8 32):=
 a0Q (a3P ((a3P (((List.length v0):Nat):Int)) * 8)) 7 b0 l0
def a1f (v0:List UInt8) (b0:Vector UInt8 32) (l0:List UInt8):Option ((List UInt8 × Vector UInt8 32 × List UInt8) ⊕ (Vector UInt8 32)):=
 sel (!decide ((Int.tmod (((List.length l0):Nat):Int) 64)=56)) (
  chk (decide (((List.length l0) + 1) * 1<=LIM/\(List.length l0) + 1<=LEN)) <|
  some (.inl (v0,b0,(l0 ++ [(0:UInt8)])))) (
  Option.map .inr (
   a1e v0 b0 l0))
def a20 (v0:List UInt8) (b0:Vector UInt8 32) (l0:List UInt8):Option (Vector UInt8 32):=
 Q9 (fun v=>a1f v.1 v.2.1 v.2.2) (v0,b0,l0)
def a0Y (a0:List UInt8):Option (Vector UInt8 32):=
 chk (decide ((0 + (List.length a0)) * 1<=LIM/\0 + (List.length a0)<=LEN)) <|
 chk (decide (((List.length a0) + 1) * 1<=LIM/\(List.length a0) + 1<=LEN)) <|
 a20 a0 (Vector.replicate 32 (0:UInt8)) (a0 ++ [(128:UInt8)])
def a0C (a0:A4):Option (A4 × List UInt8):=
 (A7 a0 6).bind fun r1=>
 chk (decide ((0:Int)<=r1.2/\r1.2 < 6)) <|
 chk (decide ((Int.toNat r1.2) < 6)) <|
 some (r1.1,(List.getD [([97,110,110]:List UInt8),([98,111,98]:List UInt8),([101,118,101]:List UInt8),([122,111,101]:List UInt8),([110,101,119]:List UInt8),([120,45,49]:List UInt8)] (Int.toNat r1.2) []))
def a0s (v6:Int) (b0:A4) (b1:o7) (b2_0:Vector UInt8 32) (b2_2:List UInt8) (b2_3:Int) (b2_4:Int) (b2_5:Int) (b2_6:Int) (b2_7:Int) (b2_8:Int) (l0:List UInt8) (l1:List Int):Option ((Int × A4 × o7 × Vector UInt8 32 × List UInt8 × Int × Int × Int × Int × Int × Int × List UInt8 × List Int) ⊕ (A4 × o7)):=
 sel (decide (0 < v6)) (
  (A7 b0 4).bind fun r11=>
  chk (decide (((List.length l1) + 1) * 8<=LIM/\(List.length l1) + 1<=LEN)) <|
  some (.inl ((C6 (v6 - 1)),r11.1,b1,b2_0,b2_2,b2_3,b2_4,b2_5,b2_6,b2_7,b2_8,l0,(l1 ++ [(C6 (1 + r11.2))])))) (
  some (.inr (b0,(b2_0,l0,b2_2,b2_3,b2_4,b2_5,b2_6,b2_7,b2_8,l1))))
def a2c (v6:Int) (b0:A4) (b1:o7) (b2_0:Vector UInt8 32) (b2_2:List UInt8) (b2_3:Int) (b2_4:Int) (b2_5:Int) (b2_6:Int) (b2_7:Int) (b2_8:Int) (l0:List UInt8) (l1:List Int):Option (A4 × o7):=
 Q9 (fun v=>a0s v.1 v.2.1 v.2.2.1 v.2.2.2.1 v.2.2.2.2.1 v.2.2.2.2.2.1 v.2.2.2.2.2.2.1 v.2.2.2.2.2.2.2.1 v.2.2.2.2.2.2.2.2.1 v.2.2.2.2.2.2.2.2.2.1 v.2.2.2.2.2.2.2.2.2.2.1 v.2.2.2.2.2.2.2.2.2.2.2.1 v.2.2.2.2.2.2.2.2.2.2.2.2) (v6,b0,b1,b2_0,b2_2,b2_3,b2_4,b2_5,b2_6,b2_7,b2_8,l0,l1)
def a0t (b0:A4) (b1:o7) (l0:List UInt8):Option (A4 × o7):=
 (a0Y l0).bind fun r2=>
 (a0C b0).bind fun r3=>
 (A7 r3.1 4).bind fun r4=>
 (A7 r4.1 50).bind fun r5=>
 (A7 r5.1 5).bind fun r6=>
 (A7 r6.1 9).bind fun r7=>
 (A7 r7.1 30).bind fun r8=>
 (A7 r8.1 9).bind fun r9=>
 (A7 r9.1 3).bind fun r10=>
 a2c r10.2 r10.1 b1 r2 r3.2 (a3P r4.2) (a3P r5.2) (a3P r6.2) r7.2 r8.2 r9.2 l0 []
def a0u (v11:Int) (v12:Int) (b0:A4) (b1:o7) (l0:List UInt8):Option ((Int × Int × A4 × o7 × List UInt8) ⊕ (A4 × o7)):=
 sel (decide (v12 < v11)) (
  (A7 b0 3).bind fun r12=>
  chk (decide ((0:Int)<=v12/\v12 < (((List.length l0):Nat):Int))) <|
  chk (decide ((0:Int)<=(wu8 r12.2)/\(wu8 r12.2) < 256)) <|
  chk (decide ((Int.toNat v12) < (List.length l0))) <|
  some (.inl (v11,(C6 (v12 + 1)),r12.1,b1,(List.set l0 (Int.toNat v12) (UInt8.ofNat (Int.toNat (wu8 r12.2))))))) (
  Option.map .inr (
   a0t b0 b1 l0))
def a2d (v11:Int) (v12:Int) (b0:A4) (b1:o7) (l0:List UInt8):Option (A4 × o7):=
 Q9 (fun v=>a0u v.1 v.2.1 v.2.2.1 v.2.2.2.1 v.2.2.2.2) (v11,v12,b0,b1,l0)
def S4 (a0:A4):Option (A4 × o7):=
 (A7 a0 9).bind fun r1=>
 chk (decide ((0:Int)<=r1.2/\r1.2<=r1.2/\(1:Int) * r1.2<=281474976710656/\r1.2<=4611686018427387904)) <|
 a2d (((List.length (List.replicate (Int.toNat r1.2) (0:UInt8))):Nat):Int) 0 r1.1 ((Vector.replicate 32 (0:UInt8)),[],[],(0:Int),(0:Int),(0:Int),(0:Int),(0:Int),(0:Int),[]) (List.replicate (Int.toNat r1.2) (0:UInt8))
def X7 (v7:List o7) (v8:Int) (v9:Int) (b0:Vector UInt8 32):Option ((List o7 × Int × Int × Vector UInt8 32) ⊕ (Int)):=
 sel (decide (v9 < v8)) (
  chk (decide ((0:Int)<=v9/\v9 < (((List.length v7):Nat):Int))) <|
  sel (U.beq (.arr 32 .byte) (List.getD v7 (Int.toNat v9) B7).1 b0) (
   some (.inr v9)) (
   some (.inl (v7,v8,(C6 (v9 + 1)),b0)))) (
  some (.inr (-1)))
def a21 (v7:List o7) (v8:Int) (v9:Int) (b0:Vector UInt8 32):Option (Int):=
 Q9 (fun v=>X7 v.1 v.2.1 v.2.2.1 v.2.2.2) (v7,v8,v9,b0)
def N5 (a0:List o7) (a1:Vector UInt8 32):Option (Int):=
 a21 a0 (((List.length a0):Nat):Int) 0 a1
def T7 (a0:List o7) (a1:Int):Option (List o7):=
 chk (decide ((0:Int)<=0/\0<=a1/\a1<=(((List.length a0):Nat):Int))) <|
 chk (decide ((0 + (List.length (List.take (Int.toNat a1) a0))) * 144<=LIM/\0 + (List.length (List.take (Int.toNat a1) a0))<=LEN)) <|
 chk (decide ((0:Int)<=(C6 (a1 + 1))/\(C6 (a1 + 1))<=(((List.length a0):Nat):Int)/\(((List.length a0):Nat):Int)<=(((List.length a0):Nat):Int))) <|
 chk (decide (((List.length (List.take (Int.toNat a1) a0)) + (List.length (List.drop (Int.toNat (C6 (a1 + 1))) (List.take (Int.toNat (((List.length a0):Nat):Int)) a0)))) * 144<=LIM/\(List.length (List.take (Int.toNat a1) a0)) + (List.length (List.drop (Int.toNat (C6 (a1 + 1))) (List.take (Int.toNat (((List.length a0):Nat):Int)) a0)))<=LEN)) <|
 some ((List.take (Int.toNat a1) a0) ++ (List.drop (Int.toNat (C6 (a1 + 1))) (List.take (Int.toNat (((List.length a0):Nat):Int)) a0)))
def V3 (a0:A5) (a1:Vector UInt8 32):Option (A5 × Bool):=
 (N5 a0.2 a1).bind fun r1=>
 sel (decide (r1 < 0)) (
  some (a0,false)) (
  (T7 a0.2 r1).bind fun r2=>
  some ((a0.1,r2),true))
def Y2 (a0_0:A0) (a0_1_0:Int) (a0_1_1:Int) (a0_1_2:List A6) (a0_1_3:Int) (a0_2_0:List o9) (a0_2_1:List o5) (a0_3_0:List (List UInt8 × List A1)) (a0_3_1:Int) (a0_4_0:Int) (a0_4_1:Int) (a0_4_2:List (Int × o5)) (a0_5:List (Int × o5)) (a0_6:List (List UInt8 × Int)) (a0_7:Int) (a1:Vector UInt8 32):Option (A0 × Int × Int × List A6 × Int × List o9 × List o5 × (List (List UInt8 × List A1)) × Int × Int × Int × (List (Int × o5)) × (List (Int × o5)) × (List (List UInt8 × Int)) × Int × o7 × Bool):=
 sel (!(Option.isSome (a1r D3 (Vector.toList a1) a0_6))) (
  some (a0_0,a0_1_0,a0_1_1,a0_1_2,a0_1_3,a0_2_0,a0_2_1,a0_3_0,a0_3_1,a0_4_0,a0_4_1,a0_4_2,a0_5,a0_6,a0_7,((Vector.replicate 32 (0:UInt8)),[],[],(0:Int),(0:Int),(0:Int),(0:Int),(0:Int),(0:Int),[]),false)) (
  (U5 a0_1_0 a0_1_1 a0_1_2 a0_1_3 (W4 J8 (W4 D3 (Vector.toList a1) (0:Int) a0_6) U8 a0_5)).bind fun r1=>
  some (a0_0,r1.1,r1.2.1,r1.2.2.1,r1.2.2.2.1,a0_2_0,a0_2_1,a0_3_0,a0_3_1,a0_4_0,a0_4_1,a0_4_2,a0_5,a0_6,a0_7,r1.2.2.2.2.1,r1.2.2.2.2.2))
def S5 (a0_0:Int) (a0_1:Int) (a0_2:List A6) (a0_3:Int) (a1:o5):Option (Int × Int × List A6 × Int × Bool):=
 (a0f a0_0 a0_1 a0_2 a0_3 a1).bind fun r1=>
 sel (!r1.2.2.2.2) (
  some (r1.1,r1.2.1,r1.2.2.1,r1.2.2.2.1,false)) (
  chk (decide ((0:Int)<=a1.1/\a1.1 < (((List.length r1.2.2.1):Nat):Int))) <|
  chk (decide ((Int.toNat a1.1) < (List.length r1.2.2.1))) <|
  some (r1.1,(C6 (r1.2.1 - 1)),(List.set r1.2.2.1 (Int.toNat a1.1) (((Vector.replicate 32 (0:UInt8)),[],[],(0:Int),(0:Int),(0:Int),(0:Int),(0:Int),(0:Int),[]),(C6 (a1.2 + 1)),false,r1.2.2.2.1)),a1.1,true))
def Z6 (v1:Int) (v4:Int) (l0:List o9) (l1:List o5):Option ((Int × List o9 × List o5) ⊕ (List o9 × List o5)):=
 sel (decide (v4=v1)) (
  some (.inr (l0,l1))) (
  (U4 l0 l1 v1 v4).bind fun r1=>
  some (.inl (v4,r1.1,r1.2)))
def a1C (v1:Int) (v4:Int) (v14_0:Int) (v14_1:Int) (v15:Int) (l0:List o9) (l1:List o5):Option ((Int × Int × Int × Int × Int × List o9 × List o5) ⊕ ((Int × List o9 × List o5) ⊕ (List o9 × List o5))):=
 sel (decide (v15 < 2)) (
  chk (decide ((0:Int)<=v15/\v15 < 2)) <|
  sel (decide ((O5 (Vector.push (Vector.push #v[] v14_0) v14_1) (Int.toNat v15) (0:Int)) < (((List.length l0):Nat):Int))) (
   chk (decide ((0:Int)<=(O5 (Vector.push (Vector.push #v[] v14_0) v14_1) (Int.toNat v15) (0:Int))/\(O5 (Vector.push (Vector.push #v[] v14_0) v14_1) (Int.toNat v15) (0:Int)) < (((List.length l0):Nat):Int))) <|
   chk (decide ((Int.toNat (O5 (Vector.push (Vector.push #v[] v14_0) v14_1) (Int.toNat v15) (0:Int))) < (List.length l0))) <|
   chk (decide ((0:Int)<=v4/\v4 < (((List.length l0):Nat):Int))) <|
   chk (decide ((Int.toNat v4) < (List.length l0))) <|
   (a18 (List.getD l0 (Int.toNat (O5 (Vector.push (Vector.push #v[] v14_0) v14_1) (Int.toNat v15) (0:Int))) C3) (List.getD l0 (Int.toNat v4) C3)).bind fun r2=>
   sel r2 (
    some (.inl (v1,(O5 (Vector.push (Vector.push #v[] v14_0) v14_1) (Int.toNat v15) (0:Int)),v14_0,v14_1,(C6 (v15 + 1)),l0,l1))) (
    some (.inl (v1,v4,v14_0,v14_1,(C6 (v15 + 1)),l0,l1)))) (
   some (.inl (v1,v4,v14_0,v14_1,(C6 (v15 + 1)),l0,l1)))) (
  Option.map .inr (
   Z6 v1 v4 l0 l1))
def a1g (v1:Int) (v4:Int) (v14_0:Int) (v14_1:Int) (v15:Int) (l0:List o9) (l1:List o5):Option ((Int × List o9 × List o5) ⊕ (List o9 × List o5)):=
 Q9 (fun v=>a1C v.1 v.2.1 v.2.2.1 v.2.2.2.1 v.2.2.2.2.1 v.2.2.2.2.2.1 v.2.2.2.2.2.2) (v1,v4,v14_0,v14_1,v15,l0,l1)
def a1D (v1:Int) (l0:List o9) (l1:List o5):Option ((Int × List o9 × List o5) ⊕ (List o9 × List o5)):=
 a1g v1 v1 (C6 ((C6 (2 * v1)) + 1)) (C6 ((C6 (2 * v1)) + 2)) 0 l0 l1
def a3t (v1:Int) (l0:List o9) (l1:List o5):Option (List o9 × List o5):=
 Q9 (fun v=>a1D v.1 v.2.1 v.2.2) (v1,l0,l1)
def a1v (a0_0:List o9) (a0_1:List o5) (a1:Int):Option (List o9 × List o5):=
 a3t a1 a0_0 a0_1
def a1w (a0_0:List o9) (a0_1:List o5) (a1:Int):Option (List o9 × List o5):=
 (U4 a0_0 a0_1 a1 (C6 ((((List.length a0_0):Nat):Int) - 1))).bind fun r1=>
 chk (decide ((0:Int)<=(C6 ((((List.length a0_0):Nat):Int) - 1))/\(C6 ((((List.length a0_0):Nat):Int) - 1)) < (((List.length r1.1):Nat):Int))) <|
 chk (decide ((Int.toNat (C6 ((((List.length a0_0):Nat):Int) - 1))) < (List.length r1.1))) <|
 chk (decide ((0:Int)<=(C6 ((((List.length a0_0):Nat):Int) - 1))/\(C6 ((((List.length a0_0):Nat):Int) - 1))<=(((List.length r1.1):Nat):Int))) <|
 sel (decide (a1 < (C6 ((((List.length a0_0):Nat):Int) - 1)))) (
  (a1l (List.take (Int.toNat (C6 ((((List.length a0_0):Nat):Int) - 1))) r1.1) (a5u J8 (List.getD r1.1 (Int.toNat (C6 ((((List.length a0_0):Nat):Int) - 1))) C3).1 r1.2) a1).bind fun r2=>
  (a1v r2.1 r2.2 a1).bind fun r3=>
  some (r3.1,r3.2)) (
  some ((List.take (Int.toNat (C6 ((((List.length a0_0):Nat):Int) - 1))) r1.1),(a5u J8 (List.getD r1.1 (Int.toNat (C6 ((((List.length a0_0):Nat):Int) - 1))) C3).1 r1.2)))
def a0D (a0_0:List o9) (a0_1:List o5) (a1:Int):Option (List o9 × List o5 × Bool):=
 sel (Option.isSome (a1r J8 a1 a0_1)) (
  (a1w a0_0 a0_1 (W4 J8 a1 (0:Int) a0_1)).bind fun r1=>
  some (r1.1,r1.2,(Option.isSome (a1r J8 a1 a0_1)))) (
  some (a0_0,a0_1,(Option.isSome (a1r J8 a1 a0_1))))
def O6 (a0_0:Int) (a0_1:Int) (a0_2:List (Int × o5)) (a1:Int):Option (Int × Int × (List (Int × o5)) × Bool):=
 some (a0_0,a0_1,(a5u J8 a1 a0_2),(Option.isSome (a1r J8 a1 a0_2)))
def P5 (a0_0:A0) (a0_1_0:Int) (a0_1_1:Int) (a0_1_2:List A6) (a0_1_3:Int) (a0_2_0:List o9) (a0_2_1:List o5) (a0_3_0:List (List UInt8 × List A1)) (a0_3_1:Int) (a0_4_0:Int) (a0_4_1:Int) (a0_4_2:List (Int × o5)) (a0_5:List (Int × o5)) (a0_6:List (List UInt8 × Int)) (a0_7:Int) (a1:Vector UInt8 32):Option (A0 × Int × Int × List A6 × Int × List o9 × List o5 × (List (List UInt8 × List A1)) × Int × Int × Int × (List (Int × o5)) × (List (Int × o5)) × (List (List UInt8 × Int)) × Int × Bool):=
 (Y2 a0_0 a0_1_0 a0_1_1 a0_1_2 a0_1_3 a0_2_0 a0_2_1 a0_3_0 a0_3_1 a0_4_0 a0_4_1 a0_4_2 a0_5 a0_6 a0_7 a1).bind fun r1=>
 sel (!r1.2.2.2.2.2.2.2.2.2.2.2.2.2.2.2.2) (
  some (r1.1,r1.2.1,r1.2.2.1,r1.2.2.2.1,r1.2.2.2.2.1,r1.2.2.2.2.2.1,r1.2.2.2.2.2.2.1,r1.2.2.2.2.2.2.2.1,r1.2.2.2.2.2.2.2.2.1,r1.2.2.2.2.2.2.2.2.2.1,r1.2.2.2.2.2.2.2.2.2.2.1,r1.2.2.2.2.2.2.2.2.2.2.2.1,r1.2.2.2.2.2.2.2.2.2.2.2.2.1,r1.2.2.2.2.2.2.2.2.2.2.2.2.2.1,r1.2.2.2.2.2.2.2.2.2.2.2.2.2.2.1,false)) (
  (S5 r1.2.1 r1.2.2.1 r1.2.2.2.1 r1.2.2.2.2.1 (W4 J8 (W4 D3 (Vector.toList a1) (0:Int) r1.2.2.2.2.2.2.2.2.2.2.2.2.2.1) U8 r1.2.2.2.2.2.2.2.2.2.2.2.2.1)).bind fun r2=>
  (a0D r1.2.2.2.2.2.1 r1.2.2.2.2.2.2.1 (W4 D3 (Vector.toList a1) (0:Int) r1.2.2.2.2.2.2.2.2.2.2.2.2.2.1)).bind fun r3=>
  (H9 r1.2.2.2.2.2.2.2.1 r1.2.2.2.2.2.2.2.2.1 r1.2.2.2.2.2.2.2.2.2.2.2.2.2.2.2.1.2.2.1 r1.2.2.2.2.2.2.2.2.2.2.2.2.2.2.2.1.2.2.2.1).bind fun r4=>
  (O6 r1.2.2.2.2.2.2.2.2.2.1 r1.2.2.2.2.2.2.2.2.2.2.1 r1.2.2.2.2.2.2.2.2.2.2.2.1 (W4 D3 (Vector.toList a1) (0:Int) r1.2.2.2.2.2.2.2.2.2.2.2.2.2.1)).bind fun r5=>
  some (r1.1,r2.1,r2.2.1,r2.2.2.1,r2.2.2.2.1,r3.1,r3.2.1,r4.1,r4.2.1,r5.1,r5.2.1,r5.2.2.1,(a5u J8 (W4 D3 (Vector.toList a1) (0:Int) r1.2.2.2.2.2.2.2.2.2.2.2.2.2.1) r1.2.2.2.2.2.2.2.2.2.2.2.2.1),(a5u D3 (Vector.toList a1) r1.2.2.2.2.2.2.2.2.2.2.2.2.2.1),r1.2.2.2.2.2.2.2.2.2.2.2.2.2.2.1,true))
def a0Z (a0_0:A0) (_a0_1_0:Int) (_a0_1_1:Int) (_a0_1_2:List A6) (_a0_1_3:Int) (_a0_2_0:List o9) (_a0_2_1:List o5) (_a0_3_0:List (List UInt8 × List A1)) (_a0_3_1:Int) (_a0_4_0:Int) (_a0_4_1:Int) (_a0_4_2:List (Int × o5)) (_a0_5:List (Int × o5)) (_a0_6:List (List UInt8 × Int)) (_a0_7:Int):Option (A0 × Int × Int × List A6 × Int × List o9 × List o5 × (List (List UInt8 × List A1)) × Int × Int × Int × (List (Int × o5)) × (List (Int × o5)) × (List (List UInt8 × Int)) × Int):=
 (a0W a0_0).bind fun r1=>
 some (r1.1,r1.2.1,r1.2.2.1,r1.2.2.2.1,r1.2.2.2.2.1,r1.2.2.2.2.2.1,r1.2.2.2.2.2.2.1,r1.2.2.2.2.2.2.2.1,r1.2.2.2.2.2.2.2.2.1,r1.2.2.2.2.2.2.2.2.2.1,r1.2.2.2.2.2.2.2.2.2.2.1,r1.2.2.2.2.2.2.2.2.2.2.2.1,r1.2.2.2.2.2.2.2.2.2.2.2.2.1,r1.2.2.2.2.2.2.2.2.2.2.2.2.2.1,r1.2.2.2.2.2.2.2.2.2.2.2.2.2.2)
def R1 (v3:Int) (v6:List o7) (v7:Int) (v8:Int):Option ((Int × List o7 × Int × Int) ⊕ (Int)):=
 sel (decide (v8 < v7)) (
  chk (decide ((0:Int)<=v8/\v8 < (((List.length v6):Nat):Int))) <|
  some (.inl ((C6 (v3 + (((List.length (List.getD v6 (Int.toNat v8) B7).2.1):Nat):Int))),v6,v7,(C6 (v8 + 1))))) (
  some (.inr v3))
def a1P (v3:Int) (v6:List o7) (v7:Int) (v8:Int):Option (Int):=
 Q9 (fun v=>R1 v.1 v.2.1 v.2.2.1 v.2.2.2) (v3,v6,v7,v8)
def Q7 (a0:List o7):Option (Int):=
 a1P 0 a0 (((List.length a0):Nat):Int) 0
def Y3 (b0:A5) (b1:o7) (_b2:A5):Option (A5 × Int):=
 sel (decide (b0.1.1<=(((List.length b0.2):Nat):Int))) (
  some (b0,24)) (
  (Q7 b0.2).bind fun r2=>
  sel (decide (b0.1.2.1 < (C6 (r2 + (((List.length b1.2.1):Nat):Int))))) (
   some (b0,24)) (
   chk (decide ((0 + (List.length b0.2)) * 144<=LIM/\0 + (List.length b0.2)<=LEN)) <|
   chk (decide (((List.length b0.2) + 1) * 144<=LIM/\(List.length b0.2) + 1<=LEN)) <|
   some ((b0.1,(b0.2 ++ ([b1]:List o7))),0)))
def P6 (v16:List o7) (v17:Int) (v18:Int) (b0:A5) (b1:o7) (b2:A5):Option ((List o7 × Int × Int × A5 × o7 × A5) ⊕ (A5 × Int)):=
 sel (decide (v18 < v17)) (
  chk (decide ((0:Int)<=v18/\v18 < (((List.length v16):Nat):Int))) <|
  sel (decide ((List.getD v16 (Int.toNat v18) B7).2.2.1=b1.2.2.1)) (
   sel (decide ((List.getD v16 (Int.toNat v18) B7).2.2.2.1=b1.2.2.2.1)) (
    some (.inr (b0,9))) (
    some (.inl (v16,v17,(C6 (v18 + 1)),b0,b1,b2)))) (
   some (.inl (v16,v17,(C6 (v18 + 1)),b0,b1,b2)))) (
  Option.map .inr (
   Y3 b0 b1 b2))
def a1m (v16:List o7) (v17:Int) (v18:Int) (b0:A5) (b1:o7) (b2:A5):Option (A5 × Int):=
 Q9 (fun v=>P6 v.1 v.2.1 v.2.2.1 v.2.2.2.1 v.2.2.2.2.1 v.2.2.2.2.2) (v16,v17,v18,b0,b1,b2)
def V4 (a0:A5) (a1:o7):Option (A5 × Int):=
 (N5 a0.2 a1.1).bind fun r1=>
 sel (decide (0<=r1)) (
  some (a0,8)) (
  a1m a0.2 (((List.length a0.2):Nat):Int) 0 a0 a1 (((0:Int),(0:Int),(0:Int),(0:Int),(0:Int),(0:Int),false,(0:Int),(0:Int),(0:Int),(0:Int),(0:Int)),[]))
def a0v (_b0:A5) (b1_0:A0) (b1_7:Int) (b2_0:Int) (b2_1:Int) (b2_3:Int) (b4_1:Int) (b5_0:Int) (b5_1:Int) (b6:A5) (l0:List A6) (l1:List o9) (l2:List o5) (l3:List (List UInt8 × List A1)) (l4:List (Int × o5)) (l5:List (Int × o5)) (l6:List (List UInt8 × Int)):Option (A0 × Int × Int × List A6 × Int × List o9 × List o5 × (List (List UInt8 × List A1)) × Int × Int × Int × (List (Int × o5)) × (List (Int × o5)) × (List (List UInt8 × Int)) × Int × A5 × Bool):=
 some (b1_0,b2_0,b2_1,l0,b2_3,l1,l2,l3,b4_1,b5_0,b5_1,l4,l5,l6,b1_7,b6,true)
def F9 (v0:List Int) (b0:A5) (b1:A4) (b2_0:A0) (b2_7:Int) (b3_0:Int) (b3_1:Int) (b3_3:Int) (b5_1:Int) (b6_0:Int) (b6_1:Int) (b7:A5) (l0:List A6) (l1:List o9) (l2:List o5) (l3:List (List UInt8 × List A1)) (l4:List (Int × o5)) (l5:List (Int × o5)) (l6:List (List UInt8 × Int)):Option ((List Int × A5 × A4 × A0 × Int × Int × Int × Int × Int × Int × Int × A5 × List A6 × List o9 × List o5 × (List (List UInt8 × List A1)) × (List (Int × o5)) × (List (Int × o5)) × List (List UInt8 × Int)) ⊕ (A0 × Int × Int × List A6 × Int × List o9 × List o5 × (List (List UInt8 × List A1)) × Int × Int × Int × (List (Int × o5)) × (List (Int × o5)) × (List (List UInt8 × Int)) × Int × A5 × Bool)):=
 (S3 b2_0 b3_0 b3_1 l0 b3_3 l1 l2 l3 b5_1 b6_0 b6_1 l4 l5 l6 b2_7).bind fun r7=>
 sel (!decide (r7.2.2.2.2.2.2.2.2.2.2.2.2.2.2.2=(((List.length b7.2):Nat):Int))) (
  some (.inr (r7.1,r7.2.1,r7.2.2.1,r7.2.2.2.1,r7.2.2.2.2.1,r7.2.2.2.2.2.1,r7.2.2.2.2.2.2.1,r7.2.2.2.2.2.2.2.1,r7.2.2.2.2.2.2.2.2.1,r7.2.2.2.2.2.2.2.2.2.1,r7.2.2.2.2.2.2.2.2.2.2.1,r7.2.2.2.2.2.2.2.2.2.2.2.1,r7.2.2.2.2.2.2.2.2.2.2.2.2.1,r7.2.2.2.2.2.2.2.2.2.2.2.2.2.1,r7.2.2.2.2.2.2.2.2.2.2.2.2.2.2.1,b7,false))) (
  (R8 r7.1 r7.2.1 r7.2.2.1 r7.2.2.2.1 r7.2.2.2.2.1 r7.2.2.2.2.2.1 r7.2.2.2.2.2.2.1 r7.2.2.2.2.2.2.2.1 r7.2.2.2.2.2.2.2.2.1 r7.2.2.2.2.2.2.2.2.2.1 r7.2.2.2.2.2.2.2.2.2.2.1 r7.2.2.2.2.2.2.2.2.2.2.2.1 r7.2.2.2.2.2.2.2.2.2.2.2.2.1 r7.2.2.2.2.2.2.2.2.2.2.2.2.2.1 r7.2.2.2.2.2.2.2.2.2.2.2.2.2.2.1).bind fun r8=>
  (Q7 b7.2).bind fun r9=>
  sel (!decide (r8.2.2.2.2.2.2.2.2.2.2.2.2.2.2.2=r9)) (
   some (.inr (r8.1,r8.2.1,r8.2.2.1,r8.2.2.2.1,r8.2.2.2.2.1,r8.2.2.2.2.2.1,r8.2.2.2.2.2.2.1,r8.2.2.2.2.2.2.2.1,r8.2.2.2.2.2.2.2.2.1,r8.2.2.2.2.2.2.2.2.2.1,r8.2.2.2.2.2.2.2.2.2.2.1,r8.2.2.2.2.2.2.2.2.2.2.2.1,r8.2.2.2.2.2.2.2.2.2.2.2.2.1,r8.2.2.2.2.2.2.2.2.2.2.2.2.2.1,r8.2.2.2.2.2.2.2.2.2.2.2.2.2.2.1,b7,false))) (
   some (.inl (v0,b0,b1,r8.1,r8.2.2.2.2.2.2.2.2.2.2.2.2.2.2.1,r8.2.1,r8.2.2.1,r8.2.2.2.2.1,r8.2.2.2.2.2.2.2.2.1,r8.2.2.2.2.2.2.2.2.2.1,r8.2.2.2.2.2.2.2.2.2.2.1,b7,r8.2.2.2.1,r8.2.2.2.2.2.1,r8.2.2.2.2.2.2.1,r8.2.2.2.2.2.2.2.1,r8.2.2.2.2.2.2.2.2.2.2.2.1,r8.2.2.2.2.2.2.2.2.2.2.2.2.1,r8.2.2.2.2.2.2.2.2.2.2.2.2.2.1))))
def M7 (v0:List Int) (v72:Int) (v87:Bool) (b0:A5) (b1:A4) (b2_0:A0) (b2_7:Int) (b3_0:Int) (b3_1:Int) (b3_3:Int) (b5_1:Int) (b6_0:Int) (b6_1:Int) (b7:A5) (b8:o7) (l0:List A6) (l1:List o9) (l2:List o5) (l3:List (List UInt8 × List A1)) (l4:List (Int × o5)) (l5:List (Int × o5)) (l6:List (List UInt8 × Int)):Option ((List Int × A5 × A4 × A0 × Int × Int × Int × Int × Int × Int × Int × A5 × List A6 × List o9 × List o5 × (List (List UInt8 × List A1)) × (List (Int × o5)) × (List (Int × o5)) × List (List UInt8 × Int)) ⊕ (A0 × Int × Int × List A6 × Int × List o9 × List o5 × (List (List UInt8 × List A1)) × Int × Int × Int × (List (Int × o5)) × (List (Int × o5)) × (List (List UInt8 × Int)) × Int × A5 × Bool)):=
 sel v87 (
  (V3 b7 b8.1).bind fun r11=>
  (P5 b2_0 b3_0 b3_1 l0 b3_3 l1 l2 l3 b5_1 b6_0 b6_1 l4 l5 l6 b2_7 b8.1).bind fun r12=>
  sel (!(c0S r12.2.2.2.2.2.2.2.2.2.2.2.2.2.2.2 r11.2)) (
   some (.inr (r12.1,r12.2.1,r12.2.2.1,r12.2.2.2.1,r12.2.2.2.2.1,r12.2.2.2.2.2.1,r12.2.2.2.2.2.2.1,r12.2.2.2.2.2.2.2.1,r12.2.2.2.2.2.2.2.2.1,r12.2.2.2.2.2.2.2.2.2.1,r12.2.2.2.2.2.2.2.2.2.2.1,r12.2.2.2.2.2.2.2.2.2.2.2.1,r12.2.2.2.2.2.2.2.2.2.2.2.2.1,r12.2.2.2.2.2.2.2.2.2.2.2.2.2.1,r12.2.2.2.2.2.2.2.2.2.2.2.2.2.2.1,b7,false))) (
   F9 v0 b0 b1 r12.1 r12.2.2.2.2.2.2.2.2.2.2.2.2.2.2.1 r12.2.1 r12.2.2.1 r12.2.2.2.2.1 r12.2.2.2.2.2.2.2.2.1 r12.2.2.2.2.2.2.2.2.2.1 r12.2.2.2.2.2.2.2.2.2.2.1 r11.1 r12.2.2.2.1 r12.2.2.2.2.2.1 r12.2.2.2.2.2.2.1 r12.2.2.2.2.2.2.2.1 r12.2.2.2.2.2.2.2.2.2.2.2.1 r12.2.2.2.2.2.2.2.2.2.2.2.2.1 r12.2.2.2.2.2.2.2.2.2.2.2.2.2.1)) (
  sel (decide (v72=2)) (
   (A7 b1 4).bind fun r13=>
   sel (decide (r13.2=0)) (
    (a0Z b2_0 b3_0 b3_1 l0 b3_3 l1 l2 l3 b5_1 b6_0 b6_1 l4 l5 l6 b2_7).bind fun r14=>
    F9 v0 b0 r13.1 r14.1 r14.2.2.2.2.2.2.2.2.2.2.2.2.2.2 r14.2.1 r14.2.2.1 r14.2.2.2.2.1 r14.2.2.2.2.2.2.2.2.1 r14.2.2.2.2.2.2.2.2.2.1 r14.2.2.2.2.2.2.2.2.2.2.1 (b7.1,[]) r14.2.2.2.1 r14.2.2.2.2.2.1 r14.2.2.2.2.2.2.1 r14.2.2.2.2.2.2.2.1 r14.2.2.2.2.2.2.2.2.2.2.2.1 r14.2.2.2.2.2.2.2.2.2.2.2.2.1 r14.2.2.2.2.2.2.2.2.2.2.2.2.2.1) (
    F9 v0 b0 r13.1 b2_0 b2_7 b3_0 b3_1 b3_3 b5_1 b6_0 b6_1 b7 l0 l1 l2 l3 l4 l5 l6)) (
   (V4 b7 b8).bind fun r15=>
   (F7 b2_0 b3_0 b3_1 l0 b3_3 l1 l2 l3 b5_1 b6_0 b6_1 l4 l5 l6 b2_7 b8).bind fun r16=>
   sel (!decide (r16.2.2.2.2.2.2.2.2.2.2.2.2.2.2.2=r15.2)) (
    some (.inr (r16.1,r16.2.1,r16.2.2.1,r16.2.2.2.1,r16.2.2.2.2.1,r16.2.2.2.2.2.1,r16.2.2.2.2.2.2.1,r16.2.2.2.2.2.2.2.1,r16.2.2.2.2.2.2.2.2.1,r16.2.2.2.2.2.2.2.2.2.1,r16.2.2.2.2.2.2.2.2.2.2.1,r16.2.2.2.2.2.2.2.2.2.2.2.1,r16.2.2.2.2.2.2.2.2.2.2.2.2.1,r16.2.2.2.2.2.2.2.2.2.2.2.2.2.1,r16.2.2.2.2.2.2.2.2.2.2.2.2.2.2.1,b7,false))) (
    F9 v0 b0 b1 r16.1 r16.2.2.2.2.2.2.2.2.2.2.2.2.2.2.1 r16.2.1 r16.2.2.1 r16.2.2.2.2.1 r16.2.2.2.2.2.2.2.2.1 r16.2.2.2.2.2.2.2.2.2.1 r16.2.2.2.2.2.2.2.2.2.2.1 r15.1 r16.2.2.2.1 r16.2.2.2.2.2.1 r16.2.2.2.2.2.2.1 r16.2.2.2.2.2.2.2.1 r16.2.2.2.2.2.2.2.2.2.2.2.1 r16.2.2.2.2.2.2.2.2.2.2.2.2.1 r16.2.2.2.2.2.2.2.2.2.2.2.2.2.1)))
def M8 (v0:List Int) (b0:A5) (b1:A4) (b2_0:A0) (b2_7:Int) (b3_0:Int) (b3_1:Int) (b3_3:Int) (b5_1:Int) (b6_0:Int) (b6_1:Int) (b7:A5) (b8:o7) (l0:List A6) (l1:List o9) (l2:List o5) (l3:List (List UInt8 × List A1)) (l4:List (Int × o5)) (l5:List (Int × o5)) (l6:List (List UInt8 × Int)):Option ((List Int × A5 × A4 × A0 × Int × Int × Int × Int × Int × Int × Int × A5 × List A6 × List o9 × List o5 × (List (List UInt8 × List A1)) × (List (Int × o5)) × (List (Int × o5)) × List (List UInt8 × Int)) ⊕ (A0 × Int × Int × List A6 × Int × List o9 × List o5 × (List (List UInt8 × List A1)) × Int × Int × Int × (List (Int × o5)) × (List (Int × o5)) × (List (List UInt8 × Int)) × Int × A5 × Bool)):=
 (A7 b1 9).bind fun r10=>
 sel (decide (r10.2=0)) (
  M7 v0 r10.2 (decide (r10.2=0)) b0 r10.1 b2_0 b2_7 b3_0 b3_1 b3_3 b5_1 b6_0 b6_1 b7 b8 l0 l1 l2 l3 l4 l5 l6) (
  M7 v0 r10.2 (decide (r10.2=1)) b0 r10.1 b2_0 b2_7 b3_0 b3_1 b3_3 b5_1 b6_0 b6_1 b7 b8 l0 l1 l2 l3 l4 l5 l6)
def M9 (v0:List Int) (v12:Int) (v61:Bool) (b0:A5) (b1:A4) (b2_0:A0) (b2_7:Int) (b3_0:Int) (b3_1:Int) (b3_3:Int) (b5_1:Int) (b6_0:Int) (b6_1:Int) (b7:A5) (b8:o7) (l0:List A6) (l1:List o9) (l2:List o5) (l3:List (List UInt8 × List A1)) (l4:List (Int × o5)) (l5:List (Int × o5)) (l6:List (List UInt8 × Int)):Option ((List Int × A5 × A4 × A0 × Int × Int × Int × Int × Int × Int × Int × A5 × List A6 × List o9 × List o5 × (List (List UInt8 × List A1)) × (List (Int × o5)) × (List (Int × o5)) × List (List UInt8 × Int)) ⊕ (A0 × Int × Int × List A6 × Int × List o9 × List o5 × (List (List UInt8 × List A1)) × Int × Int × Int × (List (Int × o5)) × (List (Int × o5)) × (List (List UInt8 × Int)) × Int × A5 × Bool)):=
 sel v61 (
  (A7 b1 v12).bind fun r17=>
  chk (decide ((0:Int)<=r17.2/\r17.2 < (((List.length b7.2):Nat):Int))) <|
  M8 v0 b0 r17.1 b2_0 b2_7 b3_0 b3_1 b3_3 b5_1 b6_0 b6_1 b7 ((List.getD b7.2 (Int.toNat r17.2) B7).1,b8.2) l0 l1 l2 l3 l4 l5 l6) (
  M8 v0 b0 b1 b2_0 b2_7 b3_0 b3_1 b3_3 b5_1 b6_0 b6_1 b7 b8 l0 l1 l2 l3 l4 l5 l6)
def a0w (v0:List Int) (b0:A5) (b1:A4) (b2_0:A0) (b2_7:Int) (b3_0:Int) (b3_1:Int) (b3_3:Int) (b5_1:Int) (b6_0:Int) (b6_1:Int) (b7:A5) (l0:List A6) (l1:List o9) (l2:List o5) (l3:List (List UInt8 × List A1)) (l4:List (Int × o5)) (l5:List (Int × o5)) (l6:List (List UInt8 × Int)):Option ((List Int × A5 × A4 × A0 × Int × Int × Int × Int × Int × Int × Int × A5 × List A6 × List o9 × List o5 × (List (List UInt8 × List A1)) × (List (Int × o5)) × (List (Int × o5)) × List (List UInt8 × Int)) ⊕ (A0 × Int × Int × List A6 × Int × List o9 × List o5 × (List (List UInt8 × List A1)) × Int × Int × Int × (List (Int × o5)) × (List (Int × o5)) × (List (List UInt8 × Int)) × Int × A5 × Bool)):=
 sel (decide (b1.2 < (((List.length v0):Nat):Int))) (
  (S4 b1).bind fun r6=>
  sel (decide (0 < (((List.length b7.2):Nat):Int))) (
   (A7 r6.1 4).bind fun r18=>
   M9 v0 (((List.length b7.2):Nat):Int) (decide (r18.2=0)) b0 r18.1 b2_0 b2_7 b3_0 b3_1 b3_3 b5_1 b6_0 b6_1 b7 r6.2 l0 l1 l2 l3 l4 l5 l6) (
   M9 v0 (((List.length b7.2):Nat):Int) false b0 r6.1 b2_0 b2_7 b3_0 b3_1 b3_3 b5_1 b6_0 b6_1 b7 r6.2 l0 l1 l2 l3 l4 l5 l6)) (
  Option.map .inr (
   a0v b0 b2_0 b2_7 b3_0 b3_1 b3_3 b5_1 b6_0 b6_1 b7 l0 l1 l2 l3 l4 l5 l6))
def a2e (v0:List Int) (b0:A5) (b1:A4) (b2_0:A0) (b2_7:Int) (b3_0:Int) (b3_1:Int) (b3_3:Int) (b5_1:Int) (b6_0:Int) (b6_1:Int) (b7:A5) (l0:List A6) (l1:List o9) (l2:List o5) (l3:List (List UInt8 × List A1)) (l4:List (Int × o5)) (l5:List (Int × o5)) (l6:List (List UInt8 × Int)):Option (A0 × Int × Int × List A6 × Int × List o9 × List o5 × (List (List UInt8 × List A1)) × Int × Int × Int × (List (Int × o5)) × (List (Int × o5)) × (List (List UInt8 × Int)) × Int × A5 × Bool):=
 Q9 (fun v=>a0w v.1 v.2.1 v.2.2.1 v.2.2.2.1 v.2.2.2.2.1 v.2.2.2.2.2.1 v.2.2.2.2.2.2.1 v.2.2.2.2.2.2.2.1 v.2.2.2.2.2.2.2.2.1 v.2.2.2.2.2.2.2.2.2.1 v.2.2.2.2.2.2.2.2.2.2.1 v.2.2.2.2.2.2.2.2.2.2.2.1 v.2.2.2.2.2.2.2.2.2.2.2.2.1 v.2.2.2.2.2.2.2.2.2.2.2.2.2.1 v.2.2.2.2.2.2.2.2.2.2.2.2.2.2.1 v.2.2.2.2.2.2.2.2.2.2.2.2.2.2.2.1 v.2.2.2.2.2.2.2.2.2.2.2.2.2.2.2.2.1 v.2.2.2.2.2.2.2.2.2.2.2.2.2.2.2.2.2.1 v.2.2.2.2.2.2.2.2.2.2.2.2.2.2.2.2.2.2) (v0,b0,b1,b2_0,b2_7,b3_0,b3_1,b3_3,b5_1,b6_0,b6_1,b7,l0,l1,l2,l3,l4,l5,l6)
def N0 (v0:List Int) (b0:A5) (b1:A4) (b2:A0):Option (A0 × Int × Int × List A6 × Int × List o9 × List o5 × (List (List UInt8 × List A1)) × Int × Int × Int × (List (Int × o5)) × (List (Int × o5)) × (List (List UInt8 × Int)) × Int × A5 × Bool):=
 (a0W b2).bind fun r4=>
 (T6 b2).bind fun r5=>
 a2e v0 b0 b1 r4.1 r4.2.2.2.2.2.2.2.2.2.2.2.2.2.2 r4.2.1 r4.2.2.1 r4.2.2.2.2.1 r4.2.2.2.2.2.2.2.2.1 r4.2.2.2.2.2.2.2.2.2.1 r4.2.2.2.2.2.2.2.2.2.2.1 r5 r4.2.2.2.1 r4.2.2.2.2.2.1 r4.2.2.2.2.2.2.1 r4.2.2.2.2.2.2.2.1 r4.2.2.2.2.2.2.2.2.2.2.2.1 r4.2.2.2.2.2.2.2.2.2.2.2.2.1 r4.2.2.2.2.2.2.2.2.2.2.2.2.2.1
def K3 (a0:List Int) (a1:A0):Option (A0 × Int × Int × List A6 × Int × List o9 × List o5 × (List (List UInt8 × List A1)) × Int × Int × Int × (List (Int × o5)) × (List (Int × o5)) × (List (List UInt8 × Int)) × Int × A5 × Bool):=
 (a0B a0).bind fun r1=>
 (X4 r1).bind fun r2=>
 (A7 r2.1 40).bind fun r3=>
 (A7 r3.1 8).bind fun r19=>
 sel (decide (r19.2=0)) (
  N0 a0 (((0:Int),(0:Int),(0:Int),(0:Int),(0:Int),(0:Int),false,(0:Int),(0:Int),(0:Int),(0:Int),(0:Int)),[]) r19.1 a1) (
  N0 a0 (((0:Int),(0:Int),(0:Int),(0:Int),(0:Int),(0:Int),false,(0:Int),(0:Int),(0:Int),(0:Int),(0:Int)),[]) r19.1 (r2.2.1,(C6 (1 + r3.2)),(min r2.2.2.2.1 (C6 (1 + r3.2))),r2.2.2.2.2))
def H7 (v6:Int) (v7:List o7) (v8:Int) (v9:Int) (b0:o7) (l0:List o7):Option ((List o7 × Int × Int × List o7) ⊕ (List o7)):=
 chk (decide ((0:Int)<=0/\0<=v6/\v6<=(((List.length l0):Nat):Int))) <|
 chk (decide ((0 + (List.length (List.take (Int.toNat v6) l0))) * 144<=LIM/\0 + (List.length (List.take (Int.toNat v6) l0))<=LEN)) <|
 chk (decide (((List.length (List.take (Int.toNat v6) l0)) + 1) * 144<=LIM/\(List.length (List.take (Int.toNat v6) l0)) + 1<=LEN)) <|
 chk (decide ((0:Int)<=v6/\v6<=(((List.length l0):Nat):Int)/\(((List.length l0):Nat):Int)<=(((List.length l0):Nat):Int))) <|
 chk (decide (((List.length ((List.take (Int.toNat v6) l0) ++ ([b0]:List o7))) + (List.length (List.drop (Int.toNat v6) (List.take (Int.toNat (((List.length l0):Nat):Int)) l0)))) * 144<=LIM/\(List.length ((List.take (Int.toNat v6) l0) ++ ([b0]:List o7))) + (List.length (List.drop (Int.toNat v6) (List.take (Int.toNat (((List.length l0):Nat):Int)) l0)))<=LEN)) <|
 some (.inl (v7,v8,(C6 (v9 + 1)),(((List.take (Int.toNat v6) l0) ++ ([b0]:List o7)) ++ (List.drop (Int.toNat v6) (List.take (Int.toNat (((List.length l0):Nat):Int)) l0)))))
def P7 (v6:Int) (v7:List o7) (v8:Int) (v9:Int) (b0:o7) (l0:List o7):Option ((Int × List o7 × Int × Int × o7 × List o7) ⊕ ((List o7 × Int × Int × List o7) ⊕ (List o7))):=
 sel (decide (0 < v6)) (
  chk (decide ((0:Int)<=(C6 (v6 - 1))/\(C6 (v6 - 1)) < (((List.length l0):Nat):Int))) <|
  chk (decide ((Int.toNat (C6 (v6 - 1))) < (List.length l0))) <|
  sel (decide ((List.getD l0 (Int.toNat (C6 (v6 - 1))) B7).2.2.2.2.2.1 < b0.2.2.2.2.2.1)) (
   some (.inl ((C6 (v6 - 1)),v7,v8,v9,b0,l0))) (
   chk (decide ((0:Int)<=(C6 (v6 - 1))/\(C6 (v6 - 1)) < (((List.length l0):Nat):Int))) <|
   chk (decide ((Int.toNat (C6 (v6 - 1))) < (List.length l0))) <|
   sel (decide ((List.getD l0 (Int.toNat (C6 (v6 - 1))) B7).2.2.2.2.2.1=b0.2.2.2.2.2.1)) (
    chk (decide ((0:Int)<=(C6 (v6 - 1))/\(C6 (v6 - 1)) < (((List.length l0):Nat):Int))) <|
    chk (decide ((Int.toNat (C6 (v6 - 1))) < (List.length l0))) <|
    sel (decide (b0.2.2.2.2.2.2.2.2.1 < (List.getD l0 (Int.toNat (C6 (v6 - 1))) B7).2.2.2.2.2.2.2.2.1)) (
     some (.inl ((C6 (v6 - 1)),v7,v8,v9,b0,l0))) (
     Option.map .inr (
      H7 v6 v7 v8 v9 b0 l0))) (
    Option.map .inr (
     H7 v6 v7 v8 v9 b0 l0)))) (
  Option.map .inr (
   H7 v6 v7 v8 v9 b0 l0))
def W7 (v6:Int) (v7:List o7) (v8:Int) (v9:Int) (b0:o7) (l0:List o7):Option ((List o7 × Int × Int × List o7) ⊕ (List o7)):=
 Q9 (fun v=>P7 v.1 v.2.1 v.2.2.1 v.2.2.2.1 v.2.2.2.2.1 v.2.2.2.2.2) (v6,v7,v8,v9,b0,l0)
def P8 (v7:List o7) (v8:Int) (v9:Int) (l0:List o7):Option ((List o7 × Int × Int × List o7) ⊕ (List o7)):=
 sel (decide (v9 < v8)) (
  chk (decide ((0:Int)<=v9/\v9 < (((List.length v7):Nat):Int))) <|
  W7 (((List.length l0):Nat):Int) v7 v8 v9 (List.getD v7 (Int.toNat v9) B7) l0) (
  some (.inr l0))
def a1n (v7:List o7) (v8:Int) (v9:Int) (l0:List o7):Option (List o7):=
 Q9 (fun v=>P8 v.1 v.2.1 v.2.2.1 v.2.2.2) (v7,v8,v9,l0)
def V5 (a0:List o7):Option (List o7):=
 a1n a0 (((List.length a0):Nat):Int) 0 []
def Z7 (a0:List UInt8) (a1:List UInt8):Option (Bool):=
 some (decide (a0=a1))
def N9 (v0:List Int) (v1:List Int) (v12:Int) (v13:Int):Option ((List Int × List Int × Int × Int) ⊕ (Bool)):=
 sel (decide (v13 < v12)) (
  chk (decide ((0:Int)<=v13/\v13 < (((List.length v0):Nat):Int))) <|
  chk (decide ((0:Int)<=v13/\v13 < (((List.length v1):Nat):Int))) <|
  sel (!decide ((List.getD v0 (Int.toNat v13) (0:Int))=(List.getD v1 (Int.toNat v13) (0:Int)))) (
   some (.inr false)) (
   some (.inl (v0,v1,v12,(C6 (v13 + 1)))))) (
  some (.inr true))
def a07 (v0:List Int) (v1:List Int) (v12:Int) (v13:Int):Option (Bool):=
 Q9 (fun v=>N9 v.1 v.2.1 v.2.2.1 v.2.2.2) (v0,v1,v12,v13)
def T8 (a0:List Int) (a1:List Int):Option (Bool):=
 sel (!decide ((((List.length a0):Nat):Int)=(((List.length a1):Nat):Int))) (
  some false) (
  a07 a0 a1 (((List.length a0):Nat):Int) 0)
def D6 (a0:o7) (a1:o7):Option (Bool):=
 sel (U.beq (.arr 32 .byte) a0.1 a1.1) (
  (Z7 a0.2.1 a1.2.1).bind fun r1=>
  sel r1 (
   sel (decide (a0.2.2.1=a1.2.2.1)) (
    sel (decide (a0.2.2.2.1=a1.2.2.2.1)) (
     sel (decide (a0.2.2.2.2.1=a1.2.2.2.2.1)) (
      sel (decide (a0.2.2.2.2.2.1=a1.2.2.2.2.2.1)) (
       sel (decide (a0.2.2.2.2.2.2.1=a1.2.2.2.2.2.2.1)) (
        sel (decide (a0.2.2.2.2.2.2.2.1=a1.2.2.2.2.2.2.2.1)) (
         sel (decide (a0.2.2.2.2.2.2.2.2.1=a1.2.2.2.2.2.2.2.2.1)) (
          (T8 a0.2.2.2.2.2.2.2.2.2 a1.2.2.2.2.2.2.2.2.2).bind fun r2=>
          some r2) (
          some false)) (
         some false)) (
        some false)) (
       some false)) (
      some false)) (
     some false)) (
    some false)) (
   some false)) (
  some false)
def K0 (v0:List o7) (v1:List o7) (v12:Int) (v13:Int):Option ((List o7 × List o7 × Int × Int) ⊕ (Bool)):=
 sel (decide (v13 < v12)) (
  chk (decide ((0:Int)<=v13/\v13 < (((List.length v0):Nat):Int))) <|
  chk (decide ((0:Int)<=v13/\v13 < (((List.length v1):Nat):Int))) <|
  (D6 (List.getD v0 (Int.toNat v13) B7) (List.getD v1 (Int.toNat v13) B7)).bind fun r1=>
  sel (!r1) (
   some (.inr false)) (
   some (.inl (v0,v1,v12,(C6 (v13 + 1)))))) (
  some (.inr true))
def Y9 (v0:List o7) (v1:List o7) (v12:Int) (v13:Int):Option (Bool):=
 Q9 (fun v=>K0 v.1 v.2.1 v.2.2.1 v.2.2.2) (v0,v1,v12,v13)
def D7 (a0:List o7) (a1:List o7):Option (Bool):=
 sel (!decide ((((List.length a0):Nat):Int)=(((List.length a1):Nat):Int))) (
  some false) (
  Y9 a0 a1 (((List.length a0):Nat):Int) 0)
def K6 (v1:List UInt8) (v8:Int) (v9:List o7) (v10:Int) (v11:Int) (b0:o7) (l0:List o7):Option ((List UInt8 × List o7 × Int × Int × List o7) ⊕ (List o7)):=
 chk (decide ((0:Int)<=0/\0<=v8/\v8<=(((List.length l0):Nat):Int))) <|
 chk (decide ((0 + (List.length (List.take (Int.toNat v8) l0))) * 144<=LIM/\0 + (List.length (List.take (Int.toNat v8) l0))<=LEN)) <|
 chk (decide (((List.length (List.take (Int.toNat v8) l0)) + 1) * 144<=LIM/\(List.length (List.take (Int.toNat v8) l0)) + 1<=LEN)) <|
 chk (decide ((0:Int)<=v8/\v8<=(((List.length l0):Nat):Int)/\(((List.length l0):Nat):Int)<=(((List.length l0):Nat):Int))) <|
 chk (decide (((List.length ((List.take (Int.toNat v8) l0) ++ ([b0]:List o7))) + (List.length (List.drop (Int.toNat v8) (List.take (Int.toNat (((List.length l0):Nat):Int)) l0)))) * 144<=LIM/\(List.length ((List.take (Int.toNat v8) l0) ++ ([b0]:List o7))) + (List.length (List.drop (Int.toNat v8) (List.take (Int.toNat (((List.length l0):Nat):Int)) l0)))<=LEN)) <|
 some (.inl (v1,v9,v10,(C6 (v11 + 1)),(((List.take (Int.toNat v8) l0) ++ ([b0]:List o7)) ++ (List.drop (Int.toNat v8) (List.take (Int.toNat (((List.length l0):Nat):Int)) l0)))))
def P9 (v1:List UInt8) (v8:Int) (v9:List o7) (v10:Int) (v11:Int) (b0:o7) (l0:List o7):Option ((List UInt8 × Int × List o7 × Int × Int × o7 × List o7) ⊕ ((List UInt8 × List o7 × Int × Int × List o7) ⊕ (List o7))):=
 sel (decide (0 < v8)) (
  chk (decide ((0:Int)<=(C6 (v8 - 1))/\(C6 (v8 - 1)) < (((List.length l0):Nat):Int))) <|
  chk (decide ((Int.toNat (C6 (v8 - 1))) < (List.length l0))) <|
  sel (decide (b0.2.2.2.1 < (List.getD l0 (Int.toNat (C6 (v8 - 1))) B7).2.2.2.1)) (
   some (.inl (v1,(C6 (v8 - 1)),v9,v10,v11,b0,l0))) (
   Option.map .inr (
    K6 v1 v8 v9 v10 v11 b0 l0))) (
  Option.map .inr (
   K6 v1 v8 v9 v10 v11 b0 l0))
def W8 (v1:List UInt8) (v8:Int) (v9:List o7) (v10:Int) (v11:Int) (b0:o7) (l0:List o7):Option ((List UInt8 × List o7 × Int × Int × List o7) ⊕ (List o7)):=
 Q9 (fun v=>P9 v.1 v.2.1 v.2.2.1 v.2.2.2.1 v.2.2.2.2.1 v.2.2.2.2.2.1 v.2.2.2.2.2.2) (v1,v8,v9,v10,v11,b0,l0)
def Q0 (v1:List UInt8) (v9:List o7) (v10:Int) (v11:Int) (l0:List o7):Option ((List UInt8 × List o7 × Int × Int × List o7) ⊕ (List o7)):=
 sel (decide (v11 < v10)) (
  chk (decide ((0:Int)<=v11/\v11 < (((List.length v9):Nat):Int))) <|
  sel (!decide ((List.getD v9 (Int.toNat v11) B7).2.2.1=v1)) (
   some (.inl (v1,v9,v10,(C6 (v11 + 1)),l0))) (
   W8 v1 (((List.length l0):Nat):Int) v9 v10 v11 (List.getD v9 (Int.toNat v11) B7) l0)) (
  some (.inr l0))
def a1o (v1:List UInt8) (v9:List o7) (v10:Int) (v11:Int) (l0:List o7):Option (List o7):=
 Q9 (fun v=>Q0 v.1 v.2.1 v.2.2.1 v.2.2.2.1 v.2.2.2.2) (v1,v9,v10,v11,l0)
def V6 (a0:List o7) (a1:List UInt8):Option (List o7):=
 a1o a1 a0 (((List.length a0):Nat):Int) 0 []
def S6 (a0:Int) (a1:Int) (a2:Int):Option (Bool):=
 sel (decide (0 < a2)) (
  sel (decide (a1 < a0)) (
   some (decide ((a3P a2) < (a3P ((a3P a0) - (a3P a1)))))) (
   some false)) (
  some false)
def T9 (v2:Int) (v3:Int) (v12:List o7) (v13:Int) (v14:Int) (b0:A0) (l0:List (Vector UInt8 32)):Option ((Int × Int × List o7 × Int × Int × A0 × List (Vector UInt8 32)) ⊕ (List (Vector UInt8 32))):=
 sel (decide (v14 < v13)) (
  chk (decide ((0:Int)<=v14/\v14 < (((List.length v12):Nat):Int))) <|
  (S6 v2 (List.getD v12 (Int.toNat v14) B7).2.2.2.2.2.2.1 b0.2.2.2.2.1).bind fun r1=>
  sel r1 (
   chk (decide (((List.length l0) + 1) * 32<=LIM/\(List.length l0) + 1<=LEN)) <|
   some (.inl (v2,v3,v12,v13,(C6 (v14 + 1)),b0,(l0 ++ [(List.getD v12 (Int.toNat v14) B7).1])))) (
   (S6 v3 (List.getD v12 (Int.toNat v14) B7).2.2.2.2.2.2.2.1 b0.2.2.2.2.2.1).bind fun r2=>
   sel r2 (
    chk (decide (((List.length l0) + 1) * 32<=LIM/\(List.length l0) + 1<=LEN)) <|
    some (.inl (v2,v3,v12,v13,(C6 (v14 + 1)),b0,(l0 ++ [(List.getD v12 (Int.toNat v14) B7).1])))) (
    some (.inl (v2,v3,v12,v13,(C6 (v14 + 1)),b0,l0))))) (
  some (.inr l0))
def a2f (v2:Int) (v3:Int) (v12:List o7) (v13:Int) (v14:Int) (b0:A0) (l0:List (Vector UInt8 32)):Option (List (Vector UInt8 32)):=
 Q9 (fun v=>T9 v.1 v.2.1 v.2.2.1 v.2.2.2.1 v.2.2.2.2.1 v.2.2.2.2.2.1 v.2.2.2.2.2.2) (v2,v3,v12,v13,v14,b0,l0)
def Z8 (a0:A0) (a1:List o7) (a2:Int) (a3:Int):Option (List (Vector UInt8 32)):=
 a2f a2 a3 a1 (((List.length a1):Nat):Int) 0 a0 []
def O0 (v0:List (Vector UInt8 32)) (v1:List (Vector UInt8 32)) (v12:Int) (v13:Int):Option ((List (Vector UInt8 32) × List (Vector UInt8 32) × Int × Int) ⊕ (Bool)):=
 sel (decide (v13 < v12)) (
  chk (decide ((0:Int)<=v13/\v13 < (((List.length v0):Nat):Int))) <|
  chk (decide ((0:Int)<=v13/\v13 < (((List.length v1):Nat):Int))) <|
  sel (!(U.beq (.arr 32 .byte) (List.getD v0 (Int.toNat v13) (Vector.replicate 32 (0:UInt8))) (List.getD v1 (Int.toNat v13) (Vector.replicate 32 (0:UInt8))))) (
   some (.inr false)) (
   some (.inl (v0,v1,v12,(C6 (v13 + 1)))))) (
  some (.inr true))
def a08 (v0:List (Vector UInt8 32)) (v1:List (Vector UInt8 32)) (v12:Int) (v13:Int):Option (Bool):=
 Q9 (fun v=>O0 v.1 v.2.1 v.2.2.1 v.2.2.2) (v0,v1,v12,v13)
def U0 (a0:List (Vector UInt8 32)) (a1:List (Vector UInt8 32)):Option (Bool):=
 sel (!decide ((((List.length a0):Nat):Int)=(((List.length a1):Nat):Int))) (
  some false) (
  a08 a0 a1 (((List.length a0):Nat):Int) 0)
def L8 (v101:Int) (v102:Int) (b0_0:A0) (b0_7:Int) (b1_0:Int) (b1_1:Int) (b1_3:Int) (b3_1:Int) (b4_0:Int) (b4_1:Int) (b5:A5) (l0:List A6) (l1:List o9) (l2:List o5) (l3:List (List UInt8 × List A1)) (l4:List (Int × o5)) (l5:List (Int × o5)) (l6:List (List UInt8 × Int)) (l7:List o7):Option ((Int × Int × A0 × Int × Int × Int × Int × Int × Int × Int × A5 × List A6 × List o9 × List o5 × (List (List UInt8 × List A1)) × (List (Int × o5)) × (List (Int × o5)) × (List (List UInt8 × Int)) × List o7) ⊕ (Bool)):=
 sel (decide (v102 < v101)) (
  chk (decide ((0:Int)<=v102/\v102 < (((List.length l7):Nat):Int))) <|
  chk (decide ((Int.toNat v102) < (List.length l7))) <|
  (Y2 b0_0 b1_0 b1_1 l0 b1_3 l1 l2 l3 b3_1 b4_0 b4_1 l4 l5 l6 b0_7 (List.getD l7 (Int.toNat v102) B7).1).bind fun r7=>
  (N5 b5.2 (List.getD l7 (Int.toNat v102) B7).1).bind fun r8=>
  sel (!(c0S r7.2.2.2.2.2.2.2.2.2.2.2.2.2.2.2.2 (decide (0<=r8)))) (
   some (.inr false)) (
   sel r7.2.2.2.2.2.2.2.2.2.2.2.2.2.2.2.2 (
    chk (decide ((0:Int)<=r8/\r8 < (((List.length b5.2):Nat):Int))) <|
    (D6 r7.2.2.2.2.2.2.2.2.2.2.2.2.2.2.2.1 (List.getD b5.2 (Int.toNat r8) B7)).bind fun r9=>
    sel (!r9) (
     some (.inr false)) (
     sel (!r7.2.2.2.2.2.2.2.2.2.2.2.2.2.2.2.2) (
      (D6 r7.2.2.2.2.2.2.2.2.2.2.2.2.2.2.2.1 ((Vector.replicate 32 (0:UInt8)),[],[],(0:Int),(0:Int),(0:Int),(0:Int),(0:Int),(0:Int),[])).bind fun r10=>
      sel (!r10) (
       some (.inr false)) (
       some (.inl (v101,(C6 (v102 + 1)),r7.1,r7.2.2.2.2.2.2.2.2.2.2.2.2.2.2.1,r7.2.1,r7.2.2.1,r7.2.2.2.2.1,r7.2.2.2.2.2.2.2.2.1,r7.2.2.2.2.2.2.2.2.2.1,r7.2.2.2.2.2.2.2.2.2.2.1,b5,r7.2.2.2.1,r7.2.2.2.2.2.1,r7.2.2.2.2.2.2.1,r7.2.2.2.2.2.2.2.1,r7.2.2.2.2.2.2.2.2.2.2.2.1,r7.2.2.2.2.2.2.2.2.2.2.2.2.1,r7.2.2.2.2.2.2.2.2.2.2.2.2.2.1,l7)))) (
      some (.inl (v101,(C6 (v102 + 1)),r7.1,r7.2.2.2.2.2.2.2.2.2.2.2.2.2.2.1,r7.2.1,r7.2.2.1,r7.2.2.2.2.1,r7.2.2.2.2.2.2.2.2.1,r7.2.2.2.2.2.2.2.2.2.1,r7.2.2.2.2.2.2.2.2.2.2.1,b5,r7.2.2.2.1,r7.2.2.2.2.2.1,r7.2.2.2.2.2.2.1,r7.2.2.2.2.2.2.2.1,r7.2.2.2.2.2.2.2.2.2.2.2.1,r7.2.2.2.2.2.2.2.2.2.2.2.2.1,r7.2.2.2.2.2.2.2.2.2.2.2.2.2.1,l7))))) (
    sel (!r7.2.2.2.2.2.2.2.2.2.2.2.2.2.2.2.2) (
     (D6 r7.2.2.2.2.2.2.2.2.2.2.2.2.2.2.2.1 ((Vector.replicate 32 (0:UInt8)),[],[],(0:Int),(0:Int),(0:Int),(0:Int),(0:Int),(0:Int),[])).bind fun r11=>
     sel (!r11) (
      some (.inr false)) (
      some (.inl (v101,(C6 (v102 + 1)),r7.1,r7.2.2.2.2.2.2.2.2.2.2.2.2.2.2.1,r7.2.1,r7.2.2.1,r7.2.2.2.2.1,r7.2.2.2.2.2.2.2.2.1,r7.2.2.2.2.2.2.2.2.2.1,r7.2.2.2.2.2.2.2.2.2.2.1,b5,r7.2.2.2.1,r7.2.2.2.2.2.1,r7.2.2.2.2.2.2.1,r7.2.2.2.2.2.2.2.1,r7.2.2.2.2.2.2.2.2.2.2.2.1,r7.2.2.2.2.2.2.2.2.2.2.2.2.1,r7.2.2.2.2.2.2.2.2.2.2.2.2.2.1,l7)))) (
     some (.inl (v101,(C6 (v102 + 1)),r7.1,r7.2.2.2.2.2.2.2.2.2.2.2.2.2.2.1,r7.2.1,r7.2.2.1,r7.2.2.2.2.1,r7.2.2.2.2.2.2.2.2.1,r7.2.2.2.2.2.2.2.2.2.1,r7.2.2.2.2.2.2.2.2.2.2.1,b5,r7.2.2.2.1,r7.2.2.2.2.2.1,r7.2.2.2.2.2.2.1,r7.2.2.2.2.2.2.2.1,r7.2.2.2.2.2.2.2.2.2.2.2.1,r7.2.2.2.2.2.2.2.2.2.2.2.2.1,r7.2.2.2.2.2.2.2.2.2.2.2.2.2.1,l7)))))) (
  Option.map .inr (
   (D8).bind fun r12=>
   some r12))
def a0E (v101:Int) (v102:Int) (b0_0:A0) (b0_7:Int) (b1_0:Int) (b1_1:Int) (b1_3:Int) (b3_1:Int) (b4_0:Int) (b4_1:Int) (b5:A5) (l0:List A6) (l1:List o9) (l2:List o5) (l3:List (List UInt8 × List A1)) (l4:List (Int × o5)) (l5:List (Int × o5)) (l6:List (List UInt8 × Int)) (l7:List o7):Option (Bool):=
 Q9 (fun v=>L8 v.1 v.2.1 v.2.2.1 v.2.2.2.1 v.2.2.2.2.1 v.2.2.2.2.2.1 v.2.2.2.2.2.2.1 v.2.2.2.2.2.2.2.1 v.2.2.2.2.2.2.2.2.1 v.2.2.2.2.2.2.2.2.2.1 v.2.2.2.2.2.2.2.2.2.2.1 v.2.2.2.2.2.2.2.2.2.2.2.1 v.2.2.2.2.2.2.2.2.2.2.2.2.1 v.2.2.2.2.2.2.2.2.2.2.2.2.2.1 v.2.2.2.2.2.2.2.2.2.2.2.2.2.2.1 v.2.2.2.2.2.2.2.2.2.2.2.2.2.2.2.1 v.2.2.2.2.2.2.2.2.2.2.2.2.2.2.2.2.1 v.2.2.2.2.2.2.2.2.2.2.2.2.2.2.2.2.2.1 v.2.2.2.2.2.2.2.2.2.2.2.2.2.2.2.2.2.2) (v101,v102,b0_0,b0_7,b1_0,b1_1,b1_3,b3_1,b4_0,b4_1,b5,l0,l1,l2,l3,l4,l5,l6,l7)
def S7 (b0:Vector UInt8 32) (b1_0:A0) (b1_7:Int) (b2_0:Int) (b2_1:Int) (b2_3:Int) (b4_1:Int) (b5_0:Int) (b5_1:Int) (b6:A5) (l0:List A6) (l1:List o9) (l2:List o5) (l3:List (List UInt8 × List A1)) (l4:List (Int × o5)) (l5:List (Int × o5)) (l6:List (List UInt8 × Int)):Option (Bool):=
 chk (decide ((0 + (List.length b6.2)) * 144<=LIM/\0 + (List.length b6.2)<=LEN)) <|
 chk (decide (((List.length b6.2) + 1) * 144<=LIM/\(List.length b6.2) + 1<=LEN)) <|
 a0E (((List.length (b6.2 ++ ([(b0,[],[],(0:Int),(0:Int),(0:Int),(0:Int),(0:Int),(0:Int),[])]:List o7))):Nat):Int) 0 b1_0 b1_7 b2_0 b2_1 b2_3 b4_1 b5_0 b5_1 b6 l0 l1 l2 l3 l4 l5 l6 (b6.2 ++ ([(b0,[],[],(0:Int),(0:Int),(0:Int),(0:Int),(0:Int),(0:Int),[])]:List o7))
def L9 (v70:Int) (v71:Int) (b0:Vector UInt8 32) (b1_0:A0) (b1_7:Int) (b2_0:Int) (b2_1:Int) (b2_3:Int) (b4_1:Int) (b5_0:Int) (b5_1:Int) (b6:A5) (l0:List A6) (l1:List o9) (l2:List o5) (l3:List (List UInt8 × List A1)) (l4:List (Int × o5)) (l5:List (Int × o5)) (l6:List (List UInt8 × Int)) (l7:List (Vector Int 2)):Option ((Int × Int × Vector UInt8 32 × A0 × Int × Int × Int × Int × Int × Int × Int × A5 × List A6 × List o9 × List o5 × (List (List UInt8 × List A1)) × (List (Int × o5)) × (List (Int × o5)) × (List (List UInt8 × Int)) × List (Vector Int 2)) ⊕ (Bool)):=
 sel (decide (v71 < v70)) (
  chk (decide ((0:Int)<=v71/\v71 < (((List.length l7):Nat):Int))) <|
  chk (decide ((Int.toNat v71) < (List.length l7))) <|
  (N3 b1_0 b2_0 b2_1 l0 b2_3 l1 l2 l3 b4_1 b5_0 b5_1 l4 l5 l6 b1_7 (O5 (List.getD l7 (Int.toNat v71) (Vector.replicate 2 (0:Int))) 0 (0:Int)) (O5 (List.getD l7 (Int.toNat v71) (Vector.replicate 2 (0:Int))) 1 (0:Int))).bind fun r15=>
  (Z8 b6.1 b6.2 (O5 (List.getD l7 (Int.toNat v71) (Vector.replicate 2 (0:Int))) 0 (0:Int)) (O5 (List.getD l7 (Int.toNat v71) (Vector.replicate 2 (0:Int))) 1 (0:Int))).bind fun r16=>
  (U0 r15.2.2.2.2.2.2.2.2.2.2.2.2.2.2.2 r16).bind fun r17=>
  sel (!r17) (
   some (.inr false)) (
   some (.inl (v70,(C6 (v71 + 1)),b0,r15.1,r15.2.2.2.2.2.2.2.2.2.2.2.2.2.2.1,r15.2.1,r15.2.2.1,r15.2.2.2.2.1,r15.2.2.2.2.2.2.2.2.1,r15.2.2.2.2.2.2.2.2.2.1,r15.2.2.2.2.2.2.2.2.2.2.1,b6,r15.2.2.2.1,r15.2.2.2.2.2.1,r15.2.2.2.2.2.2.1,r15.2.2.2.2.2.2.2.1,r15.2.2.2.2.2.2.2.2.2.2.2.1,r15.2.2.2.2.2.2.2.2.2.2.2.2.1,r15.2.2.2.2.2.2.2.2.2.2.2.2.2.1,l7)))) (
  Option.map .inr (
   S7 b0 b1_0 b1_7 b2_0 b2_1 b2_3 b4_1 b5_0 b5_1 b6 l0 l1 l2 l3 l4 l5 l6))
def a0F (v70:Int) (v71:Int) (b0:Vector UInt8 32) (b1_0:A0) (b1_7:Int) (b2_0:Int) (b2_1:Int) (b2_3:Int) (b4_1:Int) (b5_0:Int) (b5_1:Int) (b6:A5) (l0:List A6) (l1:List o9) (l2:List o5) (l3:List (List UInt8 × List A1)) (l4:List (Int × o5)) (l5:List (Int × o5)) (l6:List (List UInt8 × Int)) (l7:List (Vector Int 2)):Option (Bool):=
 Q9 (fun v=>L9 v.1 v.2.1 v.2.2.1 v.2.2.2.1 v.2.2.2.2.1 v.2.2.2.2.2.1 v.2.2.2.2.2.2.1 v.2.2.2.2.2.2.2.1 v.2.2.2.2.2.2.2.2.1 v.2.2.2.2.2.2.2.2.2.1 v.2.2.2.2.2.2.2.2.2.2.1 v.2.2.2.2.2.2.2.2.2.2.2.1 v.2.2.2.2.2.2.2.2.2.2.2.2.1 v.2.2.2.2.2.2.2.2.2.2.2.2.2.1 v.2.2.2.2.2.2.2.2.2.2.2.2.2.2.1 v.2.2.2.2.2.2.2.2.2.2.2.2.2.2.2.1 v.2.2.2.2.2.2.2.2.2.2.2.2.2.2.2.2.1 v.2.2.2.2.2.2.2.2.2.2.2.2.2.2.2.2.2.1 v.2.2.2.2.2.2.2.2.2.2.2.2.2.2.2.2.2.2.1 v.2.2.2.2.2.2.2.2.2.2.2.2.2.2.2.2.2.2.2) (v70,v71,b0,b1_0,b1_7,b2_0,b2_1,b2_3,b4_1,b5_0,b5_1,b6,l0,l1,l2,l3,l4,l5,l6,l7)
def S8 (v2:Int) (v3:Int) (b0:Vector UInt8 32) (b1_0:A0) (b1_7:Int) (b2_0:Int) (b2_1:Int) (b2_3:Int) (b4_1:Int) (b5_0:Int) (b5_1:Int) (b6:A5) (l0:List A6) (l1:List o9) (l2:List o5) (l3:List (List UInt8 × List A1)) (l4:List (Int × o5)) (l5:List (Int × o5)) (l6:List (List UInt8 × Int)):Option (Bool):=
 (N4 v2 14).bind fun r13=>
 (N4 v3 40).bind fun r14=>
 a0F 2 0 b0 b1_0 b1_7 b2_0 b2_1 b2_3 b4_1 b5_0 b5_1 b6 l0 l1 l2 l3 l4 l5 l6 [(Vector.push (Vector.push #v[] v2) v3),(Vector.push (Vector.push #v[] r13) r14)]
def M0 (v2:Int) (v3:Int) (v46:Int) (v47:Int) (b0:Vector UInt8 32) (b1_0:A0) (b1_7:Int) (b2_0:Int) (b2_1:Int) (b2_3:Int) (b4_1:Int) (b5_0:Int) (b5_1:Int) (b6:A5) (l0:List A6) (l1:List o9) (l2:List o5) (l3:List (List UInt8 × List A1)) (l4:List (Int × o5)) (l5:List (Int × o5)) (l6:List (List UInt8 × Int)) (l7:List (List UInt8)):Option ((Int × Int × Int × Int × Vector UInt8 32 × A0 × Int × Int × Int × Int × Int × Int × Int × A5 × List A6 × List o9 × List o5 × (List (List UInt8 × List A1)) × (List (Int × o5)) × (List (Int × o5)) × (List (List UInt8 × Int)) × List (List UInt8)) ⊕ (Bool)):=
 sel (decide (v47 < v46)) (
  chk (decide ((0:Int)<=v47/\v47 < (((List.length l7):Nat):Int))) <|
  chk (decide ((Int.toNat v47) < (List.length l7))) <|
  (P4 b1_0 b2_0 b2_1 l0 b2_3 l1 l2 l3 b4_1 b5_0 b5_1 l4 l5 l6 b1_7 (List.getD l7 (Int.toNat v47) [])).bind fun r18=>
  (V6 b6.2 (List.getD l7 (Int.toNat v47) [])).bind fun r19=>
  (D7 r18.2.2.2.2.2.2.2.2.2.2.2.2.2.2.2 r19).bind fun r20=>
  sel (!r20) (
   some (.inr false)) (
   some (.inl (v2,v3,v46,(C6 (v47 + 1)),b0,r18.1,r18.2.2.2.2.2.2.2.2.2.2.2.2.2.2.1,r18.2.1,r18.2.2.1,r18.2.2.2.2.1,r18.2.2.2.2.2.2.2.2.1,r18.2.2.2.2.2.2.2.2.2.1,r18.2.2.2.2.2.2.2.2.2.2.1,b6,r18.2.2.2.1,r18.2.2.2.2.2.1,r18.2.2.2.2.2.2.1,r18.2.2.2.2.2.2.2.1,r18.2.2.2.2.2.2.2.2.2.2.2.1,r18.2.2.2.2.2.2.2.2.2.2.2.2.1,r18.2.2.2.2.2.2.2.2.2.2.2.2.2.1,l7)))) (
  Option.map .inr (
   S8 v2 v3 b0 b1_0 b1_7 b2_0 b2_1 b2_3 b4_1 b5_0 b5_1 b6 l0 l1 l2 l3 l4 l5 l6))
def a0G (v2:Int) (v3:Int) (v46:Int) (v47:Int) (b0:Vector UInt8 32) (b1_0:A0) (b1_7:Int) (b2_0:Int) (b2_1:Int) (b2_3:Int) (b4_1:Int) (b5_0:Int) (b5_1:Int) (b6:A5) (l0:List A6) (l1:List o9) (l2:List o5) (l3:List (List UInt8 × List A1)) (l4:List (Int × o5)) (l5:List (Int × o5)) (l6:List (List UInt8 × Int)) (l7:List (List UInt8)):Option (Bool):=
 Q9 (fun v=>M0 v.1 v.2.1 v.2.2.1 v.2.2.2.1 v.2.2.2.2.1 v.2.2.2.2.2.1 v.2.2.2.2.2.2.1 v.2.2.2.2.2.2.2.1 v.2.2.2.2.2.2.2.2.1 v.2.2.2.2.2.2.2.2.2.1 v.2.2.2.2.2.2.2.2.2.2.1 v.2.2.2.2.2.2.2.2.2.2.2.1 v.2.2.2.2.2.2.2.2.2.2.2.2.1 v.2.2.2.2.2.2.2.2.2.2.2.2.2.1 v.2.2.2.2.2.2.2.2.2.2.2.2.2.2.1 v.2.2.2.2.2.2.2.2.2.2.2.2.2.2.2.1 v.2.2.2.2.2.2.2.2.2.2.2.2.2.2.2.2.1 v.2.2.2.2.2.2.2.2.2.2.2.2.2.2.2.2.2.1 v.2.2.2.2.2.2.2.2.2.2.2.2.2.2.2.2.2.2.1 v.2.2.2.2.2.2.2.2.2.2.2.2.2.2.2.2.2.2.2.1 v.2.2.2.2.2.2.2.2.2.2.2.2.2.2.2.2.2.2.2.2.1 v.2.2.2.2.2.2.2.2.2.2.2.2.2.2.2.2.2.2.2.2.2) (v2,v3,v46,v47,b0,b1_0,b1_7,b2_0,b2_1,b2_3,b4_1,b5_0,b5_1,b6,l0,l1,l2,l3,l4,l5,l6,l7)
def Q1 (a0:List Int) (a1:A0) (a2:Int) (a3:Int) (a4:Vector UInt8 32):Option (Bool):=
 (H0 [a0]).bind fun r1=>
 sel r1 (
  (D8).bind fun r2=>
  some r2) (
  (K3 a0 a1).bind fun r3=>
  sel (!r3.2.2.2.2.2.2.2.2.2.2.2.2.2.2.2.2) (
   some false) (
   (J0 r3.1 r3.2.1 r3.2.2.1 r3.2.2.2.1 r3.2.2.2.2.1 r3.2.2.2.2.2.1 r3.2.2.2.2.2.2.1 r3.2.2.2.2.2.2.2.1 r3.2.2.2.2.2.2.2.2.1 r3.2.2.2.2.2.2.2.2.2.1 r3.2.2.2.2.2.2.2.2.2.2.1 r3.2.2.2.2.2.2.2.2.2.2.2.1 r3.2.2.2.2.2.2.2.2.2.2.2.2.1 r3.2.2.2.2.2.2.2.2.2.2.2.2.2.1 r3.2.2.2.2.2.2.2.2.2.2.2.2.2.2.1).bind fun r4=>
   (V5 r3.2.2.2.2.2.2.2.2.2.2.2.2.2.2.2.1.2).bind fun r5=>
   (D7 r4.2.2.2.2.2.2.2.2.2.2.2.2.2.2.2 r5).bind fun r6=>
   sel (!r6) (
    some false) (
    a0G a2 a3 7 0 a4 r4.1 r4.2.2.2.2.2.2.2.2.2.2.2.2.2.2.1 r4.2.1 r4.2.2.1 r4.2.2.2.2.1 r4.2.2.2.2.2.2.2.2.1 r4.2.2.2.2.2.2.2.2.2.1 r4.2.2.2.2.2.2.2.2.2.2.1 r3.2.2.2.2.2.2.2.2.2.2.2.2.2.2.2.1 r4.2.2.2.1 r4.2.2.2.2.2.1 r4.2.2.2.2.2.2.1 r4.2.2.2.2.2.2.2.1 r4.2.2.2.2.2.2.2.2.2.2.2.1 r4.2.2.2.2.2.2.2.2.2.2.2.2.1 r4.2.2.2.2.2.2.2.2.2.2.2.2.2.1 [([97,110,110]:List UInt8),([98,111,98]:List UInt8),([101,118,101]:List UInt8),([122,111,101]:List UInt8),([110,101,119]:List UInt8),([120,45,49]:List UInt8),([110,111,110,101]:List UInt8)])))
def I1 (a0_0:A0) (a0_1_0:Int) (a0_1_1:Int) (a0_1_2:List A6) (a0_1_3:Int) (a0_2_0:List o9) (a0_2_1:List o5) (a0_3_0:List (List UInt8 × List A1)) (a0_3_1:Int) (a0_4_0:Int) (a0_4_1:Int) (a0_4_2:List (Int × o5)) (a0_5:List (Int × o5)) (a0_6:List (List UInt8 × Int)) (a0_7:Int):Option (A0 × Int × Int × List A6 × Int × List o9 × List o5 × (List (List UInt8 × List A1)) × Int × Int × Int × (List (Int × o5)) × (List (Int × o5)) × (List (List UInt8 × Int)) × Int × List o7):=
 chk (a5e (D1 a0_5)) <|
 (W6 a0_0 a0_1_0 a0_1_1 a0_1_2 a0_1_3 a0_2_0 a0_2_1 a0_3_0 a0_3_1 a0_4_0 a0_4_1 a0_4_2 a0_5 a0_6 a0_7 (a4b (D1 a0_5))).bind fun r1=>
 some (r1.1,r1.2.1,r1.2.2.1,r1.2.2.2.1,r1.2.2.2.2.1,r1.2.2.2.2.2.1,r1.2.2.2.2.2.2.1,r1.2.2.2.2.2.2.2.1,r1.2.2.2.2.2.2.2.2.1,r1.2.2.2.2.2.2.2.2.2.1,r1.2.2.2.2.2.2.2.2.2.2.1,r1.2.2.2.2.2.2.2.2.2.2.2.1,r1.2.2.2.2.2.2.2.2.2.2.2.2.1,r1.2.2.2.2.2.2.2.2.2.2.2.2.2.1,r1.2.2.2.2.2.2.2.2.2.2.2.2.2.2.1,r1.2.2.2.2.2.2.2.2.2.2.2.2.2.2.2)
def Q2 (a0:List Int) (a1:A0):Option (Bool):=
 (H0 [a0]).bind fun r1=>
 sel r1 (
  (D8).bind fun r2=>
  some r2) (
  (K3 a0 a1).bind fun r3=>
  sel r3.2.2.2.2.2.2.2.2.2.2.2.2.2.2.2.2 (
   (I1 r3.1 r3.2.1 r3.2.2.1 r3.2.2.2.1 r3.2.2.2.2.1 r3.2.2.2.2.2.1 r3.2.2.2.2.2.2.1 r3.2.2.2.2.2.2.2.1 r3.2.2.2.2.2.2.2.2.1 r3.2.2.2.2.2.2.2.2.2.1 r3.2.2.2.2.2.2.2.2.2.2.1 r3.2.2.2.2.2.2.2.2.2.2.2.1 r3.2.2.2.2.2.2.2.2.2.2.2.2.1 r3.2.2.2.2.2.2.2.2.2.2.2.2.2.1 r3.2.2.2.2.2.2.2.2.2.2.2.2.2.2.1).bind fun r4=>
   (D7 r4.2.2.2.2.2.2.2.2.2.2.2.2.2.2.2 r3.2.2.2.2.2.2.2.2.2.2.2.2.2.2.2.1.2).bind fun r5=>
   sel r5 (
    (D8).bind fun r6=>
    some r6) (
    some false)) (
   some false))
def K8 (v79:Int) (v80:Int) (l0:List o7) (l1:List o7):Option ((Int × Int × List o7 × List o7) ⊕ (Bool)):=
 sel (decide (v80 < v79)) (
  chk (decide ((0:Int)<=v80/\v80 < (((List.length l1):Nat):Int))) <|
  chk (decide ((Int.toNat v80) < (List.length l1))) <|
  (N5 l0 (List.getD l1 (Int.toNat v80) B7).1).bind fun r9=>
  sel (decide (r9 < 0)) (
   some (.inr false)) (
   chk (decide ((0:Int)<=r9/\r9 < (((List.length l0):Nat):Int))) <|
   chk (decide ((Int.toNat r9) < (List.length l0))) <|
   (D6 (List.getD l0 (Int.toNat r9) B7) (List.getD l1 (Int.toNat v80) B7)).bind fun r10=>
   sel (!r10) (
    some (.inr false)) (
    sel (decide (0 < v80)) (
     chk (decide ((0:Int)<=(C6 (v80 - 1))/\(C6 (v80 - 1)) < (((List.length l1):Nat):Int))) <|
     chk (decide ((Int.toNat (C6 (v80 - 1))) < (List.length l1))) <|
     sel (decide ((List.getD l1 (Int.toNat (C6 (v80 - 1))) B7).2.2.2.2.2.1 < (List.getD l1 (Int.toNat v80) B7).2.2.2.2.2.1)) (
      some (.inr false)) (
      chk (decide ((0:Int)<=(C6 (v80 - 1))/\(C6 (v80 - 1)) < (((List.length l1):Nat):Int))) <|
      chk (decide ((Int.toNat (C6 (v80 - 1))) < (List.length l1))) <|
      sel (decide ((List.getD l1 (Int.toNat (C6 (v80 - 1))) B7).2.2.2.2.2.1=(List.getD l1 (Int.toNat v80) B7).2.2.2.2.2.1)) (
       chk (decide ((0:Int)<=(C6 (v80 - 1))/\(C6 (v80 - 1)) < (((List.length l1):Nat):Int))) <|
       chk (decide ((Int.toNat (C6 (v80 - 1))) < (List.length l1))) <|
       sel (decide ((List.getD l1 (Int.toNat v80) B7).2.2.2.2.2.2.2.2.1 < (List.getD l1 (Int.toNat (C6 (v80 - 1))) B7).2.2.2.2.2.2.2.2.1)) (
        some (.inr false)) (
        some (.inl (v79,(C6 (v80 + 1)),l0,l1)))) (
       some (.inl (v79,(C6 (v80 + 1)),l0,l1))))) (
     some (.inl (v79,(C6 (v80 + 1)),l0,l1)))))) (
  Option.map .inr (
   (D8).bind fun r11=>
   some r11))
def a0g (v79:Int) (v80:Int) (l0:List o7) (l1:List o7):Option (Bool):=
 Q9 (fun v=>K8 v.1 v.2.1 v.2.2.1 v.2.2.2) (v79,v80,l0,l1)
def R3 (v8:Int) (b0_0:A0) (b0_7:Int) (b1_0:Int) (b1_1:Int) (b1_3:Int) (b3_1:Int) (b4_0:Int) (b4_1:Int) (l0:List A6) (l1:List o9) (l2:List o5) (l3:List (List UInt8 × List A1)) (l4:List (Int × o5)) (l5:List (Int × o5)) (l6:List (List UInt8 × Int)) (l7:List o7) (l8:List o7):Option (Bool):=
 sel (!decide ((((List.length l8):Nat):Int)=(((List.length l7):Nat):Int))) (
  some false) (
  sel (!decide (v8=(((List.length l7):Nat):Int))) (
   some false) (
   (S3 b0_0 b1_0 b1_1 l0 b1_3 l1 l2 l3 b3_1 b4_0 b4_1 l4 l5 l6 b0_7).bind fun r8=>
   sel (!decide (r8.2.2.2.2.2.2.2.2.2.2.2.2.2.2.2=(((List.length l7):Nat):Int))) (
    some false) (
    a0g (((List.length l8):Nat):Int) 0 l7 l8)))
def K9 (v8:Int) (v48:Int) (v49:Int) (b0_0:A0) (b0_7:Int) (b1_0:Int) (b1_1:Int) (b1_3:Int) (b3_1:Int) (b4_0:Int) (b4_1:Int) (l0:List A6) (l1:List o9) (l2:List o5) (l3:List (List UInt8 × List A1)) (l4:List (Int × o5)) (l5:List (Int × o5)) (l6:List (List UInt8 × Int)) (l7:List o7) (l8:List o7) (l9:List (List UInt8)):Option ((Int × Int × Int × A0 × Int × Int × Int × Int × Int × Int × Int × List A6 × List o9 × List o5 × (List (List UInt8 × List A1)) × (List (Int × o5)) × (List (Int × o5)) × (List (List UInt8 × Int)) × List o7 × List o7 × List (List UInt8)) ⊕ (Bool)):=
 sel (decide (v49 < v48)) (
  chk (decide ((0:Int)<=v49/\v49 < (((List.length l9):Nat):Int))) <|
  chk (decide ((Int.toNat v49) < (List.length l9))) <|
  (P4 b0_0 b1_0 b1_1 l0 b1_3 l1 l2 l3 b3_1 b4_0 b4_1 l4 l5 l6 b0_7 (List.getD l9 (Int.toNat v49) [])).bind fun r12=>
  some (.inl ((C6 (v8 + (((List.length r12.2.2.2.2.2.2.2.2.2.2.2.2.2.2.2):Nat):Int))),v48,(C6 (v49 + 1)),r12.1,r12.2.2.2.2.2.2.2.2.2.2.2.2.2.2.1,r12.2.1,r12.2.2.1,r12.2.2.2.2.1,r12.2.2.2.2.2.2.2.2.1,r12.2.2.2.2.2.2.2.2.2.1,r12.2.2.2.2.2.2.2.2.2.2.1,r12.2.2.2.1,r12.2.2.2.2.2.1,r12.2.2.2.2.2.2.1,r12.2.2.2.2.2.2.2.1,r12.2.2.2.2.2.2.2.2.2.2.2.1,r12.2.2.2.2.2.2.2.2.2.2.2.2.1,r12.2.2.2.2.2.2.2.2.2.2.2.2.2.1,l7,l8,l9))) (
  Option.map .inr (
   R3 v8 b0_0 b0_7 b1_0 b1_1 b1_3 b3_1 b4_0 b4_1 l0 l1 l2 l3 l4 l5 l6 l7 l8))
def a0h (v8:Int) (v48:Int) (v49:Int) (b0_0:A0) (b0_7:Int) (b1_0:Int) (b1_1:Int) (b1_3:Int) (b3_1:Int) (b4_0:Int) (b4_1:Int) (l0:List A6) (l1:List o9) (l2:List o5) (l3:List (List UInt8 × List A1)) (l4:List (Int × o5)) (l5:List (Int × o5)) (l6:List (List UInt8 × Int)) (l7:List o7) (l8:List o7) (l9:List (List UInt8)):Option (Bool):=
 Q9 (fun v=>K9 v.1 v.2.1 v.2.2.1 v.2.2.2.1 v.2.2.2.2.1 v.2.2.2.2.2.1 v.2.2.2.2.2.2.1 v.2.2.2.2.2.2.2.1 v.2.2.2.2.2.2.2.2.1 v.2.2.2.2.2.2.2.2.2.1 v.2.2.2.2.2.2.2.2.2.2.1 v.2.2.2.2.2.2.2.2.2.2.2.1 v.2.2.2.2.2.2.2.2.2.2.2.2.1 v.2.2.2.2.2.2.2.2.2.2.2.2.2.1 v.2.2.2.2.2.2.2.2.2.2.2.2.2.2.1 v.2.2.2.2.2.2.2.2.2.2.2.2.2.2.2.1 v.2.2.2.2.2.2.2.2.2.2.2.2.2.2.2.2.1 v.2.2.2.2.2.2.2.2.2.2.2.2.2.2.2.2.2.1 v.2.2.2.2.2.2.2.2.2.2.2.2.2.2.2.2.2.2.1 v.2.2.2.2.2.2.2.2.2.2.2.2.2.2.2.2.2.2.2.1 v.2.2.2.2.2.2.2.2.2.2.2.2.2.2.2.2.2.2.2.2) (v8,v48,v49,b0_0,b0_7,b1_0,b1_1,b1_3,b3_1,b4_0,b4_1,l0,l1,l2,l3,l4,l5,l6,l7,l8,l9)
def O1 (a0:List Int):Option (Bool):=
 (H0 [a0]).bind fun r1=>
 sel r1 (
  (D8).bind fun r2=>
  some r2) (
  (K3 a0 ((0:Int),(0:Int),(0:Int),(0:Int),(0:Int),(0:Int),false,(0:Int),(0:Int),(0:Int),(0:Int),(0:Int))).bind fun r3=>
  sel (!r3.2.2.2.2.2.2.2.2.2.2.2.2.2.2.2.2) (
   some false) (
   (S3 r3.1 r3.2.1 r3.2.2.1 r3.2.2.2.1 r3.2.2.2.2.1 r3.2.2.2.2.2.1 r3.2.2.2.2.2.2.1 r3.2.2.2.2.2.2.2.1 r3.2.2.2.2.2.2.2.2.1 r3.2.2.2.2.2.2.2.2.2.1 r3.2.2.2.2.2.2.2.2.2.2.1 r3.2.2.2.2.2.2.2.2.2.2.2.1 r3.2.2.2.2.2.2.2.2.2.2.2.2.1 r3.2.2.2.2.2.2.2.2.2.2.2.2.2.1 r3.2.2.2.2.2.2.2.2.2.2.2.2.2.2.1).bind fun r4=>
   sel (decide (r3.2.2.2.2.2.2.2.2.2.2.2.2.2.2.2.1.1.1 < r4.2.2.2.2.2.2.2.2.2.2.2.2.2.2.2)) (
    some false) (
    (R8 r4.1 r4.2.1 r4.2.2.1 r4.2.2.2.1 r4.2.2.2.2.1 r4.2.2.2.2.2.1 r4.2.2.2.2.2.2.1 r4.2.2.2.2.2.2.2.1 r4.2.2.2.2.2.2.2.2.1 r4.2.2.2.2.2.2.2.2.2.1 r4.2.2.2.2.2.2.2.2.2.2.1 r4.2.2.2.2.2.2.2.2.2.2.2.1 r4.2.2.2.2.2.2.2.2.2.2.2.2.1 r4.2.2.2.2.2.2.2.2.2.2.2.2.2.1 r4.2.2.2.2.2.2.2.2.2.2.2.2.2.2.1).bind fun r5=>
    sel (decide (r3.2.2.2.2.2.2.2.2.2.2.2.2.2.2.2.1.1.2.1 < r5.2.2.2.2.2.2.2.2.2.2.2.2.2.2.2)) (
     some false) (
     (I1 r5.1 r5.2.1 r5.2.2.1 r5.2.2.2.1 r5.2.2.2.2.1 r5.2.2.2.2.2.1 r5.2.2.2.2.2.2.1 r5.2.2.2.2.2.2.2.1 r5.2.2.2.2.2.2.2.2.1 r5.2.2.2.2.2.2.2.2.2.1 r5.2.2.2.2.2.2.2.2.2.2.1 r5.2.2.2.2.2.2.2.2.2.2.2.1 r5.2.2.2.2.2.2.2.2.2.2.2.2.1 r5.2.2.2.2.2.2.2.2.2.2.2.2.2.1 r5.2.2.2.2.2.2.2.2.2.2.2.2.2.2.1).bind fun r6=>
     (J0 r6.1 r6.2.1 r6.2.2.1 r6.2.2.2.1 r6.2.2.2.2.1 r6.2.2.2.2.2.1 r6.2.2.2.2.2.2.1 r6.2.2.2.2.2.2.2.1 r6.2.2.2.2.2.2.2.2.1 r6.2.2.2.2.2.2.2.2.2.1 r6.2.2.2.2.2.2.2.2.2.2.1 r6.2.2.2.2.2.2.2.2.2.2.2.1 r6.2.2.2.2.2.2.2.2.2.2.2.2.1 r6.2.2.2.2.2.2.2.2.2.2.2.2.2.1 r6.2.2.2.2.2.2.2.2.2.2.2.2.2.2.1).bind fun r7=>
     a0h 0 6 0 r7.1 r7.2.2.2.2.2.2.2.2.2.2.2.2.2.2.1 r7.2.1 r7.2.2.1 r7.2.2.2.2.1 r7.2.2.2.2.2.2.2.2.1 r7.2.2.2.2.2.2.2.2.2.1 r7.2.2.2.2.2.2.2.2.2.2.1 r7.2.2.2.1 r7.2.2.2.2.2.1 r7.2.2.2.2.2.2.1 r7.2.2.2.2.2.2.2.1 r7.2.2.2.2.2.2.2.2.2.2.2.1 r7.2.2.2.2.2.2.2.2.2.2.2.2.1 r7.2.2.2.2.2.2.2.2.2.2.2.2.2.1 r6.2.2.2.2.2.2.2.2.2.2.2.2.2.2.2 r7.2.2.2.2.2.2.2.2.2.2.2.2.2.2.2 [([97,110,110]:List UInt8),([98,111,98]:List UInt8),([101,118,101]:List UInt8),([122,111,101]:List UInt8),([110,101,119]:List UInt8),([120,45,49]:List UInt8)]))))
def O7 (b0_0:A0) (b0_7:Int) (b1_0:Int) (b1_1:Int) (b1_3:Int) (b3_1:Int) (b4_0:Int) (b4_1:Int) (b5_0:A0) (b5_7:Int) (b6_0:Int) (b6_1:Int) (b6_3:Int) (b8_1:Int) (b9_0:Int) (b9_1:Int) (l0:List A6) (l1:List o9) (l2:List o5) (l3:List (List UInt8 × List A1)) (l4:List (Int × o5)) (l5:List (Int × o5)) (l6:List (List UInt8 × Int)) (l7:List A6) (l8:List o9) (l9:List o5) (l10:List (List UInt8 × List A1)) (l11:List (Int × o5)) (l12:List (Int × o5)) (l13:List (List UInt8 × Int)):Option (Bool):=
 (I1 b0_0 b1_0 b1_1 l0 b1_3 l1 l2 l3 b3_1 b4_0 b4_1 l4 l5 l6 b0_7).bind fun r6=>
 (I1 b5_0 b6_0 b6_1 l7 b6_3 l8 l9 l10 b8_1 b9_0 b9_1 l11 l12 l13 b5_7).bind fun r7=>
 (D7 r6.2.2.2.2.2.2.2.2.2.2.2.2.2.2.2 r7.2.2.2.2.2.2.2.2.2.2.2.2.2.2.2).bind fun r8=>
 sel r8 (
  (J0 r6.1 r6.2.1 r6.2.2.1 r6.2.2.2.1 r6.2.2.2.2.1 r6.2.2.2.2.2.1 r6.2.2.2.2.2.2.1 r6.2.2.2.2.2.2.2.1 r6.2.2.2.2.2.2.2.2.1 r6.2.2.2.2.2.2.2.2.2.1 r6.2.2.2.2.2.2.2.2.2.2.1 r6.2.2.2.2.2.2.2.2.2.2.2.1 r6.2.2.2.2.2.2.2.2.2.2.2.2.1 r6.2.2.2.2.2.2.2.2.2.2.2.2.2.1 r6.2.2.2.2.2.2.2.2.2.2.2.2.2.2.1).bind fun r9=>
  (J0 r7.1 r7.2.1 r7.2.2.1 r7.2.2.2.1 r7.2.2.2.2.1 r7.2.2.2.2.2.1 r7.2.2.2.2.2.2.1 r7.2.2.2.2.2.2.2.1 r7.2.2.2.2.2.2.2.2.1 r7.2.2.2.2.2.2.2.2.2.1 r7.2.2.2.2.2.2.2.2.2.2.1 r7.2.2.2.2.2.2.2.2.2.2.2.1 r7.2.2.2.2.2.2.2.2.2.2.2.2.1 r7.2.2.2.2.2.2.2.2.2.2.2.2.2.1 r7.2.2.2.2.2.2.2.2.2.2.2.2.2.2.1).bind fun r10=>
  (D7 r9.2.2.2.2.2.2.2.2.2.2.2.2.2.2.2 r10.2.2.2.2.2.2.2.2.2.2.2.2.2.2.2).bind fun r11=>
  sel r11 (
   (D8).bind fun r12=>
   some r12) (
   some false)) (
  some false)
def O8 (v1:List Int) (b0_0:A0) (b0_7:Int) (b1_0:Int) (b1_1:Int) (b1_3:Int) (b3_1:Int) (b4_0:Int) (b4_1:Int) (b5_0:A0) (b5_7:Int) (b6_0:Int) (b6_1:Int) (b6_3:Int) (b8_1:Int) (b9_0:Int) (b9_1:Int) (b10:A4) (l0:List A6) (l1:List o9) (l2:List o5) (l3:List (List UInt8 × List A1)) (l4:List (Int × o5)) (l5:List (Int × o5)) (l6:List (List UInt8 × Int)) (l7:List A6) (l8:List o9) (l9:List o5) (l10:List (List UInt8 × List A1)) (l11:List (Int × o5)) (l12:List (Int × o5)) (l13:List (List UInt8 × Int)):Option ((List Int × A0 × Int × Int × Int × Int × Int × Int × Int × A0 × Int × Int × Int × Int × Int × Int × Int × A4 × List A6 × List o9 × List o5 × (List (List UInt8 × List A1)) × (List (Int × o5)) × (List (Int × o5)) × (List (List UInt8 × Int)) × List A6 × List o9 × List o5 × (List (List UInt8 × List A1)) × (List (Int × o5)) × (List (Int × o5)) × List (List UInt8 × Int)) ⊕ (Bool)):=
 sel (decide (b10.2 < (((List.length v1):Nat):Int))) (
  (S4 b10).bind fun r13=>
  (A7 r13.1 3).bind fun r14=>
  sel (decide (r14.2=0)) (
   (P5 b0_0 b1_0 b1_1 l0 b1_3 l1 l2 l3 b3_1 b4_0 b4_1 l4 l5 l6 b0_7 r13.2.1).bind fun r15=>
   (P5 b5_0 b6_0 b6_1 l7 b6_3 l8 l9 l10 b8_1 b9_0 b9_1 l11 l12 l13 b5_7 r13.2.1).bind fun r16=>
   sel (!(c0S r15.2.2.2.2.2.2.2.2.2.2.2.2.2.2.2 r16.2.2.2.2.2.2.2.2.2.2.2.2.2.2.2)) (
    some (.inr false)) (
    some (.inl (v1,r15.1,r15.2.2.2.2.2.2.2.2.2.2.2.2.2.2.1,r15.2.1,r15.2.2.1,r15.2.2.2.2.1,r15.2.2.2.2.2.2.2.2.1,r15.2.2.2.2.2.2.2.2.2.1,r15.2.2.2.2.2.2.2.2.2.2.1,r16.1,r16.2.2.2.2.2.2.2.2.2.2.2.2.2.2.1,r16.2.1,r16.2.2.1,r16.2.2.2.2.1,r16.2.2.2.2.2.2.2.2.1,r16.2.2.2.2.2.2.2.2.2.1,r16.2.2.2.2.2.2.2.2.2.2.1,r14.1,r15.2.2.2.1,r15.2.2.2.2.2.1,r15.2.2.2.2.2.2.1,r15.2.2.2.2.2.2.2.1,r15.2.2.2.2.2.2.2.2.2.2.2.1,r15.2.2.2.2.2.2.2.2.2.2.2.2.1,r15.2.2.2.2.2.2.2.2.2.2.2.2.2.1,r16.2.2.2.1,r16.2.2.2.2.2.1,r16.2.2.2.2.2.2.1,r16.2.2.2.2.2.2.2.1,r16.2.2.2.2.2.2.2.2.2.2.2.1,r16.2.2.2.2.2.2.2.2.2.2.2.2.1,r16.2.2.2.2.2.2.2.2.2.2.2.2.2.1)))) (
   (F7 b0_0 b1_0 b1_1 l0 b1_3 l1 l2 l3 b3_1 b4_0 b4_1 l4 l5 l6 b0_7 r13.2).bind fun r17=>
   (F7 b5_0 b6_0 b6_1 l7 b6_3 l8 l9 l10 b8_1 b9_0 b9_1 l11 l12 l13 b5_7 r13.2).bind fun r18=>
   sel (!decide (r17.2.2.2.2.2.2.2.2.2.2.2.2.2.2.2=r18.2.2.2.2.2.2.2.2.2.2.2.2.2.2.2)) (
    some (.inr false)) (
    some (.inl (v1,r17.1,r17.2.2.2.2.2.2.2.2.2.2.2.2.2.2.1,r17.2.1,r17.2.2.1,r17.2.2.2.2.1,r17.2.2.2.2.2.2.2.2.1,r17.2.2.2.2.2.2.2.2.2.1,r17.2.2.2.2.2.2.2.2.2.2.1,r18.1,r18.2.2.2.2.2.2.2.2.2.2.2.2.2.2.1,r18.2.1,r18.2.2.1,r18.2.2.2.2.1,r18.2.2.2.2.2.2.2.2.1,r18.2.2.2.2.2.2.2.2.2.1,r18.2.2.2.2.2.2.2.2.2.2.1,r14.1,r17.2.2.2.1,r17.2.2.2.2.2.1,r17.2.2.2.2.2.2.1,r17.2.2.2.2.2.2.2.1,r17.2.2.2.2.2.2.2.2.2.2.2.1,r17.2.2.2.2.2.2.2.2.2.2.2.2.1,r17.2.2.2.2.2.2.2.2.2.2.2.2.2.1,r18.2.2.2.1,r18.2.2.2.2.2.1,r18.2.2.2.2.2.2.1,r18.2.2.2.2.2.2.2.1,r18.2.2.2.2.2.2.2.2.2.2.2.1,r18.2.2.2.2.2.2.2.2.2.2.2.2.1,r18.2.2.2.2.2.2.2.2.2.2.2.2.2.1))))) (
  Option.map .inr (
   O7 b0_0 b0_7 b1_0 b1_1 b1_3 b3_1 b4_0 b4_1 b5_0 b5_7 b6_0 b6_1 b6_3 b8_1 b9_0 b9_1 l0 l1 l2 l3 l4 l5 l6 l7 l8 l9 l10 l11 l12 l13))
def Y4 (v1:List Int) (b0_0:A0) (b0_7:Int) (b1_0:Int) (b1_1:Int) (b1_3:Int) (b3_1:Int) (b4_0:Int) (b4_1:Int) (b5_0:A0) (b5_7:Int) (b6_0:Int) (b6_1:Int) (b6_3:Int) (b8_1:Int) (b9_0:Int) (b9_1:Int) (b10:A4) (l0:List A6) (l1:List o9) (l2:List o5) (l3:List (List UInt8 × List A1)) (l4:List (Int × o5)) (l5:List (Int × o5)) (l6:List (List UInt8 × Int)) (l7:List A6) (l8:List o9) (l9:List o5) (l10:List (List UInt8 × List A1)) (l11:List (Int × o5)) (l12:List (Int × o5)) (l13:List (List UInt8 × Int)):Option (Bool):=
 Q9 (fun v=>O8 v.1 v.2.1 v.2.2.1 v.2.2.2.1 v.2.2.2.2.1 v.2.2.2.2.2.1 v.2.2.2.2.2.2.1 v.2.2.2.2.2.2.2.1 v.2.2.2.2.2.2.2.2.1 v.2.2.2.2.2.2.2.2.2.1 v.2.2.2.2.2.2.2.2.2.2.1 v.2.2.2.2.2.2.2.2.2.2.2.1 v.2.2.2.2.2.2.2.2.2.2.2.2.1 v.2.2.2.2.2.2.2.2.2.2.2.2.2.1 v.2.2.2.2.2.2.2.2.2.2.2.2.2.2.1 v.2.2.2.2.2.2.2.2.2.2.2.2.2.2.2.1 v.2.2.2.2.2.2.2.2.2.2.2.2.2.2.2.2.1 v.2.2.2.2.2.2.2.2.2.2.2.2.2.2.2.2.2.1 v.2.2.2.2.2.2.2.2.2.2.2.2.2.2.2.2.2.2.1 v.2.2.2.2.2.2.2.2.2.2.2.2.2.2.2.2.2.2.2.1 v.2.2.2.2.2.2.2.2.2.2.2.2.2.2.2.2.2.2.2.2.1 v.2.2.2.2.2.2.2.2.2.2.2.2.2.2.2.2.2.2.2.2.2.1 v.2.2.2.2.2.2.2.2.2.2.2.2.2.2.2.2.2.2.2.2.2.2.1 v.2.2.2.2.2.2.2.2.2.2.2.2.2.2.2.2.2.2.2.2.2.2.2.1 v.2.2.2.2.2.2.2.2.2.2.2.2.2.2.2.2.2.2.2.2.2.2.2.2.1 v.2.2.2.2.2.2.2.2.2.2.2.2.2.2.2.2.2.2.2.2.2.2.2.2.2.1 v.2.2.2.2.2.2.2.2.2.2.2.2.2.2.2.2.2.2.2.2.2.2.2.2.2.2.1 v.2.2.2.2.2.2.2.2.2.2.2.2.2.2.2.2.2.2.2.2.2.2.2.2.2.2.2.1 v.2.2.2.2.2.2.2.2.2.2.2.2.2.2.2.2.2.2.2.2.2.2.2.2.2.2.2.2.1 v.2.2.2.2.2.2.2.2.2.2.2.2.2.2.2.2.2.2.2.2.2.2.2.2.2.2.2.2.2.1 v.2.2.2.2.2.2.2.2.2.2.2.2.2.2.2.2.2.2.2.2.2.2.2.2.2.2.2.2.2.2.1 v.2.2.2.2.2.2.2.2.2.2.2.2.2.2.2.2.2.2.2.2.2.2.2.2.2.2.2.2.2.2.2) (v1,b0_0,b0_7,b1_0,b1_1,b1_3,b3_1,b4_0,b4_1,b5_0,b5_7,b6_0,b6_1,b6_3,b8_1,b9_0,b9_1,b10,l0,l1,l2,l3,l4,l5,l6,l7,l8,l9,l10,l11,l12,l13)
def O9 (v1:List Int) (b0_0:A0) (b0_7:Int) (b1_0:Int) (b1_1:Int) (b1_3:Int) (b3_1:Int) (b4_0:Int) (b4_1:Int) (b5_0:A0) (b5_7:Int) (b6_0:Int) (b6_1:Int) (b6_3:Int) (b8_1:Int) (b9_0:Int) (b9_1:Int) (l0:List A6) (l1:List o9) (l2:List o5) (l3:List (List UInt8 × List A1)) (l4:List (Int × o5)) (l5:List (Int × o5)) (l6:List (List UInt8 × Int)) (l7:List A6) (l8:List o9) (l9:List o5) (l10:List (List UInt8 × List A1)) (l11:List (Int × o5)) (l12:List (Int × o5)) (l13:List (List UInt8 × Int)):Option (Bool):=
 (a0B v1).bind fun r5=>
 Y4 v1 b0_0 b0_7 b1_0 b1_1 b1_3 b3_1 b4_0 b4_1 b5_0 b5_7 b6_0 b6_1 b6_3 b8_1 b9_0 b9_1 r5 l0 l1 l2 l3 l4 l5 l6 l7 l8 l9 l10 l11 l12 l13
def J1 (v1:List Int) (v36:Int) (v37:Int) (b0_0:A0) (b0_7:Int) (b1_0:Int) (b1_1:Int) (b1_3:Int) (b3_1:Int) (b4_0:Int) (b4_1:Int) (b5_0:A0) (b5_7:Int) (b6_0:Int) (b6_1:Int) (b6_3:Int) (b8_1:Int) (b9_0:Int) (b9_1:Int) (l0:List A6) (l1:List o9) (l2:List o5) (l3:List (List UInt8 × List A1)) (l4:List (Int × o5)) (l5:List (Int × o5)) (l6:List (List UInt8 × Int)) (l7:List A6) (l8:List o9) (l9:List o5) (l10:List (List UInt8 × List A1)) (l11:List (Int × o5)) (l12:List (Int × o5)) (l13:List (List UInt8 × Int)) (l14:List o7):Option ((List Int × Int × Int × A0 × Int × Int × Int × Int × Int × Int × Int × A0 × Int × Int × Int × Int × Int × Int × Int × List A6 × List o9 × List o5 × (List (List UInt8 × List A1)) × (List (Int × o5)) × (List (Int × o5)) × (List (List UInt8 × Int)) × List A6 × List o9 × List o5 × (List (List UInt8 × List A1)) × (List (Int × o5)) × (List (Int × o5)) × (List (List UInt8 × Int)) × List o7) ⊕ (Bool)):=
 sel (decide (v37 < v36)) (
  chk (decide ((0:Int)<=v37/\v37 < (((List.length l14):Nat):Int))) <|
  chk (decide ((Int.toNat v37) < (List.length l14))) <|
  (F7 b5_0 b6_0 b6_1 l7 b6_3 l8 l9 l10 b8_1 b9_0 b9_1 l11 l12 l13 b5_7 (List.getD l14 (Int.toNat v37) B7)).bind fun r20=>
  sel (!decide (r20.2.2.2.2.2.2.2.2.2.2.2.2.2.2.2=0)) (
   some (.inr false)) (
   some (.inl (v1,v36,(C6 (v37 + 1)),b0_0,b0_7,b1_0,b1_1,b1_3,b3_1,b4_0,b4_1,r20.1,r20.2.2.2.2.2.2.2.2.2.2.2.2.2.2.1,r20.2.1,r20.2.2.1,r20.2.2.2.2.1,r20.2.2.2.2.2.2.2.2.1,r20.2.2.2.2.2.2.2.2.2.1,r20.2.2.2.2.2.2.2.2.2.2.1,l0,l1,l2,l3,l4,l5,l6,r20.2.2.2.1,r20.2.2.2.2.2.1,r20.2.2.2.2.2.2.1,r20.2.2.2.2.2.2.2.1,r20.2.2.2.2.2.2.2.2.2.2.2.1,r20.2.2.2.2.2.2.2.2.2.2.2.2.1,r20.2.2.2.2.2.2.2.2.2.2.2.2.2.1,l14)))) (
  Option.map .inr (
   O9 v1 b0_0 b0_7 b1_0 b1_1 b1_3 b3_1 b4_0 b4_1 b5_0 b5_7 b6_0 b6_1 b6_3 b8_1 b9_0 b9_1 l0 l1 l2 l3 l4 l5 l6 l7 l8 l9 l10 l11 l12 l13))
def Y5 (v1:List Int) (v36:Int) (v37:Int) (b0_0:A0) (b0_7:Int) (b1_0:Int) (b1_1:Int) (b1_3:Int) (b3_1:Int) (b4_0:Int) (b4_1:Int) (b5_0:A0) (b5_7:Int) (b6_0:Int) (b6_1:Int) (b6_3:Int) (b8_1:Int) (b9_0:Int) (b9_1:Int) (l0:List A6) (l1:List o9) (l2:List o5) (l3:List (List UInt8 × List A1)) (l4:List (Int × o5)) (l5:List (Int × o5)) (l6:List (List UInt8 × Int)) (l7:List A6) (l8:List o9) (l9:List o5) (l10:List (List UInt8 × List A1)) (l11:List (Int × o5)) (l12:List (Int × o5)) (l13:List (List UInt8 × Int)) (l14:List o7):Option (Bool):=
 Q9 (fun v=>J1 v.1 v.2.1 v.2.2.1 v.2.2.2.1 v.2.2.2.2.1 v.2.2.2.2.2.1 v.2.2.2.2.2.2.1 v.2.2.2.2.2.2.2.1 v.2.2.2.2.2.2.2.2.1 v.2.2.2.2.2.2.2.2.2.1 v.2.2.2.2.2.2.2.2.2.2.1 v.2.2.2.2.2.2.2.2.2.2.2.1 v.2.2.2.2.2.2.2.2.2.2.2.2.1 v.2.2.2.2.2.2.2.2.2.2.2.2.2.1 v.2.2.2.2.2.2.2.2.2.2.2.2.2.2.1 v.2.2.2.2.2.2.2.2.2.2.2.2.2.2.2.1 v.2.2.2.2.2.2.2.2.2.2.2.2.2.2.2.2.1 v.2.2.2.2.2.2.2.2.2.2.2.2.2.2.2.2.2.1 v.2.2.2.2.2.2.2.2.2.2.2.2.2.2.2.2.2.2.1 v.2.2.2.2.2.2.2.2.2.2.2.2.2.2.2.2.2.2.2.1 v.2.2.2.2.2.2.2.2.2.2.2.2.2.2.2.2.2.2.2.2.1 v.2.2.2.2.2.2.2.2.2.2.2.2.2.2.2.2.2.2.2.2.2.1 v.2.2.2.2.2.2.2.2.2.2.2.2.2.2.2.2.2.2.2.2.2.2.1 v.2.2.2.2.2.2.2.2.2.2.2.2.2.2.2.2.2.2.2.2.2.2.2.1 v.2.2.2.2.2.2.2.2.2.2.2.2.2.2.2.2.2.2.2.2.2.2.2.2.1 v.2.2.2.2.2.2.2.2.2.2.2.2.2.2.2.2.2.2.2.2.2.2.2.2.2.1 v.2.2.2.2.2.2.2.2.2.2.2.2.2.2.2.2.2.2.2.2.2.2.2.2.2.2.1 v.2.2.2.2.2.2.2.2.2.2.2.2.2.2.2.2.2.2.2.2.2.2.2.2.2.2.2.1 v.2.2.2.2.2.2.2.2.2.2.2.2.2.2.2.2.2.2.2.2.2.2.2.2.2.2.2.2.1 v.2.2.2.2.2.2.2.2.2.2.2.2.2.2.2.2.2.2.2.2.2.2.2.2.2.2.2.2.2.1 v.2.2.2.2.2.2.2.2.2.2.2.2.2.2.2.2.2.2.2.2.2.2.2.2.2.2.2.2.2.2.1 v.2.2.2.2.2.2.2.2.2.2.2.2.2.2.2.2.2.2.2.2.2.2.2.2.2.2.2.2.2.2.2.1 v.2.2.2.2.2.2.2.2.2.2.2.2.2.2.2.2.2.2.2.2.2.2.2.2.2.2.2.2.2.2.2.2.1 v.2.2.2.2.2.2.2.2.2.2.2.2.2.2.2.2.2.2.2.2.2.2.2.2.2.2.2.2.2.2.2.2.2) (v1,v36,v37,b0_0,b0_7,b1_0,b1_1,b1_3,b3_1,b4_0,b4_1,b5_0,b5_7,b6_0,b6_1,b6_3,b8_1,b9_0,b9_1,l0,l1,l2,l3,l4,l5,l6,l7,l8,l9,l10,l11,l12,l13,l14)
def M1 (a0:List Int) (a1:List Int):Option (Bool):=
 (H0 [a0,a1]).bind fun r1=>
 sel r1 (
  (D8).bind fun r2=>
  some r2) (
  (K3 a0 ((0:Int),(0:Int),(0:Int),(0:Int),(0:Int),(0:Int),false,(0:Int),(0:Int),(0:Int),(0:Int),(0:Int))).bind fun r3=>
  (a0W r3.2.2.2.2.2.2.2.2.2.2.2.2.2.2.2.1.1).bind fun r4=>
  sel (!r3.2.2.2.2.2.2.2.2.2.2.2.2.2.2.2.2) (
   some false) (
   (I1 r3.1 r3.2.1 r3.2.2.1 r3.2.2.2.1 r3.2.2.2.2.1 r3.2.2.2.2.2.1 r3.2.2.2.2.2.2.1 r3.2.2.2.2.2.2.2.1 r3.2.2.2.2.2.2.2.2.1 r3.2.2.2.2.2.2.2.2.2.1 r3.2.2.2.2.2.2.2.2.2.2.1 r3.2.2.2.2.2.2.2.2.2.2.2.1 r3.2.2.2.2.2.2.2.2.2.2.2.2.1 r3.2.2.2.2.2.2.2.2.2.2.2.2.2.1 r3.2.2.2.2.2.2.2.2.2.2.2.2.2.2.1).bind fun r19=>
   Y5 a1 (((List.length r19.2.2.2.2.2.2.2.2.2.2.2.2.2.2.2):Nat):Int) 0 r19.1 r19.2.2.2.2.2.2.2.2.2.2.2.2.2.2.1 r19.2.1 r19.2.2.1 r19.2.2.2.2.1 r19.2.2.2.2.2.2.2.2.1 r19.2.2.2.2.2.2.2.2.2.1 r19.2.2.2.2.2.2.2.2.2.2.1 r4.1 r4.2.2.2.2.2.2.2.2.2.2.2.2.2.2 r4.2.1 r4.2.2.1 r4.2.2.2.2.1 r4.2.2.2.2.2.2.2.2.1 r4.2.2.2.2.2.2.2.2.2.1 r4.2.2.2.2.2.2.2.2.2.2.1 r19.2.2.2.1 r19.2.2.2.2.2.1 r19.2.2.2.2.2.2.1 r19.2.2.2.2.2.2.2.1 r19.2.2.2.2.2.2.2.2.2.2.2.1 r19.2.2.2.2.2.2.2.2.2.2.2.2.1 r19.2.2.2.2.2.2.2.2.2.2.2.2.2.1 r4.2.2.2.1 r4.2.2.2.2.2.1 r4.2.2.2.2.2.2.1 r4.2.2.2.2.2.2.2.1 r4.2.2.2.2.2.2.2.2.2.2.2.1 r4.2.2.2.2.2.2.2.2.2.2.2.2.1 r4.2.2.2.2.2.2.2.2.2.2.2.2.2.1 r19.2.2.2.2.2.2.2.2.2.2.2.2.2.2.2))
end Go.Proofs.YtacnfjjkhpkloaaGreat.Am
