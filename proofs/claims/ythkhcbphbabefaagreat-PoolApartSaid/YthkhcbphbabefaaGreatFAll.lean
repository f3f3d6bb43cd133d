/- What functions of the program compute on plain data. No conditions. -/
import Derived.Test.YthkhcbphbabefaaGreatQAB
import Derived.Test.YthkhcbphbabefaaGreatQAC
import Derived.Test.YthkhcbphbabefaaGreatQAD
import Derived.Test.YthkhcbphbabefaaGreatKD
import Derived.Test.YthkhcbphbabefaaGreatQAA
namespace Go.Proofs.YthkhcbphbabefaaGreat.Am
open Go
noncomputable section
variable [Fu]
def Q8:U:=(.pr (.int .u64) .bool)
abbrev D5:Type:=Int×Bool
def aK:D5:=((0:Int),false)
def o5:U:=(.pr (.int .i64) (.int .i64))
abbrev o4:Type:=Int×Int
def O1:o4:=((0:Int),(0:Int))
def U_sender_place:U:=(.pr (.int .u64) (.int .i64))
abbrev o9:Type:=Int×Int
def d_sender_place:o9:=((0:Int),(0:Int))
def C3:U:=(.pr (.sl (.int .i64)) (.int .i64))
abbrev A7:Type:=List Int×Int
def B0:U:=(.pr (.int .i64) (.pr (.int .u64) (.int .i64)))
abbrev A0:Type:=Int×o9
def B6:A0:=((0:Int),(0:Int),(0:Int))
def bz:U:=(.pr .str (.pr (.pr (.int .u64) .bool) (.pr (.pr (.int .u64) .bool) (.pr (.int .u64) .bool))))
abbrev H4:Type:=List UInt8×D5×D5×D5
def Q6:H4:=([],aK,aK,(0:Int),false)
def A9:U:=(.pr (.arr 32 .byte) (.pr (.sl .byte) (.pr .str (.pr (.int .u64) (.pr (.int .u64) (.pr (.int .u64) (.pr (.int .i64) (.pr (.int .i64) (.pr (.int .i64) (.sl (.int .i64)))))))))))
abbrev o8:Type:=Vector UInt8 32×List UInt8×List UInt8×Int×Int×Int×Int×Int×Int×List Int
def Q9:o8:=((Vector.replicate 32 (0:UInt8)),[],[],(0:Int),(0:Int),(0:Int),(0:Int),(0:Int),(0:Int),[])
def C4:U:=(.pr (.arr 32 .byte) (.pr (.ln .byte) (.pr .str (.pr (.int .u64) (.pr (.int .u64) (.pr (.int .u64) (.pr (.int .i64) (.pr (.int .i64) (.pr (.int .i64) (.ln (.int .i64)))))))))))
def A8:U:=(.pr (.int .i64) (.pr (.int .i64) (.pr (.int .i64) (.pr (.int .i64) (.pr (.int .i64) (.pr (.int .i64) (.pr .bool (.pr (.int .i64) (.pr (.int .i64) (.pr (.int .u64) (.pr (.int .i64) (.int .i64))))))))))))
abbrev A4:Type:=Int×Int×Int×Int×Int×Int×Bool×Int×Int×Int×o4
def B3:U:=(.pr (.pr (.arr 32 .byte) (.pr (.sl .byte) (.pr .str (.pr (.int .u64) (.pr (.int .u64) (.pr (.int .u64) (.pr (.int .i64) (.pr (.int .i64) (.pr (.int .i64) (.sl (.int .i64))))))))))) (.pr (.int .i64) (.pr .bool (.int .i64))))
abbrev A1:Type:=o8×Int×Bool×Int
def A5:A1:=(Q9,(0:Int),false,(0:Int))
def C9:U:=(.pr (.pr (.arr 32 .byte) (.pr (.ln .byte) (.pr .str (.pr (.int .u64) (.pr (.int .u64) (.pr (.int .u64) (.pr (.int .i64) (.pr (.int .i64) (.pr (.int .i64) (.ln (.int .i64))))))))))) (.pr (.int .i64) (.pr .bool (.int .i64))))
def B2(a0:Int):Option (D5):=
 some ((dX a0),false)
def ce:Option (Vector H4 12):=
 (B2 1).bind λr1=>
 (B2 512).bind λr2=>
 (B2 100).bind λr3=>
 (B2 1).bind λr4=>
 (B2 1048576).bind λr5=>
 (B2 65536).bind λr6=>
 (B2 1).bind λr7=>
 (B2 4096).bind λr8=>
 (B2 1024).bind λr9=>
 (B2 0).bind λr10=>
 (B2 1024).bind λr11=>
 (B2 200).bind λr12=>
 (B2 0).bind λr13=>
 (B2 1073741824).bind λr14=>
 (B2 0).bind λr15=>
 (B2 0).bind λr16=>
 (B2 1073741824).bind λr17=>
 (B2 0).bind λr18=>
 (B2 0).bind λr19=>
 (B2 1).bind λr20=>
 (B2 0).bind λr21=>
 (B2 1).bind λr22=>
 (B2 1048576).bind λr23=>
 (B2 32768).bind λr24=>
 (B2 1125899906842624).bind λr25=>
 (B2 0).bind λr26=>
 (B2 1).bind λr27=>
 (B2 0).bind λr28=>
 (B2 7).bind λr29=>
 (B2 0).bind λr30=>
 (B2 1).bind λr31=>
 (B2 8).bind λr32=>
 (B2 1).bind λr33=>
 some (Vector.push (Vector.push (Vector.push (Vector.push (Vector.push (Vector.push (Vector.push (Vector.push (Vector.push (Vector.push (Vector.push (Vector.push #v[] (([109,97,120,45,116,120,115]:List UInt8),r1,r2,r3)) (([109,97,120,45,98,121,116,101,115]:List UInt8),r4,r5,r6)) (([109,97,120,45,116,120,45,98,121,116,101,115]:List UInt8),r7,r8,r9)) (([99,97,99,104,101,45,115,105,122,101]:List UInt8),r10,r11,r12)) (([116,116,108,45,98,108,111,99,107,115]:List UInt8),r13,r14,r15)) (([116,116,108,45,116,105,109,101]:List UInt8),r16,r17,r18)) (([107,101,101,112,45,105,110,118,97,108,105,100]:List UInt8),r19,r20,r21)) (([98,108,111,99,107,45,98,121,116,101,115]:List UInt8),r22,r23,r24)) (([98,108,111,99,107,45,103,97,115]:List UInt8),((0:Int),true),r25,(0:Int),true)) (([112,114,105,99,101]:List UInt8),r26,(18446744073709551615,false),r27)) (([115,101,108,102]:List UInt8),r28,r29,r30)) (([110,111,100,101,115]:List UInt8),r31,r32,r33))
def Z2(v10:Bool) (b0 b1:D5):Option (Bool):=
 sel v10 (
  sel b0.2 (
   some (!b1.2)) (
   some false)) (
  some (decide (b0.1<b1.1)))
def W6(a0 a1:D5):Option (Bool):=
 sel a0.2 (
  Z2 true a0 a1) (
  Z2 a1.2 a0 a1)
def aL(a0:H4) (a1:D5):Option (Bool):=
 (W6 a1 a0.2.1).bind λr1=>
 sel (!r1) (
  (W6 a0.2.2.1 a1).bind λr2=>
  some (!r2)) (
  some false)
def X7(b0:A4):Option (Int):=
 sel (decide (b0.2.2.2.2.2.2.2.2.2.2.2<=b0.2.2.2.2.2.2.2.2.2.2.1)) (
  some 1) (
  some 0)
def H0(v7:Vector H4 12) (v8:Int) (b0:A4):Option ((Vector H4 12×Int×A4)⊕(Int)):=
 sel (decide (v8<12)) (
  chk (decide ((0:Int)<=v8/\v8<12)) <|
  (bm b0 v8).bind λr2=>
  sel (!r2.2) (
   some (.inr 1)) (
   (aL (K9 v7 v8.toNat Q6) r2.1).bind λr3=>
   sel (!r3) (
    some (.inr 1)) (
    some (.inl (v7,(D1 (v8+1)),b0))))) (
  Option.map .inr (
   X7 b0))
def bB(v7:Vector H4 12) (v8:Int) (b0:A4):=
 aH (λv=>H0 v.1 v.2.1 v.2.2) (v7,v8,b0)
def W7(a0:A4):Option (Int):=
 (ce).bind λr1=>
 bB r1 0 a0
def ae(v4:Vector H4 12) (v5:Int) (b0 b1:A4):Option ((Vector H4 12×Int×A4×A4)⊕(A4)):=
 sel (decide (v5<12)) (
  chk (decide ((0:Int)<=v5/\v5<12)) <|
  (cV b1 v5 (K9 v4 v5.toNat Q6).2.2.2).bind λr2=>
  some (.inl (v4,(D1 (v5+1)),b0,r2))) (
  some (.inr b1))
def bR(v4:Vector H4 12) (v5:Int) (b0 b1:A4):=
 aH (λv=>ae v.1 v.2.1 v.2.2.1 v.2.2.2) (v4,v5,b0,b1)
def S5:Option (A4):=
 (ce).bind λr1=>
 bR r1 0 ((0:Int),(0:Int),(0:Int),(0:Int),(0:Int),(0:Int),false,(0:Int),(0:Int),(0:Int),(0:Int),(0:Int)) ((0:Int),(0:Int),(0:Int),(0:Int),(0:Int),(0:Int),false,(0:Int),(0:Int),(0:Int),(0:Int),(0:Int))
def jA(a0:Int):Option (Int×Int×List A1×Int):=
 some ((min (max a0 0) 512),(0:Int),[],(-1))
def jB:Option (List A0×List o4):=
 some ([],[])
def fp(a0 a1:Int):Option (Int×Int×(List (Int×o4))):=
 some (a0,a1,[])
def aM(b0:A4):Option (A4×Int×Int×List A1×Int×List A0×List o4×(List (List UInt8×List o9))×Int×Int×Int×(List (Int×o4))×(List (Int×o4))×(List (List UInt8×Int))×Int):=
 (jA b0.1).bind λr1=>
 (jB).bind λr2=>
 (cW).bind λr3=>
 (fp b0.2.2.2.2.1 b0.2.2.2.2.2.1).bind λr4=>
 some (b0,r1.1,r1.2.1,r1.2.2.1,r1.2.2.2,r2.1,r2.2,r3.1,r3.2,r4.1,r4.2.1,r4.2.2,[],[],0)
def ap(a0:A4):Option (A4×Int×Int×List A1×Int×List A0×List o4×(List (List UInt8×List o9))×Int×Int×Int×(List (Int×o4))×(List (Int×o4))×(List (List UInt8×Int))×Int):=
 (W7 a0).bind λr5=>
 sel (!decide (r5=0)) (
  (S5).bind λr6=>
  aM r6) (
  aM a0)
def C1(a0:Int) (a1:List UInt8) (a2 a3:Int):Option (o8):=
 chk (decide ((0:Int)<=(wu8 a0)/\(wu8 a0)<256)) <|
 chk (decide ((0:Int)<=(wu8 a0)/\(wu8 a0)<256)) <|
 some ((Vector.push (Vector.push (Vector.push (Vector.push (Vector.push (Vector.push (Vector.push (Vector.push (Vector.push (Vector.push (Vector.push (Vector.push (Vector.push (Vector.push (Vector.push (Vector.push (Vector.push (Vector.push (Vector.push (Vector.push (Vector.push (Vector.push (Vector.push (Vector.push (Vector.push (Vector.push (Vector.push (Vector.push (Vector.push (Vector.push (Vector.push (Vector.push #v[] (UInt8.ofNat (Int.toNat (wu8 a0)))) (K9 (Vector.replicate 32 (0:UInt8)) 1 (0:UInt8))) (K9 (Vector.replicate 32 (0:UInt8)) 2 (0:UInt8))) (K9 (Vector.replicate 32 (0:UInt8)) 3 (0:UInt8))) (K9 (Vector.replicate 32 (0:UInt8)) 4 (0:UInt8))) (K9 (Vector.replicate 32 (0:UInt8)) 5 (0:UInt8))) (K9 (Vector.replicate 32 (0:UInt8)) 6 (0:UInt8))) (K9 (Vector.replicate 32 (0:UInt8)) 7 (0:UInt8))) (K9 (Vector.replicate 32 (0:UInt8)) 8 (0:UInt8))) (K9 (Vector.replicate 32 (0:UInt8)) 9 (0:UInt8))) (K9 (Vector.replicate 32 (0:UInt8)) 10 (0:UInt8))) (K9 (Vector.replicate 32 (0:UInt8)) 11 (0:UInt8))) (K9 (Vector.replicate 32 (0:UInt8)) 12 (0:UInt8))) (K9 (Vector.replicate 32 (0:UInt8)) 13 (0:UInt8))) (K9 (Vector.replicate 32 (0:UInt8)) 14 (0:UInt8))) (K9 (Vector.replicate 32 (0:UInt8)) 15 (0:UInt8))) (K9 (Vector.replicate 32 (0:UInt8)) 16 (0:UInt8))) (K9 (Vector.replicate 32 (0:UInt8)) 17 (0:UInt8))) (K9 (Vector.replicate 32 (0:UInt8)) 18 (0:UInt8))) (K9 (Vector.replicate 32 (0:UInt8)) 19 (0:UInt8))) (K9 (Vector.replicate 32 (0:UInt8)) 20 (0:UInt8))) (K9 (Vector.replicate 32 (0:UInt8)) 21 (0:UInt8))) (K9 (Vector.replicate 32 (0:UInt8)) 22 (0:UInt8))) (K9 (Vector.replicate 32 (0:UInt8)) 23 (0:UInt8))) (K9 (Vector.replicate 32 (0:UInt8)) 24 (0:UInt8))) (K9 (Vector.replicate 32 (0:UInt8)) 25 (0:UInt8))) (K9 (Vector.replicate 32 (0:UInt8)) 26 (0:UInt8))) (K9 (Vector.replicate 32 (0:UInt8)) 27 (0:UInt8))) (K9 (Vector.replicate 32 (0:UInt8)) 28 (0:UInt8))) (K9 (Vector.replicate 32 (0:UInt8)) 29 (0:UInt8))) (K9 (Vector.replicate 32 (0:UInt8)) 30 (0:UInt8))) (K9 (Vector.replicate 32 (0:UInt8)) 31 (0:UInt8))),[(UInt8.ofNat (Int.toNat (wu8 a0)))],a1,a2,(0:Int),a3,(0:Int),(0:Int),a0,[])
def N8(a0_0 a0_1:Int) (a0_2:List A1) (a0_3:Int):Option (Int×Int×List A1×Int×Int):=
 some (a0_0,a0_1,a0_2,a0_3,a0_1)
def O4(v3 v12 v13 b0_0 b0_1 b0_3:Int) (l0:List A1):Option ((Int×Int×Int×Int×Int×Int×List A1)⊕(Int×Int×List A1×Int×Int)):=
 sel (decide (v13<v12)) (
  chk (decide (0<=v13/\v13<l0.length)) <|
  chk (decide (v13.toNat<l0.length)) <|
  some (.inl ((D1 (v3+(((List.length (l0.getD v13.toNat A5).1.2.1):Nat):Int))),v12,(D1 (v13+1)),b0_0,b0_1,b0_3,l0))) (
  some (.inr (b0_0,b0_1,l0,b0_3,v3)))
def bc(v3 v12 v13 b0_0 b0_1 b0_3:Int) (l0:List A1):=
 aH (λv=>O4 v.1 v.2.1 v.2.2.1 v.2.2.2.1 v.2.2.2.2.1 v.2.2.2.2.2.1 v.2.2.2.2.2.2) (v3,v12,v13,b0_0,b0_1,b0_3,l0)
def H5(a0_0 a0_1:Int) (a0_2:List A1) (a0_3:Int):Option (Int×Int×List A1×Int×Int):=
 bc 0 (((List.length a0_2):Nat):Int) 0 a0_0 a0_1 a0_3 a0_2
def au(a0:List UInt8):Option (List UInt8):=bP (u:=.byte) 1 a0
def bd(a0:List Int):Option (List Int):=bP (u:=(.int .i64)) 8 a0
def cz(a0:o8):Option (o8):=
 (au a0.2.1).bind λr1=>
 (bd a0.2.2.2.2.2.2.2.2.2).bind λr2=>
 some (a0.1,r1,a0.2.2.1,a0.2.2.2.1,a0.2.2.2.2.1,a0.2.2.2.2.2.1,a0.2.2.2.2.2.2.1,a0.2.2.2.2.2.2.2.1,a0.2.2.2.2.2.2.2.2.1,r2)
def M7(v6 b0_0 b0_1 b0_3:Int) (b1:o8) (_b2:o4) (l0:List A1):Option (Int×Int×List A1×Int×o4×Bool):=
 (cz b1).bind λr1=>
 chk (decide (0<=v6/\v6<l0.length)) <|
 chk (decide (v6.toNat<l0.length)) <|
 chk (decide ((0:Int)<=v6/\v6<(((List.length (List.set l0 v6.toNat (r1,(l0.getD v6.toNat A5).2))):Nat):Int))) <|
 chk (decide (v6.toNat<(List.length (List.set l0 v6.toNat (r1,(l0.getD v6.toNat A5).2))))) <|
 chk (decide ((0:Int)<=v6/\v6<(((List.length (List.set (List.set l0 v6.toNat (r1,(l0.getD v6.toNat A5).2)) v6.toNat ((List.getD (List.set l0 v6.toNat (r1,(l0.getD v6.toNat A5).2)) v6.toNat A5).1,(List.getD (List.set l0 v6.toNat (r1,(l0.getD v6.toNat A5).2)) v6.toNat A5).2.1,true,(List.getD (List.set l0 v6.toNat (r1,(l0.getD v6.toNat A5).2)) v6.toNat A5).2.2.2))):Nat):Int))) <|
 chk (decide (v6.toNat<(List.length (List.set (List.set l0 v6.toNat (r1,(l0.getD v6.toNat A5).2)) v6.toNat ((List.getD (List.set l0 v6.toNat (r1,(l0.getD v6.toNat A5).2)) v6.toNat A5).1,(List.getD (List.set l0 v6.toNat (r1,(l0.getD v6.toNat A5).2)) v6.toNat A5).2.1,true,(List.getD (List.set l0 v6.toNat (r1,(l0.getD v6.toNat A5).2)) v6.toNat A5).2.2.2))))) <|
 some (b0_0,(D1 (b0_1+1)),(List.set (List.set l0 v6.toNat (r1,(l0.getD v6.toNat A5).2)) v6.toNat ((List.getD (List.set l0 v6.toNat (r1,(l0.getD v6.toNat A5).2)) v6.toNat A5).1,(List.getD (List.set l0 v6.toNat (r1,(l0.getD v6.toNat A5).2)) v6.toNat A5).2.1,true,(List.getD (List.set l0 v6.toNat (r1,(l0.getD v6.toNat A5).2)) v6.toNat A5).2.2.2)),b0_3,(v6,(List.getD (List.set (List.set l0 v6.toNat (r1,(l0.getD v6.toNat A5).2)) v6.toNat ((List.getD (List.set l0 v6.toNat (r1,(l0.getD v6.toNat A5).2)) v6.toNat A5).1,(List.getD (List.set l0 v6.toNat (r1,(l0.getD v6.toNat A5).2)) v6.toNat A5).2.1,true,(List.getD (List.set l0 v6.toNat (r1,(l0.getD v6.toNat A5).2)) v6.toNat A5).2.2.2)) v6.toNat A5).2.1),true)
def Z3(a0_0 a0_1:Int) (a0_2:List A1) (a0_3:Int) (a1:o8):Option (Int×Int×List A1×Int×o4×Bool):=
 sel (decide (a0_1=a0_0)) (
  some (a0_0,a0_1,a0_2,a0_3,((0:Int),(0:Int)),false)) (
  sel (decide (a0_3<0)) (
   chk (decide (((List.length a0_2)+1)*168<=LIM/\(List.length a0_2)+1<=LEN)) <|
   M7 (((List.length a0_2):Nat):Int) a0_0 a0_1 a0_3 a1 ((0:Int),(0:Int)) (a0_2++([(((Vector.replicate 32 (0:UInt8)),[],[],(0:Int),(0:Int),(0:Int),(0:Int),(0:Int),(0:Int),[]),(0:Int),false,(0:Int))]:List A1))) (
   chk (decide ((0:Int)<=a0_3/\a0_3<(((List.length a0_2):Nat):Int))) <|
   chk (decide ((Int.toNat a0_3)<(List.length a0_2))) <|
   M7 a0_3 a0_0 a0_1 (List.getD a0_2 (Int.toNat a0_3) A5).2.2.2 a1 ((0:Int),(0:Int)) a0_2))
def cg(a0 a1:A0):Option (Bool):=
 sel (!decide (a0.2.1=a1.2.1)) (
  some (decide (a1.2.1<a0.2.1))) (
  sel (!decide (a0.2.2=a1.2.2)) (
   some (decide (a0.2.2<a1.2.2))) (
   some (decide (a0.1<a1.1))))
def Z4(a0_0:List A0) (a0_1:List o4) (a1 a2:Int):Option (List A0×List o4):=
 chk (decide ((0:Int)<=a2/\a2<(((List.length a0_0):Nat):Int))) <|
 chk (decide (a2.toNat<(List.length a0_0))) <|
 chk (decide ((0:Int)<=a1/\a1<(((List.length a0_0):Nat):Int))) <|
 chk (decide (a1.toNat<(List.length a0_0))) <|
 chk (decide ((0:Int)<=a1/\a1<(((List.length a0_0):Nat):Int))) <|
 chk (decide (a1.toNat<(List.length a0_0))) <|
 chk (decide ((0:Int)<=a2/\a2<(((List.length (List.set a0_0 a1.toNat (List.getD a0_0 a2.toNat B6))):Nat):Int))) <|
 chk (decide (a2.toNat<(List.length (List.set a0_0 a1.toNat (List.getD a0_0 a2.toNat B6))))) <|
 chk (decide ((0:Int)<=a1/\a1<(((List.length (List.set (List.set a0_0 a1.toNat (List.getD a0_0 a2.toNat B6)) a2.toNat (List.getD a0_0 a1.toNat B6))):Nat):Int))) <|
 chk (decide (a1.toNat<(List.length (List.set (List.set a0_0 a1.toNat (List.getD a0_0 a2.toNat B6)) a2.toNat (List.getD a0_0 a1.toNat B6))))) <|
 chk (decide ((0:Int)<=a2/\a2<(((List.length (List.set (List.set a0_0 a1.toNat (List.getD a0_0 a2.toNat B6)) a2.toNat (List.getD a0_0 a1.toNat B6))):Nat):Int))) <|
 chk (decide (a2.toNat<(List.length (List.set (List.set a0_0 a1.toNat (List.getD a0_0 a2.toNat B6)) a2.toNat (List.getD a0_0 a1.toNat B6))))) <|
 some ((List.set (List.set a0_0 a1.toNat (List.getD a0_0 a2.toNat B6)) a2.toNat (List.getD a0_0 a1.toNat B6)),(Z0 L0 (List.getD (List.set (List.set a0_0 a1.toNat (List.getD a0_0 a2.toNat B6)) a2.toNat (List.getD a0_0 a1.toNat B6)) a2.toNat B6).1 a2 (Z0 L0 (List.getD (List.set (List.set a0_0 a1.toNat (List.getD a0_0 a2.toNat B6)) a2.toNat (List.getD a0_0 a1.toNat B6)) a2.toNat B6).1 (Q5 L0 (List.getD (List.set (List.set a0_0 a1.toNat (List.getD a0_0 a2.toNat B6)) a2.toNat (List.getD a0_0 a1.toNat B6)) a2.toNat B6).1 (0:Int) (Z0 L0 (List.getD (List.set (List.set a0_0 a1.toNat (List.getD a0_0 a2.toNat B6)) a2.toNat (List.getD a0_0 a1.toNat B6)) a1.toNat B6).1 a1 (Z0 L0 (List.getD (List.set (List.set a0_0 a1.toNat (List.getD a0_0 a2.toNat B6)) a2.toNat (List.getD a0_0 a1.toNat B6)) a1.toNat B6).1 (Q5 L0 (List.getD (List.set (List.set a0_0 a1.toNat (List.getD a0_0 a2.toNat B6)) a2.toNat (List.getD a0_0 a1.toNat B6)) a1.toNat B6).1 (0:Int) a0_1) a0_1))) (Z0 L0 (List.getD (List.set (List.set a0_0 a1.toNat (List.getD a0_0 a2.toNat B6)) a2.toNat (List.getD a0_0 a1.toNat B6)) a1.toNat B6).1 a1 (Z0 L0 (List.getD (List.set (List.set a0_0 a1.toNat (List.getD a0_0 a2.toNat B6)) a2.toNat (List.getD a0_0 a1.toNat B6)) a1.toNat B6).1 (Q5 L0 (List.getD (List.set (List.set a0_0 a1.toNat (List.getD a0_0 a2.toNat B6)) a2.toNat (List.getD a0_0 a1.toNat B6)) a1.toNat B6).1 (0:Int) a0_1) a0_1)))))
def bg(v1:Int) (l0:List A0) (l1:List o4):Option ((Int×List A0×List o4)⊕(List A0×List o4)):=
 sel (decide (0<v1)) (
  chk (decide (0<=v1/\v1<l0.length)) <|
  chk (decide (v1.toNat<l0.length)) <|
  chk (decide ((0:Int)<=(D1 (Int.tdiv (D1 (v1-1)) 2))/\(D1 (Int.tdiv (D1 (v1-1)) 2))<((l0.length:Nat):Int))) <|
  chk (decide ((Int.toNat (D1 (Int.tdiv (D1 (v1-1)) 2)))<l0.length)) <|
  (cg (l0.getD v1.toNat B6) (l0.getD (Int.toNat (D1 (Int.tdiv (D1 (v1-1)) 2))) B6)).bind λr1=>
  sel r1 (
   (Z4 l0 l1 v1 (D1 (Int.tdiv (D1 (v1-1)) 2))).bind λr2=>
   some (.inl ((D1 (Int.tdiv (D1 (v1-1)) 2)),r2.1,r2.2))) (
   some (.inr (l0,l1)))) (
  some (.inr (l0,l1)))
def cX(v1:Int) (l0:List A0) (l1:List o4):=
 aH (λv=>bg v.1 v.2.1 v.2.2) (v1,l0,l1)
def bo(a0_0:List A0) (a0_1:List o4) (a1:Int):Option (List A0×List o4):=
 cX a1 a0_0 a0_1
def S6(a0_0:List A0) (a0_1:List o4) (a1:A0):Option (List A0×List o4×Bool):=
 sel (Option.isSome (aG L0 a1.1 a0_1)) (
  some (a0_0,a0_1,false)) (
  chk (decide (((List.length a0_0)+1)*24<=LIM/\(List.length a0_0)+1<=LEN)) <|
  (bo (a0_0++([a1]:List A0)) (Z0 L0 a1.1 (D1 ((((List.length (a0_0++([a1]:List A0))):Nat):Int)-1)) a0_1) (D1 ((((List.length (a0_0++([a1]:List A0))):Nat):Int)-1))).bind λr1=>
  some (r1.1,r1.2,true))
def K8(a0_0 a0_1:Int) (a0_2:List (Int×o4)) (a1 a2 a3:Int):Option (Int×Int×(List (Int×o4))×Bool):=
 sel (Option.isSome (aG L0 a1 a0_2)) (
  some (a0_0,a0_1,a0_2,false)) (
  some (a0_0,a0_1,(Z0 L0 a1 (a2,a3) a0_2),true))
def I8(v9:Bool) (b0_0:A4) (b0_7 b1_0 b1_1 b1_3 b3_1 b4_0 b4_1:Int) (b5:o8) (b6:o4) (l0:List A1) (l1:List A0) (l2:List o4) (l3:List (List UInt8×List o9)) (l4 l5:List (Int×o4)) (l6:List (List UInt8×Int)):Option (A4×Int×Int×List A1×Int×List A0×List o4×(List (List UInt8×List o9))×Int×Int×Int×(List (Int×o4))×(List (Int×o4))×(List (List UInt8×Int))×Int×Int):=
 sel (!v9) (
  (E8 l3 b3_1 b5.2.2.1 b5.2.2.2.1).bind λr2=>
  some (b0_0,b1_0,b1_1,l0,b1_3,l1,l2,r2.1,r2.2.1,b4_0,b4_1,l4,l5,l6,b0_7,24)) (
  (S6 l1 l2 (b0_7,b5.2.2.2.2.2.1,b5.2.2.2.2.2.2.2.2.1)).bind λr3=>
  (K8 b4_0 b4_1 l4 b0_7 b5.2.2.2.2.2.2.1 b5.2.2.2.2.2.2.2.1).bind λr4=>
  some (b0_0,b1_0,b1_1,l0,b1_3,r3.1,r3.2.1,l3,b3_1,r4.1,r4.2.1,r4.2.2.1,(Z0 L0 b0_7 b6 (Z0 L0 b0_7 (Q5 L0 b0_7 O1 l5) l5)),(Z0 C0 (Vector.toList b5.1) b0_7 (Z0 C0 (Vector.toList b5.1) (Q5 C0 (Vector.toList b5.1) (0:Int) l6) l6)),(D1 (b0_7+1)),0))
def I9(v7:Bool) (b0_0:A4) (b0_7 b1_0 b1_1 b1_3 b3_1 b4_0 b4_1:Int) (b5:o8) (l0:List A1) (l1:List A0) (l2:List o4) (l3:List (List UInt8×List o9)) (l4 l5:List (Int×o4)) (l6:List (List UInt8×Int)):Option (A4×Int×Int×List A1×Int×List A0×List o4×(List (List UInt8×List o9))×Int×Int×Int×(List (Int×o4))×(List (Int×o4))×(List (List UInt8×Int))×Int×Int):=
 sel (!v7) (
  (Z3 b1_0 b1_1 l0 b1_3 b5).bind λr5=>
  I8 r5.2.2.2.2.2 b0_0 b0_7 r5.1 r5.2.1 r5.2.2.2.1 b3_1 b4_0 b4_1 b5 r5.2.2.2.2.1 r5.2.2.1 l1 l2 l3 l4 l5 l6) (
  I8 false b0_0 b0_7 b1_0 b1_1 b1_3 b3_1 b4_0 b4_1 b5 ((0:Int),(0:Int)) l0 l1 l2 l3 l4 l5 l6)
def H6(a0_0:A4) (a0_1_0 a0_1_1:Int) (a0_1_2:List A1) (a0_1_3:Int) (a0_2_0:List A0) (a0_2_1:List o4) (a0_3_0:List (List UInt8×List o9)) (a0_3_1 a0_4_0 a0_4_1:Int) (a0_4_2 a0_5:List (Int×o4)) (a0_6:List (List UInt8×Int)) (a0_7:Int) (a1:o8):Option (A4×Int×Int×List A1×Int×List A0×List o4×(List (List UInt8×List o9))×Int×Int×Int×(List (Int×o4))×(List (Int×o4))×(List (List UInt8×Int))×Int×Int):=
 sel (Option.isSome (aG C0 (Vector.toList a1.1) a0_6)) (
  some (a0_0,a0_1_0,a0_1_1,a0_1_2,a0_1_3,a0_2_0,a0_2_1,a0_3_0,a0_3_1,a0_4_0,a0_4_1,a0_4_2,a0_5,a0_6,a0_7,8)) (
  (O2 a0_3_0 a0_3_1 a1.2.2.1 a1.2.2.2.1 a0_7).bind λr1=>
  sel (!r1.2.2) (
   some (a0_0,a0_1_0,a0_1_1,a0_1_2,a0_1_3,a0_2_0,a0_2_1,r1.1,r1.2.1,a0_4_0,a0_4_1,a0_4_2,a0_5,a0_6,a0_7,9)) (
   (N8 a0_1_0 a0_1_1 a0_1_2 a0_1_3).bind λr6=>
   sel (decide (a0_0.1<=r6.2.2.2.2)) (
    I9 true a0_0 a0_7 r6.1 r6.2.1 r6.2.2.2.1 r1.2.1 a0_4_0 a0_4_1 a1 r6.2.2.1 a0_2_0 a0_2_1 r1.1 a0_4_2 a0_5 a0_6) (
    (H5 r6.1 r6.2.1 r6.2.2.1 r6.2.2.2.1).bind λr7=>
    I9 (decide ((D1 (a0_0.2.1-r7.2.2.2.2))<((a1.2.1.length:Nat):Int))) a0_0 a0_7 r7.1 r7.2.1 r7.2.2.2.1 r1.2.1 a0_4_0 a0_4_1 a1 r7.2.2.1 a0_2_0 a0_2_1 r1.1 a0_4_2 a0_5 a0_6)))
def H8(a0:List A0):Option ((List A0)×List A0):=Ah (u:=B0) 24 a0
def D8(a0:List A0):Option (List A0):=chk (Nat.blt a0.length 4611686018427387904) (some (Fv (B6) iU a0))
def O5(a0_0:List A0) (a0_1:List o4):Option (List A0×List o4×List A0):=
 (H8 a0_0).bind λr1=>
 (D8 r1.2).bind λr2=>
 some (r1.1,a0_1,r2)
def Z5(a0_0 a0_1:Int) (a0_2:List A1) (a0_3:Int) (a1:o4):Option (Int×Int×List A1×Int×Bool):=
 sel (decide (0<=a1.1)) (
  sel (decide (a1.1<(((List.length a0_2):Nat):Int))) (
   chk (decide ((0:Int)<=a1.1/\a1.1<(((List.length a0_2):Nat):Int))) <|
   chk (decide (a1.1.toNat<(List.length a0_2))) <|
   sel ((List.getD a0_2 a1.1.toNat A5).2.2.1) (
    chk (decide ((0:Int)<=a1.1/\a1.1<(((List.length a0_2):Nat):Int))) <|
    chk (decide (a1.1.toNat<(List.length a0_2))) <|
    some (a0_0,a0_1,a0_2,a0_3,(decide ((List.getD a0_2 a1.1.toNat A5).2.1=a1.2)))) (
    some (a0_0,a0_1,a0_2,a0_3,false))) (
   some (a0_0,a0_1,a0_2,a0_3,false))) (
  some (a0_0,a0_1,a0_2,a0_3,false))
def N9(a0_0 a0_1:Int) (a0_2:List A1) (a0_3:Int) (a1:o4):Option (Int×Int×List A1×Int×o8×Bool):=
 (Z5 a0_0 a0_1 a0_2 a0_3 a1).bind λr1=>
 sel (!r1.2.2.2.2) (
  some (r1.1,r1.2.1,r1.2.2.1,r1.2.2.2.1,((Vector.replicate 32 (0:UInt8)),[],[],(0:Int),(0:Int),(0:Int),(0:Int),(0:Int),(0:Int),[]),false)) (
  chk (decide (0<=a1.1/\a1.1<r1.2.2.1.length)) <|
  chk (decide (a1.1.toNat<r1.2.2.1.length)) <|
  (cz (r1.2.2.1.getD a1.1.toNat A5).1).bind λr2=>
  some (r1.1,r1.2.1,r1.2.2.1,r1.2.2.2.1,r2,true))
def W8(v10:List Int) (v11 v12:Int) (b0_0:A4) (b0_7 b1_0 b1_1 b1_3 b3_1 b4_0 b4_1:Int) (l0:List A1) (l1:List A0) (l2:List o4) (l3:List (List UInt8×List o9)) (l4 l5:List (Int×o4)) (l6:List (List UInt8×Int)) (l7:List o8):Option ((List Int×Int×Int×A4×Int×Int×Int×Int×Int×Int×Int×List A1×List A0×List o4×(List (List UInt8×List o9))×(List (Int×o4))×(List (Int×o4))×(List (List UInt8×Int))×List o8)⊕(A4×Int×Int×List A1×Int×List A0×List o4×(List (List UInt8×List o9))×Int×Int×Int×(List (Int×o4))×(List (Int×o4))×(List (List UInt8×Int))×Int×List o8)):=
 sel (decide (v12<v11)) (
  chk (decide (0<=v12/\v12<v10.length)) <|
  (N9 b1_0 b1_1 l0 b1_3 (Q5 L0 (v10.getD v12.toNat (0:Int)) O1 l5)).bind λr1=>
  chk (decide ((l7.length+1)*144<=LIM/\l7.length+1<=LEN)) <|
  some (.inl (v10,v11,(D1 (v12+1)),b0_0,b0_7,r1.1,r1.2.1,r1.2.2.2.1,b3_1,b4_0,b4_1,r1.2.2.1,l1,l2,l3,l4,l5,l6,(l7++([r1.2.2.2.2.1]:List o8))))) (
  some (.inr (b0_0,b1_0,b1_1,l0,b1_3,l1,l2,l3,b3_1,b4_0,b4_1,l4,l5,l6,b0_7,l7)))
def cY(v10:List Int) (v11 v12:Int) (b0_0:A4) (b0_7 b1_0 b1_1 b1_3 b3_1 b4_0 b4_1:Int) (l0:List A1) (l1:List A0) (l2:List o4) (l3:List (List UInt8×List o9)) (l4 l5:List (Int×o4)) (l6:List (List UInt8×Int)) (l7:List o8):=
 aH (λv=>W8 v.1 v.2.1 v.2.2.1 v.2.2.2.1 v.2.2.2.2.1 v.2.2.2.2.2.1 v.2.2.2.2.2.2.1 v.2.2.2.2.2.2.2.1 v.2.2.2.2.2.2.2.2.1 v.2.2.2.2.2.2.2.2.2.1 v.2.2.2.2.2.2.2.2.2.2.1 v.2.2.2.2.2.2.2.2.2.2.2.1 v.2.2.2.2.2.2.2.2.2.2.2.2.1 v.2.2.2.2.2.2.2.2.2.2.2.2.2.1 v.2.2.2.2.2.2.2.2.2.2.2.2.2.2.1 v.2.2.2.2.2.2.2.2.2.2.2.2.2.2.2.1 v.2.2.2.2.2.2.2.2.2.2.2.2.2.2.2.2.1 v.2.2.2.2.2.2.2.2.2.2.2.2.2.2.2.2.2.1 v.2.2.2.2.2.2.2.2.2.2.2.2.2.2.2.2.2.2) (v10,v11,v12,b0_0,b0_7,b1_0,b1_1,b1_3,b3_1,b4_0,b4_1,l0,l1,l2,l3,l4,l5,l6,l7)
def P2(a0_0:A4) (a0_1_0 a0_1_1:Int) (a0_1_2:List A1) (a0_1_3:Int) (a0_2_0:List A0) (a0_2_1:List o4) (a0_3_0:List (List UInt8×List o9)) (a0_3_1 a0_4_0 a0_4_1:Int) (a0_4_2 a0_5:List (Int×o4)) (a0_6:List (List UInt8×Int)) (a0_7:Int) (a1:List Int):Option (A4×Int×Int×List A1×Int×List A0×List o4×(List (List UInt8×List o9))×Int×Int×Int×(List (Int×o4))×(List (Int×o4))×(List (List UInt8×Int))×Int×List o8):=
 cY a1 a1.length 0 a0_0 a0_7 a0_1_0 a0_1_1 a0_1_3 a0_3_1 a0_4_0 a0_4_1 a0_1_2 a0_2_0 a0_2_1 a0_3_0 a0_4_2 a0_5 a0_6 []
def V5(b0_0:A4) (b0_7 b1_0 b1_1 b1_3 b3_1 b4_0 b4_1:Int) (l0:List A1) (l1:List A0) (l2:List o4) (l3:List (List UInt8×List o9)) (l4 l5:List (Int×o4)) (l6:List (List UInt8×Int)) (l7:List Int):Option (A4×Int×Int×List A1×Int×List A0×List o4×(List (List UInt8×List o9))×Int×Int×Int×(List (Int×o4))×(List (Int×o4))×(List (List UInt8×Int))×Int×List o8):=
 (P2 b0_0 b1_0 b1_1 l0 b1_3 l1 l2 l3 b3_1 b4_0 b4_1 l4 l5 l6 b0_7 l7).bind λr1=>
 some (r1.1,r1.2.1,r1.2.2.1,r1.2.2.2.1,r1.2.2.2.2.1,r1.2.2.2.2.2.1,r1.2.2.2.2.2.2.1,r1.2.2.2.2.2.2.2.1,r1.2.2.2.2.2.2.2.2.1,r1.2.2.2.2.2.2.2.2.2.1,r1.2.2.2.2.2.2.2.2.2.2.1,r1.2.2.2.2.2.2.2.2.2.2.2.1,r1.2.2.2.2.2.2.2.2.2.2.2.2.1,r1.2.2.2.2.2.2.2.2.2.2.2.2.2.1,r1.2.2.2.2.2.2.2.2.2.2.2.2.2.2.1,r1.2.2.2.2.2.2.2.2.2.2.2.2.2.2.2)
def O6(v13 v14:Int) (b0_0:A4) (b0_7 b1_0 b1_1 b1_3 b3_1 b4_0 b4_1:Int) (l0:List A1) (l1:List A0) (l2:List o4) (l3:List (List UInt8×List o9)) (l4 l5:List (Int×o4)) (l6:List (List UInt8×Int)) (l7:List Int) (l8:List A0):Option ((Int×Int×A4×Int×Int×Int×Int×Int×Int×Int×List A1×List A0×List o4×(List (List UInt8×List o9))×(List (Int×o4))×(List (Int×o4))×(List (List UInt8×Int))×List Int×List A0)⊕(A4×Int×Int×List A1×Int×List A0×List o4×(List (List UInt8×List o9))×Int×Int×Int×(List (Int×o4))×(List (Int×o4))×(List (List UInt8×Int))×Int×List o8)):=
 sel (decide (v14<v13)) (
  chk (decide (0<=v14/\v14<l8.length)) <|
  chk (decide (v14.toNat<l8.length)) <|
  chk (decide ((l7.length+1)*8<=LIM/\l7.length+1<=LEN)) <|
  some (.inl (v13,(D1 (v14+1)),b0_0,b0_7,b1_0,b1_1,b1_3,b3_1,b4_0,b4_1,l0,l1,l2,l3,l4,l5,l6,(l7++[(l8.getD v14.toNat B6).1]),l8))) (
  Option.map .inr (
   V5 b0_0 b0_7 b1_0 b1_1 b1_3 b3_1 b4_0 b4_1 l0 l1 l2 l3 l4 l5 l6 l7))
def be(v13 v14:Int) (b0_0:A4) (b0_7 b1_0 b1_1 b1_3 b3_1 b4_0 b4_1:Int) (l0:List A1) (l1:List A0) (l2:List o4) (l3:List (List UInt8×List o9)) (l4 l5:List (Int×o4)) (l6:List (List UInt8×Int)) (l7:List Int) (l8:List A0):=
 aH (λv=>O6 v.1 v.2.1 v.2.2.1 v.2.2.2.1 v.2.2.2.2.1 v.2.2.2.2.2.1 v.2.2.2.2.2.2.1 v.2.2.2.2.2.2.2.1 v.2.2.2.2.2.2.2.2.1 v.2.2.2.2.2.2.2.2.2.1 v.2.2.2.2.2.2.2.2.2.2.1 v.2.2.2.2.2.2.2.2.2.2.2.1 v.2.2.2.2.2.2.2.2.2.2.2.2.1 v.2.2.2.2.2.2.2.2.2.2.2.2.2.1 v.2.2.2.2.2.2.2.2.2.2.2.2.2.2.1 v.2.2.2.2.2.2.2.2.2.2.2.2.2.2.2.1 v.2.2.2.2.2.2.2.2.2.2.2.2.2.2.2.2.1 v.2.2.2.2.2.2.2.2.2.2.2.2.2.2.2.2.2.1 v.2.2.2.2.2.2.2.2.2.2.2.2.2.2.2.2.2.2) (v13,v14,b0_0,b0_7,b1_0,b1_1,b1_3,b3_1,b4_0,b4_1,l0,l1,l2,l3,l4,l5,l6,l7,l8)
def O7(a0_0:A4) (a0_1_0 a0_1_1:Int) (a0_1_2:List A1) (a0_1_3:Int) (a0_2_0:List A0) (a0_2_1:List o4) (a0_3_0:List (List UInt8×List o9)) (a0_3_1 a0_4_0 a0_4_1:Int) (a0_4_2 a0_5:List (Int×o4)) (a0_6:List (List UInt8×Int)) (a0_7:Int):Option (A4×Int×Int×List A1×Int×List A0×List o4×(List (List UInt8×List o9))×Int×Int×Int×(List (Int×o4))×(List (Int×o4))×(List (List UInt8×Int))×Int×List o8):=
 (O5 a0_2_0 a0_2_1).bind λr2=>
 be r2.2.2.length 0 a0_0 a0_7 a0_1_0 a0_1_1 a0_1_3 a0_3_1 a0_4_0 a0_4_1 a0_1_2 r2.1 r2.2.1 a0_3_0 a0_4_2 a0_5 a0_6 [] r2.2.2
def O8(a0_0:A4) (a0_1_0 a0_1_1:Int) (a0_1_2:List A1) (a0_1_3:Int) (a0_2_0:List A0) (a0_2_1:List o4) (a0_3_0:List (List UInt8×List o9)) (a0_3_1 a0_4_0 a0_4_1:Int) (a0_4_2 a0_5:List (Int×o4)) (a0_6:List (List UInt8×Int)) (a0_7:Int) (a1:List UInt8):Option (A4×Int×Int×List A1×Int×List A0×List o4×(List (List UInt8×List o9))×Int×Int×Int×(List (Int×o4))×(List (Int×o4))×(List (List UInt8×Int))×Int×List o8):=
 (J2 a0_3_0 a0_3_1 a1).bind λr1=>
 (P2 a0_0 a0_1_0 a0_1_1 a0_1_2 a0_1_3 a0_2_0 a0_2_1 r1.1 r1.2.1 a0_4_0 a0_4_1 a0_4_2 a0_5 a0_6 a0_7 r1.2.2).bind λr2=>
 some (r2.1,r2.2.1,r2.2.2.1,r2.2.2.2.1,r2.2.2.2.2.1,r2.2.2.2.2.2.1,r2.2.2.2.2.2.2.1,r2.2.2.2.2.2.2.2.1,r2.2.2.2.2.2.2.2.2.1,r2.2.2.2.2.2.2.2.2.2.1,r2.2.2.2.2.2.2.2.2.2.2.1,r2.2.2.2.2.2.2.2.2.2.2.2.1,r2.2.2.2.2.2.2.2.2.2.2.2.2.1,r2.2.2.2.2.2.2.2.2.2.2.2.2.2.1,r2.2.2.2.2.2.2.2.2.2.2.2.2.2.2.1,r2.2.2.2.2.2.2.2.2.2.2.2.2.2.2.2)
def aN(a0 a1 a2:Int):Option (Bool):=
 sel (decide (0<a2)) (
  sel (decide (a1<a0)) (
   some (decide ((dX a2)<(dX ((dX a0)-(dX a1)))))) (
   some false)) (
  some false)
def J8(v1 v2 v19 v20 b0_0 b0_1:Int) (l0:List (Int×o4)) (l1 l2:List Int):Option ((Int×Int×Int×Int×Int×Int×(List (Int×o4))×List Int×List Int)⊕(Int×Int×(List (Int×o4))×List Int)):=
 sel (decide (v20<v19)) (
  chk (decide (0<=v20/\v20<l2.length)) <|
  chk (decide (v20.toNat<l2.length)) <|
  (aN v1 (Q5 L0 (l2.getD v20.toNat (0:Int)) O1 l0).1 b0_0).bind λr1=>
  sel r1 (
   chk (decide ((l1.length+1)*8<=LIM/\l1.length+1<=LEN)) <|
   some (.inl (v1,v2,v19,(D1 (v20+1)),b0_0,b0_1,l0,(l1++[(l2.getD v20.toNat (0:Int))]),l2))) (
   (aN v2 (Q5 L0 (l2.getD v20.toNat (0:Int)) O1 l0).2 b0_1).bind λr2=>
   sel r2 (
    chk (decide ((l1.length+1)*8<=LIM/\l1.length+1<=LEN)) <|
    some (.inl (v1,v2,v19,(D1 (v20+1)),b0_0,b0_1,l0,(l1++[(l2.getD v20.toNat (0:Int))]),l2))) (
    some (.inl (v1,v2,v19,(D1 (v20+1)),b0_0,b0_1,l0,l1,l2))))) (
  some (.inr (b0_0,b0_1,l0,l1)))
def X5(v1 v2 v19 v20 b0_0 b0_1:Int) (l0:List (Int×o4)) (l1 l2:List Int):=
 aH (λv=>J8 v.1 v.2.1 v.2.2.1 v.2.2.2.1 v.2.2.2.2.1 v.2.2.2.2.2.1 v.2.2.2.2.2.2.1 v.2.2.2.2.2.2.2.1 v.2.2.2.2.2.2.2.2) (v1,v2,v19,v20,b0_0,b0_1,l0,l1,l2)
def M9(a0_0 a0_1:Int) (a0_2:List (Int×o4)) (a1 a2:Int):Option (Int×Int×(List (Int×o4))×List Int):=
 chk (cR (B9 a0_2)) <|
 X5 a1 a2 (((List.length (bX (B9 a0_2))):Nat):Int) 0 a0_0 a0_1 a0_2 [] (bX (B9 a0_2))
def N0(v21 v22:Int) (b0_0:A4) (b0_7 b1_0 b1_1 b1_3 b3_1 b4_0 b4_1:Int) (l0:List (Vector UInt8 32)) (l1:List o8) (l2:List A1) (l3:List A0) (l4:List o4) (l5:List (List UInt8×List o9)) (l6 l7:List (Int×o4)) (l8:List (List UInt8×Int)):Option ((Int×Int×A4×Int×Int×Int×Int×Int×Int×Int×List (Vector UInt8 32)×List o8×List A1×List A0×List o4×(List (List UInt8×List o9))×(List (Int×o4))×(List (Int×o4))×List (List UInt8×Int))⊕(A4×Int×Int×List A1×Int×List A0×List o4×(List (List UInt8×List o9))×Int×Int×Int×(List (Int×o4))×(List (Int×o4))×(List (List UInt8×Int))×Int×List (Vector UInt8 32))):=
 sel (decide (v22<v21)) (
  chk (decide (0<=v22/\v22<l1.length)) <|
  chk (decide (v22.toNat<l1.length)) <|
  chk (decide ((l0.length+1)*32<=LIM/\l0.length+1<=LEN)) <|
  some (.inl (v21,(D1 (v22+1)),b0_0,b0_7,b1_0,b1_1,b1_3,b3_1,b4_0,b4_1,(l0++[(l1.getD v22.toNat Q9).1]),l1,l2,l3,l4,l5,l6,l7,l8))) (
  some (.inr (b0_0,b1_0,b1_1,l2,b1_3,l3,l4,l5,b3_1,b4_0,b4_1,l6,l7,l8,b0_7,l0)))
def aO(v21 v22:Int) (b0_0:A4) (b0_7 b1_0 b1_1 b1_3 b3_1 b4_0 b4_1:Int) (l0:List (Vector UInt8 32)) (l1:List o8) (l2:List A1) (l3:List A0) (l4:List o4) (l5:List (List UInt8×List o9)) (l6 l7:List (Int×o4)) (l8:List (List UInt8×Int)):=
 aH (λv=>N0 v.1 v.2.1 v.2.2.1 v.2.2.2.1 v.2.2.2.2.1 v.2.2.2.2.2.1 v.2.2.2.2.2.2.1 v.2.2.2.2.2.2.2.1 v.2.2.2.2.2.2.2.2.1 v.2.2.2.2.2.2.2.2.2.1 v.2.2.2.2.2.2.2.2.2.2.1 v.2.2.2.2.2.2.2.2.2.2.2.1 v.2.2.2.2.2.2.2.2.2.2.2.2.1 v.2.2.2.2.2.2.2.2.2.2.2.2.2.1 v.2.2.2.2.2.2.2.2.2.2.2.2.2.2.1 v.2.2.2.2.2.2.2.2.2.2.2.2.2.2.2.1 v.2.2.2.2.2.2.2.2.2.2.2.2.2.2.2.2.1 v.2.2.2.2.2.2.2.2.2.2.2.2.2.2.2.2.2.1 v.2.2.2.2.2.2.2.2.2.2.2.2.2.2.2.2.2.2) (v21,v22,b0_0,b0_7,b1_0,b1_1,b1_3,b3_1,b4_0,b4_1,l0,l1,l2,l3,l4,l5,l6,l7,l8)
def M8(a0_0:A4) (a0_1_0 a0_1_1:Int) (a0_1_2:List A1) (a0_1_3:Int) (a0_2_0:List A0) (a0_2_1:List o4) (a0_3_0:List (List UInt8×List o9)) (a0_3_1 a0_4_0 a0_4_1:Int) (a0_4_2 a0_5:List (Int×o4)) (a0_6:List (List UInt8×Int)) (a0_7 a1 a2:Int):Option (A4×Int×Int×List A1×Int×List A0×List o4×(List (List UInt8×List o9))×Int×Int×Int×(List (Int×o4))×(List (Int×o4))×(List (List UInt8×Int))×Int×List (Vector UInt8 32)):=
 (M9 a0_4_0 a0_4_1 a0_4_2 a1 a2).bind λr1=>
 (P2 a0_0 a0_1_0 a0_1_1 a0_1_2 a0_1_3 a0_2_0 a0_2_1 a0_3_0 a0_3_1 r1.1 r1.2.1 r1.2.2.1 a0_5 a0_6 a0_7 r1.2.2.2).bind λr2=>
 aO r2.2.2.2.2.2.2.2.2.2.2.2.2.2.2.2.length 0 r2.1 r2.2.2.2.2.2.2.2.2.2.2.2.2.2.2.1 r2.2.1 r2.2.2.1 r2.2.2.2.2.1 r2.2.2.2.2.2.2.2.2.1 r2.2.2.2.2.2.2.2.2.2.1 r2.2.2.2.2.2.2.2.2.2.2.1 [] r2.2.2.2.2.2.2.2.2.2.2.2.2.2.2.2 r2.2.2.2.1 r2.2.2.2.2.2.1 r2.2.2.2.2.2.2.1 r2.2.2.2.2.2.2.2.1 r2.2.2.2.2.2.2.2.2.2.2.2.1 r2.2.2.2.2.2.2.2.2.2.2.2.2.1 r2.2.2.2.2.2.2.2.2.2.2.2.2.2.1
def aP(a0_0:A4) (a0_1_0 a0_1_1:Int) (a0_1_2:List A1) (a0_1_3:Int) (a0_2_0:List A0) (a0_2_1:List o4) (a0_3_0:List (List UInt8×List o9)) (a0_3_1 a0_4_0 a0_4_1:Int) (a0_4_2 a0_5:List (Int×o4)) (a0_6:List (List UInt8×Int)) (a0_7:Int):Option (A4×Int×Int×List A1×Int×List A0×List o4×(List (List UInt8×List o9))×Int×Int×Int×(List (Int×o4))×(List (Int×o4))×(List (List UInt8×Int))×Int×Int):=
 (N8 a0_1_0 a0_1_1 a0_1_2 a0_1_3).bind λr1=>
 some (a0_0,r1.1,r1.2.1,r1.2.2.1,r1.2.2.2.1,a0_2_0,a0_2_1,a0_3_0,a0_3_1,a0_4_0,a0_4_1,a0_4_2,a0_5,a0_6,a0_7,r1.2.2.2.2)
def W9(a0_0:A4) (a0_1_0 a0_1_1:Int) (a0_1_2:List A1) (a0_1_3:Int) (a0_2_0:List A0) (a0_2_1:List o4) (a0_3_0:List (List UInt8×List o9)) (a0_3_1 a0_4_0 a0_4_1:Int) (a0_4_2 a0_5:List (Int×o4)) (a0_6:List (List UInt8×Int)) (a0_7:Int):Option (A4×Int×Int×List A1×Int×List A0×List o4×(List (List UInt8×List o9))×Int×Int×Int×(List (Int×o4))×(List (Int×o4))×(List (List UInt8×Int))×Int×Int):=
 (H5 a0_1_0 a0_1_1 a0_1_2 a0_1_3).bind λr1=>
 some (a0_0,r1.1,r1.2.1,r1.2.2.1,r1.2.2.2.1,a0_2_0,a0_2_1,a0_3_0,a0_3_1,a0_4_0,a0_4_1,a0_4_2,a0_5,a0_6,a0_7,r1.2.2.2.2)
def L8:Option (Bool):=
 (ap (2,10,5,(0:Int),1,(0:Int),false,10,(-1),(0:Int),(0:Int),1)).bind λr1=>
 (C1 1 [(97:UInt8)] 1 5).bind λr2=>
 (H6 r1.1 r1.2.1 r1.2.2.1 r1.2.2.2.1 r1.2.2.2.2.1 r1.2.2.2.2.2.1 r1.2.2.2.2.2.2.1 r1.2.2.2.2.2.2.2.1 r1.2.2.2.2.2.2.2.2.1 r1.2.2.2.2.2.2.2.2.2.1 r1.2.2.2.2.2.2.2.2.2.2.1 r1.2.2.2.2.2.2.2.2.2.2.2.1 r1.2.2.2.2.2.2.2.2.2.2.2.2.1 r1.2.2.2.2.2.2.2.2.2.2.2.2.2.1 r1.2.2.2.2.2.2.2.2.2.2.2.2.2.2 r2).bind λr3=>
 (C1 2 [(97:UInt8)] 1 5).bind λr4=>
 (H6 r3.1 r3.2.1 r3.2.2.1 r3.2.2.2.1 r3.2.2.2.2.1 r3.2.2.2.2.2.1 r3.2.2.2.2.2.2.1 r3.2.2.2.2.2.2.2.1 r3.2.2.2.2.2.2.2.2.1 r3.2.2.2.2.2.2.2.2.2.1 r3.2.2.2.2.2.2.2.2.2.2.1 r3.2.2.2.2.2.2.2.2.2.2.2.1 r3.2.2.2.2.2.2.2.2.2.2.2.2.1 r3.2.2.2.2.2.2.2.2.2.2.2.2.2.1 r3.2.2.2.2.2.2.2.2.2.2.2.2.2.2.1 r4).bind λr5=>
 (C1 3 [(97:UInt8)] 0 9).bind λr6=>
 (H6 r5.1 r5.2.1 r5.2.2.1 r5.2.2.2.1 r5.2.2.2.2.1 r5.2.2.2.2.2.1 r5.2.2.2.2.2.2.1 r5.2.2.2.2.2.2.2.1 r5.2.2.2.2.2.2.2.2.1 r5.2.2.2.2.2.2.2.2.2.1 r5.2.2.2.2.2.2.2.2.2.2.1 r5.2.2.2.2.2.2.2.2.2.2.2.1 r5.2.2.2.2.2.2.2.2.2.2.2.2.1 r5.2.2.2.2.2.2.2.2.2.2.2.2.2.1 r5.2.2.2.2.2.2.2.2.2.2.2.2.2.2.1 r6).bind λr7=>
 (C1 4 [(98:UInt8)] 0 9).bind λr8=>
 (H6 r7.1 r7.2.1 r7.2.2.1 r7.2.2.2.1 r7.2.2.2.2.1 r7.2.2.2.2.2.1 r7.2.2.2.2.2.2.1 r7.2.2.2.2.2.2.2.1 r7.2.2.2.2.2.2.2.2.1 r7.2.2.2.2.2.2.2.2.2.1 r7.2.2.2.2.2.2.2.2.2.2.1 r7.2.2.2.2.2.2.2.2.2.2.2.1 r7.2.2.2.2.2.2.2.2.2.2.2.2.1 r7.2.2.2.2.2.2.2.2.2.2.2.2.2.1 r7.2.2.2.2.2.2.2.2.2.2.2.2.2.2.1 r8).bind λr9=>
 (O7 r9.1 r9.2.1 r9.2.2.1 r9.2.2.2.1 r9.2.2.2.2.1 r9.2.2.2.2.2.1 r9.2.2.2.2.2.2.1 r9.2.2.2.2.2.2.2.1 r9.2.2.2.2.2.2.2.2.1 r9.2.2.2.2.2.2.2.2.2.1 r9.2.2.2.2.2.2.2.2.2.2.1 r9.2.2.2.2.2.2.2.2.2.2.2.1 r9.2.2.2.2.2.2.2.2.2.2.2.2.1 r9.2.2.2.2.2.2.2.2.2.2.2.2.2.1 r9.2.2.2.2.2.2.2.2.2.2.2.2.2.2.1).bind λr10=>
 (O8 r10.1 r10.2.1 r10.2.2.1 r10.2.2.2.1 r10.2.2.2.2.1 r10.2.2.2.2.2.1 r10.2.2.2.2.2.2.1 r10.2.2.2.2.2.2.2.1 r10.2.2.2.2.2.2.2.2.1 r10.2.2.2.2.2.2.2.2.2.1 r10.2.2.2.2.2.2.2.2.2.2.1 r10.2.2.2.2.2.2.2.2.2.2.2.1 r10.2.2.2.2.2.2.2.2.2.2.2.2.1 r10.2.2.2.2.2.2.2.2.2.2.2.2.2.1 r10.2.2.2.2.2.2.2.2.2.2.2.2.2.2.1 [(97:UInt8)]).bind λr11=>
 sel (decide (r3.2.2.2.2.2.2.2.2.2.2.2.2.2.2.2=0)) (
  sel (decide (r5.2.2.2.2.2.2.2.2.2.2.2.2.2.2.2=9)) (
   sel (decide (r7.2.2.2.2.2.2.2.2.2.2.2.2.2.2.2=0)) (
    sel (decide (r9.2.2.2.2.2.2.2.2.2.2.2.2.2.2.2=24)) (
     sel (decide (((r10.2.2.2.2.2.2.2.2.2.2.2.2.2.2.2.length:Nat):Int)=2)) (
      chk (decide ((0:Int)<=0/\0<((r10.2.2.2.2.2.2.2.2.2.2.2.2.2.2.2.length:Nat):Int))) <|
      chk (decide (0<r10.2.2.2.2.2.2.2.2.2.2.2.2.2.2.2.length)) <|
      sel (decide ((r10.2.2.2.2.2.2.2.2.2.2.2.2.2.2.2.getD 0 Q9).2.2.2.2.2.2.2.2.1=3)) (
       sel (decide (((r11.2.2.2.2.2.2.2.2.2.2.2.2.2.2.2.length:Nat):Int)=2)) (
        chk (decide ((0:Int)<=0/\0<((r11.2.2.2.2.2.2.2.2.2.2.2.2.2.2.2.length:Nat):Int))) <|
        chk (decide (0<r11.2.2.2.2.2.2.2.2.2.2.2.2.2.2.2.length)) <|
        sel (decide ((r11.2.2.2.2.2.2.2.2.2.2.2.2.2.2.2.getD 0 Q9).2.2.2.1=0)) (
         (M8 r11.1 r11.2.1 r11.2.2.1 r11.2.2.2.1 r11.2.2.2.2.1 r11.2.2.2.2.2.1 r11.2.2.2.2.2.2.1 r11.2.2.2.2.2.2.2.1 r11.2.2.2.2.2.2.2.2.1 r11.2.2.2.2.2.2.2.2.2.1 r11.2.2.2.2.2.2.2.2.2.2.1 r11.2.2.2.2.2.2.2.2.2.2.2.1 r11.2.2.2.2.2.2.2.2.2.2.2.2.1 r11.2.2.2.2.2.2.2.2.2.2.2.2.2.1 r11.2.2.2.2.2.2.2.2.2.2.2.2.2.2.1 2 0).bind λr12=>
         sel (decide (((r12.2.2.2.2.2.2.2.2.2.2.2.2.2.2.2.length:Nat):Int)=2)) (
          (M8 r12.1 r12.2.1 r12.2.2.1 r12.2.2.2.1 r12.2.2.2.2.1 r12.2.2.2.2.2.1 r12.2.2.2.2.2.2.1 r12.2.2.2.2.2.2.2.1 r12.2.2.2.2.2.2.2.2.1 r12.2.2.2.2.2.2.2.2.2.1 r12.2.2.2.2.2.2.2.2.2.2.1 r12.2.2.2.2.2.2.2.2.2.2.2.1 r12.2.2.2.2.2.2.2.2.2.2.2.2.1 r12.2.2.2.2.2.2.2.2.2.2.2.2.2.1 r12.2.2.2.2.2.2.2.2.2.2.2.2.2.2.1 1 0).bind λr13=>
          sel (decide (((r13.2.2.2.2.2.2.2.2.2.2.2.2.2.2.2.length:Nat):Int)=0)) (
           (aP r13.1 r13.2.1 r13.2.2.1 r13.2.2.2.1 r13.2.2.2.2.1 r13.2.2.2.2.2.1 r13.2.2.2.2.2.2.1 r13.2.2.2.2.2.2.2.1 r13.2.2.2.2.2.2.2.2.1 r13.2.2.2.2.2.2.2.2.2.1 r13.2.2.2.2.2.2.2.2.2.2.1 r13.2.2.2.2.2.2.2.2.2.2.2.1 r13.2.2.2.2.2.2.2.2.2.2.2.2.1 r13.2.2.2.2.2.2.2.2.2.2.2.2.2.1 r13.2.2.2.2.2.2.2.2.2.2.2.2.2.2.1).bind λr14=>
           sel (decide (r14.2.2.2.2.2.2.2.2.2.2.2.2.2.2.2=2)) (
            (W9 r14.1 r14.2.1 r14.2.2.1 r14.2.2.2.1 r14.2.2.2.2.1 r14.2.2.2.2.2.1 r14.2.2.2.2.2.2.1 r14.2.2.2.2.2.2.2.1 r14.2.2.2.2.2.2.2.2.1 r14.2.2.2.2.2.2.2.2.2.1 r14.2.2.2.2.2.2.2.2.2.2.1 r14.2.2.2.2.2.2.2.2.2.2.2.1 r14.2.2.2.2.2.2.2.2.2.2.2.2.1 r14.2.2.2.2.2.2.2.2.2.2.2.2.2.1 r14.2.2.2.2.2.2.2.2.2.2.2.2.2.2.1).bind λr15=>
            some (decide (r15.2.2.2.2.2.2.2.2.2.2.2.2.2.2.2=2))) (
            some false)) (
           some false)) (
          some false)) (
         some false)) (
        some false)) (
       some false)) (
      some false)) (
     some false)) (
    some false)) (
   some false)) (
  some false)
def N1(v3:Int) (v6:List (List Int)) (v7 v8:Int):Option ((Int×List (List Int)×Int×Int)⊕(Bool)):=
 sel (decide (v8<v7)) (
  chk (decide (0<=v8/\v8<v6.length)) <|
  some (.inl ((D1 (v3+(((List.length (v6.getD v8.toNat [])):Nat):Int))),v6,v7,(D1 (v8+1))))) (
  some (.inr (decide (160<v3))))
def aQ(v3:Int) (v6:List (List Int)) (v7 v8:Int):=
 aH (λv=>N1 v.1 v.2.1 v.2.2.1 v.2.2.2) (v3,v6,v7,v8)
def J3(a0:List (List Int)):Option (Bool):=
 aQ 0 a0 a0.length 0
def S9:Option (A4):=
 some (100,65536,1024,200,(0:Int),(0:Int),false,32768,(-1),1,(0:Int),1)
def aR(a0:List Int):Option (A7):=
 some (a0,(0:Int))
def R1(a0 a1:Int):Option (Int):=
 chk (!decide (a1=0)) <|
 sel (decide ((Int.tmod a0 a1)<0)) (
  some (D1 ((Int.tmod a0 a1)+a1))) (
  some (Int.tmod a0 a1))
def E2(v1 v5:Int) (b0:A7):Option (A7×Int):=
 (R1 v5 v1).bind λr1=>
 some ((b0.1,(D1 (b0.2+1))),r1)
def B5(a0:A7) (a1:Int):Option (A7×Int):=
 sel (decide (a0.2<a0.1.length)) (
  chk (decide (0<=a0.2/\a0.2<a0.1.length)) <|
  E2 a1 (a0.1.getD a0.2.toNat (0:Int)) a0) (
  E2 a1 0 a0)
def C8(a0 a1:Int):Option (Int):=
 chk (decide ((0:Int)<=a1)) <|
 chk (decide ((0:Int)<=(D1 (32-a1)))) <|
 some (bits .or .u32 (a0 / 2^(min a1.toNat 32)) (ma (a0*2^(min (Int.toNat (D1 (32-a1))) 32))))
def aS:Option (Vector Int 64):=
 some (Vector.push (Vector.push (Vector.push (Vector.push (Vector.push (Vector.push (Vector.push (Vector.push (Vector.push (Vector.push (Vector.push (Vector.push (Vector.push (Vector.push (Vector.push (Vector.push (Vector.push (Vector.push (Vector.push (Vector.push (Vector.push (Vector.push (Vector.push (Vector.push (Vector.push (Vector.push (Vector.push (Vector.push (Vector.push (Vector.push (Vector.push (Vector.push (Vector.push (Vector.push (Vector.push (Vector.push (Vector.push (Vector.push (Vector.push (Vector.push (Vector.push (Vector.push (Vector.push (Vector.push (Vector.push (Vector.push (Vector.push (Vector.push (Vector.push (Vector.push (Vector.push (Vector.push (Vector.push (Vector.push (Vector.push (Vector.push (Vector.push (Vector.push (Vector.push (Vector.push (Vector.push (Vector.push (Vector.push (Vector.push #v[] 1116352408) 1899447441) 3049323471) 3921009573) 961987163) 1508970993) 2453635748) 2870763221) 3624381080) 310598401) 607225278) 1426881987) 1925078388) 2162078206) 2614888103) 3248222580) 3835390401) 4022224774) 264347078) 604807628) 770255983) 1249150122) 1555081692) 1996064986) 2554220882) 2821834349) 2952996808) 3210313671) 3336571891) 3584528711) 113926993) 338241895) 666307205) 773529912) 1294757372) 1396182291) 1695183700) 1986661051) 2177026350) 2456956037) 2730485921) 2820302411) 3259730800) 3345764771) 3516065817) 3600352804) 4094571909) 275423344) 430227734) 506948616) 659060556) 883997877) 958139571) 1322822218) 1537002063) 1747873779) 1955562222) 2024104815) 2227730452) 2361852424) 2428436474) 2756734187) 3204031479) 3329325298)
def T0(v180:Int) (b0 b1 b2:Vector Int 8):Option ((Int×Vector Int 8×Vector Int 8×Vector Int 8)⊕(Vector Int 8)):=
 sel (decide (v180<8)) (
  chk (decide ((0:Int)<=v180/\v180<8)) <|
  chk (decide (v180.toNat<8)) <|
  chk (decide ((0:Int)<=v180/\v180<8)) <|
  chk (decide (v180.toNat<8)) <|
  chk (decide ((0:Int)<=v180/\v180<8)) <|
  chk (decide (v180.toNat<8)) <|
  some (.inl ((D1 (v180+1)),(vd b0 v180.toNat (ma ((K9 b0 v180.toNat (0:Int))+(K9 b2 v180.toNat (0:Int))))),b1,b2))) (
  some (.inr b0))
def R3(v180:Int) (b0 b1 b2:Vector Int 8):=
 aH (λv=>T0 v.1 v.2.1 v.2.2.1 v.2.2.2) (v180,b0,b1,b2)
def bf(b0 b1 b2:Vector Int 8):Option (Vector Int 8):=
 R3 0 b0 b1 b2
def T2(v12:Int) (b0 b1:Vector Int 8) (b2 b3:Vector Int 64) (b4:Vector Int 8):Option ((Int×Vector Int 8×Vector Int 8×Vector Int 64×Vector Int 64×Vector Int 8)⊕(Vector Int 8)):=
 sel (decide (v12<64)) (
  (C8 (K9 b4 4 (0:Int)) 6).bind λr2=>
  (C8 (K9 b4 4 (0:Int)) 11).bind λr3=>
  (C8 (K9 b4 4 (0:Int)) 25).bind λr4=>
  chk (decide ((0:Int)<=v12/\v12<64)) <|
  chk (decide (v12.toNat<64)) <|
  chk (decide ((0:Int)<=v12/\v12<64)) <|
  chk (decide (v12.toNat<64)) <|
  (C8 (K9 b4 0 (0:Int)) 2).bind λr5=>
  (C8 (K9 b4 0 (0:Int)) 13).bind λr6=>
  (C8 (K9 b4 0 (0:Int)) 22).bind λr7=>
  some (.inl ((D1 (v12+1)),b0,b1,b2,b3,(Vector.push (Vector.push (Vector.push (Vector.push (Vector.push (Vector.push (Vector.push (Vector.push #v[] (ma ((ma ((ma ((ma ((ma ((K9 b4 7 (0:Int))+(bits .xor .u32 (bits .xor .u32 r2 r3) r4)))+(bits .xor .u32 (bits .and .u32 (K9 b4 4 (0:Int)) (K9 b4 5 (0:Int))) (bits .and .u32 (notI .u32 (K9 b4 4 (0:Int))) (K9 b4 6 (0:Int))))))+(K9 b3 v12.toNat (0:Int))))+(K9 b2 v12.toNat (0:Int))))+(ma ((bits .xor .u32 (bits .xor .u32 r5 r6) r7)+(bits .xor .u32 (bits .xor .u32 (bits .and .u32 (K9 b4 0 (0:Int)) (K9 b4 1 (0:Int))) (bits .and .u32 (K9 b4 0 (0:Int)) (K9 b4 2 (0:Int)))) (bits .and .u32 (K9 b4 1 (0:Int)) (K9 b4 2 (0:Int))))))))) (K9 b4 0 (0:Int))) (K9 b4 1 (0:Int))) (K9 b4 2 (0:Int))) (ma ((K9 b4 3 (0:Int))+(ma ((ma ((ma ((ma ((K9 b4 7 (0:Int))+(bits .xor .u32 (bits .xor .u32 r2 r3) r4)))+(bits .xor .u32 (bits .and .u32 (K9 b4 4 (0:Int)) (K9 b4 5 (0:Int))) (bits .and .u32 (notI .u32 (K9 b4 4 (0:Int))) (K9 b4 6 (0:Int))))))+(K9 b3 v12.toNat (0:Int))))+(K9 b2 v12.toNat (0:Int))))))) (K9 b4 4 (0:Int))) (K9 b4 5 (0:Int))) (K9 b4 6 (0:Int)))))) (
  Option.map .inr (
   bf b0 b1 b4))
def R4(v12:Int) (b0 b1:Vector Int 8) (b2 b3:Vector Int 64) (b4:Vector Int 8):=
 aH (λv=>T2 v.1 v.2.1 v.2.2.1 v.2.2.2.1 v.2.2.2.2.1 v.2.2.2.2.2) (v12,b0,b1,b2,b3,b4)
def T3(b0 b1:Vector Int 8) (b2:Vector Int 64):Option (Vector Int 8):=
 (aS).bind λr1=>
 R4 0 b0 b1 b2 r1 b0
def T4(v7:Int) (b0 b1:Vector Int 8) (b2:Vector Int 64):Option ((Int×Vector Int 8×Vector Int 8×Vector Int 64)⊕(Vector Int 8)):=
 sel (decide (v7<64)) (
  chk (decide ((0:Int)<=(D1 (v7-15))/\(D1 (v7-15))<64)) <|
  chk (decide ((Int.toNat (D1 (v7-15)))<64)) <|
  chk (decide ((0:Int)<=(D1 (v7-2))/\(D1 (v7-2))<64)) <|
  chk (decide ((Int.toNat (D1 (v7-2)))<64)) <|
  (C8 (K9 b2 (Int.toNat (D1 (v7-2))) (0:Int)) 17).bind λr8=>
  (C8 (K9 b2 (Int.toNat (D1 (v7-2))) (0:Int)) 19).bind λr9=>
  chk (decide ((0:Int)<=(D1 (v7-7))/\(D1 (v7-7))<64)) <|
  chk (decide ((Int.toNat (D1 (v7-7)))<64)) <|
  (C8 (K9 b2 (Int.toNat (D1 (v7-15))) (0:Int)) 7).bind λr10=>
  (C8 (K9 b2 (Int.toNat (D1 (v7-15))) (0:Int)) 18).bind λr11=>
  chk (decide ((0:Int)<=(D1 (v7-16))/\(D1 (v7-16))<64)) <|
  chk (decide ((Int.toNat (D1 (v7-16)))<64)) <|
  chk (decide ((0:Int)<=v7/\v7<64)) <|
  chk (decide (v7.toNat<64)) <|
  some (.inl ((D1 (v7+1)),b0,b1,(vd b2 v7.toNat (ma ((ma ((ma ((bits .xor .u32 (bits .xor .u32 r8 r9) ((K9 b2 (Int.toNat (D1 (v7-2))) (0:Int)) / 2^10))+(K9 b2 (Int.toNat (D1 (v7-7))) (0:Int))))+(bits .xor .u32 (bits .xor .u32 r10 r11) ((K9 b2 (Int.toNat (D1 (v7-15))) (0:Int)) / 2^3))))+(K9 b2 (Int.toNat (D1 (v7-16))) (0:Int)))))))) (
  Option.map .inr (
   T3 b0 b1 b2))
def R5(v7:Int) (b0 b1:Vector Int 8) (b2:Vector Int 64):=
 aH (λv=>T4 v.1 v.2.1 v.2.2.1 v.2.2.2) (v7,b0,b1,b2)
def T5(b0 b1:Vector Int 8) (b2:Vector Int 64):Option (Vector Int 8):=
 R5 16 b0 b1 b2
def T6(v1:List UInt8) (v6:Int) (b0 b1:Vector Int 8) (b2:Vector Int 64):Option ((List UInt8×Int×Vector Int 8×Vector Int 8×Vector Int 64)⊕(Vector Int 8)):=
 sel (decide (v6<16)) (
  chk (decide (0<=(D1 (4*v6))/\(D1 (4*v6))<v1.length)) <|
  chk (decide ((0:Int)<=(D1 ((D1 (4*v6))+1))/\(D1 ((D1 (4*v6))+1))<((v1.length:Nat):Int))) <|
  chk (decide ((0:Int)<=(D1 ((D1 (4*v6))+2))/\(D1 ((D1 (4*v6))+2))<((v1.length:Nat):Int))) <|
  chk (decide ((0:Int)<=(D1 ((D1 (4*v6))+3))/\(D1 ((D1 (4*v6))+3))<((v1.length:Nat):Int))) <|
  chk (decide ((0:Int)<=v6/\v6<64)) <|
  chk (decide (v6.toNat<64)) <|
  some (.inl (v1,(D1 (v6+1)),b0,b1,(vd b2 v6.toNat (bits .or .u32 (bits .or .u32 (bits .or .u32 (ma ((ma ((UInt8.toNat (v1.getD (Int.toNat (D1 (4*v6))) (0:UInt8)):Nat):Int))*2^24)) (ma ((ma ((UInt8.toNat (v1.getD (Int.toNat (D1 ((D1 (4*v6))+1))) (0:UInt8)):Nat):Int))*2^16))) (ma ((ma ((UInt8.toNat (v1.getD (Int.toNat (D1 ((D1 (4*v6))+2))) (0:UInt8)):Nat):Int))*2^8))) (ma ((UInt8.toNat (v1.getD (Int.toNat (D1 ((D1 (4*v6))+3))) (0:UInt8)):Nat):Int))))))) (
  Option.map .inr (
   T5 b0 b1 b2))
def aU(v1:List UInt8) (v6:Int) (b0 b1:Vector Int 8) (b2:Vector Int 64):=
 aH (λv=>T6 v.1 v.2.1 v.2.2.1 v.2.2.2.1 v.2.2.2.2) (v1,v6,b0,b1,b2)
def R6(a0:Vector Int 8) (a1:List UInt8):Option (Vector Int 8):=
 aU a1 0 a0 (Vector.replicate 8 (0:Int)) (Vector.replicate 64 (0:Int))
def X8(v52:Int) (b0:Vector UInt8 32) (b1:Vector Int 8) (b2:Vector UInt8 32):Option ((Int×Vector UInt8 32×Vector Int 8×Vector UInt8 32)⊕(Vector UInt8 32)):=
 sel (decide (v52<32)) (
  chk (decide ((0:Int)<=(D1 (Int.tdiv v52 4))/\(D1 (Int.tdiv v52 4))<8)) <|
  chk (decide ((Int.toNat (D1 (Int.tdiv v52 4)))<8)) <|
  chk (decide ((0:Int)<=(D1 (24-(D1 ((Int.tmod v52 4)*8)))))) <|
  chk (decide ((0:Int)<=v52/\v52<32)) <|
  chk (decide (v52.toNat<32)) <|
  chk (decide ((0:Int)<=(wu8 ((K9 b1 (Int.toNat (D1 (Int.tdiv v52 4))) (0:Int)) / 2^(min (Int.toNat (D1 (24-(D1 ((Int.tmod v52 4)*8))))) 32)))/\(wu8 ((K9 b1 (Int.toNat (D1 (Int.tdiv v52 4))) (0:Int)) / 2^(min (Int.toNat (D1 (24-(D1 ((Int.tmod v52 4)*8))))) 32)))<256)) <|
  some (.inl ((D1 (v52+1)),b0,b1,(vd b2 v52.toNat (UInt8.ofNat (Int.toNat (wu8 ((K9 b1 (Int.toNat (D1 (Int.tdiv v52 4))) (0:Int)) / 2^(min (Int.toNat (D1 (24-(D1 ((Int.tmod v52 4)*8))))) 32))))))))) (
  some (.inr b2))
def bC(v52:Int) (b0:Vector UInt8 32) (b1:Vector Int 8) (b2:Vector UInt8 32):=
 aH (λv=>X8 v.1 v.2.1 v.2.2.1 v.2.2.2) (v52,b0,b1,b2)
def P7(b0:Vector UInt8 32) (b1:Vector Int 8):Option (Vector UInt8 32):=
 bC 0 b0 b1 (Vector.replicate 32 (0:UInt8))
def X9(v7:Int) (b0:Vector UInt8 32) (b1:Vector Int 8) (l0:List UInt8):Option ((Int×Vector UInt8 32×Vector Int 8×List UInt8)⊕(Vector UInt8 32)):=
 sel (decide (v7<l0.length)) (
  chk (decide ((0:Int)<=v7/\v7<=(D1 (v7+64))/\(D1 (v7+64))<=((l0.length:Nat):Int))) <|
  (R6 b1 (List.drop v7.toNat (List.take (Int.toNat (D1 (v7+64))) l0))).bind λr1=>
  some (.inl ((D1 (v7+64)),b0,r1,l0))) (
  Option.map .inr (
   P7 b0 b1))
def bD(v7:Int) (b0:Vector UInt8 32) (b1:Vector Int 8) (l0:List UInt8):=
 aH (λv=>X9 v.1 v.2.1 v.2.2.1 v.2.2.2) (v7,b0,b1,l0)
def P8(b0:Vector UInt8 32) (l0:List UInt8):Option (Vector UInt8 32):=
 bD 0 b0 (Vector.push (Vector.push (Vector.push (Vector.push (Vector.push (Vector.push (Vector.push (Vector.push #v[] 1779033703) 3144134277) 1013904242) 2773480762) 1359893119) 2600822924) 528734635) 1541459225) l0
def Y0(v4 v5:Int) (b0:Vector UInt8 32) (l0:List UInt8):Option ((Int×Int×Vector UInt8 32×List UInt8)⊕(Vector UInt8 32)):=
 sel (decide (0<=v5)) (
  chk (decide ((0:Int)<=(D1 (8*v5)))) <|
  chk (decide ((0:Int)<=(wu8 (v4 / 2^(min (Int.toNat (D1 (8*v5))) 64)))/\(wu8 (v4 / 2^(min (Int.toNat (D1 (8*v5))) 64)))<256)) <|
  chk (decide ((l0.length+1)*1<=LIM/\l0.length+1<=LEN)) <|
  some (.inl (v4,(D1 (v5-1)),b0,(l0++[(UInt8.ofNat (Int.toNat (wu8 (v4 / 2^(min (Int.toNat (D1 (8*v5))) 64)))))])))) (
  Option.map .inr (
   P8 b0 l0))
def V6(v4 v5:Int) (b0:Vector UInt8 32) (l0:List UInt8):=
 aH (λv=>Y0 v.1 v.2.1 v.2.2.1 v.2.2.2) (v4,v5,b0,l0)
def Y1(v0:List UInt8) (b0:Vector UInt8 32) (l0:List UInt8):Option (Vector UInt8 32):=
 V6 (dX ((dX v0.length)*8)) 7 b0 l0
def Y2(v0:List UInt8) (b0:Vector UInt8 32) (l0:List UInt8):Option ((List UInt8×Vector UInt8 32×List UInt8)⊕(Vector UInt8 32)):=
 sel (!decide ((Int.tmod l0.length 64)=56)) (
  chk (decide ((l0.length+1)*1<=LIM/\l0.length+1<=LEN)) <|
  some (.inl (v0,b0,(l0++[(0:UInt8)])))) (
  Option.map .inr (
   Y1 v0 b0 l0))
def bE(v0:List UInt8) (b0:Vector UInt8 32) (l0:List UInt8):=
 aH (λv=>Y2 v.1 v.2.1 v.2.2) (v0,b0,l0)
def X0(a0:List UInt8):Option (Vector UInt8 32):=
 chk (decide ((0+a0.length)*1<=LIM/\0+a0.length<=LEN)) <|
 chk (decide ((a0.length+1)*1<=LIM/\a0.length+1<=LEN)) <|
 bE a0 (Vector.replicate 32 (0:UInt8)) (a0++[(128:UInt8)])
def U8(a0:A7):Option (A7×List UInt8):=
 (B5 a0 6).bind λr1=>
 chk (decide ((0:Int)<=r1.2/\r1.2<6)) <|
 chk (decide (r1.2.toNat<6)) <|
 some (r1.1,(List.getD [([97,110,110]:List UInt8),([98,111,98]:List UInt8),([101,118,101]:List UInt8),([122,111,101]:List UInt8),([110,101,119]:List UInt8),([120,45,49]:List UInt8)] r1.2.toNat []))
def T7(v6:Int) (b0:A7) (b1:o8) (b2_0:Vector UInt8 32) (b2_2:List UInt8) (b2_3 b2_4 b2_5 b2_6 b2_7 b2_8:Int) (l0:List UInt8) (l1:List Int):Option ((Int×A7×o8×Vector UInt8 32×List UInt8×Int×Int×Int×Int×Int×Int×List UInt8×List Int)⊕(A7×o8)):=
 sel (decide (0<v6)) (
  (B5 b0 4).bind λr11=>
  chk (decide ((l1.length+1)*8<=LIM/\l1.length+1<=LEN)) <|
  some (.inl ((D1 (v6-1)),r11.1,b1,b2_0,b2_2,b2_3,b2_4,b2_5,b2_6,b2_7,b2_8,l0,(l1++[(D1 (1+r11.2))])))) (
  some (.inr (b0,(b2_0,l0,b2_2,b2_3,b2_4,b2_5,b2_6,b2_7,b2_8,l1))))
def aV(v6:Int) (b0:A7) (b1:o8) (b2_0:Vector UInt8 32) (b2_2:List UInt8) (b2_3 b2_4 b2_5 b2_6 b2_7 b2_8:Int) (l0:List UInt8) (l1:List Int):=
 aH (λv=>T7 v.1 v.2.1 v.2.2.1 v.2.2.2.1 v.2.2.2.2.1 v.2.2.2.2.2.1 v.2.2.2.2.2.2.1 v.2.2.2.2.2.2.2.1 v.2.2.2.2.2.2.2.2.1 v.2.2.2.2.2.2.2.2.2.1 v.2.2.2.2.2.2.2.2.2.2.1 v.2.2.2.2.2.2.2.2.2.2.2.1 v.2.2.2.2.2.2.2.2.2.2.2.2) (v6,b0,b1,b2_0,b2_2,b2_3,b2_4,b2_5,b2_6,b2_7,b2_8,l0,l1)
def T8(b0:A7) (b1:o8) (l0:List UInt8):Option (A7×o8):=
 (X0 l0).bind λr2=>
 (U8 b0).bind λr3=>
 (B5 r3.1 4).bind λr4=>
 (B5 r4.1 50).bind λr5=>
 (B5 r5.1 5).bind λr6=>
 (B5 r6.1 9).bind λr7=>
 (B5 r7.1 30).bind λr8=>
 (B5 r8.1 9).bind λr9=>
 (B5 r9.1 3).bind λr10=>
 aV r10.2 r10.1 b1 r2 r3.2 (dX r4.2) (dX r5.2) (dX r6.2) r7.2 r8.2 r9.2 l0 []
def T9(v11 v12:Int) (b0:A7) (b1:o8) (l0:List UInt8):Option ((Int×Int×A7×o8×List UInt8)⊕(A7×o8)):=
 sel (decide (v12<v11)) (
  (B5 b0 3).bind λr12=>
  chk (decide (0<=v12/\v12<l0.length)) <|
  chk (decide ((0:Int)<=(wu8 r12.2)/\(wu8 r12.2)<256)) <|
  chk (decide (v12.toNat<l0.length)) <|
  some (.inl (v11,(D1 (v12+1)),r12.1,b1,(List.set l0 v12.toNat (UInt8.ofNat (Int.toNat (wu8 r12.2))))))) (
  Option.map .inr (
   T8 b0 b1 l0))
def aW(v11 v12:Int) (b0:A7) (b1:o8) (l0:List UInt8):=
 aH (λv=>T9 v.1 v.2.1 v.2.2.1 v.2.2.2.1 v.2.2.2.2) (v11,v12,b0,b1,l0)
def R7(a0:A7):Option (A7×o8):=
 (B5 a0 9).bind λr1=>
 chk (decide ((0:Int)<=r1.2/\r1.2<=r1.2/\(1:Int)*r1.2<=281474976710656/\r1.2<=4611686018427387904)) <|
 aW (((List.length (List.replicate r1.2.toNat (0:UInt8))):Nat):Int) 0 r1.1 ((Vector.replicate 32 (0:UInt8)),[],[],(0:Int),(0:Int),(0:Int),(0:Int),(0:Int),(0:Int),[]) (List.replicate r1.2.toNat (0:UInt8))
def R8(a0 a1:List UInt8):Option (Bool):=
 some (decide (a0=a1))
def J9(v0 v1:List Int) (v12 v13:Int):Option ((List Int×List Int×Int×Int)⊕(Bool)):=
 sel (decide (v13<v12)) (
  chk (decide (0<=v13/\v13<v0.length)) <|
  chk (decide (0<=v13/\v13<v1.length)) <|
  sel (!decide ((v0.getD v13.toNat (0:Int))=(v1.getD v13.toNat (0:Int)))) (
   some (.inr false)) (
   some (.inl (v0,v1,v12,(D1 (v13+1)))))) (
  some (.inr true))
def X6(v0 v1:List Int) (v12 v13:Int):=
 aH (λv=>J9 v.1 v.2.1 v.2.2.1 v.2.2.2) (v0,v1,v12,v13)
def N2(a0 a1:List Int):Option (Bool):=
 sel (!decide (((a0.length:Nat):Int)=((a1.length:Nat):Int))) (
  some false) (
  X6 a0 a1 a0.length 0)
def B8(a0 a1:o8):Option (Bool):=
 sel (U.beq (.arr 32 .byte) a0.1 a1.1) (
  (R8 a0.2.1 a1.2.1).bind λr1=>
  sel r1 (
   sel (decide (a0.2.2.1=a1.2.2.1)) (
    sel (decide (a0.2.2.2.1=a1.2.2.2.1)) (
     sel (decide (a0.2.2.2.2.1=a1.2.2.2.2.1)) (
      sel (decide (a0.2.2.2.2.2.1=a1.2.2.2.2.2.1)) (
       sel (decide (a0.2.2.2.2.2.2.1=a1.2.2.2.2.2.2.1)) (
        sel (decide (a0.2.2.2.2.2.2.2.1=a1.2.2.2.2.2.2.2.1)) (
         sel (decide (a0.2.2.2.2.2.2.2.2.1=a1.2.2.2.2.2.2.2.2.1)) (
          (N2 a0.2.2.2.2.2.2.2.2.2 a1.2.2.2.2.2.2.2.2.2).bind λr2=>
          some r2) (
          some false)) (
         some false)) (
        some false)) (
       some false)) (
      some false)) (
     some false)) (
    some false)) (
   some false)) (
  some false)
def cA(a0:List UInt8):Option (List UInt8):=bP (u:=.byte) 1 a0
def dm(a0:List Int):Option (List Int):=bP (u:=(.int .i64)) 8 a0
def dp(a0:o8):Option (o8):=
 (cA a0.2.1).bind λr1=>
 (dm a0.2.2.2.2.2.2.2.2.2).bind λr2=>
 some (a0.1,r1,a0.2.2.1,a0.2.2.2.1,a0.2.2.2.2.1,a0.2.2.2.2.2.1,a0.2.2.2.2.2.2.1,a0.2.2.2.2.2.2.2.1,a0.2.2.2.2.2.2.2.2.1,r2)
def U0(v6 b0_0 b0_1 b0_3:Int) (b1:o8) (_b2:o4) (l0:List A1):Option (Int×Int×List A1×Int×o4×Bool):=
 (dp b1).bind λr1=>
 chk (decide (0<=v6/\v6<l0.length)) <|
 chk (decide (v6.toNat<l0.length)) <|
 chk (decide ((0:Int)<=v6/\v6<(((List.length (List.set l0 v6.toNat (r1,(l0.getD v6.toNat A5).2))):Nat):Int))) <|
 chk (decide (v6.toNat<(List.length (List.set l0 v6.toNat (r1,(l0.getD v6.toNat A5).2))))) <|
 chk (decide ((0:Int)<=v6/\v6<(((List.length (List.set (List.set l0 v6.toNat (r1,(l0.getD v6.toNat A5).2)) v6.toNat ((List.getD (List.set l0 v6.toNat (r1,(l0.getD v6.toNat A5).2)) v6.toNat A5).1,(List.getD (List.set l0 v6.toNat (r1,(l0.getD v6.toNat A5).2)) v6.toNat A5).2.1,true,(List.getD (List.set l0 v6.toNat (r1,(l0.getD v6.toNat A5).2)) v6.toNat A5).2.2.2))):Nat):Int))) <|
 chk (decide (v6.toNat<(List.length (List.set (List.set l0 v6.toNat (r1,(l0.getD v6.toNat A5).2)) v6.toNat ((List.getD (List.set l0 v6.toNat (r1,(l0.getD v6.toNat A5).2)) v6.toNat A5).1,(List.getD (List.set l0 v6.toNat (r1,(l0.getD v6.toNat A5).2)) v6.toNat A5).2.1,true,(List.getD (List.set l0 v6.toNat (r1,(l0.getD v6.toNat A5).2)) v6.toNat A5).2.2.2))))) <|
 some (b0_0,(D1 (b0_1+1)),(List.set (List.set l0 v6.toNat (r1,(l0.getD v6.toNat A5).2)) v6.toNat ((List.getD (List.set l0 v6.toNat (r1,(l0.getD v6.toNat A5).2)) v6.toNat A5).1,(List.getD (List.set l0 v6.toNat (r1,(l0.getD v6.toNat A5).2)) v6.toNat A5).2.1,true,(List.getD (List.set l0 v6.toNat (r1,(l0.getD v6.toNat A5).2)) v6.toNat A5).2.2.2)),b0_3,(v6,(List.getD (List.set (List.set l0 v6.toNat (r1,(l0.getD v6.toNat A5).2)) v6.toNat ((List.getD (List.set l0 v6.toNat (r1,(l0.getD v6.toNat A5).2)) v6.toNat A5).1,(List.getD (List.set l0 v6.toNat (r1,(l0.getD v6.toNat A5).2)) v6.toNat A5).2.1,true,(List.getD (List.set l0 v6.toNat (r1,(l0.getD v6.toNat A5).2)) v6.toNat A5).2.2.2)) v6.toNat A5).2.1),true)
def cB(a0_0 a0_1:Int) (a0_2:List A1) (a0_3:Int) (a1:o8):Option (Int×Int×List A1×Int×o4×Bool):=
 sel (decide (a0_1=a0_0)) (
  some (a0_0,a0_1,a0_2,a0_3,((0:Int),(0:Int)),false)) (
  sel (decide (a0_3<0)) (
   chk (decide (((List.length a0_2)+1)*168<=LIM/\(List.length a0_2)+1<=LEN)) <|
   U0 (((List.length a0_2):Nat):Int) a0_0 a0_1 a0_3 a1 ((0:Int),(0:Int)) (a0_2++([(((Vector.replicate 32 (0:UInt8)),[],[],(0:Int),(0:Int),(0:Int),(0:Int),(0:Int),(0:Int),[]),(0:Int),false,(0:Int))]:List A1))) (
   chk (decide ((0:Int)<=a0_3/\a0_3<(((List.length a0_2):Nat):Int))) <|
   chk (decide ((Int.toNat a0_3)<(List.length a0_2))) <|
   U0 a0_3 a0_0 a0_1 (List.getD a0_2 (Int.toNat a0_3) A5).2.2.2 a1 ((0:Int),(0:Int)) a0_2))
def Q1(v9:Bool) (b0_0:A4) (b0_7 b1_0 b1_1 b1_3 b3_1 b4_0 b4_1:Int) (b5:o8) (b6:o4) (l0:List A1) (l1:List A0) (l2:List o4) (l3:List (List UInt8×List o9)) (l4 l5:List (Int×o4)) (l6:List (List UInt8×Int)):Option (A4×Int×Int×List A1×Int×List A0×List o4×(List (List UInt8×List o9))×Int×Int×Int×(List (Int×o4))×(List (Int×o4))×(List (List UInt8×Int))×Int×Int):=
 sel (!v9) (
  (E8 l3 b3_1 b5.2.2.1 b5.2.2.2.1).bind λr2=>
  some (b0_0,b1_0,b1_1,l0,b1_3,l1,l2,r2.1,r2.2.1,b4_0,b4_1,l4,l5,l6,b0_7,24)) (
  (S6 l1 l2 (b0_7,b5.2.2.2.2.2.1,b5.2.2.2.2.2.2.2.2.1)).bind λr3=>
  (K8 b4_0 b4_1 l4 b0_7 b5.2.2.2.2.2.2.1 b5.2.2.2.2.2.2.2.1).bind λr4=>
  some (b0_0,b1_0,b1_1,l0,b1_3,r3.1,r3.2.1,l3,b3_1,r4.1,r4.2.1,r4.2.2.1,(Z0 L0 b0_7 b6 (Z0 L0 b0_7 (Q5 L0 b0_7 O1 l5) l5)),(Z0 C0 (Vector.toList b5.1) b0_7 (Z0 C0 (Vector.toList b5.1) (Q5 C0 (Vector.toList b5.1) (0:Int) l6) l6)),(D1 (b0_7+1)),0))
def Q2(v7:Bool) (b0_0:A4) (b0_7 b1_0 b1_1 b1_3 b3_1 b4_0 b4_1:Int) (b5:o8) (l0:List A1) (l1:List A0) (l2:List o4) (l3:List (List UInt8×List o9)) (l4 l5:List (Int×o4)) (l6:List (List UInt8×Int)):Option (A4×Int×Int×List A1×Int×List A0×List o4×(List (List UInt8×List o9))×Int×Int×Int×(List (Int×o4))×(List (Int×o4))×(List (List UInt8×Int))×Int×Int):=
 sel (!v7) (
  (cB b1_0 b1_1 l0 b1_3 b5).bind λr5=>
  Q1 r5.2.2.2.2.2 b0_0 b0_7 r5.1 r5.2.1 r5.2.2.2.1 b3_1 b4_0 b4_1 b5 r5.2.2.2.2.1 r5.2.2.1 l1 l2 l3 l4 l5 l6) (
  Q1 false b0_0 b0_7 b1_0 b1_1 b1_3 b3_1 b4_0 b4_1 b5 ((0:Int),(0:Int)) l0 l1 l2 l3 l4 l5 l6)
def O9(a0_0:A4) (a0_1_0 a0_1_1:Int) (a0_1_2:List A1) (a0_1_3:Int) (a0_2_0:List A0) (a0_2_1:List o4) (a0_3_0:List (List UInt8×List o9)) (a0_3_1 a0_4_0 a0_4_1:Int) (a0_4_2 a0_5:List (Int×o4)) (a0_6:List (List UInt8×Int)) (a0_7:Int) (a1:o8):Option (A4×Int×Int×List A1×Int×List A0×List o4×(List (List UInt8×List o9))×Int×Int×Int×(List (Int×o4))×(List (Int×o4))×(List (List UInt8×Int))×Int×Int):=
 sel (Option.isSome (aG C0 (Vector.toList a1.1) a0_6)) (
  some (a0_0,a0_1_0,a0_1_1,a0_1_2,a0_1_3,a0_2_0,a0_2_1,a0_3_0,a0_3_1,a0_4_0,a0_4_1,a0_4_2,a0_5,a0_6,a0_7,8)) (
  (O2 a0_3_0 a0_3_1 a1.2.2.1 a1.2.2.2.1 a0_7).bind λr1=>
  sel (!r1.2.2) (
   some (a0_0,a0_1_0,a0_1_1,a0_1_2,a0_1_3,a0_2_0,a0_2_1,r1.1,r1.2.1,a0_4_0,a0_4_1,a0_4_2,a0_5,a0_6,a0_7,9)) (
   (N8 a0_1_0 a0_1_1 a0_1_2 a0_1_3).bind λr6=>
   sel (decide (a0_0.1<=r6.2.2.2.2)) (
    Q2 true a0_0 a0_7 r6.1 r6.2.1 r6.2.2.2.1 r1.2.1 a0_4_0 a0_4_1 a1 r6.2.2.1 a0_2_0 a0_2_1 r1.1 a0_4_2 a0_5 a0_6) (
    (H5 r6.1 r6.2.1 r6.2.2.1 r6.2.2.2.1).bind λr7=>
    Q2 (decide ((D1 (a0_0.2.1-r7.2.2.2.2))<((a1.2.1.length:Nat):Int))) a0_0 a0_7 r7.1 r7.2.1 r7.2.2.2.1 r1.2.1 a0_4_0 a0_4_1 a1 r7.2.2.1 a0_2_0 a0_2_1 r1.1 a0_4_2 a0_5 a0_6)))
def cC(a0_0 a0_1:Int) (a0_2:List A1) (a0_3:Int) (a1:o4):Option (Int×Int×List A1×Int×Bool):=
 sel (decide (0<=a1.1)) (
  sel (decide (a1.1<(((List.length a0_2):Nat):Int))) (
   chk (decide ((0:Int)<=a1.1/\a1.1<(((List.length a0_2):Nat):Int))) <|
   chk (decide (a1.1.toNat<(List.length a0_2))) <|
   sel ((List.getD a0_2 a1.1.toNat A5).2.2.1) (
    chk (decide ((0:Int)<=a1.1/\a1.1<(((List.length a0_2):Nat):Int))) <|
    chk (decide (a1.1.toNat<(List.length a0_2))) <|
    some (a0_0,a0_1,a0_2,a0_3,(decide ((List.getD a0_2 a1.1.toNat A5).2.1=a1.2)))) (
    some (a0_0,a0_1,a0_2,a0_3,false))) (
   some (a0_0,a0_1,a0_2,a0_3,false))) (
  some (a0_0,a0_1,a0_2,a0_3,false))
def cD(a0_0 a0_1:Int) (a0_2:List A1) (a0_3:Int) (a1:o4):Option (Int×Int×List A1×Int×o8×Bool):=
 (cC a0_0 a0_1 a0_2 a0_3 a1).bind λr1=>
 sel (!r1.2.2.2.2) (
  some (r1.1,r1.2.1,r1.2.2.1,r1.2.2.2.1,((Vector.replicate 32 (0:UInt8)),[],[],(0:Int),(0:Int),(0:Int),(0:Int),(0:Int),(0:Int),[]),false)) (
  chk (decide (0<=a1.1/\a1.1<r1.2.2.1.length)) <|
  chk (decide (a1.1.toNat<r1.2.2.1.length)) <|
  (dp (r1.2.2.1.getD a1.1.toNat A5).1).bind λr2=>
  some (r1.1,r1.2.1,r1.2.2.1,r1.2.2.2.1,r2,true))
def bS(v10:List Int) (v11 v12:Int) (b0_0:A4) (b0_7 b1_0 b1_1 b1_3 b3_1 b4_0 b4_1:Int) (l0:List A1) (l1:List A0) (l2:List o4) (l3:List (List UInt8×List o9)) (l4 l5:List (Int×o4)) (l6:List (List UInt8×Int)) (l7:List o8):Option ((List Int×Int×Int×A4×Int×Int×Int×Int×Int×Int×Int×List A1×List A0×List o4×(List (List UInt8×List o9))×(List (Int×o4))×(List (Int×o4))×(List (List UInt8×Int))×List o8)⊕(A4×Int×Int×List A1×Int×List A0×List o4×(List (List UInt8×List o9))×Int×Int×Int×(List (Int×o4))×(List (Int×o4))×(List (List UInt8×Int))×Int×List o8)):=
 sel (decide (v12<v11)) (
  chk (decide (0<=v12/\v12<v10.length)) <|
  (cD b1_0 b1_1 l0 b1_3 (Q5 L0 (v10.getD v12.toNat (0:Int)) O1 l5)).bind λr1=>
  chk (decide ((l7.length+1)*144<=LIM/\l7.length+1<=LEN)) <|
  some (.inl (v10,v11,(D1 (v12+1)),b0_0,b0_7,r1.1,r1.2.1,r1.2.2.2.1,b3_1,b4_0,b4_1,r1.2.2.1,l1,l2,l3,l4,l5,l6,(l7++([r1.2.2.2.2.1]:List o8))))) (
  some (.inr (b0_0,b1_0,b1_1,l0,b1_3,l1,l2,l3,b3_1,b4_0,b4_1,l4,l5,l6,b0_7,l7)))
def fq(v10:List Int) (v11 v12:Int) (b0_0:A4) (b0_7 b1_0 b1_1 b1_3 b3_1 b4_0 b4_1:Int) (l0:List A1) (l1:List A0) (l2:List o4) (l3:List (List UInt8×List o9)) (l4 l5:List (Int×o4)) (l6:List (List UInt8×Int)) (l7:List o8):=
 aH (λv=>bS v.1 v.2.1 v.2.2.1 v.2.2.2.1 v.2.2.2.2.1 v.2.2.2.2.2.1 v.2.2.2.2.2.2.1 v.2.2.2.2.2.2.2.1 v.2.2.2.2.2.2.2.2.1 v.2.2.2.2.2.2.2.2.2.1 v.2.2.2.2.2.2.2.2.2.2.1 v.2.2.2.2.2.2.2.2.2.2.2.1 v.2.2.2.2.2.2.2.2.2.2.2.2.1 v.2.2.2.2.2.2.2.2.2.2.2.2.2.1 v.2.2.2.2.2.2.2.2.2.2.2.2.2.2.1 v.2.2.2.2.2.2.2.2.2.2.2.2.2.2.2.1 v.2.2.2.2.2.2.2.2.2.2.2.2.2.2.2.2.1 v.2.2.2.2.2.2.2.2.2.2.2.2.2.2.2.2.2.1 v.2.2.2.2.2.2.2.2.2.2.2.2.2.2.2.2.2.2) (v10,v11,v12,b0_0,b0_7,b1_0,b1_1,b1_3,b3_1,b4_0,b4_1,l0,l1,l2,l3,l4,l5,l6,l7)
def X1(a0_0:A4) (a0_1_0 a0_1_1:Int) (a0_1_2:List A1) (a0_1_3:Int) (a0_2_0:List A0) (a0_2_1:List o4) (a0_3_0:List (List UInt8×List o9)) (a0_3_1 a0_4_0 a0_4_1:Int) (a0_4_2 a0_5:List (Int×o4)) (a0_6:List (List UInt8×Int)) (a0_7:Int) (a1:List Int):Option (A4×Int×Int×List A1×Int×List A0×List o4×(List (List UInt8×List o9))×Int×Int×Int×(List (Int×o4))×(List (Int×o4))×(List (List UInt8×Int))×Int×List o8):=
 fq a1 a1.length 0 a0_0 a0_7 a0_1_0 a0_1_1 a0_1_3 a0_3_1 a0_4_0 a0_4_1 a0_1_2 a0_2_0 a0_2_1 a0_3_0 a0_4_2 a0_5 a0_6 []
def U1(a0_0:A4) (a0_1_0 a0_1_1:Int) (a0_1_2:List A1) (a0_1_3:Int) (a0_2_0:List A0) (a0_2_1:List o4) (a0_3_0:List (List UInt8×List o9)) (a0_3_1 a0_4_0 a0_4_1:Int) (a0_4_2 a0_5:List (Int×o4)) (a0_6:List (List UInt8×Int)) (a0_7:Int):Option (A4×Int×Int×List A1×Int×List A0×List o4×(List (List UInt8×List o9))×Int×Int×Int×(List (Int×o4))×(List (Int×o4))×(List (List UInt8×Int))×Int×List o8):=
 chk (cR (B9 a0_5)) <|
 (X1 a0_0 a0_1_0 a0_1_1 a0_1_2 a0_1_3 a0_2_0 a0_2_1 a0_3_0 a0_3_1 a0_4_0 a0_4_1 a0_4_2 a0_5 a0_6 a0_7 (bX (B9 a0_5))).bind λr1=>
 some (r1.1,r1.2.1,r1.2.2.1,r1.2.2.2.1,r1.2.2.2.2.1,r1.2.2.2.2.2.1,r1.2.2.2.2.2.2.1,r1.2.2.2.2.2.2.2.1,r1.2.2.2.2.2.2.2.2.1,r1.2.2.2.2.2.2.2.2.2.1,r1.2.2.2.2.2.2.2.2.2.2.1,r1.2.2.2.2.2.2.2.2.2.2.2.1,r1.2.2.2.2.2.2.2.2.2.2.2.2.1,r1.2.2.2.2.2.2.2.2.2.2.2.2.2.1,r1.2.2.2.2.2.2.2.2.2.2.2.2.2.2.1,r1.2.2.2.2.2.2.2.2.2.2.2.2.2.2.2)
def aw(b0_0:A4) (b0_7 b1_0 b1_1 b1_3 b3_1 b4_0 b4_1:Int) (l0:List A1) (l1:List A0) (l2:List o4) (l3:List (List UInt8×List o9)) (l4 l5:List (Int×o4)) (l6:List (List UInt8×Int)) (l7:List Int):Option (A4×Int×Int×List A1×Int×List A0×List o4×(List (List UInt8×List o9))×Int×Int×Int×(List (Int×o4))×(List (Int×o4))×(List (List UInt8×Int))×Int×List o8):=
 (X1 b0_0 b1_0 b1_1 l0 b1_3 l1 l2 l3 b3_1 b4_0 b4_1 l4 l5 l6 b0_7 l7).bind λr1=>
 some (r1.1,r1.2.1,r1.2.2.1,r1.2.2.2.1,r1.2.2.2.2.1,r1.2.2.2.2.2.1,r1.2.2.2.2.2.2.1,r1.2.2.2.2.2.2.2.1,r1.2.2.2.2.2.2.2.2.1,r1.2.2.2.2.2.2.2.2.2.1,r1.2.2.2.2.2.2.2.2.2.2.1,r1.2.2.2.2.2.2.2.2.2.2.2.1,r1.2.2.2.2.2.2.2.2.2.2.2.2.1,r1.2.2.2.2.2.2.2.2.2.2.2.2.2.1,r1.2.2.2.2.2.2.2.2.2.2.2.2.2.2.1,r1.2.2.2.2.2.2.2.2.2.2.2.2.2.2.2)
def ay(v13 v14:Int) (b0_0:A4) (b0_7 b1_0 b1_1 b1_3 b3_1 b4_0 b4_1:Int) (l0:List A1) (l1:List A0) (l2:List o4) (l3:List (List UInt8×List o9)) (l4 l5:List (Int×o4)) (l6:List (List UInt8×Int)) (l7:List Int) (l8:List A0):Option ((Int×Int×A4×Int×Int×Int×Int×Int×Int×Int×List A1×List A0×List o4×(List (List UInt8×List o9))×(List (Int×o4))×(List (Int×o4))×(List (List UInt8×Int))×List Int×List A0)⊕(A4×Int×Int×List A1×Int×List A0×List o4×(List (List UInt8×List o9))×Int×Int×Int×(List (Int×o4))×(List (Int×o4))×(List (List UInt8×Int))×Int×List o8)):=
 sel (decide (v14<v13)) (
  chk (decide (0<=v14/\v14<l8.length)) <|
  chk (decide (v14.toNat<l8.length)) <|
  chk (decide ((l7.length+1)*8<=LIM/\l7.length+1<=LEN)) <|
  some (.inl (v13,(D1 (v14+1)),b0_0,b0_7,b1_0,b1_1,b1_3,b3_1,b4_0,b4_1,l0,l1,l2,l3,l4,l5,l6,(l7++[(l8.getD v14.toNat B6).1]),l8))) (
  Option.map .inr (
   aw b0_0 b0_7 b1_0 b1_1 b1_3 b3_1 b4_0 b4_1 l0 l1 l2 l3 l4 l5 l6 l7))
def dq(v13 v14:Int) (b0_0:A4) (b0_7 b1_0 b1_1 b1_3 b3_1 b4_0 b4_1:Int) (l0:List A1) (l1:List A0) (l2:List o4) (l3:List (List UInt8×List o9)) (l4 l5:List (Int×o4)) (l6:List (List UInt8×Int)) (l7:List Int) (l8:List A0):=
 aH (λv=>ay v.1 v.2.1 v.2.2.1 v.2.2.2.1 v.2.2.2.2.1 v.2.2.2.2.2.1 v.2.2.2.2.2.2.1 v.2.2.2.2.2.2.2.1 v.2.2.2.2.2.2.2.2.1 v.2.2.2.2.2.2.2.2.2.1 v.2.2.2.2.2.2.2.2.2.2.1 v.2.2.2.2.2.2.2.2.2.2.2.1 v.2.2.2.2.2.2.2.2.2.2.2.2.1 v.2.2.2.2.2.2.2.2.2.2.2.2.2.1 v.2.2.2.2.2.2.2.2.2.2.2.2.2.2.1 v.2.2.2.2.2.2.2.2.2.2.2.2.2.2.2.1 v.2.2.2.2.2.2.2.2.2.2.2.2.2.2.2.2.1 v.2.2.2.2.2.2.2.2.2.2.2.2.2.2.2.2.2.1 v.2.2.2.2.2.2.2.2.2.2.2.2.2.2.2.2.2.2) (v13,v14,b0_0,b0_7,b1_0,b1_1,b1_3,b3_1,b4_0,b4_1,l0,l1,l2,l3,l4,l5,l6,l7,l8)
def V7(a0_0:A4) (a0_1_0 a0_1_1:Int) (a0_1_2:List A1) (a0_1_3:Int) (a0_2_0:List A0) (a0_2_1:List o4) (a0_3_0:List (List UInt8×List o9)) (a0_3_1 a0_4_0 a0_4_1:Int) (a0_4_2 a0_5:List (Int×o4)) (a0_6:List (List UInt8×Int)) (a0_7:Int):Option (A4×Int×Int×List A1×Int×List A0×List o4×(List (List UInt8×List o9))×Int×Int×Int×(List (Int×o4))×(List (Int×o4))×(List (List UInt8×Int))×Int×List o8):=
 (O5 a0_2_0 a0_2_1).bind λr2=>
 dq r2.2.2.length 0 a0_0 a0_7 a0_1_0 a0_1_1 a0_1_3 a0_3_1 a0_4_0 a0_4_1 a0_1_2 r2.1 r2.2.1 a0_3_0 a0_4_2 a0_5 a0_6 [] r2.2.2
def V8(a0_0:A4) (a0_1_0 a0_1_1:Int) (a0_1_2:List A1) (a0_1_3:Int) (a0_2_0:List A0) (a0_2_1:List o4) (a0_3_0:List (List UInt8×List o9)) (a0_3_1 a0_4_0 a0_4_1:Int) (a0_4_2 a0_5:List (Int×o4)) (a0_6:List (List UInt8×Int)) (a0_7:Int) (a1:List UInt8):Option (A4×Int×Int×List A1×Int×List A0×List o4×(List (List UInt8×List o9))×Int×Int×Int×(List (Int×o4))×(List (Int×o4))×(List (List UInt8×Int))×Int×List o8):=
 (J2 a0_3_0 a0_3_1 a1).bind λr1=>
 (X1 a0_0 a0_1_0 a0_1_1 a0_1_2 a0_1_3 a0_2_0 a0_2_1 r1.1 r1.2.1 a0_4_0 a0_4_1 a0_4_2 a0_5 a0_6 a0_7 r1.2.2).bind λr2=>
 some (r2.1,r2.2.1,r2.2.2.1,r2.2.2.2.1,r2.2.2.2.2.1,r2.2.2.2.2.2.1,r2.2.2.2.2.2.2.1,r2.2.2.2.2.2.2.2.1,r2.2.2.2.2.2.2.2.2.1,r2.2.2.2.2.2.2.2.2.2.1,r2.2.2.2.2.2.2.2.2.2.2.1,r2.2.2.2.2.2.2.2.2.2.2.2.1,r2.2.2.2.2.2.2.2.2.2.2.2.2.1,r2.2.2.2.2.2.2.2.2.2.2.2.2.2.1,r2.2.2.2.2.2.2.2.2.2.2.2.2.2.2.1,r2.2.2.2.2.2.2.2.2.2.2.2.2.2.2.2)
def aX(a0_0:A4) (a0_1_0 a0_1_1:Int) (a0_1_2:List A1) (a0_1_3:Int) (a0_2_0:List A0) (a0_2_1:List o4) (a0_3_0:List (List UInt8×List o9)) (a0_3_1 a0_4_0 a0_4_1:Int) (a0_4_2 a0_5:List (Int×o4)) (a0_6:List (List UInt8×Int)) (a0_7:Int) (a1:Vector UInt8 32):Option (A4×Int×Int×List A1×Int×List A0×List o4×(List (List UInt8×List o9))×Int×Int×Int×(List (Int×o4))×(List (Int×o4))×(List (List UInt8×Int))×Int×o8×Bool):=
 sel (!(Option.isSome (aG C0 (Vector.toList a1) a0_6))) (
  some (a0_0,a0_1_0,a0_1_1,a0_1_2,a0_1_3,a0_2_0,a0_2_1,a0_3_0,a0_3_1,a0_4_0,a0_4_1,a0_4_2,a0_5,a0_6,a0_7,((Vector.replicate 32 (0:UInt8)),[],[],(0:Int),(0:Int),(0:Int),(0:Int),(0:Int),(0:Int),[]),false)) (
  (N9 a0_1_0 a0_1_1 a0_1_2 a0_1_3 (Q5 L0 (Q5 C0 (Vector.toList a1) (0:Int) a0_6) O1 a0_5)).bind λr1=>
  some (a0_0,r1.1,r1.2.1,r1.2.2.1,r1.2.2.2.1,a0_2_0,a0_2_1,a0_3_0,a0_3_1,a0_4_0,a0_4_1,a0_4_2,a0_5,a0_6,a0_7,r1.2.2.2.2.1,r1.2.2.2.2.2))
def af(a0_0:A4) (a0_1_0 a0_1_1:Int) (a0_1_2:List A1) (a0_1_3:Int) (a0_2_0:List A0) (a0_2_1:List o4) (a0_3_0:List (List UInt8×List o9)) (a0_3_1 a0_4_0 a0_4_1:Int) (a0_4_2 a0_5:List (Int×o4)) (a0_6:List (List UInt8×Int)) (a0_7:Int):Option (A4×Int×Int×List A1×Int×List A0×List o4×(List (List UInt8×List o9))×Int×Int×Int×(List (Int×o4))×(List (Int×o4))×(List (List UInt8×Int))×Int×List o8):=
 chk (cR (B9 a0_5)) <|
 (P2 a0_0 a0_1_0 a0_1_1 a0_1_2 a0_1_3 a0_2_0 a0_2_1 a0_3_0 a0_3_1 a0_4_0 a0_4_1 a0_4_2 a0_5 a0_6 a0_7 (bX (B9 a0_5))).bind λr1=>
 some (r1.1,r1.2.1,r1.2.2.1,r1.2.2.2.1,r1.2.2.2.2.1,r1.2.2.2.2.2.1,r1.2.2.2.2.2.2.1,r1.2.2.2.2.2.2.2.1,r1.2.2.2.2.2.2.2.2.1,r1.2.2.2.2.2.2.2.2.2.1,r1.2.2.2.2.2.2.2.2.2.2.1,r1.2.2.2.2.2.2.2.2.2.2.2.1,r1.2.2.2.2.2.2.2.2.2.2.2.2.1,r1.2.2.2.2.2.2.2.2.2.2.2.2.2.1,r1.2.2.2.2.2.2.2.2.2.2.2.2.2.2.1,r1.2.2.2.2.2.2.2.2.2.2.2.2.2.2.2)
def AW(a0:List Int) (a1:UInt8):Option (List Int×UInt8):=
 some (a0,a1)
def gS(a0:List Int) (a1:UInt8):Option (Bool×List Int×UInt8):=
 (J3 [a0]).bind λr1=>
 some (r1,a0,a1)
def pF:Option (Bool):=
 (L8).bind λr1=>
 some r1
def pG(a0:List Int) (a1:UInt8):Option (A4×Int×Int×List A1×Int×List A0×List o4×(List (List UInt8×List o9))×Int×Int×Int×(List (Int×o4))×(List (Int×o4))×(List (List UInt8×Int))×Int×o8×Vector UInt8 32×List UInt8×List UInt8×Int×Int×Int×Int×Int×Int×List Int×UInt8):=
 (S9).bind λr1=>
 (ap r1).bind λr2=>
 (aR a0).bind λr3=>
 (R7 r3).bind λr4=>
 chk (decide ((1+r4.2.2.1.length)*1<=LIM/\1+r4.2.2.1.length<=LEN)) <|
 chk (decide ((1+r4.2.2.2.2.2.2.2.2.2.2.length)*8<=LIM/\1+r4.2.2.2.2.2.2.2.2.2.2.length<=LEN)) <|
 chk (decide ((0+(List.length ([(1:UInt8)]++r4.2.2.1)))*1<=LIM/\0+(List.length ([(1:UInt8)]++r4.2.2.1))<=LEN)) <|
 chk (decide ((0+(List.length ([1]++r4.2.2.2.2.2.2.2.2.2.2)))*8<=LIM/\0+(List.length ([1]++r4.2.2.2.2.2.2.2.2.2.2))<=LEN)) <|
 some (r2.1,r2.2.1,r2.2.2.1,r2.2.2.2.1,r2.2.2.2.2.1,r2.2.2.2.2.2.1,r2.2.2.2.2.2.2.1,r2.2.2.2.2.2.2.2.1,r2.2.2.2.2.2.2.2.2.1,r2.2.2.2.2.2.2.2.2.2.1,r2.2.2.2.2.2.2.2.2.2.2.1,r2.2.2.2.2.2.2.2.2.2.2.2.1,r2.2.2.2.2.2.2.2.2.2.2.2.2.1,r2.2.2.2.2.2.2.2.2.2.2.2.2.2.1,r2.2.2.2.2.2.2.2.2.2.2.2.2.2.2,(r4.2.1,([(1:UInt8)]++r4.2.2.1),r4.2.2.2.1,r4.2.2.2.2.1,r4.2.2.2.2.2.1,r4.2.2.2.2.2.2.1,r4.2.2.2.2.2.2.2.1,r4.2.2.2.2.2.2.2.2.1,r4.2.2.2.2.2.2.2.2.2.1,([1]++r4.2.2.2.2.2.2.2.2.2.2)),r4.2.1,([(1:UInt8)]++r4.2.2.1),r4.2.2.2.1,r4.2.2.2.2.1,r4.2.2.2.2.2.1,r4.2.2.2.2.2.2.1,r4.2.2.2.2.2.2.2.1,r4.2.2.2.2.2.2.2.2.1,r4.2.2.2.2.2.2.2.2.2.1,([1]++r4.2.2.2.2.2.2.2.2.2.2),a1)
def pH(a0_0:Vector UInt8 32) (a0_1 a0_2:List UInt8) (a0_3 a0_4 a0_5 a0_6 a0_7 a0_8:Int) (a0_9:List Int) (a1:UInt8) (a2 a3:{v:Value // opV v=true}) (a4:Int):Option (Vector UInt8 32×List UInt8×List UInt8×Int×Int×Int×Int×Int×Int×List Int×{v:Value // opV v=true}×{v:Value // opV v=true}×Int×UInt8):=
 chk (decide ((0:Int)<=0/\0<(((List.length a0_1):Nat):Int))) <|
 chk (decide (0<(List.length a0_1))) <|
 chk (decide ((0:Int)<=0/\0<(((List.length a0_1):Nat):Int))) <|
 chk (decide ((0:Int)<=(bits .xor .u8 ((UInt8.toNat (List.getD a0_1 0 (0:UInt8)):Nat):Int) (bits .or .u8 ((UInt8.toNat a1:Nat):Int) 1))/\(bits .xor .u8 ((UInt8.toNat (List.getD a0_1 0 (0:UInt8)):Nat):Int) (bits .or .u8 ((UInt8.toNat a1:Nat):Int) 1))<256)) <|
 chk (decide (0<(List.length a0_1))) <|
 chk (decide ((0:Int)<=0/\0<(((List.length a0_9):Nat):Int))) <|
 chk (decide (0<(List.length a0_9))) <|
 chk (decide ((0:Int)<=0/\0<(((List.length a0_9):Nat):Int))) <|
 chk (decide (0<(List.length a0_9))) <|
 some (a0_0,(List.set a0_1 0 (UInt8.ofNat (Int.toNat (bits .xor .u8 ((UInt8.toNat (List.getD a0_1 0 (0:UInt8)):Nat):Int) (bits .or .u8 ((UInt8.toNat a1:Nat):Int) 1))))),a0_2,a0_3,a0_4,a0_5,a0_6,a0_7,a0_8,(List.set a0_9 0 (D1 ((List.getD a0_9 0 (0:Int))+1))),a2,a3,a4,a1)
def V9:Option (Unit):=
 some ()
def R9(_a1:Vector UInt8 32):Option (o8×Bool):=
 some (((Vector.replicate 32 (0:UInt8)),[],[],(0:Int),(0:Int),(0:Int),(0:Int),(0:Int),(0:Int),[]),false)
def U2(_a1:o8):Option (Int):=
 some 9
def U3(a1:Vector UInt8 32):Option (Bool):=
 (R9 a1).bind λr1=>
 sel (!r1.2) (
  some false) (
  none)
def S0:Option (List o8):=
 some []
def U4:Option (List o8):=
 some []
def U5(_a1:List UInt8):Option (List o8):=
 some []
def S1(_a1 _a2:Int):Option (List (Vector UInt8 32)):=
 some []
def ai:Option (Int):=
 some 0
def W4:Option (Int):=
 some 0
def pI(a0_0:A4) (a0_1_0 a0_1_1:Int) (a0_1_2:List A1) (a0_1_3:Int) (a0_2_0:List A0) (a0_2_1:List o4) (a0_3_0:List (List UInt8×List o9)) (a0_3_1 a0_4_0 a0_4_1:Int) (a0_4_2 a0_5:List (Int×o4)) (a0_6:List (List UInt8×Int)) (a0_7:Int) (a1:o8) (a2:Int):Option (A4×Int×Int×List A1×Int×List A0×List o4×(List (List UInt8×List o9))×Int×Int×Int×(List (Int×o4))×(List (Int×o4))×(List (List UInt8×Int))×Int×o8×Bool):=
 (aX a0_0 a0_1_0 a0_1_1 a0_1_2 a0_1_3 a0_2_0 a0_2_1 a0_3_0 a0_3_1 a0_4_0 a0_4_1 a0_4_2 a0_5 a0_6 a0_7 a1.1).bind λr1=>
 (V9).bind λ_r2=>
 (R9 a1.1).bind λr3=>
 sel (decide (a2=0)) (
  sel r1.2.2.2.2.2.2.2.2.2.2.2.2.2.2.2.2 (
   (B8 r1.2.2.2.2.2.2.2.2.2.2.2.2.2.2.2.1 a1).bind λr4=>
   sel r4 (
    (U2 a1).bind λr5=>
    sel (decide (r5=9)) (
     (U3 a1.1).bind λr6=>
     sel (!r6) (
      sel (!r3.2) (
       (S0).bind λr7=>
       (U4).bind λr8=>
       (U5 ([97,110,110]:List UInt8)).bind λr9=>
       (S1 1 1).bind λr10=>
       (ai).bind λr11=>
       (W4).bind λr12=>
       sel (decide ((D1 ((D1 ((D1 ((D1 ((D1 (((r7.length:Nat):Int)+((r8.length:Nat):Int)))+((r9.length:Nat):Int)))+((r10.length:Nat):Int)))+r11))+r12))=0)) (
        (L8).bind λr13=>
        some (r1.1,r1.2.1,r1.2.2.1,r1.2.2.2.1,r1.2.2.2.2.1,r1.2.2.2.2.2.1,r1.2.2.2.2.2.2.1,r1.2.2.2.2.2.2.2.1,r1.2.2.2.2.2.2.2.2.1,r1.2.2.2.2.2.2.2.2.2.1,r1.2.2.2.2.2.2.2.2.2.2.1,r1.2.2.2.2.2.2.2.2.2.2.2.1,r1.2.2.2.2.2.2.2.2.2.2.2.2.1,r1.2.2.2.2.2.2.2.2.2.2.2.2.2.1,r1.2.2.2.2.2.2.2.2.2.2.2.2.2.2.1,a1,r13)) (
        some (r1.1,r1.2.1,r1.2.2.1,r1.2.2.2.1,r1.2.2.2.2.1,r1.2.2.2.2.2.1,r1.2.2.2.2.2.2.1,r1.2.2.2.2.2.2.2.1,r1.2.2.2.2.2.2.2.2.1,r1.2.2.2.2.2.2.2.2.2.1,r1.2.2.2.2.2.2.2.2.2.2.1,r1.2.2.2.2.2.2.2.2.2.2.2.1,r1.2.2.2.2.2.2.2.2.2.2.2.2.1,r1.2.2.2.2.2.2.2.2.2.2.2.2.2.1,r1.2.2.2.2.2.2.2.2.2.2.2.2.2.2.1,a1,false))) (
       some (r1.1,r1.2.1,r1.2.2.1,r1.2.2.2.1,r1.2.2.2.2.1,r1.2.2.2.2.2.1,r1.2.2.2.2.2.2.1,r1.2.2.2.2.2.2.2.1,r1.2.2.2.2.2.2.2.2.1,r1.2.2.2.2.2.2.2.2.2.1,r1.2.2.2.2.2.2.2.2.2.2.1,r1.2.2.2.2.2.2.2.2.2.2.2.1,r1.2.2.2.2.2.2.2.2.2.2.2.2.1,r1.2.2.2.2.2.2.2.2.2.2.2.2.2.1,r1.2.2.2.2.2.2.2.2.2.2.2.2.2.2.1,a1,false))) (
      some (r1.1,r1.2.1,r1.2.2.1,r1.2.2.2.1,r1.2.2.2.2.1,r1.2.2.2.2.2.1,r1.2.2.2.2.2.2.1,r1.2.2.2.2.2.2.2.1,r1.2.2.2.2.2.2.2.2.1,r1.2.2.2.2.2.2.2.2.2.1,r1.2.2.2.2.2.2.2.2.2.2.1,r1.2.2.2.2.2.2.2.2.2.2.2.1,r1.2.2.2.2.2.2.2.2.2.2.2.2.1,r1.2.2.2.2.2.2.2.2.2.2.2.2.2.1,r1.2.2.2.2.2.2.2.2.2.2.2.2.2.2.1,a1,false))) (
     some (r1.1,r1.2.1,r1.2.2.1,r1.2.2.2.1,r1.2.2.2.2.1,r1.2.2.2.2.2.1,r1.2.2.2.2.2.2.1,r1.2.2.2.2.2.2.2.1,r1.2.2.2.2.2.2.2.2.1,r1.2.2.2.2.2.2.2.2.2.1,r1.2.2.2.2.2.2.2.2.2.2.1,r1.2.2.2.2.2.2.2.2.2.2.2.1,r1.2.2.2.2.2.2.2.2.2.2.2.2.1,r1.2.2.2.2.2.2.2.2.2.2.2.2.2.1,r1.2.2.2.2.2.2.2.2.2.2.2.2.2.2.1,a1,false))) (
    some (r1.1,r1.2.1,r1.2.2.1,r1.2.2.2.1,r1.2.2.2.2.1,r1.2.2.2.2.2.1,r1.2.2.2.2.2.2.1,r1.2.2.2.2.2.2.2.1,r1.2.2.2.2.2.2.2.2.1,r1.2.2.2.2.2.2.2.2.2.1,r1.2.2.2.2.2.2.2.2.2.2.1,r1.2.2.2.2.2.2.2.2.2.2.2.1,r1.2.2.2.2.2.2.2.2.2.2.2.2.1,r1.2.2.2.2.2.2.2.2.2.2.2.2.2.1,r1.2.2.2.2.2.2.2.2.2.2.2.2.2.2.1,a1,false))) (
   some (r1.1,r1.2.1,r1.2.2.1,r1.2.2.2.1,r1.2.2.2.2.1,r1.2.2.2.2.2.1,r1.2.2.2.2.2.2.1,r1.2.2.2.2.2.2.2.1,r1.2.2.2.2.2.2.2.2.1,r1.2.2.2.2.2.2.2.2.2.1,r1.2.2.2.2.2.2.2.2.2.2.1,r1.2.2.2.2.2.2.2.2.2.2.2.1,r1.2.2.2.2.2.2.2.2.2.2.2.2.1,r1.2.2.2.2.2.2.2.2.2.2.2.2.2.1,r1.2.2.2.2.2.2.2.2.2.2.2.2.2.2.1,a1,false))) (
  some (r1.1,r1.2.1,r1.2.2.1,r1.2.2.2.1,r1.2.2.2.2.1,r1.2.2.2.2.2.1,r1.2.2.2.2.2.2.1,r1.2.2.2.2.2.2.2.1,r1.2.2.2.2.2.2.2.2.1,r1.2.2.2.2.2.2.2.2.2.1,r1.2.2.2.2.2.2.2.2.2.2.1,r1.2.2.2.2.2.2.2.2.2.2.2.1,r1.2.2.2.2.2.2.2.2.2.2.2.2.1,r1.2.2.2.2.2.2.2.2.2.2.2.2.2.1,r1.2.2.2.2.2.2.2.2.2.2.2.2.2.2.1,a1,false))
def J0(a0 a1:o8):Option (Bool):=B8 a0 a1
def pJ(a0:{v:Value // opV v=true}×List o8) (a1:o8) (a2:{v:Value // opV v=true}) (a3:Int) (a4:UInt8) (a5:{v:Value // opV v=true}) (a6 a7:Int):Option (o8×({v:Value // opV v=true}×List o8)×{v:Value // opV v=true}×Int×UInt8×{v:Value // opV v=true}×Int×Int):=
 chk (Nat.blt 0 a0.2.length) <|
 sel (!decide (((a0.2.length:Nat):Int)=1)) (
  none) (
  chk (decide ((0:Int)<=0/\0<((a0.2.length:Nat):Int))) <|
  (J0 (a0.2.getD 0 Q9) a1).bind λr1=>
  sel (!r1) (
   none) (
   some (a1,a0,a2,a3,a4,a5,a6,a7)))
end
end Go.Proofs.YthkhcbphbabefaaGreat.Am
