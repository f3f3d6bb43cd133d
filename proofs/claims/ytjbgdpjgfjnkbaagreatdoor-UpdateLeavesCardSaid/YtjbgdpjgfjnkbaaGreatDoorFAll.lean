/- What functions of the program compute on plain data. No conditions. -/
import Derived.Test.YtjbgdpjgfjnkbaaGreatDoorQAA
import Derived.Test.YtjbgdpjgfjnkbaaGreatDoorKD
namespace Go.Proofs.YtjbgdpjgfjnkbaaGreatDoor.Am
open Go
noncomputable section
variable [Fu]
def C7:U:=(.pr .str (.int .u64))
abbrev A0:Type:=List UInt8×Int
def I1:A0:=([],(0:Int))
def A7:U:=(.pr (.sl (.int .i64)) (.int .i64))
abbrev o7:Type:=List Int×Int
def C0:U:=(.pr .str (.pr (.int .u64) (.int .u64)))
abbrev o5:Type:=List UInt8×Int×Int
def A6:o5:=([],(0:Int),(0:Int))
def M7:U:=(.pr (.int .i64) (.pr (.int .u64) .bool))
abbrev E6:Type:=Int×Int×Bool
def U3:U:=(.pr (.arr 8 (.int .u32)) (.pr (.sl .byte) (.int .i64)))
abbrev E0:Type:=Vector Int 8×List UInt8×Int
def B8:U:=(.pr (.sl (.pr .str (.pr (.int .u64) (.int .u64)))) (.int .u64))
abbrev o8:Type:=List o5×Int
def C5:U:=(.pr (.int .i64) (.pr (.int .i64) (.pr (.int .u64) (.sl .byte))))
abbrev A3:Type:=Int×Int×Int×List UInt8
def D6:A3:=((0:Int),(0:Int),(0:Int),[])
def G7:U:=(.pr (.int .i64) (.pr .str (.pr (.int .u64) (.pr (.int .u64) (.int .u64)))))
abbrev B1:Type:=Int×List UInt8×Int×Int×Int
def R6:B1:=((0:Int),[],(0:Int),(0:Int),(0:Int))
def jM:U:=(.pr (.int .i64) (.pr (.int .i64) (.pr (.int .i64) (.pr (.int .i64) (.sl .byte)))))
abbrev R3:Type:=Int×Int×Int×Int×List UInt8
def lX:U:=(.pr (.int .i64) (.pr (.int .i64) (.pr (.arr 32 .byte) (.pr (.arr 32 .byte) (.arr 32 .byte)))))
abbrev eX:Type:=Int×Int×Vector UInt8 32×Vector UInt8 32×Vector UInt8 32
def Y7:U:=(.pr .str (.pr (.int .u64) (.pr (.int .u64) (.pr (.int .u64) (.pr .str (.sl (.pr .str (.int .u64))))))))
abbrev C2:Type:=List UInt8×Int×Int×Int×List UInt8×List A0
def J7:U:=(.pr (.int .i64) (.pr (.int .i64) (.pr (.int .i64) (.pr (.arr 32 .byte) (.pr (.arr 32 .byte) (.pr (.arr 32 .byte) (.arr 32 .byte)))))))
abbrev D0:Type:=Int×Int×Int×Vector UInt8 32×Vector UInt8 32×Vector UInt8 32×Vector UInt8 32
def W4:U:=(.pr (.pr (.int .i64) (.pr (.int .i64) (.pr (.int .i64) (.pr (.arr 32 .byte) (.pr (.arr 32 .byte) (.pr (.arr 32 .byte) (.arr 32 .byte))))))) (.sl (.sl .byte)))
abbrev H4:Type:=D0×List (List UInt8)
def B4:U:=(.pr (.arr 32 .byte) (.pr (.sl .byte) (.pr .str (.pr (.int .u64) (.pr (.int .u64) (.pr (.int .u64) (.pr (.int .i64) (.pr (.int .i64) (.pr (.int .i64) (.sl (.int .i64)))))))))))
abbrev o6:Type:=Vector UInt8 32×List UInt8×List UInt8×Int×Int×Int×Int×Int×Int×List Int
def B2:o6:=((Vector.replicate 32 (0:UInt8)),[],[],(0:Int),(0:Int),(0:Int),(0:Int),(0:Int),(0:Int),[])
def I6:U:=(.pr (.int .i64) (.pr (.int .i64) (.pr (.int .i64) (.pr (.int .i64) (.pr (.int .i64) (.pr (.int .i64) (.pr .bool (.pr (.int .i64) (.pr (.int .i64) (.pr (.int .u64) (.pr (.int .i64) (.int .i64))))))))))))
abbrev C6:Type:=Int×Int×Int×Int×Int×Int×Bool×Int×Int×Int×Int×Int
def R7:U:=(.pr (.pr (.sl (.pr .str (.pr (.int .u64) (.int .u64)))) (.int .u64)) (.pr (.pr (.sl (.pr .str (.pr (.int .u64) (.int .u64)))) (.int .u64)) (.pr (.pr (.sl (.pr .str (.pr (.int .u64) (.int .u64)))) (.int .u64)) (.pr .bool (.int .u64)))))
abbrev H6:Type:=o8×o8×o8×Bool×Int
def M8:U:=(.pr (.int .i64) (.pr (.arr 32 .byte) (.pr (.int .u64) (.pr (.sl (.arr 32 .byte)) (.pr (.sl (.arr 32 .byte)) (.pr (.sl (.arr 32 .byte)) (.pr (.sl (.arr 32 .byte)) (.pr (.sl (.arr 32 .byte)) (.pr (.sl (.sl .byte)) (.pr (.int .i64) (.arr 32 .byte)))))))))))
abbrev E3:Type:=Int×Vector UInt8 32×Int×List (Vector UInt8 32)×List (Vector UInt8 32)×List (Vector UInt8 32)×List (Vector UInt8 32)×List (Vector UInt8 32)×List (List UInt8)×Int×Vector UInt8 32
def A9:U:=(.pr (.pr (.int .i64) (.pr (.int .i64) (.pr (.int .i64) (.pr (.int .i64) (.pr (.int .i64) (.pr (.int .i64) (.pr .bool (.pr (.int .i64) (.pr (.int .i64) (.pr (.int .u64) (.pr (.int .i64) (.int .i64)))))))))))) (.pr (.pr (.pr (.sl (.pr .str (.pr (.int .u64) (.int .u64)))) (.int .u64)) (.pr (.pr (.sl (.pr .str (.pr (.int .u64) (.int .u64)))) (.int .u64)) (.pr (.pr (.sl (.pr .str (.pr (.int .u64) (.int .u64)))) (.int .u64)) (.pr .bool (.int .u64))))) (.pr (.int .i64) (.pr (.int .i64) (.pr (.int .i64) (.pr (.sl (.pr (.arr 32 .byte) (.pr (.sl .byte) (.pr .str (.pr (.int .u64) (.pr (.int .u64) (.pr (.int .u64) (.pr (.int .i64) (.pr (.int .i64) (.pr (.int .i64) (.sl (.int .i64)))))))))))) (.sl (.arr 32 .byte))))))))
abbrev A2:Type:=C6×H6×Int×Int×Int×List o6×List (Vector UInt8 32)
def B9:U:=(.pr (.pr (.pr (.int .i64) (.pr (.int .i64) (.pr (.int .i64) (.pr (.int .i64) (.pr (.int .i64) (.pr (.int .i64) (.pr .bool (.pr (.int .i64) (.pr (.int .i64) (.pr (.int .u64) (.pr (.int .i64) (.int .i64)))))))))))) (.pr (.pr (.pr (.sl (.pr .str (.pr (.int .u64) (.int .u64)))) (.int .u64)) (.pr (.pr (.sl (.pr .str (.pr (.int .u64) (.int .u64)))) (.int .u64)) (.pr (.pr (.sl (.pr .str (.pr (.int .u64) (.int .u64)))) (.int .u64)) (.pr .bool (.int .u64))))) (.pr (.int .i64) (.pr (.int .i64) (.pr (.int .i64) (.pr (.sl (.pr (.arr 32 .byte) (.pr (.sl .byte) (.pr .str (.pr (.int .u64) (.pr (.int .u64) (.pr (.int .u64) (.pr (.int .i64) (.pr (.int .i64) (.pr (.int .i64) (.sl (.int .i64)))))))))))) (.sl (.arr 32 .byte)))))))) (.pr (.pr (.int .i64) (.pr (.int .i64) (.pr (.arr 32 .byte) (.pr (.arr 32 .byte) (.arr 32 .byte))))) (.pr (.sl (.pr (.pr (.int .i64) (.pr (.int .i64) (.pr (.int .i64) (.pr (.arr 32 .byte) (.pr (.arr 32 .byte) (.pr (.arr 32 .byte) (.arr 32 .byte))))))) (.sl (.sl .byte)))) (.pr (.sl (.sl (.arr 32 .byte))) (.pr .bool (.pr (.pr (.pr (.int .i64) (.pr (.int .i64) (.pr (.int .i64) (.pr (.arr 32 .byte) (.pr (.arr 32 .byte) (.pr (.arr 32 .byte) (.arr 32 .byte))))))) (.sl (.sl .byte))) (.sl .byte)))))))
abbrev B0:Type:=A2×eX×List H4×List (List (Vector UInt8 32))×Bool×H4×List UInt8
def lj:Option (List (List UInt8)):=
 some [([109,97,120,45,116,120,115]:List UInt8),([109,97,120,45,98,121,116,101,115]:List UInt8),([109,97,120,45,116,120,45,98,121,116,101,115]:List UInt8),([99,97,99,104,101,45,115,105,122,101]:List UInt8),([116,116,108,45,98,108,111,99,107,115]:List UInt8),([116,116,108,45,116,105,109,101]:List UInt8),([107,101,101,112,45,105,110,118,97,108,105,100]:List UInt8),([98,108,111,99,107,45,98,121,116,101,115]:List UInt8),([98,108,111,99,107,45,103,97,115]:List UInt8),([112,114,105,99,101]:List UInt8),([115,101,108,102]:List UInt8),([110,111,100,101,115]:List UInt8)]
def cL(v1 v5:Int) (b0:C6):Option (Int):=
 chk (decide ((0:Int)<=v1/\v1<12)) <|
 chk (decide (v1.toNat<12)) <|
 some (List.getD [b0.1,b0.2.1,b0.2.2.1,b0.2.2.2.1,b0.2.2.2.2.1,b0.2.2.2.2.2.1,v5,b0.2.2.2.2.2.2.2.1,b0.2.2.2.2.2.2.2.2.1,0,b0.2.2.2.2.2.2.2.2.2.2.1,b0.2.2.2.2.2.2.2.2.2.2.2] v1.toNat (0:Int))
def cr(a0:C6) (a1:Int):Option (Int):=
 sel a0.2.2.2.2.2.2.1 (
  cL a1 1 a0) (
  cL a1 0 a0)
def fP(a0:Int):Option (Int):=
 chk (decide ((0:Int)<=a0/\a0<12)) <|
 chk (decide (a0.toNat<12)) <|
 some (List.getD [1,1,1,0,0,0,0,1,(-1),0,0,1] a0.toNat (0:Int))
def cM(a0:Int):Option (Int):=
 chk (decide ((0:Int)<=a0/\a0<12)) <|
 chk (decide (a0.toNat<12)) <|
 some (List.getD [512,1048576,4096,1024,1073741824,1073741824,1,1048576,1125899906842624,0,7,8] a0.toNat (0:Int))
def ah(b0:C6):Option (Int):=
 sel (decide (b0.2.2.2.2.2.2.2.2.2.2.2<=b0.2.2.2.2.2.2.2.2.2.2.1)) (
  some 1) (
  some 0)
def R4(v5 v6:Int) (b0:C6):Option ((Int×Int×C6)⊕(Int)):=
 sel (decide (v6<v5)) (
  sel (!decide (v6=9)) (
   (cr b0 v6).bind λr2=>
   (fP v6).bind λr3=>
   sel (decide (r2<r3)) (
    some (.inr 1)) (
    (cr b0 v6).bind λr4=>
    (cM v6).bind λr5=>
    sel (decide (r5<r4)) (
     some (.inr 1)) (
     some (.inl (v5,(B3 (v6+1)),b0))))) (
   some (.inl (v5,(B3 (v6+1)),b0)))) (
  Option.map .inr (
   ah b0))
def eY(v5 v6:Int) (b0:C6):=
 F8 (λv=>R4 v.1 v.2.1 v.2.2) (v5,v6,b0)
def V8(a0:C6):Option (Int):=
 (lj).bind λr1=>
 eY r1.length 0 a0
def gp(v0:List UInt8):Option (Bool):=
 sel (decide (1<=((v0.length:Nat):Int))) (
  some (decide (((v0.length:Nat):Int)<=20))) (
  some false)
def X2(v0:List UInt8) (v3:Int):Option ((List UInt8×Int)⊕(Bool)):=
 sel (decide (v3<v0.length)) (
  chk (decide (0<=v3/\v3<v0.length)) <|
  sel (decide (97<=((UInt8.toNat (v0.getD v3.toNat (0:UInt8)):Nat):Int))) (
   sel (decide (((UInt8.toNat (v0.getD v3.toNat (0:UInt8)):Nat):Int)<=122)) (
    some (.inl (v0,(B3 (v3+1))))) (
    sel (decide (48<=((UInt8.toNat (v0.getD v3.toNat (0:UInt8)):Nat):Int))) (
     sel (decide (((UInt8.toNat (v0.getD v3.toNat (0:UInt8)):Nat):Int)<=57)) (
      some (.inl (v0,(B3 (v3+1))))) (
      sel (!(decide (((UInt8.toNat (v0.getD v3.toNat (0:UInt8)):Nat):Int)=45))) (
       some (.inr false)) (
       some (.inl (v0,(B3 (v3+1))))))) (
     sel (!(decide (((UInt8.toNat (v0.getD v3.toNat (0:UInt8)):Nat):Int)=45))) (
      some (.inr false)) (
      some (.inl (v0,(B3 (v3+1)))))))) (
   sel (decide (48<=((UInt8.toNat (v0.getD v3.toNat (0:UInt8)):Nat):Int))) (
    sel (decide (((UInt8.toNat (v0.getD v3.toNat (0:UInt8)):Nat):Int)<=57)) (
     some (.inl (v0,(B3 (v3+1))))) (
     sel (!(decide (((UInt8.toNat (v0.getD v3.toNat (0:UInt8)):Nat):Int)=45))) (
      some (.inr false)) (
      some (.inl (v0,(B3 (v3+1))))))) (
    sel (!(decide (((UInt8.toNat (v0.getD v3.toNat (0:UInt8)):Nat):Int)=45))) (
     some (.inr false)) (
     some (.inl (v0,(B3 (v3+1)))))))) (
  Option.map .inr (
   gp v0))
def kz(v0:List UInt8) (v3:Int):=
 F8 (λv=>X2 v.1 v.2) (v0,v3)
def R8(a0:List UInt8):Option (Bool):=
 kz a0 0
def dQ(v1:List UInt8) (v7:List o5) (v8 v9:Int):Option ((List UInt8×List o5×Int×Int)⊕(Int)):=
 sel (decide (v9<v8)) (
  chk (decide (0<=v9/\v9<v7.length)) <|
  sel (decide ((v7.getD v9.toNat A6).1=v1)) (
   some (.inr v9)) (
   some (.inl (v1,v7,v8,(B3 (v9+1)))))) (
  some (.inr (-1)))
def lY(v1:List UInt8) (v7:List o5) (v8 v9:Int):=
 F8 (λv=>dQ v.1 v.2.1 v.2.2.1 v.2.2.2) (v1,v7,v8,v9)
def W5(a0:List o5) (a1:List UInt8):Option (Int):=
 lY a1 a0 a0.length 0
def bc(v0:List o5) (v7:Int) (b0:o5):Option (List o5):=
 chk (decide ((0:Int)<=0/\0<=v7/\v7<=((v0.length:Nat):Int))) <|
 chk (decide ((0+(List.length (v0.take v7.toNat)))*32<=LIM/\0+(List.length (v0.take v7.toNat))<=LEN)) <|
 chk (decide (((List.length (v0.take v7.toNat))+1)*32<=LIM/\(List.length (v0.take v7.toNat))+1<=LEN)) <|
 chk (decide ((0:Int)<=v7/\v7<=((v0.length:Nat):Int)/\((v0.length:Nat):Int)<=((v0.length:Nat):Int))) <|
 chk (decide (((List.length ((v0.take v7.toNat)++([b0]:List o5)))+(List.length (List.drop v7.toNat (List.take (Int.toNat v0.length) v0))))*32<=LIM/\(List.length ((v0.take v7.toNat)++([b0]:List o5)))+(List.length (List.drop v7.toNat (List.take (Int.toNat v0.length) v0)))<=LEN)) <|
 some (((v0.take v7.toNat)++([b0]:List o5))++(List.drop v7.toNat (List.take (Int.toNat v0.length) v0)))
def eZ(v0:List o5) (v7:Int) (b0:o5):Option ((List o5×Int×o5)⊕(List o5)):=
 sel (decide (v7<v0.length)) (
  chk (decide (0<=v7/\v7<v0.length)) <|
  sel (Op.bytesLess (v0.getD v7.toNat A6).1 b0.1) (
   some (.inl (v0,(B3 (v7+1)),b0))) (
   Option.map .inr (
    bc v0 v7 b0))) (
  Option.map .inr (
   bc v0 v7 b0))
def mI(v0:List o5) (v7:Int) (b0:o5):=
 F8 (λv=>eZ v.1 v.2.1 v.2.2) (v0,v7,b0)
def bA(a0:List o5) (a1:o5):Option (List o5):=
 (W5 a0 a1.1).bind λr1=>
 sel (decide (0<=r1)) (
  chk (decide ((0+a0.length)*32<=LIM/\0+a0.length<=LEN)) <|
  chk (decide (0<=r1/\r1<a0.length)) <|
  chk (decide (r1.toNat<a0.length)) <|
  some (List.set a0 r1.toNat a1)) (
  mI a0 0 a1)
def gq(a0 a1:Int):Option (Int×Bool):=
 sel (decide ((D4 (18446744073709551615-a1))<a0)) (
  some (0,false)) (
  some ((D4 (a0+a1)),true))
def cN(v4:Int) (v12:List o5) (v13 v14:Int):Option ((Int×List o5×Int×Int)⊕(Int×Bool)):=
 sel (decide (v14<v13)) (
  chk (decide (0<=v14/\v14<v12.length)) <|
  (gq v4 (v12.getD v14.toNat A6).2.1).bind λr1=>
  sel (!r1.2) (
   some (.inr (0,false))) (
   some (.inl (r1.1,v12,v13,(B3 (v14+1)))))) (
  some (.inr (v4,true)))
def ly(v4:Int) (v12:List o5) (v13 v14:Int):=
 F8 (λv=>cN v.1 v.2.1 v.2.2.1 v.2.2.2) (v4,v12,v13,v14)
def ct(a0:o8):Option (Int×Bool):=
 ly a0.2 a0.1 a0.1.length 0
def fG(_b0:o8) (b1_1:Int) (l0:List o5):Option (o8×Int):=
 (ct (l0,b1_1)).bind λr1=>
 sel (!r1.2) (
  some (([],(0:Int)),6)) (
  some ((l0,b1_1),0))
def aS(v13:List o5) (v14 v15:Int) (b0:o8) (b1_1:Int) (l0:List o5):Option ((List o5×Int×Int×o8×Int×List o5)⊕(o8×Int)):=
 sel (decide (v15<v14)) (
  chk (decide (0<=v15/\v15<v13.length)) <|
  (R8 (v13.getD v15.toNat A6).1).bind λr2=>
  sel (!r2) (
   some (.inr (([],(0:Int)),10))) (
   (W5 l0 (v13.getD v15.toNat A6).1).bind λr3=>
   sel (decide (0<=r3)) (
    some (.inr (([],(0:Int)),8))) (
    (bA l0 (v13.getD v15.toNat A6)).bind λr4=>
    some (.inl (v13,v14,(B3 (v15+1)),b0,b1_1,r4))))) (
  Option.map .inr (
   fG b0 b1_1 l0))
def jZ(v13:List o5) (v14 v15:Int) (b0:o8) (b1_1:Int) (l0:List o5):=
 F8 (λv=>aS v.1 v.2.1 v.2.2.1 v.2.2.2.1 v.2.2.2.2.1 v.2.2.2.2.2) (v13,v14,v15,b0,b1_1,l0)
def dR(a0:List o5):Option (o8×Int):=
 sel (decide (256<((a0.length:Nat):Int))) (
  some (([],(0:Int)),3)) (
  jZ a0 a0.length 0 ([],(0:Int)) (0:Int) [])
def gU(a0:List o5) (a1:Int):Option (H6×Int):=
 (dR a0).bind λr1=>
 sel (!decide (r1.2=0)) (
  some ((([],(0:Int)),([],(0:Int)),([],(0:Int)),false,(0:Int)),r1.2)) (
  some ((r1.1,r1.1,([],(0:Int)),false,a1),0))
def cu(a0:C6) (a1:List o5):Option (A2×Int):=
 (V8 a0).bind λr1=>
 sel (!decide (r1=0)) (
  some ((((0:Int),(0:Int),(0:Int),(0:Int),(0:Int),(0:Int),false,(0:Int),(0:Int),(0:Int),(0:Int),(0:Int)),(([],(0:Int)),([],(0:Int)),([],(0:Int)),false,(0:Int)),(0:Int),(0:Int),(0:Int),[],[]),r1)) (
  (gU a1 a0.2.2.2.2.2.2.2.2.2.1).bind λr2=>
  sel (!decide (r2.2=0)) (
   some ((((0:Int),(0:Int),(0:Int),(0:Int),(0:Int),(0:Int),false,(0:Int),(0:Int),(0:Int),(0:Int),(0:Int)),(([],(0:Int)),([],(0:Int)),([],(0:Int)),false,(0:Int)),(0:Int),(0:Int),(0:Int),[],[]),r2.2)) (
   some ((a0,r2.1,(0:Int),(0:Int),(0:Int),[],[]),0)))
def K6(a0:List UInt8) (a1:Int):Option (Bool):=
 sel (decide (a1<a0.length)) (
  chk (decide (0<=a1/\a1<a0.length)) <|
  sel (decide (128<=((UInt8.toNat (a0.getD a1.toNat (0:UInt8)):Nat):Int))) (
   chk (decide (0<=a1/\a1<a0.length)) <|
   some (decide (((UInt8.toNat (a0.getD a1.toNat (0:UInt8)):Nat):Int)<192))) (
   some false)) (
  some false)
def J6(v0:List UInt8) (v1:Int) (v5:UInt8) (v64:Bool):Option (Int):=
 sel v64 (
  sel (decide (((UInt8.toNat v5:Nat):Int)=240)) (
   chk (decide (0<=(B3 (v1+1))/\(B3 (v1+1))<v0.length)) <|
   sel (decide (((UInt8.toNat (v0.getD (Int.toNat (B3 (v1+1))) (0:UInt8)):Nat):Int)<144)) (
    some 0) (
    sel (decide (((UInt8.toNat v5:Nat):Int)=244)) (
     chk (decide (0<=(B3 (v1+1))/\(B3 (v1+1))<v0.length)) <|
     sel (decide (144<=((UInt8.toNat (v0.getD (Int.toNat (B3 (v1+1))) (0:UInt8)):Nat):Int))) (
      some 0) (
      some 4)) (
     some 4))) (
   sel (decide (((UInt8.toNat v5:Nat):Int)=244)) (
    chk (decide (0<=(B3 (v1+1))/\(B3 (v1+1))<v0.length)) <|
    sel (decide (144<=((UInt8.toNat (v0.getD (Int.toNat (B3 (v1+1))) (0:UInt8)):Nat):Int))) (
     some 0) (
     some 4)) (
    some 4))) (
  some 0)
def L8(v0:List UInt8) (v1:Int) (v5:UInt8) (v25:Bool):Option (Int):=
 sel v25 (
  sel (decide (((UInt8.toNat v5:Nat):Int)=224)) (
   chk (decide (0<=(B3 (v1+1))/\(B3 (v1+1))<v0.length)) <|
   sel (decide (((UInt8.toNat (v0.getD (Int.toNat (B3 (v1+1))) (0:UInt8)):Nat):Int)<160)) (
    some 0) (
    sel (decide (((UInt8.toNat v5:Nat):Int)=237)) (
     chk (decide (0<=(B3 (v1+1))/\(B3 (v1+1))<v0.length)) <|
     sel (decide (160<=((UInt8.toNat (v0.getD (Int.toNat (B3 (v1+1))) (0:UInt8)):Nat):Int))) (
      some 0) (
      some 3)) (
     some 3))) (
   sel (decide (((UInt8.toNat v5:Nat):Int)=237)) (
    chk (decide (0<=(B3 (v1+1))/\(B3 (v1+1))<v0.length)) <|
    sel (decide (160<=((UInt8.toNat (v0.getD (Int.toNat (B3 (v1+1))) (0:UInt8)):Nat):Int))) (
     some 0) (
     some 3)) (
    some 3))) (
  sel (decide (240<=((UInt8.toNat v5:Nat):Int))) (
   sel (decide (((UInt8.toNat v5:Nat):Int)<245)) (
    (K6 v0 (B3 (v1+1))).bind λr1=>
    sel r1 (
     (K6 v0 (B3 (v1+2))).bind λr2=>
     sel r2 (
      (K6 v0 (B3 (v1+3))).bind λr3=>
      J6 v0 v1 v5 r3) (
      J6 v0 v1 v5 false)) (
     J6 v0 v1 v5 false)) (
    J6 v0 v1 v5 false)) (
   J6 v0 v1 v5 false))
def P3(v0:List UInt8) (v1:Int) (v5:UInt8) (v12:Bool):Option (Int):=
 sel v12 (
  some 2) (
  sel (decide (224<=((UInt8.toNat v5:Nat):Int))) (
   sel (decide (((UInt8.toNat v5:Nat):Int)<240)) (
    (K6 v0 (B3 (v1+1))).bind λr4=>
    sel r4 (
     (K6 v0 (B3 (v1+2))).bind λr5=>
     L8 v0 v1 v5 r5) (
     L8 v0 v1 v5 false)) (
    L8 v0 v1 v5 false)) (
   L8 v0 v1 v5 false))
def gV(a0:List UInt8) (a1:Int):Option (Int):=
 chk (decide (0<=a1/\a1<a0.length)) <|
 sel (decide (((UInt8.toNat (a0.getD a1.toNat (0:UInt8)):Nat):Int)<128)) (
  some 1) (
  sel (decide (194<=((UInt8.toNat (a0.getD a1.toNat (0:UInt8)):Nat):Int))) (
   sel (decide (((UInt8.toNat (a0.getD a1.toNat (0:UInt8)):Nat):Int)<224)) (
    (K6 a0 (B3 (a1+1))).bind λr6=>
    P3 a0 a1 (a0.getD a1.toNat (0:UInt8)) r6) (
    P3 a0 a1 (a0.getD a1.toNat (0:UInt8)) false)) (
   P3 a0 a1 (a0.getD a1.toNat (0:UInt8)) false))
def gW(v0:List UInt8) (v4 v5:Int):Option ((List UInt8×Int×Int)⊕(Int×Bool)):=
 sel (decide (v5<v0.length)) (
  (gV v0 v5).bind λr1=>
  sel (decide (r1=0)) (
   some (.inr (0,false))) (
   some (.inl (v0,(B3 (v4+1)),(B3 (v5+r1)))))) (
  some (.inr (v4,true)))
def lz(v0:List UInt8) (v4 v5:Int):=
 F8 (λv=>gW v.1 v.2.1 v.2.2) (v0,v4,v5)
def fQ(a0:List UInt8):Option (Int×Bool):=
 lz a0 0 0
def fa(a0:List UInt8):Option (Bool):=
 (fQ a0).bind λr1=>
 sel r1.2 (
  some (decide (r1.1<=64))) (
  some false)
def Y3(v31:List A0) (v32 v33:Int):Option ((List A0×Int×Int)⊕(Int)):=
 sel (decide (v33<v32)) (
  chk (decide (0<=v33/\v33<v31.length)) <|
  (R8 (v31.getD v33.toNat I1).1).bind λr3=>
  sel (!r3) (
   some (.inr 10)) (
   sel (decide ((v31.getD v33.toNat I1).2=0)) (
    some (.inr 12)) (
    some (.inl (v31,v32,(B3 (v33+1))))))) (
  some (.inr 0))
def ce(v31:List A0) (v32 v33:Int):=
 F8 (λv=>Y3 v.1 v.2.1 v.2.2) (v31,v32,v33)
def V5(a0:C2):Option (Int):=
 (R8 a0.1).bind λr1=>
 sel (!r1) (
  some 10) (
  sel (decide (a0.2.2.1=0)) (
   some 15) (
   (fa a0.2.2.2.2.1).bind λr2=>
   sel (!r2) (
    some 11) (
    sel (decide (((a0.2.2.2.2.2.length:Nat):Int)=0)) (
     some 3) (
     sel (decide (16<((a0.2.2.2.2.2.length:Nat):Int))) (
      some 3) (
      ce a0.2.2.2.2.2 a0.2.2.2.2.2.length 0)))))
def W6(a0:List A3) (a1:Int) (a2:List UInt8):Option (List A3):=
 sel (decide (a2=[])) (
  some a0) (
  chk (decide (a2.length<=maxLen)) <|
  chk (decide ((a0.length+1)*48<=LIM/\a0.length+1<=LEN)) <|
  some (a0++([(a1,2,(0:Int),a2)]:List A3)))
def M4(a0:List A3) (a1 a2:Int):Option (List A3):=
 sel (decide (a2=0)) (
  some a0) (
  chk (decide ((a0.length+1)*48<=LIM/\a0.length+1<=LEN)) <|
  some (a0++([(a1,0,a2,[])]:List A3)))
def W7(a0:A3):Option (Bool):=
 sel (decide (a0.1<1)) (
  some false) (
  sel (decide (536870911<a0.1)) (
   some false) (
   sel (decide (a0.2.1=0)) (
    sel (decide (((a0.2.2.2.length:Nat):Int)=0)) (
     some true) (
     sel (decide (a0.2.1=2)) (
      some (decide (a0.2.2.1=0))) (
      some false))) (
    sel (decide (a0.2.1=2)) (
     some (decide (a0.2.2.1=0))) (
     some false))))
def Y8(v1:Int) (l0:List UInt8):Option (List UInt8):=
 chk (decide ((0:Int)<=(wu8 v1)/\(wu8 v1)<256)) <|
 chk (decide ((l0.length+1)*1<=LIM/\l0.length+1<=LEN)) <|
 some (l0++[(UInt8.ofNat (Int.toNat (wu8 v1)))])
def Y9(v1:Int) (l0:List UInt8):Option ((Int×List UInt8)⊕(List UInt8)):=
 sel (decide (128<=v1)) (
  chk (decide ((0:Int)<=(bits .or .u8 (wu8 v1) 128)/\(bits .or .u8 (wu8 v1) 128)<256)) <|
  chk (decide ((l0.length+1)*1<=LIM/\l0.length+1<=LEN)) <|
  some (.inl ((v1 / 2^7),(l0++[(UInt8.ofNat (Int.toNat (bits .or .u8 (wu8 v1) 128)))])))) (
  Option.map .inr (
   Y8 v1 l0))
def bB(v1:Int) (l0:List UInt8):=
 F8 (λv=>Y9 v.1 v.2) (v1,l0)
def H9(a0:List UInt8) (a1:Int):Option (List UInt8):=
 chk (decide ((0+a0.length)*1<=LIM/\0+a0.length<=LEN)) <|
 bB a1 a0
def aL(a0:List UInt8) (a1:A3):Option (List UInt8×Int):=
 (W7 a1).bind λr1=>
 sel (!r1) (
  some ([],1)) (
  (H9 a0 (D4 ((D4 ((D4 a1.1)*8))+(D4 a1.2.1)))).bind λr2=>
  sel (decide (a1.2.1=0)) (
   (H9 r2 a1.2.2.1).bind λr3=>
   some (r3,0)) (
   (H9 r2 (D4 a1.2.2.2.length)).bind λr4=>
   chk (decide ((r4.length+a1.2.2.2.length)*1<=LIM/\r4.length+a1.2.2.2.length<=LEN)) <|
   some ((r4++a1.2.2.2),0)))
def Q3(v6:List A3) (v7 v8:Int) (l0:List UInt8):Option ((List A3×Int×Int×List UInt8)⊕(List UInt8)):=
 sel (decide (v8<v7)) (
  chk (decide (0<=v8/\v8<v6.length)) <|
  (aL l0 (v6.getD v8.toNat D6)).bind λr1=>
  some (.inl (v6,v7,(B3 (v8+1)),r1.1))) (
  some (.inr l0))
def fH(v6:List A3) (v7 v8:Int) (l0:List UInt8):=
 F8 (λv=>Q3 v.1 v.2.1 v.2.2.1 v.2.2.2) (v6,v7,v8,l0)
def E5(a0:List A3):Option (List UInt8):=
 fH a0 a0.length 0 []
def dS(v26:List A0) (v27 v28:Int) (l0:List A3):Option ((List A0×Int×Int×List A3)⊕(List UInt8)):=
 sel (decide (v28<v27)) (
  chk (decide (0<=v28/\v28<v26.length)) <|
  (W6 [] 1 (v26.getD v28.toNat I1).1).bind λr6=>
  (M4 r6 2 (v26.getD v28.toNat I1).2).bind λr7=>
  (E5 r7).bind λr8=>
  chk (decide ((l0.length+1)*48<=LIM/\l0.length+1<=LEN)) <|
  some (.inl (v26,v27,(B3 (v28+1)),(l0++([(6,2,(0:Int),r8)]:List A3))))) (
  Option.map .inr (
   (E5 l0).bind λr9=>
   some r9))
def lZ(v26:List A0) (v27 v28:Int) (l0:List A3):=
 F8 (λv=>dS v.1 v.2.1 v.2.2.1 v.2.2.2) (v26,v27,v28,l0)
def dx(a0:C2):Option (List UInt8):=
 (W6 [] 1 a0.1).bind λr1=>
 (M4 r1 2 a0.2.1).bind λr2=>
 (M4 r2 3 a0.2.2.1).bind λr3=>
 (M4 r3 4 a0.2.2.2.1).bind λr4=>
 (W6 r4 5 a0.2.2.2.2.1).bind λr5=>
 lZ a0.2.2.2.2.2 a0.2.2.2.2.2.length 0 r5
def Z0(a0:C2):Option (List UInt8×Int):=
 (V5 a0).bind λr1=>
 sel (!decide (r1=0)) (
  some ([],r1)) (
  (dx a0).bind λr2=>
  sel (decide (4096<((r2.length:Nat):Int))) (
   some ([],3)) (
   some (r2,0)))
def gr(a0:Int):Option (Int):=
 (H9 [] a0).bind λr1=>
 some r1.length
def S6(a0:Int):Option (Int):=
 sel (decide (a0<0)) (
  some 0) (
  (gr (D4 a0)).bind λr1=>
  some (B3 ((B3 (1+r1))+a0)))
def E2(a0 a1:Int):Option (Int):=
 chk (decide ((0:Int)<=a1)) <|
 chk (decide ((0:Int)<=(B3 (32-a1)))) <|
 some (bits .or .u32 (a0 / 2^(min a1.toNat 32)) (li (a0*2^(min (Int.toNat (B3 (32-a1))) 32))))
def gX:Option (Vector Int 64):=
 some (Vector.push (Vector.push (Vector.push (Vector.push (Vector.push (Vector.push (Vector.push (Vector.push (Vector.push (Vector.push (Vector.push (Vector.push (Vector.push (Vector.push (Vector.push (Vector.push (Vector.push (Vector.push (Vector.push (Vector.push (Vector.push (Vector.push (Vector.push (Vector.push (Vector.push (Vector.push (Vector.push (Vector.push (Vector.push (Vector.push (Vector.push (Vector.push (Vector.push (Vector.push (Vector.push (Vector.push (Vector.push (Vector.push (Vector.push (Vector.push (Vector.push (Vector.push (Vector.push (Vector.push (Vector.push (Vector.push (Vector.push (Vector.push (Vector.push (Vector.push (Vector.push (Vector.push (Vector.push (Vector.push (Vector.push (Vector.push (Vector.push (Vector.push (Vector.push (Vector.push (Vector.push (Vector.push (Vector.push (Vector.push #v[] 1116352408) 1899447441) 3049323471) 3921009573) 961987163) 1508970993) 2453635748) 2870763221) 3624381080) 310598401) 607225278) 1426881987) 1925078388) 2162078206) 2614888103) 3248222580) 3835390401) 4022224774) 264347078) 604807628) 770255983) 1249150122) 1555081692) 1996064986) 2554220882) 2821834349) 2952996808) 3210313671) 3336571891) 3584528711) 113926993) 338241895) 666307205) 773529912) 1294757372) 1396182291) 1695183700) 1986661051) 2177026350) 2456956037) 2730485921) 2820302411) 3259730800) 3345764771) 3516065817) 3600352804) 4094571909) 275423344) 430227734) 506948616) 659060556) 883997877) 958139571) 1322822218) 1537002063) 1747873779) 1955562222) 2024104815) 2227730452) 2361852424) 2428436474) 2756734187) 3204031479) 3329325298)
def iQ(v180:Int) (b0 b1 b2:Vector Int 8):Option ((Int×Vector Int 8×Vector Int 8×Vector Int 8)⊕(Vector Int 8)):=
 sel (decide (v180<8)) (
  chk (decide ((0:Int)<=v180/\v180<8)) <|
  chk (decide (v180.toNat<8)) <|
  chk (decide ((0:Int)<=v180/\v180<8)) <|
  chk (decide (v180.toNat<8)) <|
  chk (decide ((0:Int)<=v180/\v180<8)) <|
  chk (decide (v180.toNat<8)) <|
  some (.inl ((B3 (v180+1)),(ws b0 v180.toNat (li ((L0 b0 v180.toNat (0:Int))+(L0 b2 v180.toNat (0:Int))))),b1,b2))) (
  some (.inr b0))
def gY(v180:Int) (b0 b1 b2:Vector Int 8):=
 F8 (λv=>iQ v.1 v.2.1 v.2.2.1 v.2.2.2) (v180,b0,b1,b2)
def iR(b0 b1 b2:Vector Int 8):Option (Vector Int 8):=
 gY 0 b0 b1 b2
def dU(v12:Int) (b0 b1:Vector Int 8) (b2 b3:Vector Int 64) (b4:Vector Int 8):Option ((Int×Vector Int 8×Vector Int 8×Vector Int 64×Vector Int 64×Vector Int 8)⊕(Vector Int 8)):=
 sel (decide (v12<64)) (
  (E2 (L0 b4 4 (0:Int)) 6).bind λr2=>
  (E2 (L0 b4 4 (0:Int)) 11).bind λr3=>
  (E2 (L0 b4 4 (0:Int)) 25).bind λr4=>
  chk (decide ((0:Int)<=v12/\v12<64)) <|
  chk (decide (v12.toNat<64)) <|
  chk (decide ((0:Int)<=v12/\v12<64)) <|
  chk (decide (v12.toNat<64)) <|
  (E2 (L0 b4 0 (0:Int)) 2).bind λr5=>
  (E2 (L0 b4 0 (0:Int)) 13).bind λr6=>
  (E2 (L0 b4 0 (0:Int)) 22).bind λr7=>
  some (.inl ((B3 (v12+1)),b0,b1,b2,b3,(Vector.push (Vector.push (Vector.push (Vector.push (Vector.push (Vector.push (Vector.push (Vector.push #v[] (li ((li ((li ((li ((li ((L0 b4 7 (0:Int))+(bits .xor .u32 (bits .xor .u32 r2 r3) r4)))+(bits .xor .u32 (bits .and .u32 (L0 b4 4 (0:Int)) (L0 b4 5 (0:Int))) (bits .and .u32 (notI .u32 (L0 b4 4 (0:Int))) (L0 b4 6 (0:Int))))))+(L0 b3 v12.toNat (0:Int))))+(L0 b2 v12.toNat (0:Int))))+(li ((bits .xor .u32 (bits .xor .u32 r5 r6) r7)+(bits .xor .u32 (bits .xor .u32 (bits .and .u32 (L0 b4 0 (0:Int)) (L0 b4 1 (0:Int))) (bits .and .u32 (L0 b4 0 (0:Int)) (L0 b4 2 (0:Int)))) (bits .and .u32 (L0 b4 1 (0:Int)) (L0 b4 2 (0:Int))))))))) (L0 b4 0 (0:Int))) (L0 b4 1 (0:Int))) (L0 b4 2 (0:Int))) (li ((L0 b4 3 (0:Int))+(li ((li ((li ((li ((L0 b4 7 (0:Int))+(bits .xor .u32 (bits .xor .u32 r2 r3) r4)))+(bits .xor .u32 (bits .and .u32 (L0 b4 4 (0:Int)) (L0 b4 5 (0:Int))) (bits .and .u32 (notI .u32 (L0 b4 4 (0:Int))) (L0 b4 6 (0:Int))))))+(L0 b3 v12.toNat (0:Int))))+(L0 b2 v12.toNat (0:Int))))))) (L0 b4 4 (0:Int))) (L0 b4 5 (0:Int))) (L0 b4 6 (0:Int)))))) (
  Option.map .inr (
   iR b0 b1 b4))
def cO(v12:Int) (b0 b1:Vector Int 8) (b2 b3:Vector Int 64) (b4:Vector Int 8):=
 F8 (λv=>dU v.1 v.2.1 v.2.2.1 v.2.2.2.1 v.2.2.2.2.1 v.2.2.2.2.2) (v12,b0,b1,b2,b3,b4)
def au(b0 b1:Vector Int 8) (b2:Vector Int 64):Option (Vector Int 8):=
 (gX).bind λr1=>
 cO 0 b0 b1 b2 r1 b0
def dV(v7:Int) (b0 b1:Vector Int 8) (b2:Vector Int 64):Option ((Int×Vector Int 8×Vector Int 8×Vector Int 64)⊕(Vector Int 8)):=
 sel (decide (v7<64)) (
  chk (decide ((0:Int)<=(B3 (v7-15))/\(B3 (v7-15))<64)) <|
  chk (decide ((Int.toNat (B3 (v7-15)))<64)) <|
  chk (decide ((0:Int)<=(B3 (v7-2))/\(B3 (v7-2))<64)) <|
  chk (decide ((Int.toNat (B3 (v7-2)))<64)) <|
  (E2 (L0 b2 (Int.toNat (B3 (v7-2))) (0:Int)) 17).bind λr8=>
  (E2 (L0 b2 (Int.toNat (B3 (v7-2))) (0:Int)) 19).bind λr9=>
  chk (decide ((0:Int)<=(B3 (v7-7))/\(B3 (v7-7))<64)) <|
  chk (decide ((Int.toNat (B3 (v7-7)))<64)) <|
  (E2 (L0 b2 (Int.toNat (B3 (v7-15))) (0:Int)) 7).bind λr10=>
  (E2 (L0 b2 (Int.toNat (B3 (v7-15))) (0:Int)) 18).bind λr11=>
  chk (decide ((0:Int)<=(B3 (v7-16))/\(B3 (v7-16))<64)) <|
  chk (decide ((Int.toNat (B3 (v7-16)))<64)) <|
  chk (decide ((0:Int)<=v7/\v7<64)) <|
  chk (decide (v7.toNat<64)) <|
  some (.inl ((B3 (v7+1)),b0,b1,(ws b2 v7.toNat (li ((li ((li ((bits .xor .u32 (bits .xor .u32 r8 r9) ((L0 b2 (Int.toNat (B3 (v7-2))) (0:Int)) / 2^10))+(L0 b2 (Int.toNat (B3 (v7-7))) (0:Int))))+(bits .xor .u32 (bits .xor .u32 r10 r11) ((L0 b2 (Int.toNat (B3 (v7-15))) (0:Int)) / 2^3))))+(L0 b2 (Int.toNat (B3 (v7-16))) (0:Int)))))))) (
  Option.map .inr (
   au b0 b1 b2))
def gZ(v7:Int) (b0 b1:Vector Int 8) (b2:Vector Int 64):=
 F8 (λv=>dV v.1 v.2.1 v.2.2.1 v.2.2.2) (v7,b0,b1,b2)
def iS(b0 b1:Vector Int 8) (b2:Vector Int 64):Option (Vector Int 8):=
 gZ 16 b0 b1 b2
def dW(v1:List UInt8) (v6:Int) (b0 b1:Vector Int 8) (b2:Vector Int 64):Option ((List UInt8×Int×Vector Int 8×Vector Int 8×Vector Int 64)⊕(Vector Int 8)):=
 sel (decide (v6<16)) (
  chk (decide (0<=(B3 (4*v6))/\(B3 (4*v6))<v1.length)) <|
  chk (decide ((0:Int)<=(B3 ((B3 (4*v6))+1))/\(B3 ((B3 (4*v6))+1))<((v1.length:Nat):Int))) <|
  chk (decide ((0:Int)<=(B3 ((B3 (4*v6))+2))/\(B3 ((B3 (4*v6))+2))<((v1.length:Nat):Int))) <|
  chk (decide ((0:Int)<=(B3 ((B3 (4*v6))+3))/\(B3 ((B3 (4*v6))+3))<((v1.length:Nat):Int))) <|
  chk (decide ((0:Int)<=v6/\v6<64)) <|
  chk (decide (v6.toNat<64)) <|
  some (.inl (v1,(B3 (v6+1)),b0,b1,(ws b2 v6.toNat (bits .or .u32 (bits .or .u32 (bits .or .u32 (li ((li ((UInt8.toNat (v1.getD (Int.toNat (B3 (4*v6))) (0:UInt8)):Nat):Int))*2^24)) (li ((li ((UInt8.toNat (v1.getD (Int.toNat (B3 ((B3 (4*v6))+1))) (0:UInt8)):Nat):Int))*2^16))) (li ((li ((UInt8.toNat (v1.getD (Int.toNat (B3 ((B3 (4*v6))+2))) (0:UInt8)):Nat):Int))*2^8))) (li ((UInt8.toNat (v1.getD (Int.toNat (B3 ((B3 (4*v6))+3))) (0:UInt8)):Nat):Int))))))) (
  Option.map .inr (
   iS b0 b1 b2))
def hC(v1:List UInt8) (v6:Int) (b0 b1:Vector Int 8) (b2:Vector Int 64):=
 F8 (λv=>dW v.1 v.2.1 v.2.2.1 v.2.2.2.1 v.2.2.2.2) (v1,v6,b0,b1,b2)
def dy(a0:Vector Int 8) (a1:List UInt8):Option (Vector Int 8):=
 hC a1 0 a0 (Vector.replicate 8 (0:Int)) (Vector.replicate 64 (0:Int))
def kh(v52:Int) (b0:Vector UInt8 32) (b1:Vector Int 8) (b2:Vector UInt8 32):Option ((Int×Vector UInt8 32×Vector Int 8×Vector UInt8 32)⊕(Vector UInt8 32)):=
 sel (decide (v52<32)) (
  chk (decide ((0:Int)<=(B3 (Int.tdiv v52 4))/\(B3 (Int.tdiv v52 4))<8)) <|
  chk (decide ((Int.toNat (B3 (Int.tdiv v52 4)))<8)) <|
  chk (decide ((0:Int)<=(B3 (24-(B3 ((Int.tmod v52 4)*8)))))) <|
  chk (decide ((0:Int)<=v52/\v52<32)) <|
  chk (decide (v52.toNat<32)) <|
  chk (decide ((0:Int)<=(wu8 ((L0 b1 (Int.toNat (B3 (Int.tdiv v52 4))) (0:Int)) / 2^(min (Int.toNat (B3 (24-(B3 ((Int.tmod v52 4)*8))))) 32)))/\(wu8 ((L0 b1 (Int.toNat (B3 (Int.tdiv v52 4))) (0:Int)) / 2^(min (Int.toNat (B3 (24-(B3 ((Int.tmod v52 4)*8))))) 32)))<256)) <|
  some (.inl ((B3 (v52+1)),b0,b1,(ws b2 v52.toNat (UInt8.ofNat (Int.toNat (wu8 ((L0 b1 (Int.toNat (B3 (Int.tdiv v52 4))) (0:Int)) / 2^(min (Int.toNat (B3 (24-(B3 ((Int.tmod v52 4)*8))))) 32))))))))) (
  some (.inr b2))
def nC(v52:Int) (b0:Vector UInt8 32) (b1:Vector Int 8) (b2:Vector UInt8 32):=
 F8 (λv=>kh v.1 v.2.1 v.2.2.1 v.2.2.2) (v52,b0,b1,b2)
def cw(b0:Vector UInt8 32) (b1:Vector Int 8):Option (Vector UInt8 32):=
 nC 0 b0 b1 (Vector.replicate 32 (0:UInt8))
def ki(v7:Int) (b0:Vector UInt8 32) (b1:Vector Int 8) (l0:List UInt8):Option ((Int×Vector UInt8 32×Vector Int 8×List UInt8)⊕(Vector UInt8 32)):=
 sel (decide (v7<l0.length)) (
  chk (decide ((0:Int)<=v7/\v7<=(B3 (v7+64))/\(B3 (v7+64))<=((l0.length:Nat):Int))) <|
  (dy b1 (List.drop v7.toNat (List.take (Int.toNat (B3 (v7+64))) l0))).bind λr1=>
  some (.inl ((B3 (v7+64)),b0,r1,l0))) (
  Option.map .inr (
   cw b0 b1))
def jt(v7:Int) (b0:Vector UInt8 32) (b1:Vector Int 8) (l0:List UInt8):=
 F8 (λv=>ki v.1 v.2.1 v.2.2.1 v.2.2.2) (v7,b0,b1,l0)
def fR(b0:Vector UInt8 32) (l0:List UInt8):Option (Vector UInt8 32):=
 jt 0 b0 (Vector.push (Vector.push (Vector.push (Vector.push (Vector.push (Vector.push (Vector.push (Vector.push #v[] 1779033703) 3144134277) 1013904242) 2773480762) 1359893119) 2600822924) 528734635) 1541459225) l0
def kj(v4 v5:Int) (b0:Vector UInt8 32) (l0:List UInt8):Option ((Int×Int×Vector UInt8 32×List UInt8)⊕(Vector UInt8 32)):=
 sel (decide (0<=v5)) (
  chk (decide ((0:Int)<=(B3 (8*v5)))) <|
  chk (decide ((0:Int)<=(wu8 (v4 / 2^(min (Int.toNat (B3 (8*v5))) 64)))/\(wu8 (v4 / 2^(min (Int.toNat (B3 (8*v5))) 64)))<256)) <|
  chk (decide ((l0.length+1)*1<=LIM/\l0.length+1<=LEN)) <|
  some (.inl (v4,(B3 (v5-1)),b0,(l0++[(UInt8.ofNat (Int.toNat (wu8 (v4 / 2^(min (Int.toNat (B3 (8*v5))) 64)))))])))) (
  Option.map .inr (
   fR b0 l0))
def ju(v4 v5:Int) (b0:Vector UInt8 32) (l0:List UInt8):=
 F8 (λv=>kj v.1 v.2.1 v.2.2.1 v.2.2.2) (v4,v5,b0,l0)
def fS(v0:List UInt8) (b0:Vector UInt8 32) (l0:List UInt8):Option (Vector UInt8 32):=
 ju (D4 ((D4 v0.length)*8)) 7 b0 l0
def kl(v0:List UInt8) (b0:Vector UInt8 32) (l0:List UInt8):Option ((List UInt8×Vector UInt8 32×List UInt8)⊕(Vector UInt8 32)):=
 sel (!decide ((Int.tmod l0.length 64)=56)) (
  chk (decide ((l0.length+1)*1<=LIM/\l0.length+1<=LEN)) <|
  some (.inl (v0,b0,(l0++[(0:UInt8)])))) (
  Option.map .inr (
   fS v0 b0 l0))
def jv(v0:List UInt8) (b0:Vector UInt8 32) (l0:List UInt8):=
 F8 (λv=>kl v.1 v.2.1 v.2.2) (v0,b0,l0)
def H1(a0:List UInt8):Option (Vector UInt8 32):=
 chk (decide ((0+a0.length)*1<=LIM/\0+a0.length<=LEN)) <|
 chk (decide ((a0.length+1)*1<=LIM/\a0.length+1<=LEN)) <|
 jv a0 (Vector.replicate 32 (0:UInt8)) (a0++[(128:UInt8)])
def fT(v7:List o6) (v8 v9:Int) (b0:Vector UInt8 32):Option ((List o6×Int×Int×Vector UInt8 32)⊕(Int)):=
 sel (decide (v9<v8)) (
  chk (decide (0<=v9/\v9<v7.length)) <|
  sel (U.beq (.arr 32 .byte) (v7.getD v9.toNat B2).1 b0) (
   some (.inr v9)) (
   some (.inl (v7,v8,(B3 (v9+1)),b0)))) (
  some (.inr (-1)))
def nD(v7:List o6) (v8 v9:Int) (b0:Vector UInt8 32):=
 F8 (λv=>fT v.1 v.2.1 v.2.2.1 v.2.2.2) (v7,v8,v9,b0)
def S7(a0:List o6) (a1:Vector UInt8 32):Option (Int):=
 nD a0 a0.length 0 a1
def dX(v7:List (Vector UInt8 32)) (v8 v9:Int) (b0:Vector UInt8 32):Option ((List (Vector UInt8 32)×Int×Int×Vector UInt8 32)⊕(Int)):=
 sel (decide (v9<v8)) (
  chk (decide (0<=v9/\v9<v7.length)) <|
  sel (U.beq (.arr 32 .byte) (v7.getD v9.toNat (Vector.replicate 32 (0:UInt8))) b0) (
   some (.inr v9)) (
   some (.inl (v7,v8,(B3 (v9+1)),b0)))) (
  some (.inr (-1)))
def ma(v7:List (Vector UInt8 32)) (v8 v9:Int) (b0:Vector UInt8 32):=
 F8 (λv=>dX v.1 v.2.1 v.2.2.1 v.2.2.2) (v7,v8,v9,b0)
def aM(a0:List (Vector UInt8 32)) (a1:Vector UInt8 32):Option (Int):=
 ma a0 a0.length 0 a1
def O1(a0:List (Vector UInt8 32)) (a1:Vector UInt8 32):Option (Bool):=
 (aM a0 a1).bind λr1=>
 some (decide (0<=r1))
def jd(a0:List (Vector UInt8 32)) (a1:Int) (a2:Vector UInt8 32):Option (List (Vector UInt8 32)×Bool):=
 (aM a0 a2).bind λr1=>
 sel (decide (0<=r1)) (
  chk (decide ((0:Int)<=0/\0<=r1/\r1<=((a0.length:Nat):Int))) <|
  chk (decide ((0+(List.length (a0.take r1.toNat)))*32<=LIM/\0+(List.length (a0.take r1.toNat))<=LEN)) <|
  chk (decide ((0:Int)<=(B3 (r1+1))/\(B3 (r1+1))<=((a0.length:Nat):Int)/\((a0.length:Nat):Int)<=((a0.length:Nat):Int))) <|
  chk (decide (((List.length (a0.take r1.toNat))+(List.length (List.drop (Int.toNat (B3 (r1+1))) (List.take (Int.toNat a0.length) a0))))*32<=LIM/\(List.length (a0.take r1.toNat))+(List.length (List.drop (Int.toNat (B3 (r1+1))) (List.take (Int.toNat a0.length) a0)))<=LEN)) <|
  chk (decide (((List.length ((a0.take r1.toNat)++(List.drop (Int.toNat (B3 (r1+1))) (List.take (Int.toNat a0.length) a0))))+1)*32<=LIM/\(List.length ((a0.take r1.toNat)++(List.drop (Int.toNat (B3 (r1+1))) (List.take (Int.toNat a0.length) a0))))+1<=LEN)) <|
  some ((((a0.take r1.toNat)++(List.drop (Int.toNat (B3 (r1+1))) (List.take (Int.toNat a0.length) a0)))++[a2]),false)) (
  chk (decide ((0+a0.length)*32<=LIM/\0+a0.length<=LEN)) <|
  chk (decide ((a0.length+1)*32<=LIM/\a0.length+1<=LEN)) <|
  sel (decide ((max 0 (min a1 1024))<(((List.length (a0++[a2])):Nat):Int))) (
   chk (decide ((0:Int)<=1/\1<=(((List.length (a0++[a2])):Nat):Int)/\(((List.length (a0++[a2])):Nat):Int)<=(((List.length (a0++[a2])):Nat):Int))) <|
   some ((List.drop 1 (List.take (Int.toNat (((List.length (a0++[a2])):Nat):Int)) (a0++[a2]))),true)) (
   some ((a0++[a2]),true)))
def W8(a0:A2) (a1:Vector UInt8 32):Option (A2):=
 (jd a0.2.2.2.2.2.2 a0.1.2.2.2.1 a1).bind λr1=>
 some (a0.1,a0.2.1,a0.2.2.1,a0.2.2.2.1,a0.2.2.2.2.1,a0.2.2.2.2.2.1,r1.1)
def bd(a0:Int):Option (Bool):=
 sel (decide (1<=a0)) (
  some (decide (a0<=15))) (
  some false)
def cP(v1:Int) (v7:List Int) (v8 v9:Int):Option ((Int×List Int×Int×Int)⊕(Bool)):=
 sel (decide (v9<v8)) (
  chk (decide (0<=v9/\v9<v7.length)) <|
  sel (decide ((v7.getD v9.toNat (0:Int))=v1)) (
   some (.inr true)) (
   some (.inl (v1,v7,v8,(B3 (v9+1)))))) (
  some (.inr false))
def lA(v1:Int) (v7:List Int) (v8 v9:Int):=
 F8 (λv=>cP v.1 v.2.1 v.2.2.1 v.2.2.2) (v1,v7,v8,v9)
def cx(a0:List Int) (a1:Int):Option (Bool):=
 lA a1 a0 a0.length 0
def hH(a0:A2) (a1 a2:Int):Option (A2):=
 sel (decide (a1<0)) (
  some a0) (
  (bd a2).bind λr1=>
  sel (!r1) (
   some a0) (
   chk (decide (0<=a1/\a1<a0.2.2.2.2.2.1.length)) <|
   (cx (a0.2.2.2.2.2.1.getD a1.toNat B2).2.2.2.2.2.2.2.2.2 a2).bind λr2=>
   sel r2 (
    some a0) (
    chk (decide ((0+a0.2.2.2.2.2.1.length)*144<=LIM/\0+a0.2.2.2.2.2.1.length<=LEN)) <|
    chk (decide (0<=a1/\a1<a0.2.2.2.2.2.1.length)) <|
    chk (decide (a1.toNat<a0.2.2.2.2.2.1.length)) <|
    chk (decide ((0+(List.length (a0.2.2.2.2.2.1.getD a1.toNat B2).2.2.2.2.2.2.2.2.2))*8<=LIM/\0+(List.length (a0.2.2.2.2.2.1.getD a1.toNat B2).2.2.2.2.2.2.2.2.2)<=LEN)) <|
    chk (decide (((List.length (a0.2.2.2.2.2.1.getD a1.toNat B2).2.2.2.2.2.2.2.2.2)+1)*8<=LIM/\(List.length (a0.2.2.2.2.2.1.getD a1.toNat B2).2.2.2.2.2.2.2.2.2)+1<=LEN)) <|
    chk (decide (0<=a1/\a1<a0.2.2.2.2.2.1.length)) <|
    chk (decide (a1.toNat<a0.2.2.2.2.2.1.length)) <|
    some (a0.1,a0.2.1,a0.2.2.1,a0.2.2.2.1,a0.2.2.2.2.1,(List.set a0.2.2.2.2.2.1 a1.toNat ((a0.2.2.2.2.2.1.getD a1.toNat B2).1,(a0.2.2.2.2.2.1.getD a1.toNat B2).2.1,(a0.2.2.2.2.2.1.getD a1.toNat B2).2.2.1,(a0.2.2.2.2.2.1.getD a1.toNat B2).2.2.2.1,(a0.2.2.2.2.2.1.getD a1.toNat B2).2.2.2.2.1,(a0.2.2.2.2.2.1.getD a1.toNat B2).2.2.2.2.2.1,(a0.2.2.2.2.2.1.getD a1.toNat B2).2.2.2.2.2.2.1,(a0.2.2.2.2.2.1.getD a1.toNat B2).2.2.2.2.2.2.2.1,(a0.2.2.2.2.2.1.getD a1.toNat B2).2.2.2.2.2.2.2.2.1,((a0.2.2.2.2.2.1.getD a1.toNat B2).2.2.2.2.2.2.2.2.2++[a2]))),a0.2.2.2.2.2.2))))
def ai(b0:o8):Option (Int):=
 (ct b0).bind λr1=>
 sel (!r1.2) (
  some 6) (
  some 0)
def L6(v3:Int) (v12:List o5) (v13 v14:Int) (b0:o8) (b1:o5):Option ((List o5×Int×Int×o8)⊕(Int)):=
 sel (decide (0<v3)) (
  chk (decide (0<=(B3 (v3-1))/\(B3 (v3-1))<b0.1.length)) <|
  sel (!(Op.bytesLess (b0.1.getD (Int.toNat (B3 (v3-1))) A6).1 b1.1||decide ((b0.1.getD (Int.toNat (B3 (v3-1))) A6).1=b1.1))) (
   some (.inr 1)) (
   some (.inl (v12,v13,(B3 (v14+1)),b0)))) (
  some (.inl (v12,v13,(B3 (v14+1)),b0)))
def R5(v12:List o5) (v13 v14:Int) (b0:o8):Option ((List o5×Int×Int×o8)⊕(Int)):=
 sel (decide (v14<v13)) (
  chk (decide (0<=v14/\v14<v12.length)) <|
  (R8 (v12.getD v14.toNat A6).1).bind λr2=>
  sel (!r2) (
   some (.inr 10)) (
   sel (decide (0<v14)) (
    chk (decide (0<=(B3 (v14-1))/\(B3 (v14-1))<b0.1.length)) <|
    sel (decide ((b0.1.getD (Int.toNat (B3 (v14-1))) A6).1=(v12.getD v14.toNat A6).1)) (
     some (.inr 8)) (
     L6 v14 v12 v13 v14 b0 (v12.getD v14.toNat A6))) (
    L6 v14 v12 v13 v14 b0 (v12.getD v14.toNat A6)))) (
  Option.map .inr (
   ai b0))
def fc(v12:List o5) (v13 v14:Int) (b0:o8):=
 F8 (λv=>R5 v.1 v.2.1 v.2.2.1 v.2.2.2) (v12,v13,v14,b0)
def V9(a0:o8):Option (Int):=
 sel (decide (256<((a0.1.length:Nat):Int))) (
  some 3) (
  fc a0.1 a0.1.length 0 a0)
def R9(v0:List UInt8) (v5 v6:Int):Option ((List UInt8×Int×Int)⊕(Int×Int×Int)):=
 chk (decide (0<=v6/\v6<v0.length)) <|
 chk (decide ((0:Int)<=(B3 (7*v6)))) <|
 chk (decide (0<=v6/\v6<v0.length)) <|
 sel (decide (((UInt8.toNat (v0.getD v6.toNat (0:UInt8)):Nat):Int)<128)) (
  some (.inr ((bits .or .u64 v5 (D4 ((D4 (bits .and .u8 ((UInt8.toNat (v0.getD v6.toNat (0:UInt8)):Nat):Int) 127))*2^(min (Int.toNat (B3 (7*v6))) 64)))),(B3 (v6+1)),0))) (
  some (.inl (v0,(bits .or .u64 v5 (D4 ((D4 (bits .and .u8 ((UInt8.toNat (v0.getD v6.toNat (0:UInt8)):Nat):Int) 127))*2^(min (Int.toNat (B3 (7*v6))) 64)))),(B3 (v6+1)))))
def S0(v0:List UInt8) (v5 v6:Int) (v14:Bool):Option ((List UInt8×Int×Int)⊕(Int×Int×Int)):=
 sel v14 (
  some (.inr (0,0,6))) (
  sel (decide (0<v6)) (
   chk (decide (0<=v6/\v6<v0.length)) <|
   sel (decide (((UInt8.toNat (v0.getD v6.toNat (0:UInt8)):Nat):Int)=0)) (
    some (.inr (0,0,4))) (
    R9 v0 v5 v6)) (
   R9 v0 v5 v6))
def be(v0:List UInt8) (v5 v6:Int):Option ((List UInt8×Int×Int)⊕(Int×Int×Int)):=
 sel (decide (((v0.length:Nat):Int)<=v6)) (
  some (.inr (0,0,5))) (
  sel (decide (v6=9)) (
   chk (decide (0<=v6/\v6<v0.length)) <|
   S0 v0 v5 v6 (decide (1<((UInt8.toNat (v0.getD v6.toNat (0:UInt8)):Nat):Int)))) (
   S0 v0 v5 v6 false))
def iT(v0:List UInt8) (v5 v6:Int):=
 F8 (λv=>be v.1 v.2.1 v.2.2) (v0,v5,v6)
def P6(a0:List UInt8):Option (Int×Int×Int):=
 iT a0 0 0
def aa(v0:List UInt8) (v5 v6 v8:Int) (_b0:A3):Option (A3×Int×Int):=
 chk (decide ((0:Int)<=v6/\v6<=((v0.length:Nat):Int)/\((v0.length:Nat):Int)<=((v0.length:Nat):Int))) <|
 (P6 (List.drop v6.toNat (List.take (Int.toNat v0.length) v0))).bind λr2=>
 sel (!decide (r2.2.2=0)) (
  some (((0:Int),(0:Int),(0:Int),[]),0,r2.2.2)) (
  sel (decide (v8=0)) (
   some (((B3 (D4 (Int.tdiv v5 8))),v8,r2.1,[]),(B3 (v6+r2.2.1)),0)) (
   sel (decide ((D4 (B3 ((B3 (((v0.length:Nat):Int)-v6))-r2.2.1)))<r2.1)) (
    some (((0:Int),(0:Int),(0:Int),[]),0,5)) (
    chk (decide ((0:Int)<=(B3 (v6+r2.2.1))/\(B3 (v6+r2.2.1))<=(B3 ((B3 (v6+r2.2.1))+(B3 r2.1)))/\(B3 ((B3 (v6+r2.2.1))+(B3 r2.1)))<=((v0.length:Nat):Int))) <|
    chk (decide ((0+(List.length (List.drop (Int.toNat (B3 (v6+r2.2.1))) (List.take (Int.toNat (B3 ((B3 (v6+r2.2.1))+(B3 r2.1)))) v0))))*1<=LIM/\0+(List.length (List.drop (Int.toNat (B3 (v6+r2.2.1))) (List.take (Int.toNat (B3 ((B3 (v6+r2.2.1))+(B3 r2.1)))) v0)))<=LEN)) <|
    some (((B3 (D4 (Int.tdiv v5 8))),v8,(0:Int),(List.drop (Int.toNat (B3 (v6+r2.2.1))) (List.take (Int.toNat (B3 ((B3 (v6+r2.2.1))+(B3 r2.1)))) v0))),(B3 ((B3 (v6+r2.2.1))+(B3 r2.1))),0))))
def gt(a0:List UInt8):Option (A3×Int×Int):=
 (P6 a0).bind λr1=>
 sel (!decide (r1.2.2=0)) (
  some (((0:Int),(0:Int),(0:Int),[]),0,r1.2.2)) (
  sel (decide ((D4 (Int.tdiv r1.1 8))<1)) (
   some (((0:Int),(0:Int),(0:Int),[]),0,4)) (
   sel (decide (536870911<(D4 (Int.tdiv r1.1 8)))) (
    some (((0:Int),(0:Int),(0:Int),[]),0,4)) (
    sel (!decide ((B3 (Int.tmod r1.1 8))=0)) (
     sel (!decide ((B3 (Int.tmod r1.1 8))=2)) (
      some (((0:Int),(0:Int),(0:Int),[]),0,4)) (
      aa a0 r1.1 r1.2.1 (B3 (Int.tmod r1.1 8)) ((0:Int),(0:Int),(0:Int),[]))) (
     aa a0 r1.1 r1.2.1 (B3 (Int.tmod r1.1 8)) ((0:Int),(0:Int),(0:Int),[])))))
def cQ(l0:List A3):Option (List A3×Int×Int):=
 some (l0,0,0)
def J3(v0:List UInt8) (v6:Int) (l0:List A3):Option ((List UInt8×Int×List A3)⊕(List A3×Int×Int)):=
 sel (decide (v6<v0.length)) (
  sel (decide (1024<=((l0.length:Nat):Int))) (
   some (.inr ([],v6,3))) (
   chk (decide ((0:Int)<=v6/\v6<=((v0.length:Nat):Int)/\((v0.length:Nat):Int)<=((v0.length:Nat):Int))) <|
   (gt (List.drop v6.toNat (List.take (Int.toNat v0.length) v0))).bind λr1=>
   sel (!decide (r1.2.2=0)) (
    some (.inr ([],v6,r1.2.2))) (
    chk (decide ((l0.length+1)*48<=LIM/\l0.length+1<=LEN)) <|
    some (.inl (v0,(B3 (v6+r1.2.1)),(l0++([r1.1]:List A3))))))) (
  Option.map .inr (
   cQ l0))
def gu(v0:List UInt8) (v6:Int) (l0:List A3):=
 F8 (λv=>J3 v.1 v.2.1 v.2.2) (v0,v6,l0)
def K3(a0:List UInt8):Option (List A3×Int×Int):=
 gu a0 0 []
def G8(a0 a1:List UInt8):Option (Bool):=
 some (decide (a0=a1))
def eQ(v0:List UInt8) (v6:Int) (_b0 b1:A0):Option (A0×Bool):=
 sel (decide (v6=0)) (
  (W6 [] 1 b1.1).bind λr2=>
  (M4 r2 2 b1.2).bind λr3=>
  (E5 r3).bind λr4=>
  (G8 r4 v0).bind λr5=>
  some (b1,r5)) (
  some (b1,false))
def ak(v0:List UInt8) (v6 v17 v18:Int) (v36:Bool) (b0 b1:A0) (b2:A3) (l0:List A3):Option ((List UInt8×Int×Int×Int×A0×A0×List A3)⊕(A0×Bool)):=
 sel v36 (
  some (.inl (v0,v6,v17,(B3 (v18+1)),b0,(b1.1,b2.2.2.1),l0))) (
  some (.inr (b1,false)))
def al(v0:List UInt8) (v6 v17 v18:Int) (v23:Bool) (b0 b1:A0) (b2:A3) (l0:List A3):Option ((List UInt8×Int×Int×Int×A0×A0×List A3)⊕(A0×Bool)):=
 sel v23 (
  some (.inl (v0,v6,v17,(B3 (v18+1)),b0,(b2.2.2.2,b1.2),l0))) (
  sel (decide (b2.1=2)) (
   ak v0 v6 v17 v18 (decide (b2.2.1=0)) b0 b1 b2 l0) (
   ak v0 v6 v17 v18 false b0 b1 b2 l0))
def am(v0:List UInt8) (v6 v17 v18:Int) (b0 b1:A0) (l0:List A3):Option ((List UInt8×Int×Int×Int×A0×A0×List A3)⊕(A0×Bool)):=
 sel (decide (v18<v17)) (
  chk (decide (0<=v18/\v18<l0.length)) <|
  chk (decide (v18.toNat<l0.length)) <|
  sel (decide ((l0.getD v18.toNat D6).1=1)) (
   al v0 v6 v17 v18 (decide ((l0.getD v18.toNat D6).2.1=2)) b0 b1 (l0.getD v18.toNat D6) l0) (
   al v0 v6 v17 v18 false b0 b1 (l0.getD v18.toNat D6) l0)) (
  Option.map .inr (
   eQ v0 v6 b0 b1))
def jw(v0:List UInt8) (v6 v17 v18:Int) (b0 b1:A0) (l0:List A3):=
 F8 (λv=>am v.1 v.2.1 v.2.2.1 v.2.2.2.1 v.2.2.2.2.1 v.2.2.2.2.2.1 v.2.2.2.2.2.2) (v0,v6,v17,v18,b0,b1,l0)
def cR(a0:List UInt8):Option (A0×Bool):=
 (K3 a0).bind λr1=>
 jw a0 r1.2.2 r1.1.length 0 ([],(0:Int)) ([],(0:Int)) r1.1
def aw(v9:List A3) (v10 v11:Int) (v78:Bool) (b0_0:List UInt8) (b0_1 b0_2 b0_3:Int) (b0_4 b1_0:List UInt8) (b1_1 b1_2 b1_3:Int) (b1_4:List UInt8) (b2:A3) (l0:List A0):Option ((List A3×Int×Int×List UInt8×Int×Int×Int×List UInt8×List UInt8×Int×Int×Int×List UInt8×List A0)⊕(C2×Bool)):=
 sel v78 (
  (cR b2.2.2.2).bind λr1=>
  sel (!r1.2) (
   some (.inr ((b1_0,b1_1,b1_2,b1_3,b1_4,l0),false))) (
   chk (decide ((l0.length+1)*24<=LIM/\l0.length+1<=LEN)) <|
   some (.inl (v9,v10,(B3 (v11+1)),b0_0,b0_1,b0_2,b0_3,b0_4,b1_0,b1_1,b1_2,b1_3,b1_4,(l0++([r1.1]:List A0)))))) (
  some (.inr ((b1_0,b1_1,b1_2,b1_3,b1_4,l0),false)))
def ay(v9:List A3) (v10 v11:Int) (v65:Bool) (b0_0:List UInt8) (b0_1 b0_2 b0_3:Int) (b0_4 b1_0:List UInt8) (b1_1 b1_2 b1_3:Int) (b1_4:List UInt8) (b2:A3) (l0:List A0):Option ((List A3×Int×Int×List UInt8×Int×Int×Int×List UInt8×List UInt8×Int×Int×Int×List UInt8×List A0)⊕(C2×Bool)):=
 sel v65 (
  some (.inl (v9,v10,(B3 (v11+1)),b0_0,b0_1,b0_2,b0_3,b0_4,b1_0,b1_1,b1_2,b1_3,b2.2.2.2,l0))) (
  sel (decide (b2.1=6)) (
   aw v9 v10 v11 (decide (b2.2.1=2)) b0_0 b0_1 b0_2 b0_3 b0_4 b1_0 b1_1 b1_2 b1_3 b1_4 b2 l0) (
   aw v9 v10 v11 false b0_0 b0_1 b0_2 b0_3 b0_4 b1_0 b1_1 b1_2 b1_3 b1_4 b2 l0))
def az(v9:List A3) (v10 v11:Int) (v53:Bool) (b0_0:List UInt8) (b0_1 b0_2 b0_3:Int) (b0_4 b1_0:List UInt8) (b1_1 b1_2 b1_3:Int) (b1_4:List UInt8) (b2:A3) (l0:List A0):Option ((List A3×Int×Int×List UInt8×Int×Int×Int×List UInt8×List UInt8×Int×Int×Int×List UInt8×List A0)⊕(C2×Bool)):=
 sel v53 (
  some (.inl (v9,v10,(B3 (v11+1)),b0_0,b0_1,b0_2,b0_3,b0_4,b1_0,b1_1,b1_2,b2.2.2.1,b1_4,l0))) (
  sel (decide (b2.1=5)) (
   ay v9 v10 v11 (decide (b2.2.1=2)) b0_0 b0_1 b0_2 b0_3 b0_4 b1_0 b1_1 b1_2 b1_3 b1_4 b2 l0) (
   ay v9 v10 v11 false b0_0 b0_1 b0_2 b0_3 b0_4 b1_0 b1_1 b1_2 b1_3 b1_4 b2 l0))
def aA(v9:List A3) (v10 v11:Int) (v41:Bool) (b0_0:List UInt8) (b0_1 b0_2 b0_3:Int) (b0_4 b1_0:List UInt8) (b1_1 b1_2 b1_3:Int) (b1_4:List UInt8) (b2:A3) (l0:List A0):Option ((List A3×Int×Int×List UInt8×Int×Int×Int×List UInt8×List UInt8×Int×Int×Int×List UInt8×List A0)⊕(C2×Bool)):=
 sel v41 (
  some (.inl (v9,v10,(B3 (v11+1)),b0_0,b0_1,b0_2,b0_3,b0_4,b1_0,b1_1,b2.2.2.1,b1_3,b1_4,l0))) (
  sel (decide (b2.1=4)) (
   az v9 v10 v11 (decide (b2.2.1=0)) b0_0 b0_1 b0_2 b0_3 b0_4 b1_0 b1_1 b1_2 b1_3 b1_4 b2 l0) (
   az v9 v10 v11 false b0_0 b0_1 b0_2 b0_3 b0_4 b1_0 b1_1 b1_2 b1_3 b1_4 b2 l0))
def aB(v9:List A3) (v10 v11:Int) (v29:Bool) (b0_0:List UInt8) (b0_1 b0_2 b0_3:Int) (b0_4 b1_0:List UInt8) (b1_1 b1_2 b1_3:Int) (b1_4:List UInt8) (b2:A3) (l0:List A0):Option ((List A3×Int×Int×List UInt8×Int×Int×Int×List UInt8×List UInt8×Int×Int×Int×List UInt8×List A0)⊕(C2×Bool)):=
 sel v29 (
  some (.inl (v9,v10,(B3 (v11+1)),b0_0,b0_1,b0_2,b0_3,b0_4,b1_0,b2.2.2.1,b1_2,b1_3,b1_4,l0))) (
  sel (decide (b2.1=3)) (
   aA v9 v10 v11 (decide (b2.2.1=0)) b0_0 b0_1 b0_2 b0_3 b0_4 b1_0 b1_1 b1_2 b1_3 b1_4 b2 l0) (
   aA v9 v10 v11 false b0_0 b0_1 b0_2 b0_3 b0_4 b1_0 b1_1 b1_2 b1_3 b1_4 b2 l0))
def aC(v9:List A3) (v10 v11:Int) (v16:Bool) (b0_0:List UInt8) (b0_1 b0_2 b0_3:Int) (b0_4 b1_0:List UInt8) (b1_1 b1_2 b1_3:Int) (b1_4:List UInt8) (b2:A3) (l0:List A0):Option ((List A3×Int×Int×List UInt8×Int×Int×Int×List UInt8×List UInt8×Int×Int×Int×List UInt8×List A0)⊕(C2×Bool)):=
 sel v16 (
  some (.inl (v9,v10,(B3 (v11+1)),b0_0,b0_1,b0_2,b0_3,b0_4,b2.2.2.2,b1_1,b1_2,b1_3,b1_4,l0))) (
  sel (decide (b2.1=2)) (
   aB v9 v10 v11 (decide (b2.2.1=0)) b0_0 b0_1 b0_2 b0_3 b0_4 b1_0 b1_1 b1_2 b1_3 b1_4 b2 l0) (
   aB v9 v10 v11 false b0_0 b0_1 b0_2 b0_3 b0_4 b1_0 b1_1 b1_2 b1_3 b1_4 b2 l0))
def aD(v9:List A3) (v10 v11:Int) (b0_0:List UInt8) (b0_1 b0_2 b0_3:Int) (b0_4 b1_0:List UInt8) (b1_1 b1_2 b1_3:Int) (b1_4:List UInt8) (l0:List A0):Option ((List A3×Int×Int×List UInt8×Int×Int×Int×List UInt8×List UInt8×Int×Int×Int×List UInt8×List A0)⊕(C2×Bool)):=
 sel (decide (v11<v10)) (
  chk (decide (0<=v11/\v11<v9.length)) <|
  sel (decide ((v9.getD v11.toNat D6).1=1)) (
   aC v9 v10 v11 (decide ((v9.getD v11.toNat D6).2.1=2)) b0_0 b0_1 b0_2 b0_3 b0_4 b1_0 b1_1 b1_2 b1_3 b1_4 (v9.getD v11.toNat D6) l0) (
   aC v9 v10 v11 false b0_0 b0_1 b0_2 b0_3 b0_4 b1_0 b1_1 b1_2 b1_3 b1_4 (v9.getD v11.toNat D6) l0)) (
  some (.inr ((b1_0,b1_1,b1_2,b1_3,b1_4,l0),true)))
def mc(v9:List A3) (v10 v11:Int) (b0_0:List UInt8) (b0_1 b0_2 b0_3:Int) (b0_4 b1_0:List UInt8) (b1_1 b1_2 b1_3:Int) (b1_4:List UInt8) (l0:List A0):=
 F8 (λv=>aD v.1 v.2.1 v.2.2.1 v.2.2.2.1 v.2.2.2.2.1 v.2.2.2.2.2.1 v.2.2.2.2.2.2.1 v.2.2.2.2.2.2.2.1 v.2.2.2.2.2.2.2.2.1 v.2.2.2.2.2.2.2.2.2.1 v.2.2.2.2.2.2.2.2.2.2.1 v.2.2.2.2.2.2.2.2.2.2.2.1 v.2.2.2.2.2.2.2.2.2.2.2.2.1 v.2.2.2.2.2.2.2.2.2.2.2.2.2) (v9,v10,v11,b0_0,b0_1,b0_2,b0_3,b0_4,b1_0,b1_1,b1_2,b1_3,b1_4,l0)
def ia(a0:List A3):Option (C2×Bool):=
 mc a0 a0.length 0 [] (0:Int) (0:Int) (0:Int) [] [] (0:Int) (0:Int) (0:Int) [] []
def S8(a0:List UInt8):Option (C2×Int):=
 sel (decide (4096<((a0.length:Nat):Int))) (
  some (([],(0:Int),(0:Int),(0:Int),[],[]),3)) (
  (K3 a0).bind λr1=>
  (ia r1.1).bind λr2=>
  sel (!decide (r1.2.2=0)) (
   some (([],(0:Int),(0:Int),(0:Int),[],[]),4)) (
   sel (!r2.2) (
    some (([],(0:Int),(0:Int),(0:Int),[],[]),4)) (
    (dx r2.1).bind λr3=>
    (G8 r3 a0).bind λr4=>
    sel (!r4) (
     some (([],(0:Int),(0:Int),(0:Int),[],[]),4)) (
     (V5 r2.1).bind λr5=>
     sel (!decide (r5=0)) (
      some (([],(0:Int),(0:Int),(0:Int),[],[]),r5)) (
      some (r2.1,0))))))
def fd(a0:o8) (a1:List UInt8):Option (o5×Bool):=
 (W5 a0.1 a1).bind λr1=>
 sel (decide (0<=r1)) (
  chk (decide (0<=r1/\r1<a0.1.length)) <|
  some ((a0.1.getD r1.toNat A6),true)) (
  some (([],(0:Int),(0:Int)),false))
def aE(a0:Int):Option (Int):=
 some (D4 (max 0 (min a0 1073741824)))
def ib(a0 a1:Int):Option (Int):=
 (aE a0).bind λr1=>
 (aE a1).bind λr2=>
 some (D4 ((D4 (50+(D4 (1*r1))))+(D4 (20*r2))))
def jN(a0 a1:Int):Option (Int×Bool):=
 sel (!decide (a0=0)) (
  chk (!decide (a0=0)) <|
  sel (decide ((D4 (Int.tdiv 18446744073709551615 a0))<a1)) (
   some (0,false)) (
   some ((D4 (a0*a1)),true))) (
  some ((D4 (a0*a1)),true))
def ic(a0 a1:Int):Option (Int×Bool):=
 (jN a0 a1).bind λr1=>
 some (r1.1,r1.2)
def fU(v4:Int) (v9:List Int) (v10 v11:Int):Option ((Int×List Int×Int×Int)⊕(Int×Bool)):=
 sel (decide (v11<v10)) (
  chk (decide (0<=v11/\v11<v9.length)) <|
  (gq v4 (v9.getD v11.toNat (0:Int))).bind λr1=>
  sel (!r1.2) (
   some (.inr (0,false))) (
   some (.inl (r1.1,v9,v10,(B3 (v11+1)))))) (
  some (.inr (v4,true)))
def nE(v4:Int) (v9:List Int) (v10 v11:Int):=
 F8 (λv=>fU v.1 v.2.1 v.2.2.1 v.2.2.2) (v4,v9,v10,v11)
def jO(a0:List Int):Option (Int×Bool):=
 nE 0 a0 a0.length 0
def iU(l0:List Int):Option (Int×Bool):=
 (jO l0).bind λr1=>
 some (r1.1,r1.2)
def dY(v11:List A0) (v12 v13:Int) (l0:List Int):Option ((List A0×Int×Int×List Int)⊕(Int×Bool)):=
 sel (decide (v13<v12)) (
  chk (decide (0<=v13/\v13<v11.length)) <|
  chk (decide ((l0.length+1)*8<=LIM/\l0.length+1<=LEN)) <|
  some (.inl (v11,v12,(B3 (v13+1)),(l0++[(v11.getD v13.toNat I1).2])))) (
  Option.map .inr (
   iU l0))
def mf(v11:List A0) (v12 v13:Int) (l0:List Int):=
 F8 (λv=>dY v.1 v.2.1 v.2.2.1 v.2.2.2) (v11,v12,v13,l0)
def dz(a0:C2):Option (Int×Bool):=
 mf a0.2.2.2.2.2 a0.2.2.2.2.2.length 0 [a0.2.2.2.1]
def iV(b0:o8) (b1:C2) (_b2:o8) (l0:List o5):Option (o8):=
 some (l0,(D4 (b0.2+b1.2.2.2.1)))
def aF(v35:List A0) (v36 v37:Int) (b0:o8) (b1:C2) (b2:o8) (b3:A0) (b4:o5) (l0:List o5):Option ((List A0×Int×Int×o8×C2×o8×List o5)⊕(o8)):=
 (bA l0 (b4.1,(D4 (b4.2.1+b3.2)),b4.2.2)).bind λr3=>
 some (.inl (v35,v36,(B3 (v37+1)),b0,b1,b2,r3))
def dZ(v35:List A0) (v36 v37:Int) (b0:o8) (b1:C2) (b2:o8) (l0:List o5):Option ((List A0×Int×Int×o8×C2×o8×List o5)⊕(o8)):=
 sel (decide (v37<v36)) (
  chk (decide (0<=v37/\v37<v35.length)) <|
  (W5 l0 (v35.getD v37.toNat I1).1).bind λr4=>
  sel (decide (0<=r4)) (
   chk (decide (0<=r4/\r4<l0.length)) <|
   chk (decide (r4.toNat<l0.length)) <|
   aF v35 v36 v37 b0 b1 b2 (v35.getD v37.toNat I1) (l0.getD r4.toNat A6) l0) (
   aF v35 v36 v37 b0 b1 b2 (v35.getD v37.toNat I1) ((v35.getD v37.toNat I1).1,(0:Int),(0:Int)) l0)) (
  Option.map .inr (
   iV b0 b1 b2 l0))
def ig(v35:List A0) (v36 v37:Int) (b0:o8) (b1:C2) (b2:o8) (l0:List o5):=
 F8 (λv=>dZ v.1 v.2.1 v.2.2.1 v.2.2.2.1 v.2.2.2.2.1 v.2.2.2.2.2.1 v.2.2.2.2.2.2) (v35,v36,v37,b0,b1,b2,l0)
def dA(a0:o8) (a1:C2) (a2:Int):Option (o8):=
 (fd a0 a1.1).bind λr1=>
 (bA a0.1 (r1.1.1,(D4 (r1.1.2.1-a2)),(D4 (r1.1.2.2+1)))).bind λr2=>
 ig a1.2.2.2.2.2 a1.2.2.2.2.2.length 0 a0 a1 ([],(0:Int)) r2
def fV(a0:o8) (a1:Int) (a2:C2) (a3:Int):Option (Int):=
 (fd a0 a2.1).bind λr1=>
 sel (!r1.2) (
  some 13) (
  sel (!decide (r1.1.2.2=a2.2.1)) (
   some 14) (
   sel (decide (a2.2.1=18446744073709551615)) (
    some 6) (
    (ib a3 a2.2.2.2.2.2.length).bind λr2=>
    sel (decide (a2.2.2.1<r2)) (
     some 15) (
     (ic a2.2.2.1 a1).bind λr3=>
     (dz a2).bind λr4=>
     sel (!r3.2) (
      some 6) (
      sel (decide (a2.2.2.2.1<r3.1)) (
       some 16) (
       sel (!r4.2) (
        some 6) (
        sel (decide (r1.1.2.1<r4.1)) (
         some 17) (
         (dA a0 a2 r4.1).bind λr5=>
         sel (decide (256<((r5.1.length:Nat):Int))) (
          some 3) (
          some 0)))))))))
def fe(a0 a1:Int):Option (Int×Int):=
 some ((D4 ((D4 ((D4 ((D4 ((a0 / 2^32)*(a1 / 2^32)))+((D4 ((a0 / 2^32)*(bits .and .u64 a1 4294967295))) / 2^32)))+((D4 ((bits .and .u64 a0 4294967295)*(a1 / 2^32))) / 2^32)))+((D4 ((D4 (((D4 ((bits .and .u64 a0 4294967295)*(bits .and .u64 a1 4294967295))) / 2^32)+(bits .and .u64 (D4 ((a0 / 2^32)*(bits .and .u64 a1 4294967295))) 4294967295)))+(bits .and .u64 (D4 ((bits .and .u64 a0 4294967295)*(a1 / 2^32))) 4294967295))) / 2^32))),(bits .or .u64 (D4 ((D4 ((D4 (((D4 ((bits .and .u64 a0 4294967295)*(bits .and .u64 a1 4294967295))) / 2^32)+(bits .and .u64 (D4 ((a0 / 2^32)*(bits .and .u64 a1 4294967295))) 4294967295)))+(bits .and .u64 (D4 ((bits .and .u64 a0 4294967295)*(a1 / 2^32))) 4294967295)))*2^32)) (bits .and .u64 (D4 ((bits .and .u64 a0 4294967295)*(bits .and .u64 a1 4294967295))) 4294967295)))
def S9(v2 v8 v9 v10 v11:Int) (v47:Bool):Option ((Int×Int×Int×Int×Int)⊕(Int×Bool)):=
 sel v47 (
  some (.inl (v2,(D4 (v8-v2)),v9,(bits .or .u64 v10 1),(B3 (v11-1))))) (
  some (.inl (v2,v8,v9,v10,(B3 (v11-1)))))
def ij(v2 v8 v9 v10 v11:Int):Option ((Int×Int×Int×Int×Int)⊕(Int×Bool)):=
 sel (decide (0<=v11)) (
  chk (decide ((0:Int)<=v11)) <|
  sel (decide ((v8 / 2^63)=1)) (
   S9 v2 (bits .or .u64 (D4 (v8*2^1)) (bits .and .u64 (v9 / 2^(min v11.toNat 64)) 1)) v9 (D4 (v10*2^1)) v11 true) (
   S9 v2 (bits .or .u64 (D4 (v8*2^1)) (bits .and .u64 (v9 / 2^(min v11.toNat 64)) 1)) v9 (D4 (v10*2^1)) v11 (decide (v2<=(bits .or .u64 (D4 (v8*2^1)) (bits .and .u64 (v9 / 2^(min v11.toNat 64)) 1)))))) (
  some (.inr (v10,true)))
def lB(v2 v8 v9 v10 v11:Int):=
 F8 (λv=>ij v.1 v.2.1 v.2.2.1 v.2.2.2.1 v.2.2.2.2) (v2,v8,v9,v10,v11)
def fW(a0 a1 a2:Int):Option (Int×Bool):=
 (fe a0 a1).bind λr1=>
 sel (decide (a2=0)) (
  some (0,false)) (
  sel (decide (a2<=r1.1)) (
   some (0,false)) (
   lB a2 r1.1 r1.2 0 63))
def Z1(a0 a1:Int):Option (Int):=
 sel (decide (a1=0)) (
  some 0) (
  (fW a0 1000 a1).bind λr1=>
  sel r1.2 (
   some r1.1) (
   some 18446744073709551615))
def O2(a0:o8) (a1:Int) (a2:List UInt8):Option (o8×B1):=
 (V9 a0).bind λr1=>
 sel (!decide (r1=0)) (
  some (a0,(1,[],(0:Int),(0:Int),(0:Int)))) (
  (S8 a2).bind λr2=>
  sel (!decide (r2.2=0)) (
   some (a0,(r2.2,[],(0:Int),(0:Int),(0:Int)))) (
   (fV a0 a1 r2.1 a2.length).bind λr3=>
   (Z1 r2.1.2.2.2.1 r2.1.2.2.1).bind λr4=>
   sel (!decide (r3=0)) (
    some (a0,(r3,r2.1.1,r2.1.2.1,r2.1.2.2.1,r4))) (
    (dz r2.1).bind λr5=>
    (dA a0 r2.1 r5.1).bind λr6=>
    some (r6,(r3,r2.1.1,r2.1.2.1,r2.1.2.2.1,r4)))))
def ab(a0:H6) (a1:List UInt8):Option (B1):=
 (O2 a0.2.1 a0.2.2.2.2 a1).bind λr1=>
 some r1.2
def je(a0:List (Vector UInt8 32)) (a1:Vector UInt8 32):Option (List (Vector UInt8 32)×Bool):=
 (aM a0 a1).bind λr1=>
 sel (decide (r1<0)) (
  some (a0,false)) (
  chk (decide ((0:Int)<=0/\0<=r1/\r1<=((a0.length:Nat):Int))) <|
  chk (decide ((0+(List.length (a0.take r1.toNat)))*32<=LIM/\0+(List.length (a0.take r1.toNat))<=LEN)) <|
  chk (decide ((0:Int)<=(B3 (r1+1))/\(B3 (r1+1))<=((a0.length:Nat):Int)/\((a0.length:Nat):Int)<=((a0.length:Nat):Int))) <|
  chk (decide (((List.length (a0.take r1.toNat))+(List.length (List.drop (Int.toNat (B3 (r1+1))) (List.take (Int.toNat a0.length) a0))))*32<=LIM/\(List.length (a0.take r1.toNat))+(List.length (List.drop (Int.toNat (B3 (r1+1))) (List.take (Int.toNat a0.length) a0)))<=LEN)) <|
  some (((a0.take r1.toNat)++(List.drop (Int.toNat (B3 (r1+1))) (List.take (Int.toNat a0.length) a0))),true))
def S1(a0:A2) (a1:Vector UInt8 32):Option (A2):=
 (je a0.2.2.2.2.2.2 a1).bind λr1=>
 some (a0.1,a0.2.1,a0.2.2.1,a0.2.2.2.1,a0.2.2.2.2.1,a0.2.2.2.2.2.1,r1.1)
def K7(a0:A2) (a1:Vector UInt8 32):Option (A2):=
 sel a0.1.2.2.2.2.2.2.1 (
  some a0) (
  (S1 a0 a1).bind λr1=>
  some r1)
def U0(a0:A2) (a1:Int):Option (Bool):=
 sel (decide (0<=a0.1.2.2.2.2.2.2.2.2.1)) (
  some (decide ((D4 a0.1.2.2.2.2.2.2.2.2.1)<a1))) (
  some false)
def cS(v3:Int) (v6:List o6) (v7 v8:Int):Option ((Int×List o6×Int×Int)⊕(Int)):=
 sel (decide (v8<v7)) (
  chk (decide (0<=v8/\v8<v6.length)) <|
  some (.inl ((B3 (v3+(((List.length (v6.getD v8.toNat B2).2.1):Nat):Int))),v6,v7,(B3 (v8+1))))) (
  some (.inr v3))
def lC(v3:Int) (v6:List o6) (v7 v8:Int):=
 F8 (λv=>cS v.1 v.2.1 v.2.2.1 v.2.2.2) (v3,v6,v7,v8)
def fX(a0:List o6):Option (Int):=
 lC 0 a0 a0.length 0
def M9(v6:Int) (v7:List o6) (v8 v9:Int) (b0:o6) (l0:List o6):Option ((List o6×Int×Int×List o6)⊕(List o6)):=
 chk (decide ((0:Int)<=0/\0<=v6/\v6<=((l0.length:Nat):Int))) <|
 chk (decide ((0+(List.length (l0.take v6.toNat)))*144<=LIM/\0+(List.length (l0.take v6.toNat))<=LEN)) <|
 chk (decide (((List.length (l0.take v6.toNat))+1)*144<=LIM/\(List.length (l0.take v6.toNat))+1<=LEN)) <|
 chk (decide ((0:Int)<=v6/\v6<=((l0.length:Nat):Int)/\((l0.length:Nat):Int)<=((l0.length:Nat):Int))) <|
 chk (decide (((List.length ((l0.take v6.toNat)++([b0]:List o6)))+(List.length (List.drop v6.toNat (List.take (Int.toNat l0.length) l0))))*144<=LIM/\(List.length ((l0.take v6.toNat)++([b0]:List o6)))+(List.length (List.drop v6.toNat (List.take (Int.toNat l0.length) l0)))<=LEN)) <|
 some (.inl (v7,v8,(B3 (v9+1)),(((l0.take v6.toNat)++([b0]:List o6))++(List.drop v6.toNat (List.take (Int.toNat l0.length) l0)))))
def il(v6:Int) (v7:List o6) (v8 v9:Int) (b0:o6) (l0:List o6):Option ((Int×List o6×Int×Int×o6×List o6)⊕((List o6×Int×Int×List o6)⊕(List o6))):=
 sel (decide (v6<l0.length)) (
  chk (decide (0<=v6/\v6<l0.length)) <|
  chk (decide (v6.toNat<l0.length)) <|
  sel (decide ((l0.getD v6.toNat B2).2.2.2.2.2.1<b0.2.2.2.2.2.1)) (
   some (.inl ((B3 (v6+1)),v7,v8,v9,b0,l0))) (
   chk (decide (0<=v6/\v6<l0.length)) <|
   chk (decide (v6.toNat<l0.length)) <|
   sel (decide ((l0.getD v6.toNat B2).2.2.2.2.2.1=b0.2.2.2.2.2.1)) (
    chk (decide (0<=v6/\v6<l0.length)) <|
    chk (decide (v6.toNat<l0.length)) <|
    sel (decide (b0.2.2.2.2.2.2.2.2.1<(l0.getD v6.toNat B2).2.2.2.2.2.2.2.2.1)) (
     some (.inl ((B3 (v6+1)),v7,v8,v9,b0,l0))) (
     Option.map .inr (
      M9 v6 v7 v8 v9 b0 l0))) (
    Option.map .inr (
     M9 v6 v7 v8 v9 b0 l0)))) (
  Option.map .inr (
   M9 v6 v7 v8 v9 b0 l0))
def gw(v6:Int) (v7:List o6) (v8 v9:Int) (b0:o6) (l0:List o6):=
 F8 (λv=>il v.1 v.2.1 v.2.2.1 v.2.2.2.1 v.2.2.2.2.1 v.2.2.2.2.2) (v6,v7,v8,v9,b0,l0)
def cT(v7:List o6) (v8 v9:Int) (l0:List o6):Option ((List o6×Int×Int×List o6)⊕(List o6)):=
 sel (decide (v9<v8)) (
  chk (decide (0<=v9/\v9<v7.length)) <|
  gw 0 v7 v8 v9 (v7.getD v9.toNat B2) l0) (
  some (.inr l0))
def lD(v7:List o6) (v8 v9:Int) (l0:List o6):=
 F8 (λv=>cT v.1 v.2.1 v.2.2.1 v.2.2.2) (v7,v8,v9,l0)
def fY(a0:List o6):Option (List o6):=
 lD a0 a0.length 0 []
def dB(a0 a1 a2:Int):Option (Bool):=
 sel (decide (a0<=a2)) (
  some (decide (a1<=(B3 (a2-a0))))) (
  some false)
def bC(v2 v3 v4 v12 v13:Int) (l0:List (Vector UInt8 32)):Option (List (Vector UInt8 32)×Bool):=
 sel (decide (v12<=v3)) (
  (dB v13 v2 v4).bind λr2=>
  sel r2 (
   some (l0,true)) (
   some ([],false))) (
  some ([],false))
def X3(v1 v2 v3 v4 v12 v13:Int) (v25:List o6) (v26 v27:Int) (b0:o6) (l0:List (Vector UInt8 32)):Option ((Int×Int×Int×Int×Int×Int×List o6×Int×Int×List (Vector UInt8 32))⊕(List (Vector UInt8 32)×Bool)):=
 sel (decide (v1<=b0.2.2.2.2.2.1)) (
  some (.inr ([],false))) (
  chk (decide ((l0.length+1)*32<=LIM/\l0.length+1<=LEN)) <|
  some (.inl (v1,v2,v3,v4,(B3 (v12-1)),(B3 (v13-((b0.2.1.length:Nat):Int))),v25,v26,(B3 (v27+1)),(l0++[b0.1]))))
def bD(v1 v2 v3 v4 v12 v13:Int) (v25:List o6) (v26 v27:Int) (l0:List (Vector UInt8 32)):Option ((Int×Int×Int×Int×Int×Int×List o6×Int×Int×List (Vector UInt8 32))⊕(List (Vector UInt8 32)×Bool)):=
 sel (decide (v27<v26)) (
  chk (decide (0<=v27/\v27<v25.length)) <|
  sel (decide (v12<=v3)) (
   (dB v13 v2 v4).bind λr4=>
   sel r4 (
    some (.inr (l0,true))) (
    X3 v1 v2 v3 v4 v12 v13 v25 v26 v27 (v25.getD v27.toNat B2) l0)) (
   X3 v1 v2 v3 v4 v12 v13 v25 v26 v27 (v25.getD v27.toNat B2) l0)) (
  Option.map .inr (
   bC v2 v3 v4 v12 v13 l0))
def kA(v1 v2 v3 v4 v12 v13:Int) (v25:List o6) (v26 v27:Int) (l0:List (Vector UInt8 32)):=
 F8 (λv=>bD v.1 v.2.1 v.2.2.1 v.2.2.2.1 v.2.2.2.2.1 v.2.2.2.2.2.1 v.2.2.2.2.2.2.1 v.2.2.2.2.2.2.2.1 v.2.2.2.2.2.2.2.2.1 v.2.2.2.2.2.2.2.2.2) (v1,v2,v3,v4,v12,v13,v25,v26,v27,l0)
def ff(a0:List o6) (a1 a2 a3 a4:Int):Option (List (Vector UInt8 32)×Bool):=
 (fX a0).bind λr1=>
 (fY a0).bind λr3=>
 kA a1 (max a2 0) a3 a4 (B3 (((a0.length:Nat):Int)+1)) r1 r3 r3.length 0 []
def ef(a0:List o6) (a1:Int):Option (List o6):=
 chk (decide ((0:Int)<=0/\0<=a1/\a1<=((a0.length:Nat):Int))) <|
 chk (decide ((0+(List.length (a0.take a1.toNat)))*144<=LIM/\0+(List.length (a0.take a1.toNat))<=LEN)) <|
 chk (decide ((0:Int)<=(B3 (a1+1))/\(B3 (a1+1))<=((a0.length:Nat):Int)/\((a0.length:Nat):Int)<=((a0.length:Nat):Int))) <|
 chk (decide (((List.length (a0.take a1.toNat))+(List.length (List.drop (Int.toNat (B3 (a1+1))) (List.take (Int.toNat a0.length) a0))))*144<=LIM/\(List.length (a0.take a1.toNat))+(List.length (List.drop (Int.toNat (B3 (a1+1))) (List.take (Int.toNat a0.length) a0)))<=LEN)) <|
 some ((a0.take a1.toNat)++(List.drop (Int.toNat (B3 (a1+1))) (List.take (Int.toNat a0.length) a0)))
def L9(a0:A2) (a1:Vector UInt8 32):Option (A2×Bool):=
 (S7 a0.2.2.2.2.2.1 a1).bind λr1=>
 sel (decide (r1<0)) (
  some (a0,false)) (
  (ef a0.2.2.2.2.2.1 r1).bind λr2=>
  some ((a0.1,a0.2.1,a0.2.2.1,a0.2.2.2.1,a0.2.2.2.2.1,r2,a0.2.2.2.2.2.2),true))
def M5(a0:H6) (a1:List UInt8):Option (H6):=
 (O2 a0.2.1 a0.2.2.2.2 a1).bind λr1=>
 some (a0.1,r1.1,a0.2.2)
def Z2(b0 _b1:A2) (_b2:E3) (b3:Vector UInt8 32) (b4:B1) (b5_0:Vector UInt8 32) (b5_2:List UInt8) (b5_3 b5_4 b5_5 b5_6 b5_7 b5_8:Int) (l0:List (Vector UInt8 32)) (l1:List UInt8) (l2:List Int):Option (A2×E3):=
 chk (decide ((0+b0.2.2.2.2.2.1.length)*144<=LIM/\0+b0.2.2.2.2.2.1.length<=LEN)) <|
 chk (decide ((b0.2.2.2.2.2.1.length+1)*144<=LIM/\b0.2.2.2.2.2.1.length+1<=LEN)) <|
 some ((b0.1,b0.2.1,b0.2.2.1,b0.2.2.2.1,(B3 (b0.2.2.2.2.1+1)),(b0.2.2.2.2.2.1++([(b5_0,l1,b5_2,b5_3,b5_4,b5_5,b5_6,b5_7,b5_8,l2)]:List o6)),b0.2.2.2.2.2.2),((0:Int),b3,b4.2.2.2.2,l0,[],[],[],[],[],(0:Int),(Vector.replicate 32 (0:UInt8))))
def cU(v1:List UInt8) (v2:Int) (b0 b1:A2) (b2:E3) (b3:Vector UInt8 32) (b4:B1) (l0:List (Vector UInt8 32)):Option (A2×E3):=
 (M5 b0.2.1 v1).bind λr13=>
 chk (decide ((0+v1.length)*1<=LIM/\0+v1.length<=LEN)) <|
 (bd v2).bind λr14=>
 sel r14 (
  Z2 (b0.1,r13,b0.2.2) b1 b2 b3 b4 b3 b4.2.1 b4.2.2.1 b4.2.2.2.1 b4.2.2.2.2 b0.2.2.1 b0.2.2.2.1 b0.2.2.2.2.1 l0 v1 [v2]) (
  Z2 (b0.1,r13,b0.2.2) b1 b2 b3 b4 b3 b4.2.1 b4.2.2.1 b4.2.2.2.1 b4.2.2.2.2 b0.2.2.1 b0.2.2.2.1 b0.2.2.2.2.1 l0 v1 [])
def cV(v1:List UInt8) (v2 v101 v102:Int) (b0 b1:A2) (b2:E3) (b3:Vector UInt8 32) (b4:B1) (l0:List (Vector UInt8 32)):Option ((List UInt8×Int×Int×Int×A2×A2×E3×Vector UInt8 32×B1×List (Vector UInt8 32))⊕(A2×E3)):=
 sel (decide (v102<v101)) (
  chk (decide (0<=v102/\v102<l0.length)) <|
  chk (decide (v102.toNat<l0.length)) <|
  (L9 b0 (l0.getD v102.toNat (Vector.replicate 32 (0:UInt8)))).bind λr15=>
  (S1 r15.1 (l0.getD v102.toNat (Vector.replicate 32 (0:UInt8)))).bind λr16=>
  some (.inl (v1,v2,v101,(B3 (v102+1)),r16,b1,b2,b3,b4,l0))) (
  Option.map .inr (
   cU v1 v2 b0 b1 b2 b3 b4 l0))
def gx(v1:List UInt8) (v2 v101 v102:Int) (b0 b1:A2) (b2:E3) (b3:Vector UInt8 32) (b4:B1) (l0:List (Vector UInt8 32)):=
 F8 (λv=>cV v.1 v.2.1 v.2.2.1 v.2.2.2.1 v.2.2.2.2.1 v.2.2.2.2.2.1 v.2.2.2.2.2.2.1 v.2.2.2.2.2.2.2.1 v.2.2.2.2.2.2.2.2.1 v.2.2.2.2.2.2.2.2.2) (v1,v2,v101,v102,b0,b1,b2,b3,b4,l0)
def Z3(v1:List UInt8) (v2 v9:Int) (v46:Bool) (b0 b1:A2) (b2:E3) (b3:Vector UInt8 32):Option (A2×E3):=
 sel v46 (
  (W8 b0 b3).bind λr4=>
  (hH r4 v9 v2).bind λr5=>
  some (r5,(23,(Vector.replicate 32 (0:UInt8)),(0:Int),[],[],[],[],[],[],(0:Int),(Vector.replicate 32 (0:UInt8))))) (
  (W8 b0 b3).bind λr6=>
  (ab r6.2.1 v1).bind λr7=>
  sel (!decide (r7.1=0)) (
   (K7 r6 b3).bind λr8=>
   some (r8,(r7.1,(Vector.replicate 32 (0:UInt8)),(0:Int),[],[],[],[],[],[],(0:Int),(Vector.replicate 32 (0:UInt8))))) (
   (U0 r6 r7.2.2.2.1).bind λr9=>
   sel r9 (
    (K7 r6 b3).bind λr10=>
    some (r10,(22,(Vector.replicate 32 (0:UInt8)),(0:Int),[],[],[],[],[],[],(0:Int),(Vector.replicate 32 (0:UInt8))))) (
    (ff r6.2.2.2.2.2.1 r7.2.2.2.2 v1.length r6.1.1 r6.1.2.1).bind λr11=>
    sel (!r11.2) (
     (S1 r6 b3).bind λr12=>
     some (r12,(24,(Vector.replicate 32 (0:UInt8)),(0:Int),[],[],[],[],[],[],(0:Int),(Vector.replicate 32 (0:UInt8))))) (
     gx v1 v2 r11.1.length 0 r6 b1 b2 b3 r7 r11.1))))
def O5(a0:A2) (a1:List UInt8) (a2:Int):Option (A2×E3):=
 sel (decide (a0.1.2.2.1<a1.length)) (
  some (a0,(20,(Vector.replicate 32 (0:UInt8)),(0:Int),[],[],[],[],[],[],(0:Int),(Vector.replicate 32 (0:UInt8))))) (
  (S6 a1.length).bind λr1=>
  sel (decide (a0.1.2.2.2.2.2.2.2.1<r1)) (
   some (a0,(21,(Vector.replicate 32 (0:UInt8)),(0:Int),[],[],[],[],[],[],(0:Int),(Vector.replicate 32 (0:UInt8))))) (
   (H1 a1).bind λr2=>
   (S7 a0.2.2.2.2.2.1 r2).bind λr3=>
   sel (decide (0<=r3)) (
    Z3 a1 a2 r3 true a0 (((0:Int),(0:Int),(0:Int),(0:Int),(0:Int),(0:Int),false,(0:Int),(0:Int),(0:Int),(0:Int),(0:Int)),(([],(0:Int)),([],(0:Int)),([],(0:Int)),false,(0:Int)),(0:Int),(0:Int),(0:Int),[],[]) ((0:Int),(Vector.replicate 32 (0:UInt8)),(0:Int),[],[],[],[],[],[],(0:Int),(Vector.replicate 32 (0:UInt8))) r2) (
    (O1 a0.2.2.2.2.2.2 r2).bind λr17=>
    Z3 a1 a2 r3 r17 a0 (((0:Int),(0:Int),(0:Int),(0:Int),(0:Int),(0:Int),false,(0:Int),(0:Int),(0:Int),(0:Int),(0:Int)),(([],(0:Int)),([],(0:Int)),([],(0:Int)),false,(0:Int)),(0:Int),(0:Int),(0:Int),[],[]) ((0:Int),(Vector.replicate 32 (0:UInt8)),(0:Int),[],[],[],[],[],[],(0:Int),(Vector.replicate 32 (0:UInt8))) r2)))
def L4(a0:List o5):Option (List o5):=wD (u:=C0) 32 a0
def oi(a0:o8):Option (o8):=
 (L4 a0.1).bind λr1=>
 some (r1,a0.2)
def lE(a0:List UInt8):Option (List UInt8):=wD (u:=.byte) 1 a0
def mJ(a0:List Int):Option (List Int):=wD (u:=(.int .i64)) 8 a0
def pk(a0:o6):Option (o6):=
 (lE a0.2.1).bind λr1=>
 (mJ a0.2.2.2.2.2.2.2.2.2).bind λr2=>
 some (a0.1,r1,a0.2.2.1,a0.2.2.2.1,a0.2.2.2.2.1,a0.2.2.2.2.2.1,a0.2.2.2.2.2.2.1,a0.2.2.2.2.2.2.2.1,a0.2.2.2.2.2.2.2.2.1,r2)
def kP(v6:List o6) (v7 v8:Int) (l0:List o6):Option ((List o6×Int×Int×List o6)⊕(List o6)):=
 sel (decide (v8<v7)) (
  chk (decide (0<=v8/\v8<v6.length)) <|
  (pk (v6.getD v8.toNat B2)).bind λr1=>
  chk (decide ((l0.length+1)*144<=LIM/\l0.length+1<=LEN)) <|
  some (.inl (v6,v7,(B3 (v8+1)),(l0++([r1]:List o6))))) (
  some (.inr l0))
def qM(v6:List o6) (v7 v8:Int) (l0:List o6):=
 F8 (λv=>kP v.1 v.2.1 v.2.2.1 v.2.2.2) (v6,v7,v8,l0)
def oO(a0:List o6):Option (List o6):=
 qM a0 a0.length 0 []
def jf(a0:Int):Option (Bool):=
 some (!decide (a0=a0))
def fZ(a0 a1:Int):Option (Int):=
 (jf a0).bind λr1=>
 (jf a1).bind λr2=>
 sel r1 (
  sel r2 (
   some 0) (
   some (-1))) (
  sel r2 (
   some 1) (
   sel (decide (a0<a1)) (
    some (-1)) (
    sel (decide (a1<a0)) (
     some 1) (
     some 0))))
def pl(a0:Int):Option (Bool):=
 some (!decide (a0=a0))
def qN(a0 a1:Int):Option (Int):=
 (pl a0).bind λr1=>
 (pl a1).bind λr2=>
 sel r1 (
  sel r2 (
   some 0) (
   some (-1))) (
  sel r2 (
   some 1) (
   sel (decide (a0<a1)) (
    some (-1)) (
    sel (decide (a1<a0)) (
     some 1) (
     some 0))))
def sV(v3:Int) (v6:List Int) (v7 v8:Int):Option ((Int×List Int×Int×Int)⊕(Int)):=
 sel (decide (v8<v7)) (
  chk (decide (0<=v8/\v8<v6.length)) <|
  sel (!decide ((v6.getD v8.toNat (0:Int))=v3)) (
   some (.inr (v6.getD v8.toNat (0:Int)))) (
   some (.inl (v3,v6,v7,(B3 (v8+1)))))) (
  some (.inr v3))
def yG(v3:Int) (v6:List Int) (v7 v8:Int):=
 F8 (λv=>sV v.1 v.2.1 v.2.2.1 v.2.2.2) (v3,v6,v7,v8)
def yr(a0:List Int):Option (Int):=
 yG 0 a0 a0.length 0
def mh(a0 a1:o6):Option (Int):=
 (fZ a1.2.2.2.2.2.1 a0.2.2.2.2.2.1).bind λr1=>
 (qN a0.2.2.2.2.2.2.2.2.1 a1.2.2.2.2.2.2.2.2.1).bind λr2=>
 (yr [r1,r2]).bind λr3=>
 some r3
def N2(v1 v2 v3 v10:Int) (l0:List o6):Option ((Int×Int×Int×Int×List o6)⊕(List o6)):=
 sel (decide (v10<v3)) (
  chk (decide (0<=(B3 (v2+v10))/\(B3 (v2+v10))<l0.length)) <|
  chk (decide ((Int.toNat (B3 (v2+v10)))<l0.length)) <|
  chk (decide (0<=(B3 (v1+v10))/\(B3 (v1+v10))<l0.length)) <|
  chk (decide ((Int.toNat (B3 (v1+v10)))<l0.length)) <|
  chk (decide (0<=(B3 (v1+v10))/\(B3 (v1+v10))<l0.length)) <|
  chk (decide ((Int.toNat (B3 (v1+v10)))<l0.length)) <|
  chk (decide ((0:Int)<=(B3 (v2+v10))/\(B3 (v2+v10))<(((List.length (List.set l0 (Int.toNat (B3 (v1+v10))) (l0.getD (Int.toNat (B3 (v2+v10))) B2))):Nat):Int))) <|
  chk (decide ((Int.toNat (B3 (v2+v10)))<(List.length (List.set l0 (Int.toNat (B3 (v1+v10))) (l0.getD (Int.toNat (B3 (v2+v10))) B2))))) <|
  some (.inl (v1,v2,v3,(B3 (v10+1)),(List.set (List.set l0 (Int.toNat (B3 (v1+v10))) (l0.getD (Int.toNat (B3 (v2+v10))) B2)) (Int.toNat (B3 (v2+v10))) (l0.getD (Int.toNat (B3 (v1+v10))) B2))))) (
  some (.inr l0))
def bp(v1 v2 v3 v10:Int) (l0:List o6):=
 F8 (λv=>N2 v.1 v.2.1 v.2.2.1 v.2.2.2.1 v.2.2.2.2) (v1,v2,v3,v10,l0)
def H5(a0:List o6) (a1 a2 a3:Int):Option (List o6):=
 bp a1 a2 a3 0 a0
def Q4(v2 v10:Int) (l0:List o6):Option (List o6):=
 (H5 l0 (B3 (v2-v10)) v2 v10).bind λr1=>
 some r1
def Q5(v2 v10 v11:Int) (l0:List o6):Option ((Int×Int×Int×List o6)⊕(List o6)):=
 sel (!decide (v10=v11)) (
  sel (decide (v11<v10)) (
   (H5 l0 (B3 (v2-v10)) v2 v11).bind λr2=>
   some (.inl (v2,(B3 (v10-v11)),v11,r2))) (
   (H5 l0 (B3 (v2-v10)) (B3 ((B3 (v2+v11))-v10)) v10).bind λr3=>
   some (.inl (v2,v10,(B3 (v11-v10)),r3)))) (
  Option.map .inr (
   Q4 v2 v10 l0))
def cW(v2 v10 v11:Int) (l0:List o6):=
 F8 (λv=>Q5 v.1 v.2.1 v.2.2.1 v.2.2.2) (v2,v10,v11,l0)
def T9(a0:List o6) (a1 a2 a3:Int):Option (List o6):=
 cW a2 (B3 (a2-a1)) (B3 (a3-a2)) a0
def G9(rec:List o6->Int->Int->Int->Option (List o6)) (v3 v18 v24:Int) (l0:List o6):Option (List o6):=
 sel (decide (v18<v24)) (
  sel (decide (v24<v3)) (
   (rec l0 v18 v24 v3).bind λr1=>
   some r1) (
   some l0)) (
  some l0)
def H0(rec:List o6->Int->Int->Int->Option (List o6)) (v1 v3 v18 v20 v24:Int) (l0:List o6):Option (List o6):=
 sel (decide (v1<v20)) (
  sel (decide (v20<v18)) (
   (rec l0 v1 v20 v18).bind λr2=>
   G9 rec v3 v18 v24 r2) (
   G9 rec v3 v18 v24 l0)) (
  G9 rec v3 v18 v24 l0)
def O6(rec:List o6->Int->Int->Int->Option (List o6)) (v1 v2 v3 v18 v19 v20:Int) (l0:List o6):Option (List o6):=
 sel (decide (v20<v2)) (
  sel (decide (v2<(B3 (v19-v20)))) (
   (T9 l0 v20 v2 (B3 (v19-v20))).bind λr3=>
   H0 rec v1 v3 v18 v20 (B3 (v19-v20)) r3) (
   H0 rec v1 v3 v18 v20 (B3 (v19-v20)) l0)) (
  H0 rec v1 v3 v18 v20 (B3 (v19-v20)) l0)
def O7(rec:List o6->Int->Int->Int->Option (List o6)) (v1 v2 v3 v18 v19 v20 v21 v22:Int) (l0:List o6):Option ((Int×Int×Int×Int×Int×Int×Int×Int×List o6)⊕(List o6)):=
 sel (decide (v20<v21)) (
  chk (decide ((0:Int)<=(B3 (v22-(B3 ((D4 (B3 (v20+v21))) / 2^1))))/\(B3 (v22-(B3 ((D4 (B3 (v20+v21))) / 2^1))))<((l0.length:Nat):Int))) <|
  chk (decide ((Int.toNat (B3 (v22-(B3 ((D4 (B3 (v20+v21))) / 2^1)))))<l0.length)) <|
  chk (decide ((0:Int)<=(B3 ((D4 (B3 (v20+v21))) / 2^1))/\(B3 ((D4 (B3 (v20+v21))) / 2^1))<((l0.length:Nat):Int))) <|
  chk (decide ((Int.toNat (B3 ((D4 (B3 (v20+v21))) / 2^1)))<l0.length)) <|
  (mh (l0.getD (Int.toNat (B3 (v22-(B3 ((D4 (B3 (v20+v21))) / 2^1))))) B2) (l0.getD (Int.toNat (B3 ((D4 (B3 (v20+v21))) / 2^1))) B2)).bind λr4=>
  sel (!(decide (r4<0))) (
   some (.inl (v1,v2,v3,v18,v19,(B3 ((B3 ((D4 (B3 (v20+v21))) / 2^1))+1)),v21,v22,l0))) (
   some (.inl (v1,v2,v3,v18,v19,v20,(B3 ((D4 (B3 (v20+v21))) / 2^1)),v22,l0)))) (
  Option.map .inr (
   O6 rec v1 v2 v3 v18 v19 v20 l0))
def cg(rec:List o6->Int->Int->Int->Option (List o6)) (v1 v2 v3 v18 v19 v20 v21 v22:Int) (l0:List o6):=
 F8 (λv=>O7 rec v.1 v.2.1 v.2.2.1 v.2.2.2.1 v.2.2.2.2.1 v.2.2.2.2.2.1 v.2.2.2.2.2.2.1 v.2.2.2.2.2.2.2.1 v.2.2.2.2.2.2.2.2) (v1,v2,v3,v18,v19,v20,v21,v22,l0)
def I7(rec:List o6->Int->Int->Int->Option (List o6)) (v1 v2 v3 v18 v19 v20 v21:Int) (l0:List o6):Option (List o6):=
 cg rec v1 v2 v3 v18 v19 v20 v21 (B3 (v19-1)) l0
def O8(rec:List o6->Int->Int->Int->Option (List o6)) (v1 v2 v3:Int) (l0:List o6):Option (List o6):=
 sel (decide ((B3 ((D4 (B3 (v1+v3))) / 2^1))<v2)) (
  I7 rec v1 v2 v3 (B3 ((D4 (B3 (v1+v3))) / 2^1)) (B3 ((B3 ((D4 (B3 (v1+v3))) / 2^1))+v2)) (B3 ((B3 ((B3 ((D4 (B3 (v1+v3))) / 2^1))+v2))-v3)) (B3 ((D4 (B3 (v1+v3))) / 2^1)) l0) (
  I7 rec v1 v2 v3 (B3 ((D4 (B3 (v1+v3))) / 2^1)) (B3 ((B3 ((D4 (B3 (v1+v3))) / 2^1))+v2)) v1 v2 l0)
def O9(_rec:List o6->Int->Int->Int->Option (List o6)) (v14 v17:Int) (l0:List o6):Option ((Int×Int×List o6)⊕(List o6)):=
 sel (decide (v14<v17)) (
  chk (decide (0<=(B3 (v17-1))/\(B3 (v17-1))<l0.length)) <|
  chk (decide ((Int.toNat (B3 (v17-1)))<l0.length)) <|
  chk (decide (0<=v17/\v17<l0.length)) <|
  chk (decide (v17.toNat<l0.length)) <|
  chk (decide (0<=v17/\v17<l0.length)) <|
  chk (decide (v17.toNat<l0.length)) <|
  chk (decide ((0:Int)<=(B3 (v17-1))/\(B3 (v17-1))<(((List.length (List.set l0 v17.toNat (l0.getD (Int.toNat (B3 (v17-1))) B2))):Nat):Int))) <|
  chk (decide ((Int.toNat (B3 (v17-1)))<(List.length (List.set l0 v17.toNat (l0.getD (Int.toNat (B3 (v17-1))) B2))))) <|
  some (.inl (v14,(B3 (v17-1)),(List.set (List.set l0 v17.toNat (l0.getD (Int.toNat (B3 (v17-1))) B2)) (Int.toNat (B3 (v17-1))) (l0.getD v17.toNat B2))))) (
  some (.inr l0))
def ci(rec:List o6->Int->Int->Int->Option (List o6)) (v14 v17:Int) (l0:List o6):=
 F8 (λv=>O9 rec v.1 v.2.1 v.2.2) (v14,v17,l0)
def P0(rec:List o6->Int->Int->Int->Option (List o6)) (v2 v14:Int) (l0:List o6):Option (List o6):=
 ci rec v14 v2 l0
def N3(rec:List o6->Int->Int->Int->Option (List o6)) (v2 v14 v15:Int) (l0:List o6):Option ((Int×Int×Int×List o6)⊕(List o6)):=
 sel (decide (v14<v15)) (
  chk (decide (0<=v2/\v2<l0.length)) <|
  chk (decide (v2.toNat<l0.length)) <|
  chk (decide ((0:Int)<=(B3 ((D4 (B3 (v14+v15))) / 2^1))/\(B3 ((D4 (B3 (v14+v15))) / 2^1))<((l0.length:Nat):Int))) <|
  chk (decide ((Int.toNat (B3 ((D4 (B3 (v14+v15))) / 2^1)))<l0.length)) <|
  (mh (l0.getD v2.toNat B2) (l0.getD (Int.toNat (B3 ((D4 (B3 (v14+v15))) / 2^1))) B2)).bind λr5=>
  sel (!(decide (r5<0))) (
   some (.inl (v2,(B3 ((B3 ((D4 (B3 (v14+v15))) / 2^1))+1)),v15,l0))) (
   some (.inl (v2,v14,(B3 ((D4 (B3 (v14+v15))) / 2^1)),l0)))) (
  Option.map .inr (
   P0 rec v2 v14 l0))
def bq(rec:List o6->Int->Int->Int->Option (List o6)) (v2 v14 v15:Int) (l0:List o6):=
 F8 (λv=>N3 rec v.1 v.2.1 v.2.2.1 v.2.2.2) (v2,v14,v15,l0)
def P1(rec:List o6->Int->Int->Int->Option (List o6)) (v1 v2 v3:Int) (l0:List o6):Option (List o6):=
 sel (decide ((B3 (v3-v2))=1)) (
  bq rec v2 v1 v2 l0) (
  O8 rec v1 v2 v3 l0)
def N4(_rec:List o6->Int->Int->Int->Option (List o6)) (v10 v13:Int) (l0:List o6):Option ((Int×Int×List o6)⊕(List o6)):=
 sel (decide (v13<(B3 (v10-1)))) (
  chk (decide (0<=(B3 (v13+1))/\(B3 (v13+1))<l0.length)) <|
  chk (decide ((Int.toNat (B3 (v13+1)))<l0.length)) <|
  chk (decide (0<=v13/\v13<l0.length)) <|
  chk (decide (v13.toNat<l0.length)) <|
  chk (decide (0<=v13/\v13<l0.length)) <|
  chk (decide (v13.toNat<l0.length)) <|
  chk (decide ((0:Int)<=(B3 (v13+1))/\(B3 (v13+1))<(((List.length (List.set l0 v13.toNat (l0.getD (Int.toNat (B3 (v13+1))) B2))):Nat):Int))) <|
  chk (decide ((Int.toNat (B3 (v13+1)))<(List.length (List.set l0 v13.toNat (l0.getD (Int.toNat (B3 (v13+1))) B2))))) <|
  some (.inl (v10,(B3 (v13+1)),(List.set (List.set l0 v13.toNat (l0.getD (Int.toNat (B3 (v13+1))) B2)) (Int.toNat (B3 (v13+1))) (l0.getD v13.toNat B2))))) (
  some (.inr l0))
def bt(rec:List o6->Int->Int->Int->Option (List o6)) (v10 v13:Int) (l0:List o6):=
 F8 (λv=>N4 rec v.1 v.2.1 v.2.2) (v10,v13,l0)
def N5(rec:List o6->Int->Int->Int->Option (List o6)) (v1 v10:Int) (l0:List o6):Option (List o6):=
 bt rec v10 v1 l0
def N6(rec:List o6->Int->Int->Int->Option (List o6)) (v1 v10 v11:Int) (l0:List o6):Option ((Int×Int×Int×List o6)⊕(List o6)):=
 sel (decide (v10<v11)) (
  chk (decide ((0:Int)<=(B3 ((D4 (B3 (v10+v11))) / 2^1))/\(B3 ((D4 (B3 (v10+v11))) / 2^1))<((l0.length:Nat):Int))) <|
  chk (decide ((Int.toNat (B3 ((D4 (B3 (v10+v11))) / 2^1)))<l0.length)) <|
  chk (decide (0<=v1/\v1<l0.length)) <|
  chk (decide (v1.toNat<l0.length)) <|
  (mh (l0.getD (Int.toNat (B3 ((D4 (B3 (v10+v11))) / 2^1))) B2) (l0.getD v1.toNat B2)).bind λr6=>
  sel (decide (r6<0)) (
   some (.inl (v1,(B3 ((B3 ((D4 (B3 (v10+v11))) / 2^1))+1)),v11,l0))) (
   some (.inl (v1,v10,(B3 ((D4 (B3 (v10+v11))) / 2^1)),l0)))) (
  Option.map .inr (
   N5 rec v1 v10 l0))
def bu(rec:List o6->Int->Int->Int->Option (List o6)) (v1 v10 v11:Int) (l0:List o6):=
 F8 (λv=>N6 rec v.1 v.2.1 v.2.2.1 v.2.2.2) (v1,v10,v11,l0)
def bw(rec:List o6->Int->Int->Int->Option (List o6)) (a0:List o6) (a1 a2 a3:Int):Option (List o6):=
 sel (decide ((B3 (a2-a1))=1)) (
  bu rec a1 a2 a3 a0) (
  P1 rec a1 a2 a3 a0)
def B6(n:Nat):List o6->Int->Int->Int->Option (List o6):=Nat.rec (motive:=λ_=>List o6->Int->Int->Int->Option (List o6)) (λ_ _ _ _=>none) (λ_ ih=>bw ih) n
def sm(v0 v3:Int):Option ((Int×Int)⊕(Int)):=
 sel (decide (128<=v0)) (
  some (.inl ((v0 / 2^7),(B3 (v3+1))))) (
  some (.inr v3))
def qO(v0 v3:Int):=
 F8 (λv=>sm v.1 v.2) (v0,v3)
def rG(a0:Int):Option (Int):=
 qO a0 1
def ol(a0:Int):Option (Int):=
 sel (decide (a0<0)) (
  some 0) (
  (rG (D4 a0)).bind λr1=>
  some (B3 ((B3 (1+r1))+a0)))
def gQ(a0:o8):Option (List o5×Int):=
 (L4 a0.1).bind λr1=>
 some (r1,a0.2)
def qi(v0:List UInt8):Option (Bool):=
 sel (decide (1<=((v0.length:Nat):Int))) (
  some (decide (((v0.length:Nat):Int)<=20))) (
  some false)
def kB(v0:List UInt8) (v6 v7:Int):Option ((List UInt8×Int×Int)⊕(Bool)):=
 sel (decide (v7<v6)) (
  chk (decide (0<=v7/\v7<v0.length)) <|
  sel (decide (((UInt8.toNat (v0.getD v7.toNat (0:UInt8)):Nat):Int)<97)) (
   sel (decide (((UInt8.toNat (v0.getD v7.toNat (0:UInt8)):Nat):Int)<48)) (
    sel (!decide (((UInt8.toNat (v0.getD v7.toNat (0:UInt8)):Nat):Int)=45)) (
     some (.inr false)) (
     some (.inl (v0,v6,(B3 (v7+1)))))) (
    sel (decide (57<((UInt8.toNat (v0.getD v7.toNat (0:UInt8)):Nat):Int))) (
     sel (!decide (((UInt8.toNat (v0.getD v7.toNat (0:UInt8)):Nat):Int)=45)) (
      some (.inr false)) (
      some (.inl (v0,v6,(B3 (v7+1)))))) (
     some (.inl (v0,v6,(B3 (v7+1))))))) (
   sel (decide (122<((UInt8.toNat (v0.getD v7.toNat (0:UInt8)):Nat):Int))) (
    sel (decide (((UInt8.toNat (v0.getD v7.toNat (0:UInt8)):Nat):Int)<48)) (
     sel (!decide (((UInt8.toNat (v0.getD v7.toNat (0:UInt8)):Nat):Int)=45)) (
      some (.inr false)) (
      some (.inl (v0,v6,(B3 (v7+1)))))) (
     sel (decide (57<((UInt8.toNat (v0.getD v7.toNat (0:UInt8)):Nat):Int))) (
      sel (!decide (((UInt8.toNat (v0.getD v7.toNat (0:UInt8)):Nat):Int)=45)) (
       some (.inr false)) (
       some (.inl (v0,v6,(B3 (v7+1)))))) (
      some (.inl (v0,v6,(B3 (v7+1))))))) (
    some (.inl (v0,v6,(B3 (v7+1))))))) (
  Option.map .inr (
   qi v0))
def sW(v0:List UInt8) (v6 v7:Int):=
 F8 (λv=>kB v.1 v.2.1 v.2.2) (v0,v6,v7)
def nb(a0:List UInt8):Option (Bool):=
 sW a0 a0.length 0
def nn(v4:Int) (v9:List Int) (v10 v11:Int):Option ((Int×List Int×Int×Int)⊕(Int×Bool)):=
 sel (decide (v11<v10)) (
  chk (decide (0<=v11/\v11<v9.length)) <|
  (na v4 (v9.getD v11.toNat (0:Int))).bind λr1=>
  sel (!r1.2) (
   some (.inr (0,false))) (
   some (.inl (r1.1,v9,v10,(B3 (v11+1)))))) (
  some (.inr (v4,true)))
def sX(v4:Int) (v9:List Int) (v10 v11:Int):=
 F8 (λv=>nn v.1 v.2.1 v.2.2.1 v.2.2.2) (v4,v9,v10,v11)
def pm(a0:List Int):Option (Int×Bool):=
 sX 0 a0 a0.length 0
def nc(l0:List Int):Option (Int×Bool):=
 (pm l0).bind λr1=>
 some (r1.1,r1.2)
def jP(v11:List o5) (v12 v13:Int) (l0:List Int):Option ((List o5×Int×Int×List Int)⊕(Int×Bool)):=
 sel (decide (v13<v12)) (
  chk (decide (0<=v13/\v13<v11.length)) <|
  chk (decide ((l0.length+1)*8<=LIM/\l0.length+1<=LEN)) <|
  some (.inl (v11,v12,(B3 (v13+1)),(l0++[(v11.getD v13.toNat A6).2.1])))) (
  Option.map .inr (
   nc l0))
def pN(v11:List o5) (v12 v13:Int) (l0:List Int):=
 F8 (λv=>jP v.1 v.2.1 v.2.2.1 v.2.2.2) (v11,v12,v13,l0)
def np(a0:o8):Option (Int×Bool):=
 pN a0.1 a0.1.length 0 [a0.2]
def km(b0:o8):Option (Int):=
 (np b0).bind λr1=>
 sel (!r1.2) (
  some 6) (
  some 0)
def cy(v3:Int) (v12:List o5) (v13 v14:Int) (v24:Bool) (b0:o8) (b1:o5):Option ((List o5×Int×Int×o8)⊕(Int)):=
 sel v24 (
  some (.inr 8)) (
  sel (decide (0<v3)) (
   chk (decide (0<=(B3 (v3-1))/\(B3 (v3-1))<b0.1.length)) <|
   sel (!(Op.bytesLess (b0.1.getD (Int.toNat (B3 (v3-1))) A6).1 b1.1||decide ((b0.1.getD (Int.toNat (B3 (v3-1))) A6).1=b1.1))) (
    some (.inr 1)) (
    some (.inl (v12,v13,(B3 (v14+1)),b0)))) (
   some (.inl (v12,v13,(B3 (v14+1)),b0))))
def ga(v12:List o5) (v13 v14:Int) (b0:o8):Option ((List o5×Int×Int×o8)⊕(Int)):=
 sel (decide (v14<v13)) (
  chk (decide (0<=v14/\v14<v12.length)) <|
  (nb (v12.getD v14.toNat A6).1).bind λr2=>
  sel (!r2) (
   some (.inr 10)) (
   sel (decide (0<v14)) (
    chk (decide (0<=(B3 (v14-1))/\(B3 (v14-1))<b0.1.length)) <|
    cy v14 v12 v13 v14 (decide ((b0.1.getD (Int.toNat (B3 (v14-1))) A6).1=(v12.getD v14.toNat A6).1)) b0 (v12.getD v14.toNat A6)) (
    cy v14 v12 v13 v14 false b0 (v12.getD v14.toNat A6)))) (
  Option.map .inr (
   km b0))
def nF(v12:List o5) (v13 v14:Int) (b0:o8):=
 F8 (λv=>ga v.1 v.2.1 v.2.2.1 v.2.2.2) (v12,v13,v14,b0)
def jQ(a0:o8):Option (Int):=
 sel (decide (256<((a0.1.length:Nat):Int))) (
  some 3) (
  nF a0.1 a0.1.length 0 a0)
def om(v0:List UInt8) (v2 v5:Int):Option ((List UInt8×Int×Int)⊕(Int×Int×Int)):=
 chk (decide (0<=v5/\v5<v0.length)) <|
 chk (decide ((0:Int)<=(B3 (7*v5)))) <|
 chk (decide (0<=v5/\v5<v0.length)) <|
 sel (decide (((UInt8.toNat (v0.getD v5.toNat (0:UInt8)):Nat):Int)<128)) (
  some (.inr ((bits .or .u64 v2 (D4 ((D4 (bits .and .u8 ((UInt8.toNat (v0.getD v5.toNat (0:UInt8)):Nat):Int) 127))*2^(min (Int.toNat (B3 (7*v5))) 64)))),(B3 (v5+1)),0))) (
  some (.inl (v0,(bits .or .u64 v2 (D4 ((D4 (bits .and .u8 ((UInt8.toNat (v0.getD v5.toNat (0:UInt8)):Nat):Int) 127))*2^(min (Int.toNat (B3 (7*v5))) 64)))),(B3 (v5+1)))))
def oo(v0:List UInt8) (v2 v5:Int) (v13:Bool):Option ((List UInt8×Int×Int)⊕(Int×Int×Int)):=
 sel v13 (
  some (.inr (0,0,6))) (
  sel (decide (0<v5)) (
   chk (decide (0<=v5/\v5<v0.length)) <|
   sel (decide (((UInt8.toNat (v0.getD v5.toNat (0:UInt8)):Nat):Int)=0)) (
    some (.inr (0,0,4))) (
    om v0 v2 v5)) (
   om v0 v2 v5))
def sn(v0:List UInt8) (v2 v5:Int):Option ((List UInt8×Int×Int)⊕(Int×Int×Int)):=
 sel (decide (((v0.length:Nat):Int)<=v5)) (
  some (.inr (0,0,5))) (
  sel (decide (v5=9)) (
   chk (decide (0<=v5/\v5<v0.length)) <|
   oo v0 v2 v5 (decide (1<((UInt8.toNat (v0.getD v5.toNat (0:UInt8)):Nat):Int)))) (
   oo v0 v2 v5 false))
def xB(v0:List UInt8) (v2 v5:Int):=
 F8 (λv=>sn v.1 v.2.1 v.2.2) (v0,v2,v5)
def jR(a0:List UInt8):Option (Int×Int×Int):=
 xB a0 0 0
def fI(v0:List UInt8) (v3 v6 v7:Int) (_b0:A3):Option (A3×Int×Int):=
 chk (decide ((0:Int)<=v3/\v3<=((v0.length:Nat):Int)/\((v0.length:Nat):Int)<=((v0.length:Nat):Int))) <|
 (jR (List.drop v3.toNat (List.take (Int.toNat v0.length) v0))).bind λr2=>
 sel (!decide (r2.2.2=0)) (
  some (((0:Int),(0:Int),(0:Int),[]),0,r2.2.2)) (
  sel (decide (v6=0)) (
   some (((B3 v7),v6,r2.1,[]),(B3 (v3+r2.2.1)),0)) (
   chk (decide ((0:Int)<=(B3 (v3+r2.2.1))/\(B3 (v3+r2.2.1))<=((v0.length:Nat):Int)/\((v0.length:Nat):Int)<=((v0.length:Nat):Int))) <|
   sel (decide ((D4 (((List.length (List.drop (Int.toNat (B3 (v3+r2.2.1))) (List.take (Int.toNat v0.length) v0))):Nat):Int))<r2.1)) (
    some (((0:Int),(0:Int),(0:Int),[]),0,5)) (
    chk (decide ((0:Int)<=0/\0<=r2.1/\r2.1<=(((List.length (List.drop (Int.toNat (B3 (v3+r2.2.1))) (List.take (Int.toNat v0.length) v0))):Nat):Int))) <|
    chk (decide ((List.length (List.take r2.1.toNat (List.drop (Int.toNat (B3 (v3+r2.2.1))) (List.take (Int.toNat v0.length) v0))))*1<=LIM/\(List.length (List.take r2.1.toNat (List.drop (Int.toNat (B3 (v3+r2.2.1))) (List.take (Int.toNat v0.length) v0))))<=LEN)) <|
    some (((B3 v7),v6,(0:Int),(List.take r2.1.toNat (List.drop (Int.toNat (B3 (v3+r2.2.1))) (List.take (Int.toNat v0.length) v0)))),(B3 ((B3 (v3+r2.2.1))+(B3 r2.1))),0))))
def nd(a0:List UInt8):Option (A3×Int×Int):=
 (jR a0).bind λr1=>
 sel (!decide (r1.2.2=0)) (
  some (((0:Int),(0:Int),(0:Int),[]),0,r1.2.2)) (
  sel (decide ((r1.1 / 2^3)<1)) (
   some (((0:Int),(0:Int),(0:Int),[]),0,4)) (
   sel (decide (536870911<(r1.1 / 2^3))) (
    some (((0:Int),(0:Int),(0:Int),[]),0,4)) (
    sel (!decide ((B3 (bits .and .u64 r1.1 7))=0)) (
     sel (!decide ((B3 (bits .and .u64 r1.1 7))=2)) (
      some (((0:Int),(0:Int),(0:Int),[]),0,4)) (
      fI a0 r1.2.1 (B3 (bits .and .u64 r1.1 7)) (r1.1 / 2^3) ((0:Int),(0:Int),(0:Int),[]))) (
     fI a0 r1.2.1 (B3 (bits .and .u64 r1.1 7)) (r1.1 / 2^3) ((0:Int),(0:Int),(0:Int),[])))))
def oq(l0:List A3):Option (List A3×Int×Int):=
 some (l0,0,0)
def cj(v0:List UInt8) (v3:Int) (l0:List A3):Option ((List UInt8×Int×List A3)⊕(List A3×Int×Int)):=
 sel (decide (v3<v0.length)) (
  sel (decide (((l0.length:Nat):Int)=1024)) (
   some (.inr ([],v3,3))) (
   chk (decide ((0:Int)<=v3/\v3<=((v0.length:Nat):Int)/\((v0.length:Nat):Int)<=((v0.length:Nat):Int))) <|
   (nd (List.drop v3.toNat (List.take (Int.toNat v0.length) v0))).bind λr1=>
   sel (!decide (r1.2.2=0)) (
    some (.inr ([],v3,r1.2.2))) (
    chk (decide ((l0.length+1)*48<=LIM/\l0.length+1<=LEN)) <|
    some (.inl (v0,(B3 (v3+r1.2.1)),(l0++([r1.1]:List A3))))))) (
  Option.map .inr (
   oq l0))
def ne(v0:List UInt8) (v3:Int) (l0:List A3):=
 F8 (λv=>cj v.1 v.2.1 v.2.2) (v0,v3,l0)
def im(a0:List UInt8):Option (List A3×Int×Int):=
 ne a0 0 []
def kQ(v16 v17:Int) (b0 b1:A0) (l0:List A3):Option ((Int×Int×A0×A0×List A3)⊕(A0)):=
 sel (decide (v17<v16)) (
  chk (decide (0<=v17/\v17<l0.length)) <|
  chk (decide (v17.toNat<l0.length)) <|
  sel (decide ((l0.getD v17.toNat D6).1=1)) (
   some (.inl (v16,(B3 (v17+1)),b0,((l0.getD v17.toNat D6).2.2.2,b1.2),l0))) (
   sel (decide ((l0.getD v17.toNat D6).1=2)) (
    some (.inl (v16,(B3 (v17+1)),b0,(b1.1,(l0.getD v17.toNat D6).2.2.1),l0))) (
    some (.inl (v16,(B3 (v17+1)),b0,b1,l0))))) (
  some (.inr b1))
def qP(v16 v17:Int) (b0 b1:A0) (l0:List A3):=
 F8 (λv=>kQ v.1 v.2.1 v.2.2.1 v.2.2.2.1 v.2.2.2.2) (v16,v17,b0,b1,l0)
def mi(a0:List UInt8):Option (A0):=
 (im a0).bind λr1=>
 qP r1.1.length 0 ([],(0:Int)) ([],(0:Int)) r1.1
def pO(v6:List A3) (v7 v8:Int) (b0_0:List UInt8) (b0_1 b0_2 b0_3:Int) (b0_4 b1_0:List UInt8) (b1_1 b1_2 b1_3:Int) (b1_4:List UInt8) (l0:List A0):Option ((List A3×Int×Int×List UInt8×Int×Int×Int×List UInt8×List UInt8×Int×Int×Int×List UInt8×List A0)⊕(C2)):=
 sel (decide (v8<v7)) (
  chk (decide (0<=v8/\v8<v6.length)) <|
  sel (decide ((v6.getD v8.toNat D6).1=1)) (
   some (.inl (v6,v7,(B3 (v8+1)),b0_0,b0_1,b0_2,b0_3,b0_4,(v6.getD v8.toNat D6).2.2.2,b1_1,b1_2,b1_3,b1_4,l0))) (
   sel (decide ((v6.getD v8.toNat D6).1=2)) (
    some (.inl (v6,v7,(B3 (v8+1)),b0_0,b0_1,b0_2,b0_3,b0_4,b1_0,(v6.getD v8.toNat D6).2.2.1,b1_2,b1_3,b1_4,l0))) (
    sel (decide ((v6.getD v8.toNat D6).1=3)) (
     some (.inl (v6,v7,(B3 (v8+1)),b0_0,b0_1,b0_2,b0_3,b0_4,b1_0,b1_1,(v6.getD v8.toNat D6).2.2.1,b1_3,b1_4,l0))) (
     sel (decide ((v6.getD v8.toNat D6).1=4)) (
      some (.inl (v6,v7,(B3 (v8+1)),b0_0,b0_1,b0_2,b0_3,b0_4,b1_0,b1_1,b1_2,(v6.getD v8.toNat D6).2.2.1,b1_4,l0))) (
      sel (decide ((v6.getD v8.toNat D6).1=5)) (
       some (.inl (v6,v7,(B3 (v8+1)),b0_0,b0_1,b0_2,b0_3,b0_4,b1_0,b1_1,b1_2,b1_3,(v6.getD v8.toNat D6).2.2.2,l0))) (
       sel (decide ((v6.getD v8.toNat D6).1=6)) (
        (mi (v6.getD v8.toNat D6).2.2.2).bind λr1=>
        chk (decide ((l0.length+1)*24<=LIM/\l0.length+1<=LEN)) <|
        some (.inl (v6,v7,(B3 (v8+1)),b0_0,b0_1,b0_2,b0_3,b0_4,b1_0,b1_1,b1_2,b1_3,b1_4,(l0++([r1]:List A0))))) (
        some (.inl (v6,v7,(B3 (v8+1)),b0_0,b0_1,b0_2,b0_3,b0_4,b1_0,b1_1,b1_2,b1_3,b1_4,l0))))))))) (
  some (.inr (b1_0,b1_1,b1_2,b1_3,b1_4,l0)))
def wF(v6:List A3) (v7 v8:Int) (b0_0:List UInt8) (b0_1 b0_2 b0_3:Int) (b0_4 b1_0:List UInt8) (b1_1 b1_2 b1_3:Int) (b1_4:List UInt8) (l0:List A0):=
 F8 (λv=>pO v.1 v.2.1 v.2.2.1 v.2.2.2.1 v.2.2.2.2.1 v.2.2.2.2.2.1 v.2.2.2.2.2.2.1 v.2.2.2.2.2.2.2.1 v.2.2.2.2.2.2.2.2.1 v.2.2.2.2.2.2.2.2.2.1 v.2.2.2.2.2.2.2.2.2.2.1 v.2.2.2.2.2.2.2.2.2.2.2.1 v.2.2.2.2.2.2.2.2.2.2.2.2.1 v.2.2.2.2.2.2.2.2.2.2.2.2.2) (v6,v7,v8,b0_0,b0_1,b0_2,b0_3,b0_4,b1_0,b1_1,b1_2,b1_3,b1_4,l0)
def wG(a0:List A3):Option (C2):=
 wF a0 a0.length 0 [] (0:Int) (0:Int) (0:Int) [] [] (0:Int) (0:Int) (0:Int) [] []
def nG(a0:A3):Option (Bool):=
 sel (decide (a0.1<1)) (
  some false) (
  sel (decide (536870911<a0.1)) (
   some false) (
   sel (decide (a0.2.1=0)) (
    sel (decide (((a0.2.2.2.length:Nat):Int)=0)) (
     some true) (
     sel (decide (a0.2.1=2)) (
      some (decide (a0.2.2.1=0))) (
      some false))) (
    sel (decide (a0.2.1=2)) (
     some (decide (a0.2.2.1=0))) (
     some false))))
def uf(a0:A3):Option (Int):=
 some (D4 (B3 ((B3 (8*a0.1))+a0.2.1)))
def pP(v1:Int) (l0:List UInt8):Option (List UInt8):=
 chk (decide ((0:Int)<=(wu8 v1)/\(wu8 v1)<256)) <|
 chk (decide ((l0.length+1)*1<=LIM/\l0.length+1<=LEN)) <|
 some (l0++[(UInt8.ofNat (Int.toNat (wu8 v1)))])
def pQ(v1:Int) (l0:List UInt8):Option ((Int×List UInt8)⊕(List UInt8)):=
 sel (decide (128<=v1)) (
  chk (decide ((0:Int)<=(bits .or .u8 (wu8 v1) 128)/\(bits .or .u8 (wu8 v1) 128)<256)) <|
  chk (decide ((l0.length+1)*1<=LIM/\l0.length+1<=LEN)) <|
  some (.inl ((v1 / 2^7),(l0++[(UInt8.ofNat (Int.toNat (bits .or .u8 (wu8 v1) 128)))])))) (
  Option.map .inr (
   pP v1 l0))
def vr(v1:Int) (l0:List UInt8):=
 F8 (λv=>pQ v.1 v.2) (v1,l0)
def gz(a0:List UInt8) (a1:Int):Option (List UInt8):=
 chk (decide (a0.length*1<=LIM/\a0.length<=LEN)) <|
 vr a1 a0
def cX(a0:List UInt8) (a1:A3):Option (List UInt8×Int):=
 (nG a1).bind λr1=>
 sel (!r1) (
  some ([],1)) (
  (uf a1).bind λr2=>
  (gz a0 r2).bind λr3=>
  sel (decide (a1.2.1=0)) (
   (gz r3 a1.2.2.1).bind λr4=>
   some (r4,0)) (
   (gz r3 (D4 a1.2.2.2.length)).bind λr5=>
   chk (decide ((r5.length+a1.2.2.2.length)*1<=LIM/\r5.length+a1.2.2.2.length<=LEN)) <|
   some ((r5++a1.2.2.2),0)))
def T0(a0:List UInt8) (a1:Int) (a2:List UInt8):Option (List UInt8):=
 sel (decide (a2=[])) (
  some a0) (
  chk (decide (a2.length<=maxLen)) <|
  (cX [] (a1,2,(0:Int),a2)).bind λr1=>
  chk (decide ((a0.length+r1.1.length)*1<=LIM/\a0.length+r1.1.length<=LEN)) <|
  some (a0++r1.1))
def N0(a0:List UInt8) (a1 a2:Int):Option (List UInt8):=
 sel (decide (a2=0)) (
  some a0) (
  (cX [] (a1,0,a2,[])).bind λr1=>
  chk (decide ((a0.length+r1.1.length)*1<=LIM/\a0.length+r1.1.length<=LEN)) <|
  some (a0++r1.1))
def bE(a0:List UInt8) (a1:Int) (a2:List UInt8):Option (List UInt8):=
 (cX [] (a1,2,(0:Int),a2)).bind λr1=>
 chk (decide ((a0.length+r1.1.length)*1<=LIM/\a0.length+r1.1.length<=LEN)) <|
 some (a0++r1.1)
def mj(v28:List A0) (v29 v30:Int) (l0:List UInt8):Option ((List A0×Int×Int×List UInt8)⊕(List UInt8)):=
 sel (decide (v30<v29)) (
  chk (decide (0<=v30/\v30<v28.length)) <|
  (T0 [] 1 (v28.getD v30.toNat I1).1).bind λr6=>
  (N0 r6 2 (v28.getD v30.toNat I1).2).bind λr7=>
  (bE l0 6 r7).bind λr8=>
  some (.inl (v28,v29,(B3 (v30+1)),r8))) (
  some (.inr l0))
def so(v28:List A0) (v29 v30:Int) (l0:List UInt8):=
 F8 (λv=>mj v.1 v.2.1 v.2.2.1 v.2.2.2) (v28,v29,v30,l0)
def pR(a0:C2):Option (List UInt8):=
 (T0 [] 1 a0.1).bind λr1=>
 (N0 r1 2 a0.2.1).bind λr2=>
 (N0 r2 3 a0.2.2.1).bind λr3=>
 (N0 r3 4 a0.2.2.2.1).bind λr4=>
 (T0 r4 5 a0.2.2.2.2.1).bind λr5=>
 so a0.2.2.2.2.2 a0.2.2.2.2.2.length 0 r5
def rH(a0 a1:List UInt8):Option (Bool):=
 some (decide (a0=a1))
def qj(v0:List UInt8) (v3:Int) (l0:List (List UInt8×Int)):Option ((List UInt8×Int×List (List UInt8×Int))⊕(Bool)):=
 chk (Nat.beq l0.length 1) <|
 sel (decide (Int.toNat (iH l0).2<List.length (iH l0).1)) (
  chk ((decide (Int.toNat (iH l0).2<List.length (iH l0).1))) <|
  chk ((decide (Int.toNat (iH l0).2<List.length (iH l0).1))) <|
  chk (decide ((0:Int)<=(iH l0).2/\(iH l0).2<=((v0.length:Nat):Int)/\((v0.length:Nat):Int)<=((v0.length:Nat):Int))) <|
  (P5 (List.drop (Int.toNat (iH l0).2) (List.take (Int.toNat v0.length) v0))).bind λr1=>
  sel (decide ((PA (iH l0).1 (iH l0).2)=65533)) (
   sel (decide (r1.2=1)) (
    some (.inr false)) (
    some (.inl (v0,(B3 (v3+1)),[((iH l0).1,(Ir (iH l0).1 (iH l0).2))])))) (
   some (.inl (v0,(B3 (v3+1)),[((iH l0).1,(Ir (iH l0).1 (iH l0).2))])))) (
  some (.inr (decide (v3<=64))))
def sY(v0:List UInt8) (v3:Int) (l0:List (List UInt8×Int)):=
 F8 (λv=>qj v.1 v.2.1 v.2.2) (v0,v3,l0)
def rJ(a0:List UInt8):Option (Bool):=
 sY a0 0 [(a0,(0:Int))]
def kR(v31:List A0) (v32 v33:Int):Option ((List A0×Int×Int)⊕(Int)):=
 sel (decide (v33<v32)) (
  chk (decide (0<=v33/\v33<v31.length)) <|
  (nb (v31.getD v33.toNat I1).1).bind λr3=>
  sel (!r3) (
   some (.inr 10)) (
   sel (decide ((v31.getD v33.toNat I1).2=0)) (
    some (.inr 12)) (
    some (.inl (v31,v32,(B3 (v33+1))))))) (
  some (.inr 0))
def nf(v31:List A0) (v32 v33:Int):=
 F8 (λv=>kR v.1 v.2.1 v.2.2) (v31,v32,v33)
def oP(a0:C2):Option (Int):=
 (nb a0.1).bind λr1=>
 sel (!r1) (
  some 10) (
  sel (decide (a0.2.2.1=0)) (
   some 15) (
   (rJ a0.2.2.2.2.1).bind λr2=>
   sel (!r2) (
    some 11) (
    sel (decide (((a0.2.2.2.2.2.length:Nat):Int)=0)) (
     some 3) (
     sel (decide (16<((a0.2.2.2.2.2.length:Nat):Int))) (
      some 3) (
      nf a0.2.2.2.2.2 a0.2.2.2.2.2.length 0)))))
def pn(a0:List UInt8):Option (C2×Int):=
 sel (decide (4096<((a0.length:Nat):Int))) (
  some (([],(0:Int),(0:Int),(0:Int),[],[]),3)) (
  (im a0).bind λr1=>
  (wG r1.1).bind λr2=>
  sel (!decide (r1.2.2=0)) (
   some (([],(0:Int),(0:Int),(0:Int),[],[]),4)) (
   (pR r2).bind λr3=>
   (rH r3 a0).bind λr4=>
   sel (!r4) (
    some (([],(0:Int),(0:Int),(0:Int),[],[]),4)) (
    (oP r2).bind λr5=>
    sel (!decide (r5=0)) (
     some (([],(0:Int),(0:Int),(0:Int),[],[]),r5)) (
     some (r2,0)))))
def fh(a0:List UInt8):Option (Bool):=
 some (!decide (a0=a0))
def gb(a0 a1:List UInt8):Option (Int):=
 (fh a0).bind λr1=>
 (fh a1).bind λr2=>
 sel r1 (
  sel r2 (
   some 0) (
   some (-1))) (
  sel r2 (
   some 1) (
   sel (Op.bytesLess a0 a1) (
    some (-1)) (
    sel (!(Op.bytesLess a0 a1||decide (a0=a1))) (
     some 1) (
     some 0))))
def jx(a0:o5) (a1:List UInt8):Option (Int):=
 (gb a0.1 a1).bind λr1=>
 some r1
def E7(v0:List o5) (v1:List UInt8) (v8 v9:Int):Option (Int×Bool):=
 sel (decide (v9<v8)) (
  chk (decide (0<=v9/\v9<v0.length)) <|
  (jx (v0.getD v9.toNat A6) v1).bind λr1=>
  some (v9,(decide (r1=0)))) (
  some (v9,false))
def E8(v0:List o5) (v1:List UInt8) (v8 v9 v10:Int):Option ((List o5×List UInt8×Int×Int×Int)⊕(Int×Bool)):=
 sel (decide (v9<v10)) (
  chk (decide ((0:Int)<=(B3 ((D4 (B3 (v9+v10))) / 2^1))/\(B3 ((D4 (B3 (v9+v10))) / 2^1))<((v0.length:Nat):Int))) <|
  (jx (v0.getD (Int.toNat (B3 ((D4 (B3 (v9+v10))) / 2^1))) A6) v1).bind λr2=>
  sel (decide (r2<0)) (
   some (.inl (v0,v1,v8,(B3 ((B3 ((D4 (B3 (v9+v10))) / 2^1))+1)),v10))) (
   some (.inl (v0,v1,v8,v9,(B3 ((D4 (B3 (v9+v10))) / 2^1)))))) (
  Option.map .inr (
   E7 v0 v1 v8 v9))
def I4(v0:List o5) (v1:List UInt8) (v8 v9 v10:Int):=
 F8 (λv=>E8 v.1 v.2.1 v.2.2.1 v.2.2.2.1 v.2.2.2.2) (v0,v1,v8,v9,v10)
def D5(a0:List o5) (a1:List UInt8):Option (Int×Bool):=
 I4 a0 a1 a0.length 0 a0.length
def io(a0:o8) (a1:List UInt8):Option (Int×Bool):=
 (D5 a0.1 a1).bind λr1=>
 some (r1.1,r1.2)
def rK(a0:Int):Option (Int):=
 some (D4 (min (max a0 0) 1073741824))
def xC(a0 a1:Int):Option (Int):=
 (rK a0).bind λr1=>
 (rK a1).bind λr2=>
 some (D4 ((D4 (50+(D4 (1*r1))))+(D4 (20*r2))))
def gA(a0 a1:Int):Option (Int×Int):=
 some ((D4 ((D4 ((D4 ((a0 / 2^32)*(a1 / 2^32)))+((D4 ((D4 ((a0 / 2^32)*(bits .and .u64 a1 4294967295)))+((D4 ((bits .and .u64 a0 4294967295)*(bits .and .u64 a1 4294967295))) / 2^32))) / 2^32)))+((D4 ((bits .and .u64 (D4 ((D4 ((a0 / 2^32)*(bits .and .u64 a1 4294967295)))+((D4 ((bits .and .u64 a0 4294967295)*(bits .and .u64 a1 4294967295))) / 2^32))) 4294967295)+(D4 ((bits .and .u64 a0 4294967295)*(a1 / 2^32))))) / 2^32))),(D4 (a0*a1)))
def sZ(a0:Int) (a1:Bool):Option (Int×Bool):=
 sel (!a1) (
  some (0,false)) (
  some (a0,true))
def rM(a0 a1:Int):Option (Int×Bool):=
 (gA a0 a1).bind λr1=>
 (sZ r1.2 (decide (r1.1=0))).bind λr2=>
 some (r2.1,r2.2)
def ug(a0 a1:Int):Option (Int×Bool):=
 (rM a0 a1).bind λr1=>
 some (r1.1,r1.2)
def po(l0:List Int):Option (Int×Bool):=
 (pm l0).bind λr1=>
 some (r1.1,r1.2)
def ml(v11:List A0) (v12 v13:Int) (l0:List Int):Option ((List A0×Int×Int×List Int)⊕(Int×Bool)):=
 sel (decide (v13<v12)) (
  chk (decide (0<=v13/\v13<v11.length)) <|
  chk (decide ((l0.length+1)*8<=LIM/\l0.length+1<=LEN)) <|
  some (.inl (v11,v12,(B3 (v13+1)),(l0++[(v11.getD v13.toNat I1).2])))) (
  Option.map .inr (
   po l0))
def sq(v11:List A0) (v12 v13:Int) (l0:List Int):=
 F8 (λv=>ml v.1 v.2.1 v.2.2.1 v.2.2.2) (v11,v12,v13,l0)
def nH(a0:C2):Option (Int×Bool):=
 sq a0.2.2.2.2.2 a0.2.2.2.2.2.length 0 [a0.2.2.2.1]
def kS(v12:List A0) (v13 v14:Int) (b0:o8) (l0:List (List UInt8×Vector UInt8 0)):Option ((List A0×Int×Int×o8×List (List UInt8×Vector UInt8 0))⊕(Int)):=
 sel (decide (v14<v13)) (
  chk (decide (0<=v14/\v14<v12.length)) <|
  (io b0 (v12.getD v14.toNat I1).1).bind λr1=>
  sel (!r1.2) (
   some (.inl (v12,v13,(B3 (v14+1)),b0,(WF Bo (v12.getD v14.toNat I1).1 (Vector.replicate 0 (0:UInt8)) l0)))) (
   some (.inl (v12,v13,(B3 (v14+1)),b0,l0)))) (
  some (.inr l0.length))
def qQ(v12:List A0) (v13 v14:Int) (b0:o8) (l0:List (List UInt8×Vector UInt8 0)):=
 F8 (λv=>kS v.1 v.2.1 v.2.2.1 v.2.2.2.1 v.2.2.2.2) (v12,v13,v14,b0,l0)
def oQ(a0:o8) (a1:C2):Option (Int):=
 qQ a1.2.2.2.2.2 a1.2.2.2.2.2.length 0 a0 []
def oR(a0:o8) (a1:Int) (a2:C2) (a3:Int):Option (Int):=
 (io a0 a2.1).bind λr1=>
 sel (!r1.2) (
  some 13) (
  chk (decide (0<=r1.1/\r1.1<a0.1.length)) <|
  sel (!decide ((a0.1.getD r1.1.toNat A6).2.2=a2.2.1)) (
   some 14) (
   sel (decide ((a0.1.getD r1.1.toNat A6).2.2=18446744073709551615)) (
    some 6) (
    (xC a3 a2.2.2.2.2.2.length).bind λr2=>
    sel (decide (a2.2.2.1<r2)) (
     some 15) (
     (ug a2.2.2.1 a1).bind λr3=>
     sel (!r3.2) (
      some 6) (
      sel (decide (a2.2.2.2.1<r3.1)) (
       some 16) (
       (nH a2).bind λr4=>
       sel (!r4.2) (
        some 6) (
        sel (decide ((a0.1.getD r1.1.toNat A6).2.1<r4.1)) (
         some 17) (
         (oQ a0 a2).bind λr5=>
         sel (decide (256<(B3 (((a0.1.length:Nat):Int)+r5)))) (
          some 3) (
          some 0)))))))))
def cz(v0 v2:Int):Option (Int):=
 chk (decide ((0:Int)<=(wu8 v0)/\(wu8 v0)<256)) <|
 some (B3 (v2+(B3 ((UInt8.toNat (List.getD ([0,1,2,2,3,3,3,3,4,4,4,4,4,4,4,4,5,5,5,5,5,5,5,5,5,5,5,5,5,5,5,5,6,6,6,6,6,6,6,6,6,6,6,6,6,6,6,6,6,6,6,6,6,6,6,6,6,6,6,6,6,6,6,6,7,7,7,7,7,7,7,7,7,7,7,7,7,7,7,7,7,7,7,7,7,7,7,7,7,7,7,7,7,7,7,7,7,7,7,7,7,7,7,7,7,7,7,7,7,7,7,7,7,7,7,7,7,7,7,7,7,7,7,7,7,7,7,7,8,8,8,8,8,8,8,8,8,8,8,8,8,8,8,8,8,8,8,8,8,8,8,8,8,8,8,8,8,8,8,8,8,8,8,8,8,8,8,8,8,8,8,8,8,8,8,8,8,8,8,8,8,8,8,8,8,8,8,8,8,8,8,8,8,8,8,8,8,8,8,8,8,8,8,8,8,8,8,8,8,8,8,8,8,8,8,8,8,8,8,8,8,8,8,8,8,8,8,8,8,8,8,8,8,8,8,8,8,8,8,8,8,8,8,8,8,8,8,8,8,8,8,8,8,8,8,8]:List UInt8) (Int.toNat (wu8 v0)) (0:UInt8)):Nat):Int))))
def cA(v0 v2:Int):Option (Int):=
 sel (decide (256<=v0)) (
  cz (v0 / 2^8) (B3 (v2+8))) (
  cz v0 v2)
def cB(v0 v2:Int):Option (Int):=
 sel (decide (65536<=v0)) (
  cA (v0 / 2^16) (B3 (v2+16))) (
  cA v0 v2)
def jS(a0:Int):Option (Int):=
 sel (decide (4294967296<=a0)) (
  cB (a0 / 2^32) 32) (
  cB a0 0)
def ao(a0:Int):Option (Int):=
 (jS a0).bind λr1=>
 some (B3 (64-r1))
def cC(v2 v8 v14 v15 v17 v18:Int):Option (Int×Int):=
 chk (decide ((0:Int)<=v8)) <|
 some ((D4 ((D4 (v15*4294967296))+v18)),((D4 ((D4 ((D4 (v17*4294967296))+v14))-(D4 (v18*v2)))) / 2^(min v8.toNat 64)))
def cD(v2 v8 v9 v10 v14 v15 v16 v17 v18:Int):Option ((Int×Int×Int×Int×Int×Int×Int×Int×Int)⊕(Int×Int)):=
 sel (decide (4294967296<=(D4 (v16+v9)))) (
  Option.map .inr (
   cC v2 v8 v14 v15 v17 (D4 (v18-1)))) (
  some (.inl (v2,v8,v9,v10,v14,v15,(D4 (v16+v9)),v17,(D4 (v18-1)))))
def kn(v2 v8 v9 v10 v14 v15 v16 v17 v18:Int):Option ((Int×Int×Int×Int×Int×Int×Int×Int×Int)⊕(Int×Int)):=
 sel (decide (4294967296<=v18)) (
  cD v2 v8 v9 v10 v14 v15 v16 v17 v18) (
  sel (decide ((D4 ((D4 (4294967296*v16))+v14))<(D4 (v18*v10)))) (
   cD v2 v8 v9 v10 v14 v15 v16 v17 v18) (
   Option.map .inr (
    cC v2 v8 v14 v15 v17 v18)))
def jy(v2 v8 v9 v10 v14 v15 v16 v17 v18:Int):=
 F8 (λv=>kn v.1 v.2.1 v.2.2.1 v.2.2.2.1 v.2.2.2.2.1 v.2.2.2.2.2.1 v.2.2.2.2.2.2.1 v.2.2.2.2.2.2.2.1 v.2.2.2.2.2.2.2.2) (v2,v8,v9,v10,v14,v15,v16,v17,v18)
def U1(v2 v8 v9 v10 v11 v13 v14 v15:Int):Option (Int×Int):=
 chk (!decide (v9=0)) <|
 jy v2 v8 v9 v10 v14 v15 (D4 ((D4 ((D4 ((D4 (v11*4294967296))+v13))-(D4 (v15*v2))))-(D4 ((D4 (Int.tdiv (D4 ((D4 ((D4 (v11*4294967296))+v13))-(D4 (v15*v2)))) v9))*v9)))) (D4 ((D4 ((D4 (v11*4294967296))+v13))-(D4 (v15*v2)))) (D4 (Int.tdiv (D4 ((D4 ((D4 (v11*4294967296))+v13))-(D4 (v15*v2)))) v9))
def cF(v2 v8 v9 v10 v11 v13 v14 v15 v16:Int):Option ((Int×Int×Int×Int×Int×Int×Int×Int×Int)⊕(Int×Int)):=
 sel (decide (4294967296<=(D4 (v16+v9)))) (
  Option.map .inr (
   U1 v2 v8 v9 v10 v11 v13 v14 (D4 (v15-1)))) (
  some (.inl (v2,v8,v9,v10,v11,v13,v14,(D4 (v15-1)),(D4 (v16+v9)))))
def ko(v2 v8 v9 v10 v11 v13 v14 v15 v16:Int):Option ((Int×Int×Int×Int×Int×Int×Int×Int×Int)⊕(Int×Int)):=
 sel (decide (4294967296<=v15)) (
  cF v2 v8 v9 v10 v11 v13 v14 v15 v16) (
  sel (decide ((D4 ((D4 (4294967296*v16))+v13))<(D4 (v15*v10)))) (
   cF v2 v8 v9 v10 v11 v13 v14 v15 v16) (
   Option.map .inr (
    U1 v2 v8 v9 v10 v11 v13 v14 v15)))
def jz(v2 v8 v9 v10 v11 v13 v14 v15 v16:Int):=
 F8 (λv=>ko v.1 v.2.1 v.2.2.1 v.2.2.2.1 v.2.2.2.2.1 v.2.2.2.2.2.1 v.2.2.2.2.2.2.1 v.2.2.2.2.2.2.2.1 v.2.2.2.2.2.2.2.2) (v2,v8,v9,v10,v11,v13,v14,v15,v16)
def jT(a0 a1 a2:Int):Option (Int×Int):=
 sel (decide (a2=0)) (
  none) (
  sel (decide (a2<=a0)) (
   none) (
   sel (decide (a0=0)) (
    chk (!decide (a2=0)) <|
    chk (!decide (a2=0)) <|
    some ((D4 (Int.tdiv a1 a2)),(Int.tmod a1 a2))) (
    (ao a2).bind λr1=>
    chk (decide ((0:Int)<=(D4 r1))) <|
    chk (decide ((0:Int)<=(D4 r1))) <|
    chk (decide ((0:Int)<=(D4 (64-(D4 r1))))) <|
    chk (decide ((0:Int)<=(D4 r1))) <|
    chk (!decide (((D4 (a2*2^(min (Int.toNat (D4 r1)) 64))) / 2^32)=0)) <|
    jz (D4 (a2*2^(min (Int.toNat (D4 r1)) 64))) (D4 r1) ((D4 (a2*2^(min (Int.toNat (D4 r1)) 64))) / 2^32) (bits .and .u64 (D4 (a2*2^(min (Int.toNat (D4 r1)) 64))) 4294967295) (bits .or .u64 (D4 (a0*2^(min (Int.toNat (D4 r1)) 64))) (a1 / 2^(min (Int.toNat (D4 (64-(D4 r1)))) 64))) ((D4 (a1*2^(min (Int.toNat (D4 r1)) 64))) / 2^32) (bits .and .u64 (D4 (a1*2^(min (Int.toNat (D4 r1)) 64))) 4294967295) (D4 (Int.tdiv (bits .or .u64 (D4 (a0*2^(min (Int.toNat (D4 r1)) 64))) (a1 / 2^(min (Int.toNat (D4 (64-(D4 r1)))) 64))) ((D4 (a2*2^(min (Int.toNat (D4 r1)) 64))) / 2^32))) (D4 ((bits .or .u64 (D4 (a0*2^(min (Int.toNat (D4 r1)) 64))) (a1 / 2^(min (Int.toNat (D4 (64-(D4 r1)))) 64)))-(D4 ((D4 (Int.tdiv (bits .or .u64 (D4 (a0*2^(min (Int.toNat (D4 r1)) 64))) (a1 / 2^(min (Int.toNat (D4 (64-(D4 r1)))) 64))) ((D4 (a2*2^(min (Int.toNat (D4 r1)) 64))) / 2^32)))*((D4 (a2*2^(min (Int.toNat (D4 r1)) 64))) / 2^32))))))))
def nq(a0 a1 a2:Int):Option (Int×Bool):=
 (gA a0 a1).bind λr1=>
 sel (decide (a2<=r1.1)) (
  some (0,false)) (
  (jT r1.1 r1.2 a2).bind λr2=>
  some (r2.1,true))
def kC(a0 a1:Int):Option (Int):=
 sel (decide (a1=0)) (
  some 0) (
  (nq 1000 a0 a1).bind λr1=>
  sel (!r1.2) (
   some 18446744073709551615) (
   some r1.1))
def S2(a0:List o5) (a1:Int) (a2:List o5):Option (List o5):=a1V a0 a1 a2
def ot(b0_1:Int) (b1:C2) (_b2_1:Int) (l0:List o5):Option (List o5×Int):=
 some (l0,(D4 (b0_1+b1.2.2.2.1)))
def iI(v11:Int) (v45:List A0) (v46 v47 b0_1:Int) (b1:C2) (b2_1:Int) (b3:A0) (l0:List o5):Option ((List A0×Int×Int×Int×C2×Int×List o5)⊕(List o5×Int)):=
 chk (decide (0<=v11/\v11<l0.length)) <|
 chk (decide (v11.toNat<l0.length)) <|
 chk (decide (0<=v11/\v11<l0.length)) <|
 chk (decide (v11.toNat<l0.length)) <|
 some (.inl (v45,v46,(B3 (v47+1)),b0_1,b1,b2_1,(List.set l0 v11.toNat ((l0.getD v11.toNat A6).1,(D4 ((l0.getD v11.toNat A6).2.1+b3.2)),(l0.getD v11.toNat A6).2.2))))
def kT(v45:List A0) (v46 v47 b0_1:Int) (b1:C2) (b2_1:Int) (l0:List o5):Option ((List A0×Int×Int×Int×C2×Int×List o5)⊕(List o5×Int)):=
 sel (decide (v47<v46)) (
  chk (decide (0<=v47/\v47<v45.length)) <|
  (io (l0,b0_1) (v45.getD v47.toNat I1).1).bind λr3=>
  sel (!r3.2) (
   (S2 l0 r3.1 [((v45.getD v47.toNat I1).1,(0:Int),(0:Int))]).bind λr4=>
   iI r3.1 v45 v46 v47 b0_1 b1 b2_1 (v45.getD v47.toNat I1) r4) (
   iI r3.1 v45 v46 v47 b0_1 b1 b2_1 (v45.getD v47.toNat I1) l0)) (
  Option.map .inr (
   ot b0_1 b1 b2_1 l0))
def qR(v45:List A0) (v46 v47 b0_1:Int) (b1:C2) (b2_1:Int) (l0:List o5):=
 F8 (λv=>kT v.1 v.2.1 v.2.2.1 v.2.2.2.1 v.2.2.2.2.1 v.2.2.2.2.2.1 v.2.2.2.2.2.2) (v45,v46,v47,b0_1,b1,b2_1,l0)
def oS(a0_0:List o5) (a0_1:Int) (a1:C2):Option (List o5×Int):=
 (nH a1).bind λr1=>
 (io (a0_0,a0_1) a1.1).bind λr2=>
 chk (decide ((0:Int)<=r2.1/\r2.1<(((List.length a0_0):Nat):Int))) <|
 chk (decide (r2.1.toNat<(List.length a0_0))) <|
 chk (decide ((0:Int)<=r2.1/\r2.1<(((List.length a0_0):Nat):Int))) <|
 chk (decide (r2.1.toNat<(List.length a0_0))) <|
 chk (decide ((0:Int)<=r2.1/\r2.1<(((List.length (List.set a0_0 r2.1.toNat ((List.getD a0_0 r2.1.toNat A6).1,(D4 ((List.getD a0_0 r2.1.toNat A6).2.1-r1.1)),(List.getD a0_0 r2.1.toNat A6).2.2))):Nat):Int))) <|
 chk (decide (r2.1.toNat<(List.length (List.set a0_0 r2.1.toNat ((List.getD a0_0 r2.1.toNat A6).1,(D4 ((List.getD a0_0 r2.1.toNat A6).2.1-r1.1)),(List.getD a0_0 r2.1.toNat A6).2.2))))) <|
 chk (decide ((0:Int)<=r2.1/\r2.1<(((List.length (List.set a0_0 r2.1.toNat ((List.getD a0_0 r2.1.toNat A6).1,(D4 ((List.getD a0_0 r2.1.toNat A6).2.1-r1.1)),(List.getD a0_0 r2.1.toNat A6).2.2))):Nat):Int))) <|
 chk (decide (r2.1.toNat<(List.length (List.set a0_0 r2.1.toNat ((List.getD a0_0 r2.1.toNat A6).1,(D4 ((List.getD a0_0 r2.1.toNat A6).2.1-r1.1)),(List.getD a0_0 r2.1.toNat A6).2.2))))) <|
 qR a1.2.2.2.2.2 a1.2.2.2.2.2.length 0 a0_1 a1 (0:Int) (List.set (List.set a0_0 r2.1.toNat ((List.getD a0_0 r2.1.toNat A6).1,(D4 ((List.getD a0_0 r2.1.toNat A6).2.1-r1.1)),(List.getD a0_0 r2.1.toNat A6).2.2)) r2.1.toNat ((List.getD (List.set a0_0 r2.1.toNat ((List.getD a0_0 r2.1.toNat A6).1,(D4 ((List.getD a0_0 r2.1.toNat A6).2.1-r1.1)),(List.getD a0_0 r2.1.toNat A6).2.2)) r2.1.toNat A6).1,(List.getD (List.set a0_0 r2.1.toNat ((List.getD a0_0 r2.1.toNat A6).1,(D4 ((List.getD a0_0 r2.1.toNat A6).2.1-r1.1)),(List.getD a0_0 r2.1.toNat A6).2.2)) r2.1.toNat A6).2.1,(D4 ((List.getD (List.set a0_0 r2.1.toNat ((List.getD a0_0 r2.1.toNat A6).1,(D4 ((List.getD a0_0 r2.1.toNat A6).2.1-r1.1)),(List.getD a0_0 r2.1.toNat A6).2.2)) r2.1.toNat A6).2.2+1))))
def lF(a0:o8) (a1:Int) (a2:List UInt8):Option (o8×B1):=
 (gQ a0).bind λr1=>
 (jQ a0).bind λr2=>
 sel (!decide (r2=0)) (
  some (r1,(1,[],(0:Int),(0:Int),(0:Int)))) (
  (pn a2).bind λr3=>
  sel (!decide (r3.2=0)) (
   some (r1,(r3.2,[],(0:Int),(0:Int),(0:Int)))) (
   (oR a0 a1 r3.1 a2.length).bind λr4=>
   (kC r3.1.2.2.2.1 r3.1.2.2.1).bind λr5=>
   sel (decide (r4=0)) (
    (oS r1.1 r1.2 r3.1).bind λr6=>
    some (r6,(r4,r3.1.1,r3.1.2.1,r3.1.2.2.1,r5))) (
    some (r1,(r4,r3.1.1,r3.1.2.1,r3.1.2.2.1,r5)))))
def ap(v0 v1:List (List UInt8)) (v12 v13:Int):Option ((List (List UInt8)×List (List UInt8)×Int×Int)⊕(Bool)):=
 sel (decide (v13<v12)) (
  chk (decide (0<=v13/\v13<v0.length)) <|
  chk (decide (0<=v13/\v13<v1.length)) <|
  (G8 (v0.getD v13.toNat []) (v1.getD v13.toNat [])).bind λr1=>
  sel (!r1) (
   some (.inr false)) (
   some (.inl (v0,v1,v12,(B3 (v13+1)))))) (
  some (.inr true))
def jA(v0 v1:List (List UInt8)) (v12 v13:Int):=
 F8 (λv=>ap v.1 v.2.1 v.2.2.1 v.2.2.2) (v0,v1,v12,v13)
def Z4(a0 a1:List (List UInt8)):Option (Bool):=
 sel (!decide (((a0.length:Nat):Int)=((a1.length:Nat):Int))) (
  some false) (
  jA a0 a1 a0.length 0)
def ql(v3:Int) (v6:List (List UInt8)) (v7 v8:Int):Option ((Int×List (List UInt8)×Int×Int)⊕(Int)):=
 sel (decide (v8<v7)) (
  chk (decide (0<=v8/\v8<v6.length)) <|
  (ol (((List.length (v6.getD v8.toNat [])):Nat):Int)).bind λr1=>
  some (.inl ((B3 (v3+r1)),v6,v7,(B3 (v8+1))))) (
  some (.inr v3))
def ta(v3:Int) (v6:List (List UInt8)) (v7 v8:Int):=
 F8 (λv=>ql v.1 v.2.1 v.2.2.1 v.2.2.2) (v3,v6,v7,v8)
def Ax(a0:List (List UInt8)):Option (Int):=
 ta 0 a0 a0.length 0
def sr(b0:o8):Option (o8×Int×Int):=
 some (b0,0,0)
def ov(v1:Int) (v14:List (List UInt8)) (v15 v16:Int) (b0:o8):Option ((Int×List (List UInt8)×Int×Int×o8)⊕(o8×Int×Int)):=
 sel (decide (v16<v15)) (
  chk (decide (0<=v16/\v16<v14.length)) <|
  (lF b0 v1 (v14.getD v16.toNat [])).bind λr2=>
  sel (!decide (r2.2.1=0)) (
   some (.inr (([],(0:Int)),v16,r2.2.1))) (
   some (.inl (v1,v14,v15,(B3 (v16+1)),r2.1)))) (
  Option.map .inr (
   sr b0))
def qS(v1:Int) (v14:List (List UInt8)) (v15 v16:Int) (b0:o8):=
 F8 (λv=>ov v.1 v.2.1 v.2.2.1 v.2.2.2.1 v.2.2.2.2) (v1,v14,v15,v16,b0)
def wH(a0:o8) (a1:Int) (a2:List (List UInt8)):Option (o8×Int×Int):=
 (oi a0).bind λr1=>
 qS a1 a2 a2.length 0 r1
def mm(a0:List Int):Option (o7):=
 some (a0,(0:Int))
def I3(a0 a1:Int):Option (Int):=
 chk (!decide (a1=0)) <|
 sel (decide ((Int.tmod a0 a1)<0)) (
  some (B3 ((Int.tmod a0 a1)+a1))) (
  some (Int.tmod a0 a1))
def N7(v1 v5:Int) (b0:o7):Option (o7×Int):=
 (I3 v5 v1).bind λr1=>
 some ((b0.1,(B3 (b0.2+1))),r1)
def o9(a0:o7) (a1:Int):Option (o7×Int):=
 sel (decide (a0.2<a0.1.length)) (
  chk (decide (0<=a0.2/\a0.2<a0.1.length)) <|
  N7 a1 (a0.1.getD a0.2.toNat (0:Int)) a0) (
  N7 a1 0 a0)
def Z5(b0:o7) (_b1 b2:C6):Option (o7×C6):=
 (o9 b0 6).bind λr11=>
 sel (decide (r11.2=0)) (
  (o9 r11.1 40).bind λr12=>
  some (r12.1,(b2.1,b2.2.1,(B3 (40+r12.2)),b2.2.2.2))) (
  some (r11.1,b2))
def gc(a0:o7):Option (o7×C6):=
 (o9 a0 7).bind λr1=>
 (o9 r1.1 400).bind λr2=>
 (o9 r2.1 140).bind λr3=>
 (o9 r3.1 12).bind λr4=>
 (o9 r4.1 4).bind λr5=>
 (o9 r5.1 3).bind λr6=>
 (o9 r6.1 20).bind λr7=>
 (o9 r7.1 3).bind λr8=>
 (o9 r8.1 400).bind λr9=>
 (o9 r9.1 3).bind λr10=>
 (o9 r10.1 3).bind λr13=>
 sel (decide (r13.2=0)) (
  (o9 r13.1 900).bind λr14=>
  Z5 r14.1 ((0:Int),(0:Int),(0:Int),(0:Int),(0:Int),(0:Int),false,(0:Int),(0:Int),(0:Int),(0:Int),(0:Int)) ((B3 (1+r1.2)),(B3 (250+r2.2)),(B3 (60+r3.2)),r4.2,r5.2,(B3 (r6.2*r7.2)),(decide (r8.2=0)),(B3 (100+r9.2)),(B3 (200+r14.2)),(D4 r10.2),(0:Int),1)) (
  Z5 r13.1 ((0:Int),(0:Int),(0:Int),(0:Int),(0:Int),(0:Int),false,(0:Int),(0:Int),(0:Int),(0:Int),(0:Int)) ((B3 (1+r1.2)),(B3 (250+r2.2)),(B3 (60+r3.2)),r4.2,r5.2,(B3 (r6.2*r7.2)),(decide (r8.2=0)),(B3 (100+r9.2)),(-1),(D4 r10.2),(0:Int),1))
def fJ(v4:Int) (b0:o7) (l0:List o5):Option ((Int×o7×List o5)⊕(o7×List o5)):=
 sel (decide (0<=v4)) (
  chk (decide ((0:Int)<=v4/\v4<4)) <|
  chk (decide (v4.toNat<4)) <|
  (o9 b0 5).bind λr2=>
  chk (decide ((0:Int)<=r2.2/\r2.2<5)) <|
  chk (decide (r2.2.toNat<5)) <|
  (o9 r2.1 6).bind λr3=>
  sel (decide (r3.2=0)) (
   (o9 r3.1 3).bind λr4=>
   chk (decide ((0:Int)<=r4.2/\r4.2<3)) <|
   chk (decide (r4.2.toNat<3)) <|
   chk (decide ((l0.length+1)*32<=LIM/\l0.length+1<=LEN)) <|
   some (.inl ((B3 (v4-1)),r4.1,(l0++([((List.getD [([97,110,110]:List UInt8),([98,111,98]:List UInt8),([101,118,101]:List UInt8),([122,111,101]:List UInt8)] v4.toNat []),(List.getD [100000,5000,700,0,1099511627776] r2.2.toNat (0:Int)),(List.getD [5,18446744073709551615,18446744073709551614] r4.2.toNat (0:Int)))]:List o5))))) (
   chk (decide ((l0.length+1)*32<=LIM/\l0.length+1<=LEN)) <|
   some (.inl ((B3 (v4-1)),r3.1,(l0++([((List.getD [([97,110,110]:List UInt8),([98,111,98]:List UInt8),([101,118,101]:List UInt8),([122,111,101]:List UInt8)] v4.toNat []),(List.getD [100000,5000,700,0,1099511627776] r2.2.toNat (0:Int)),(0:Int))]:List o5)))))) (
  some (.inr (b0,l0)))
def ka(v4:Int) (b0:o7) (l0:List o5):=
 F8 (λv=>fJ v.1 v.2.1 v.2.2) (v4,b0,l0)
def eg(a0:o7):Option (o7×List o5):=
 (o9 a0 4).bind λr1=>
 ka r1.2 r1.1 []
def jg(a0:List UInt8):Option (Vector UInt8 32):=
 chk (decide ((1+a0.length)*1<=LIM/\1+a0.length<=LEN)) <|
 (H1 ([(0:UInt8)]++a0)).bind λr1=>
 some r1
def jB(v0 v3:Int):Option ((Int×Int)⊕(Int)):=
 sel (decide (v3<(B3 (v0-v3)))) (
  some (.inl (v0,(B3 (v3*2))))) (
  some (.inr v3))
def mK(v0 v3:Int):=
 F8 (λv=>jB v.1 v.2) (v0,v3)
def fj(a0:Int):Option (Int):=
 mK a0 1
def ip(a0 a1:Vector UInt8 32):Option (Vector UInt8 32):=
 chk (decide ((1+(List.length (Vector.toList a0)))*1<=LIM/\1+(List.length (Vector.toList a0))<=LEN)) <|
 chk (decide (((List.length ([(1:UInt8)]++(Vector.toList a0)))+(List.length (Vector.toList a1)))*1<=LIM/\(List.length ([(1:UInt8)]++(Vector.toList a0)))+(List.length (Vector.toList a1))<=LEN)) <|
 (H1 (([(1:UInt8)]++(Vector.toList a0))++(Vector.toList a1))).bind λr1=>
 some r1
def iq(rec:List (List UInt8)->Option (Vector UInt8 32)) (a0:List (List UInt8)):Option (Vector UInt8 32):=
 sel (decide (((a0.length:Nat):Int)=0)) (
  (H1 []).bind λr1=>
  some r1) (
  sel (decide (((a0.length:Nat):Int)=1)) (
   chk (decide ((0:Int)<=0/\0<((a0.length:Nat):Int))) <|
   (jg (a0.getD 0 [])).bind λr2=>
   some r2) (
   (fj a0.length).bind λr3=>
   chk (decide ((0:Int)<=0/\0<=r3/\r3<=((a0.length:Nat):Int))) <|
   (rec (a0.take r3.toNat)).bind λr4=>
   chk (decide ((0:Int)<=r3/\r3<=((a0.length:Nat):Int)/\((a0.length:Nat):Int)<=((a0.length:Nat):Int))) <|
   (rec (List.drop r3.toNat (List.take (Int.toNat a0.length) a0))).bind λr5=>
   (ip r4 r5).bind λr6=>
   some r6))
def U4(n:Nat):List (List UInt8)->Option (Vector UInt8 32):=Nat.rec (motive:=λ_=>List (List UInt8)->Option (Vector UInt8 32)) (λ_=>none) (λ_ ih=>iq ih) n
def bf(b0:o8) (_b1:Vector UInt8 32) (l0:List (List UInt8)):Option (Vector UInt8 32):=
 (E5 [(4,(0:Int),b0.2,[])]).bind λr1=>
 chk (decide ((l0.length+1)*24<=LIM/\l0.length+1<=LEN)) <|
 (U4 Fu.n (l0++[r1])).bind λr2=>
 some r2
def U5(v7:List o5) (v8 v9:Int) (b0:o8) (b1:Vector UInt8 32) (l0:List (List UInt8)):Option ((List o5×Int×Int×o8×Vector UInt8 32×List (List UInt8))⊕(Vector UInt8 32)):=
 sel (decide (v9<v8)) (
  chk (decide (0<=v9/\v9<v7.length)) <|
  chk (decide ((List.length (v7.getD v9.toNat A6).1)<=maxLen)) <|
  (E5 [(1,2,(0:Int),(v7.getD v9.toNat A6).1),(2,(0:Int),(v7.getD v9.toNat A6).2.1,[]),(3,(0:Int),(v7.getD v9.toNat A6).2.2,[])]).bind λr3=>
  chk (decide ((l0.length+1)*24<=LIM/\l0.length+1<=LEN)) <|
  some (.inl (v7,v8,(B3 (v9+1)),b0,b1,(l0++[r3])))) (
  Option.map .inr (
   bf b0 b1 l0))
def gB(v7:List o5) (v8 v9:Int) (b0:o8) (b1:Vector UInt8 32) (l0:List (List UInt8)):=
 F8 (λv=>U5 v.1 v.2.1 v.2.2.1 v.2.2.2.1 v.2.2.2.2.1 v.2.2.2.2.2) (v7,v8,v9,b0,b1,l0)
def S3(a0:o8):Option (Vector UInt8 32):=
 gB a0.1 a0.1.length 0 a0 (Vector.replicate 32 (0:UInt8)) []
def bF(v6:List B1) (v7 v8:Int) (b0:Vector UInt8 32) (l0:List (List UInt8)):Option ((List B1×Int×Int×Vector UInt8 32×List (List UInt8))⊕(Vector UInt8 32)):=
 sel (decide (v8<v7)) (
  chk (decide (0<=v8/\v8<v6.length)) <|
  (E5 [(1,(0:Int),(D4 (v6.getD v8.toNat R6).1),[]),(2,(0:Int),(v6.getD v8.toNat R6).2.2.2.1,[])]).bind λr1=>
  chk (decide ((l0.length+1)*24<=LIM/\l0.length+1<=LEN)) <|
  some (.inl (v6,v7,(B3 (v8+1)),b0,(l0++[r1])))) (
  Option.map .inr (
   (U4 Fu.n l0).bind λr2=>
   some r2))
def kD(v6:List B1) (v7 v8:Int) (b0:Vector UInt8 32) (l0:List (List UInt8)):=
 F8 (λv=>bF v.1 v.2.1 v.2.2.1 v.2.2.2.1 v.2.2.2.2) (v6,v7,v8,b0,l0)
def bg(a0:List B1):Option (Vector UInt8 32):=
 kD a0 a0.length 0 (Vector.replicate 32 (0:UInt8)) []
def ei(a0:o8):Option (eX):=
 (S3 a0).bind λr1=>
 (H1 (Vector.toList r1)).bind λr2=>
 (bg []).bind λr3=>
 some ((0:Int),(0:Int),r2,r1,r3)
def jh(a0:C6) (a1:List o5):Option (B0×Int):=
 (cu a0 a1).bind λr1=>
 sel (!decide (r1.2=0)) (
  some (((((0:Int),(0:Int),(0:Int),(0:Int),(0:Int),(0:Int),false,(0:Int),(0:Int),(0:Int),(0:Int),(0:Int)),(([],(0:Int)),([],(0:Int)),([],(0:Int)),false,(0:Int)),(0:Int),(0:Int),(0:Int),[],[]),((0:Int),(0:Int),(Vector.replicate 32 (0:UInt8)),(Vector.replicate 32 (0:UInt8)),(Vector.replicate 32 (0:UInt8))),[],[],false,(((0:Int),(0:Int),(0:Int),(Vector.replicate 32 (0:UInt8)),(Vector.replicate 32 (0:UInt8)),(Vector.replicate 32 (0:UInt8)),(Vector.replicate 32 (0:UInt8))),[]),[]),r1.2)) (
  (ei r1.1.2.1.1).bind λr2=>
  some ((r1.1,r2,[],(List.replicate 15 []),false,(((0:Int),(0:Int),(0:Int),(Vector.replicate 32 (0:UInt8)),(Vector.replicate 32 (0:UInt8)),(Vector.replicate 32 (0:UInt8)),(Vector.replicate 32 (0:UInt8))),[]),[]),0))
def fk(a0:o7):Option (o7×List UInt8):=
 (o9 a0 6).bind λr1=>
 chk (decide ((0:Int)<=r1.2/\r1.2<6)) <|
 chk (decide (r1.2.toNat<6)) <|
 some (r1.1,(List.getD [([97,110,110]:List UInt8),([98,111,98]:List UInt8),([101,118,101]:List UInt8),([122,111,101]:List UInt8),([110,101,119]:List UInt8),([120,45,49]:List UInt8)] r1.2.toNat []))
def ji(a0:o7):Option (o7×List UInt8):=
 (o9 a0 7).bind λr1=>
 chk (decide ((0:Int)<=r1.2/\r1.2<7)) <|
 chk (decide (r1.2.toNat<7)) <|
 some (r1.1,(List.getD [[],[],[],([114,101,110,116]:List UInt8),([195,169,228,184,150]:List UInt8),([97,10,98]:List UInt8),([116,104,97,110,107,115,32,102,111,114,32,97,108,108,32,116,104,101,32,102,105,115,104,44,32,97,110,100,32,102,111,114,32,116,104,101,32,99,104,105,112,115]:List UInt8)] r1.2.toNat []))
def dC(v10:Int) (b0:o7) (b1_0:List UInt8) (b1_1 b1_2 b1_3:Int) (b1_4 b2_0:List UInt8) (b2_1 b2_2 b2_3:Int) (b2_4:List UInt8) (b3:A0) (l0:List A0):Option ((Int×o7×List UInt8×Int×Int×Int×List UInt8×List UInt8×Int×Int×Int×List UInt8×List A0)⊕(o7×C2)):=
 chk (decide ((l0.length+1)*24<=LIM/\l0.length+1<=LEN)) <|
 some (.inl ((B3 (v10-1)),b0,b1_0,b1_1,b1_2,b1_3,b1_4,b2_0,b2_1,b2_2,b2_3,b2_4,(l0++([b3]:List A0))))
def lk(v10:Int) (b0:o7) (b1_0:List UInt8) (b1_1 b1_2 b1_3:Int) (b1_4 b2_0:List UInt8) (b2_1 b2_2 b2_3:Int) (b2_4:List UInt8) (l0:List A0):Option ((Int×o7×List UInt8×Int×Int×Int×List UInt8×List UInt8×Int×Int×Int×List UInt8×List A0)⊕(o7×C2)):=
 sel (decide (0<=v10)) (
  (fk b0).bind λr6=>
  (o9 r6.1 60).bind λr7=>
  (o9 r7.1 12).bind λr8=>
  sel (decide (r8.2=0)) (
   dC v10 r8.1 b1_0 b1_1 b1_2 b1_3 b1_4 b2_0 b2_1 b2_2 b2_3 b2_4 (r6.2,9223372036854775808) l0) (
   dC v10 r8.1 b1_0 b1_1 b1_2 b1_3 b1_4 b2_0 b2_1 b2_2 b2_3 b2_4 (r6.2,(D4 (1+(D4 r7.2)))) l0)) (
  some (.inr (b0,(b2_0,b2_1,b2_2,b2_3,b2_4,l0))))
def oA(v10:Int) (b0:o7) (b1_0:List UInt8) (b1_1 b1_2 b1_3:Int) (b1_4 b2_0:List UInt8) (b2_1 b2_2 b2_3:Int) (b2_4:List UInt8) (l0:List A0):=
 F8 (λv=>lk v.1 v.2.1 v.2.2.1 v.2.2.2.1 v.2.2.2.2.1 v.2.2.2.2.2.1 v.2.2.2.2.2.2.1 v.2.2.2.2.2.2.2.1 v.2.2.2.2.2.2.2.2.1 v.2.2.2.2.2.2.2.2.2.1 v.2.2.2.2.2.2.2.2.2.2.1 v.2.2.2.2.2.2.2.2.2.2.2.1 v.2.2.2.2.2.2.2.2.2.2.2.2) (v10,b0,b1_0,b1_1,b1_2,b1_3,b1_4,b2_0,b2_1,b2_2,b2_3,b2_4,l0)
def dD(b0:o7) (b1_0:List UInt8) (b1_1 b1_2 b1_3:Int) (b1_4 b2_0:List UInt8) (b2_1 b2_2 b2_3:Int) (b2_4:List UInt8):Option (o7×C2):=
 (o9 b0 3).bind λr5=>
 oA r5.2 r5.1 b1_0 b1_1 b1_2 b1_3 b1_4 b2_0 b2_1 b2_2 b2_3 b2_4 []
def dE(v2:Int) (b0:o7) (b1_0:List UInt8) (b1_1 b1_2 b1_3:Int) (b1_4 b2_0:List UInt8) (b2_1 b2_2 _b2_3:Int) (b2_4:List UInt8):Option (o7×C2):=
 (o9 b0 5).bind λr4=>
 (o9 r4.1 9).bind λr9=>
 sel (decide (r9.2=0)) (
  (o9 r9.1 200).bind λr10=>
  dD r10.1 b1_0 b1_1 b1_2 b1_3 b1_4 b2_0 b2_1 b2_2 (D4 r10.2) b2_4) (
  dD r9.1 b1_0 b1_1 b1_2 b1_3 b1_4 b2_0 b2_1 b2_2 (D4 ((D4 (b2_2*v2))*(D4 (B3 (1+r4.2))))) b2_4)
def dF(v2:Int) (b0:o7) (b1_0:List UInt8) (b1_1 b1_2 b1_3:Int) (b1_4 b2_0:List UInt8) (b2_1 b2_2 b2_3:Int) (b2_4:List UInt8):Option (o7×C2):=
 (o9 b0 6).bind λr11=>
 sel (decide (r11.2=0)) (
  (o9 r11.1 3).bind λr12=>
  dE v2 r12.1 b1_0 b1_1 b1_2 b1_3 b1_4 b2_0 (D4 (b2_1+(D4 r12.2))) b2_2 b2_3 b2_4) (
  dE v2 r11.1 b1_0 b1_1 b1_2 b1_3 b1_4 b2_0 b2_1 b2_2 b2_3 b2_4)
def dG(v2 v8:Int) (v31:Bool) (b0:o7) (b1:o8) (b2_0:List UInt8) (b2_1 b2_2 b2_3:Int) (b2_4 b3_0:List UInt8) (b3_1 b3_2 b3_3:Int) (b3_4:List UInt8):Option (o7×C2):=
 sel v31 (
  (o9 b0 v8).bind λr13=>
  chk (decide (0<=r13.2/\r13.2<b1.1.length)) <|
  dF v2 r13.1 b2_0 b2_1 b2_2 b2_3 b2_4 (b1.1.getD r13.2.toNat A6).1 (b1.1.getD r13.2.toNat A6).2.2 b3_2 b3_3 b3_4) (
  dF v2 b0 b2_0 b2_1 b2_2 b2_3 b2_4 b3_0 b3_1 b3_2 b3_3 b3_4)
def kV(a0:o7) (a1:o8) (a2:Int):Option (o7×C2):=
 (fk a0).bind λr1=>
 (o9 r1.1 6).bind λr2=>
 (ji r2.1).bind λr3=>
 sel (decide (0<((a1.1.length:Nat):Int))) (
  (o9 r3.1 8).bind λr14=>
  dG a2 a1.1.length (decide (0<r14.2)) r14.1 a1 [] (0:Int) (0:Int) (0:Int) [] r1.2 (0:Int) (D4 (150+(D4 ((D4 r2.2)*40)))) (0:Int) r3.2) (
  dG a2 a1.1.length false r3.1 a1 [] (0:Int) (0:Int) (0:Int) [] r1.2 (0:Int) (D4 (150+(D4 ((D4 r2.2)*40)))) (0:Int) r3.2)
def cG(v25:Bool) (b0:o7) (l0:List UInt8):Option (o7×List UInt8):=
 sel v25 (
  (o9 b0 l0.length).bind λr3=>
  (o9 r3.1 2).bind λr4=>
  sel (decide (r4.2=0)) (
   chk (decide ((0:Int)<=0/\0<=r3.2/\r3.2<=((l0.length:Nat):Int))) <|
   some (r4.1,(l0.take r3.2.toNat))) (
   chk (decide ((0+l0.length)*1<=LIM/\0+l0.length<=LEN)) <|
   (o9 r4.1 256).bind λr5=>
   chk (decide (0<=r3.2/\r3.2<l0.length)) <|
   chk (decide ((0:Int)<=(wu8 r5.2)/\(wu8 r5.2)<256)) <|
   chk (decide (r3.2.toNat<l0.length)) <|
   some (r5.1,(List.set l0 r3.2.toNat (UInt8.ofNat (Int.toNat (wu8 r5.2))))))) (
  some (b0,l0))
def gC(a0:o7) (a1:o8) (a2:Int):Option (o7×List UInt8):=
 (kV a0 a1 a2).bind λr1=>
 (Z0 r1.2).bind λr2=>
 sel (decide (0<((r2.1.length:Nat):Int))) (
  (o9 r1.1 12).bind λr6=>
  cG (decide (r6.2=0)) r6.1 r2.1) (
  cG false r1.1 r2.1)
def ir(a0:o8) (a1:Int) (a2:List UInt8):Option (o8):=
 (O2 a0 a1 a2).bind λr1=>
 some r1.1
def bh(v9:Int) (v10:List UInt8) (b0:o7) (b1:H6) (b2:o8) (l0:List (List UInt8)):Option ((Int×o7×H6×o8×List (List UInt8))⊕(o7×List (List UInt8))):=
 chk (decide ((l0.length+1)*24<=LIM/\l0.length+1<=LEN)) <|
 (ir b2 b1.2.2.2.2 v10).bind λr3=>
 some (.inl ((B3 (v9-1)),b0,b1,r3,(l0++[v10])))
def bi(v9:Int) (v10:List UInt8) (v33:Bool) (b0:o7) (b1:H6) (b2:o8) (l0:List (List UInt8)):Option ((Int×o7×H6×o8×List (List UInt8))⊕(o7×List (List UInt8))):=
 sel v33 (
  (o9 b0 l0.length).bind λr4=>
  chk (decide (0<=r4.2/\r4.2<l0.length)) <|
  chk (decide (r4.2.toNat<l0.length)) <|
  bh v9 (l0.getD r4.2.toNat []) r4.1 b1 b2 l0) (
  bh v9 v10 b0 b1 b2 l0)
def jC(v9:Int) (b0:o7) (b1:H6) (b2:o8) (l0:List (List UInt8)):Option ((Int×o7×H6×o8×List (List UInt8))⊕(o7×List (List UInt8))):=
 sel (decide (0<v9)) (
  (gC b0 b2 b1.2.2.2.2).bind λr2=>
  sel (decide (0<((l0.length:Nat):Int))) (
   (o9 r2.1 9).bind λr5=>
   bi v9 r2.2 (decide (r5.2=0)) r5.1 b1 b2 l0) (
   bi v9 r2.2 false r2.1 b1 b2 l0)) (
  some (.inr (b0,l0)))
def mL(v9:Int) (b0:o7) (b1:H6) (b2:o8) (l0:List (List UInt8)):=
 F8 (λv=>jC v.1 v.2.1 v.2.2.1 v.2.2.2.1 v.2.2.2.2) (v9,b0,b1,b2,l0)
def fm(a0:o7) (a1:H6) (a2:Int):Option (o7×List (List UInt8)):=
 (o9 a0 (B3 (a2+1))).bind λr1=>
 mL r1.2 r1.1 a1 a1.1 []
def eo(v3:Int) (v6:List (List UInt8)) (v7 v8:Int):Option ((Int×List (List UInt8)×Int×Int)⊕(Int)):=
 sel (decide (v8<v7)) (
  chk (decide (0<=v8/\v8<v6.length)) <|
  some (.inl ((B3 (v3+(B3 ((((List.length (v6.getD v8.toNat [])):Nat):Int)+3)))),v6,v7,(B3 (v8+1))))) (
  some (.inr v3))
def mn(v3:Int) (v6:List (List UInt8)) (v7 v8:Int):=
 F8 (λv=>eo v.1 v.2.1 v.2.2.1 v.2.2.2) (v3,v6,v7,v8)
def iu(a0:List (List UInt8)):Option (Int):=
 mn 0 a0 a0.length 0
def eA(v31:List (List UInt8)) (v32 v33 b0_0 b0_1 b0_2:Int) (b0_3 b0_4 b0_5 b0_6:Vector UInt8 32) (b1_0 b1_1 b1_2:Int) (b1_3 b1_4 b1_5 b1_6:Vector UInt8 32) (l0:List (List UInt8)):Option ((List (List UInt8)×Int×Int×Int×Int×Int×Vector UInt8 32×Vector UInt8 32×Vector UInt8 32×Vector UInt8 32×Int×Int×Int×Vector UInt8 32×Vector UInt8 32×Vector UInt8 32×Vector UInt8 32×List (List UInt8))⊕(H4)):=
 sel (decide (v33<v32)) (
  chk (decide (0<=v33/\v33<v31.length)) <|
  chk (decide ((0+(List.length (v31.getD v33.toNat [])))*1<=LIM/\0+(List.length (v31.getD v33.toNat []))<=LEN)) <|
  chk (decide ((l0.length+1)*24<=LIM/\l0.length+1<=LEN)) <|
  some (.inl (v31,v32,(B3 (v33+1)),b0_0,b0_1,b0_2,b0_3,b0_4,b0_5,b0_6,b1_0,b1_1,b1_2,b1_3,b1_4,b1_5,b1_6,(l0++[(v31.getD v33.toNat [])])))) (
  some (.inr ((b1_0,b1_1,b1_2,b1_3,b1_4,b1_5,b1_6),l0)))
def mo(v31:List (List UInt8)) (v32 v33 b0_0 b0_1 b0_2:Int) (b0_3 b0_4 b0_5 b0_6:Vector UInt8 32) (b1_0 b1_1 b1_2:Int) (b1_3 b1_4 b1_5 b1_6:Vector UInt8 32) (l0:List (List UInt8)):=
 F8 (λv=>eA v.1 v.2.1 v.2.2.1 v.2.2.2.1 v.2.2.2.2.1 v.2.2.2.2.2.1 v.2.2.2.2.2.2.1 v.2.2.2.2.2.2.2.1 v.2.2.2.2.2.2.2.2.1 v.2.2.2.2.2.2.2.2.2.1 v.2.2.2.2.2.2.2.2.2.2.1 v.2.2.2.2.2.2.2.2.2.2.2.1 v.2.2.2.2.2.2.2.2.2.2.2.2.1 v.2.2.2.2.2.2.2.2.2.2.2.2.2.1 v.2.2.2.2.2.2.2.2.2.2.2.2.2.2.1 v.2.2.2.2.2.2.2.2.2.2.2.2.2.2.2.1 v.2.2.2.2.2.2.2.2.2.2.2.2.2.2.2.2.1 v.2.2.2.2.2.2.2.2.2.2.2.2.2.2.2.2.2) (v31,v32,v33,b0_0,b0_1,b0_2,b0_3,b0_4,b0_5,b0_6,b1_0,b1_1,b1_2,b1_3,b1_4,b1_5,b1_6,l0)
def dH(a0:eX) (a1 a2:Int) (a3:List (List UInt8)):Option (H4):=
 (U4 Fu.n a3).bind λr1=>
 mo a3 a3.length 0 (0:Int) (0:Int) (0:Int) (Vector.replicate 32 (0:UInt8)) (Vector.replicate 32 (0:UInt8)) (Vector.replicate 32 (0:UInt8)) (Vector.replicate 32 (0:UInt8)) (B3 (a0.1+1)) (max a1 (B3 (a0.2.1+1))) a2 a0.2.2.1 r1 a0.2.2.2.1 a0.2.2.2.2 []
def bG(v40 v41:Int) (l0:List A3) (l1:List (Vector UInt8 32)):Option ((Int×Int×List A3×List (Vector UInt8 32))⊕(List UInt8)):=
 sel (decide (v41<v40)) (
  chk (decide (0<=v41/\v41<l1.length)) <|
  chk (decide (v41.toNat<l1.length)) <|
  chk (decide ((0+(List.length (Vector.toList (l1.getD v41.toNat (Vector.replicate 32 (0:UInt8))))))*1<=LIM/\0+(List.length (Vector.toList (l1.getD v41.toNat (Vector.replicate 32 (0:UInt8)))))<=LEN)) <|
  chk (decide ((l0.length+1)*48<=LIM/\l0.length+1<=LEN)) <|
  some (.inl (v40,(B3 (v41+1)),(l0++([((B3 (v41+4)),2,(0:Int),(Vector.toList (l1.getD v41.toNat (Vector.replicate 32 (0:UInt8)))))]:List A3)),l1))) (
  Option.map .inr (
   (E5 l0).bind λr1=>
   some r1))
def fK(v40 v41:Int) (l0:List A3) (l1:List (Vector UInt8 32)):=
 F8 (λv=>bG v.1 v.2.1 v.2.2.1 v.2.2.2) (v40,v41,l0,l1)
def gD(b0:D0) (l0:List A3):Option (List UInt8):=
 fK 4 0 l0 [b0.2.2.2.1,b0.2.2.2.2.1,b0.2.2.2.2.2.1,b0.2.2.2.2.2.2]
def bH(v15 v16:Int) (b0:D0) (l0:List A3) (l1:List Int):Option ((Int×Int×D0×List A3×List Int)⊕(List UInt8)):=
 sel (decide (v16<v15)) (
  chk (decide (0<=v16/\v16<l1.length)) <|
  chk (decide (v16.toNat<l1.length)) <|
  chk (decide ((l0.length+1)*48<=LIM/\l0.length+1<=LEN)) <|
  some (.inl (v15,(B3 (v16+1)),b0,(l0++([((B3 (v16+1)),(0:Int),(D4 (max (l1.getD v16.toNat (0:Int)) 0)),[])]:List A3)),l1))) (
  Option.map .inr (
   gD b0 l0))
def kE(v15 v16:Int) (b0:D0) (l0:List A3) (l1:List Int):=
 F8 (λv=>bH v.1 v.2.1 v.2.2.1 v.2.2.2.1 v.2.2.2.2) (v15,v16,b0,l0,l1)
def X4(a0:D0):Option (List UInt8):=
 kE 3 0 a0 [] [a0.1,a0.2.1,a0.2.2.1]
def eB(v12:List (List UInt8)) (v13 v14:Int) (l0:List A3):Option ((List (List UInt8)×Int×Int×List A3)⊕(List UInt8)):=
 sel (decide (v14<v13)) (
  chk (decide (0<=v14/\v14<v12.length)) <|
  chk (decide ((l0.length+1)*48<=LIM/\l0.length+1<=LEN)) <|
  some (.inl (v12,v13,(B3 (v14+1)),(l0++([(2,2,(0:Int),(v12.getD v14.toNat []))]:List A3))))) (
  Option.map .inr (
   (E5 l0).bind λr2=>
   some r2))
def mq(v12:List (List UInt8)) (v13 v14:Int) (l0:List A3):=
 F8 (λv=>eB v.1 v.2.1 v.2.2.1 v.2.2.2) (v12,v13,v14,l0)
def H7(a0:H4):Option (List UInt8):=
 (X4 a0.1).bind λr1=>
 mq a0.2 a0.2.length 0 [(1,2,(0:Int),r1)]
def M1(v6:List (List UInt8)) (b0:o7) (b1:B0) (b2:C6):Option (o7×List UInt8):=
 (o9 b0 5).bind λr1=>
 chk (!decide ((max b2.2.2.2.2.2.2.2.2.2.2.2 1)=0)) <|
 (dH b1.2.1 (B3 (b1.1.2.2.2.1+r1.2)) (Int.tmod (B3 (b1.2.1.1+1)) (max b2.2.2.2.2.2.2.2.2.2.2.2 1)) v6).bind λr2=>
 (o9 r1.1 14).bind λr3=>
 sel (decide (r3.2=0)) (
  (o9 r3.1 3).bind λr4=>
  (H7 (((B3 (r2.1.1+(B3 (r4.2-1)))),r2.1.2),r2.2)).bind λr5=>
  some (r4.1,r5)) (
  sel (decide (r3.2=1)) (
   (o9 r3.1 32).bind λr6=>
   chk (decide ((0:Int)<=r6.2/\r6.2<32)) <|
   chk (decide (r6.2.toNat<32)) <|
   chk (decide ((0:Int)<=r6.2/\r6.2<32)) <|
   chk (decide (r6.2.toNat<32)) <|
   chk (decide ((0:Int)<=(wu8 (((UInt8.toNat (L0 r2.1.2.2.2.1 r6.2.toNat (0:UInt8)):Nat):Int)+1))/\(wu8 (((UInt8.toNat (L0 r2.1.2.2.2.1 r6.2.toNat (0:UInt8)):Nat):Int)+1))<256)) <|
   (H7 ((r2.1.1,r2.1.2.1,r2.1.2.2.1,(ws r2.1.2.2.2.1 r6.2.toNat (UInt8.ofNat (Int.toNat (wu8 (((UInt8.toNat (L0 r2.1.2.2.2.1 r6.2.toNat (0:UInt8)):Nat):Int)+1))))),r2.1.2.2.2.2),r2.2)).bind λr7=>
   some (r6.1,r7)) (
   sel (decide (r3.2=2)) (
    chk (decide ((0:Int)<=(wu8 (((UInt8.toNat (L0 r2.1.2.2.2.2.2.1 0 (0:UInt8)):Nat):Int)+1))/\(wu8 (((UInt8.toNat (L0 r2.1.2.2.2.2.2.1 0 (0:UInt8)):Nat):Int)+1))<256)) <|
    (H7 ((r2.1.1,r2.1.2.1,r2.1.2.2.1,r2.1.2.2.2.1,r2.1.2.2.2.2.1,(ws r2.1.2.2.2.2.2.1 0 (UInt8.ofNat (Int.toNat (wu8 (((UInt8.toNat (L0 r2.1.2.2.2.2.2.1 0 (0:UInt8)):Nat):Int)+1))))),r2.1.2.2.2.2.2.2),r2.2)).bind λr8=>
    some (r3.1,r8)) (
    sel (decide (r3.2=3)) (
     chk (decide ((0:Int)<=(wu8 (((UInt8.toNat (L0 r2.1.2.2.2.2.2.2 0 (0:UInt8)):Nat):Int)+1))/\(wu8 (((UInt8.toNat (L0 r2.1.2.2.2.2.2.2 0 (0:UInt8)):Nat):Int)+1))<256)) <|
     (H7 ((r2.1.1,r2.1.2.1,r2.1.2.2.1,r2.1.2.2.2.1,r2.1.2.2.2.2.1,r2.1.2.2.2.2.2.1,(ws r2.1.2.2.2.2.2.2 0 (UInt8.ofNat (Int.toNat (wu8 (((UInt8.toNat (L0 r2.1.2.2.2.2.2.2 0 (0:UInt8)):Nat):Int)+1)))))),r2.2)).bind λr9=>
     some (r3.1,r9)) (
     sel (decide (r3.2=4)) (
      chk (decide ((0:Int)<=(wu8 (((UInt8.toNat (L0 r2.1.2.2.2.2.1 0 (0:UInt8)):Nat):Int)+1))/\(wu8 (((UInt8.toNat (L0 r2.1.2.2.2.2.1 0 (0:UInt8)):Nat):Int)+1))<256)) <|
      (H7 ((r2.1.1,r2.1.2.1,r2.1.2.2.1,r2.1.2.2.2.1,(ws r2.1.2.2.2.2.1 0 (UInt8.ofNat (Int.toNat (wu8 (((UInt8.toNat (L0 r2.1.2.2.2.2.1 0 (0:UInt8)):Nat):Int)+1))))),r2.1.2.2.2.2.2),r2.2)).bind λr10=>
      some (r3.1,r10)) (
      sel (decide (r3.2=5)) (
       (o9 r3.1 2).bind λr11=>
       (H7 ((r2.1.1,(B3 (b1.2.1.2.1+r11.2)),r2.1.2.2),r2.2)).bind λr12=>
       some (r11.1,r12)) (
       sel (decide (r3.2=6)) (
        (o9 r3.1 3).bind λr13=>
        (H7 ((r2.1.1,r2.1.2.1,r13.2,r2.1.2.2.2),r2.2)).bind λr14=>
        some (r13.1,r14)) (
        (H7 r2).bind λr15=>
        some (r3.1,r15))))))))
def gE(v6:List (List UInt8)) (b0:o7) (b1:B0) (b2:C6):Option ((List (List UInt8)×o7×B0×C6)⊕(o7×List UInt8)):=
 sel (decide (0<((v6.length:Nat):Int))) (
  (o9 b0 8).bind λr16=>
  sel (decide (0<r16.2)) (
   (iu v6).bind λr17=>
   sel (decide (b2.2.2.2.2.2.2.2.1<r17)) (
    chk (decide ((0:Int)<=0/\0<=(B3 (((v6.length:Nat):Int)-1))/\(B3 (((v6.length:Nat):Int)-1))<=((v6.length:Nat):Int))) <|
    some (.inl ((List.take (Int.toNat (B3 (((v6.length:Nat):Int)-1))) v6),r16.1,b1,b2))) (
    Option.map .inr (
     M1 v6 r16.1 b1 b2))) (
   Option.map .inr (
    M1 v6 r16.1 b1 b2))) (
  Option.map .inr (
   M1 v6 b0 b1 b2))
def fL(v6:List (List UInt8)) (b0:o7) (b1:B0) (b2:C6):=
 F8 (λv=>gE v.1 v.2.1 v.2.2.1 v.2.2.2) (v6,b0,b1,b2)
def bJ(b0:o7) (b1:B0) (b2:C6) (l0:List (List UInt8)):Option (o7×List UInt8):=
 fL l0 b0 b1 b2
def gF(b0:o7) (b1:B0) (b2:C6) (l0:List (List UInt8)):Option (o7×List UInt8):=
 (o9 b0 2).bind λr18=>
 sel (decide (r18.2=0)) (
  (fm r18.1 b1.1.2.1 3).bind λr19=>
  chk (decide ((l0.length+r19.2.length)*24<=LIM/\l0.length+r19.2.length<=LEN)) <|
  bJ r19.1 b1 b2 (l0++r19.2)) (
  bJ r18.1 b1 b2 l0)
def bK(v15:List o6) (v16 v17:Int) (b0:o7) (b1:B0) (b2:C6) (l0:List (List UInt8)):Option ((List o6×Int×Int×o7×B0×C6×List (List UInt8))⊕(o7×List UInt8)):=
 sel (decide (v17<v16)) (
  chk (decide (0<=v17/\v17<v15.length)) <|
  (o9 b0 2).bind λr20=>
  sel (decide (r20.2=0)) (
   chk (decide ((l0.length+1)*24<=LIM/\l0.length+1<=LEN)) <|
   some (.inl (v15,v16,(B3 (v17+1)),r20.1,b1,b2,(l0++[(v15.getD v17.toNat B2).2.1])))) (
   some (.inl (v15,v16,(B3 (v17+1)),r20.1,b1,b2,l0)))) (
  Option.map .inr (
   gF b0 b1 b2 l0))
def kF(v15:List o6) (v16 v17:Int) (b0:o7) (b1:B0) (b2:C6) (l0:List (List UInt8)):=
 F8 (λv=>bK v.1 v.2.1 v.2.2.1 v.2.2.2.1 v.2.2.2.2.1 v.2.2.2.2.2.1 v.2.2.2.2.2.2) (v15,v16,v17,b0,b1,b2,l0)
def fo(a0:o7) (a1:B0):Option (o7×List UInt8):=
 kF a1.1.2.2.2.2.2.1 a1.1.2.2.2.2.2.1.length 0 a0 a1 a1.1.1 []
def dI(v7:Int) (v43:Bool) (b0:o7) (b1:B0) (_b2 b3:R3):Option (o7×R3):=
 sel v43 (
  (o9 b0 v7).bind λr3=>
  chk (decide (0<=r3.2/\r3.2<b1.1.2.2.2.2.2.1.length)) <|
  (o9 r3.1 3).bind λr4=>
  some (r4.1,(b3.1,(B3 (1+r4.2)),b3.2.2.1,b3.2.2.2.1,(b1.1.2.2.2.2.2.1.getD r3.2.toNat B2).2.1))) (
  (o9 b0 3).bind λr5=>
  some (r5.1,(b3.1,(B3 (1+r5.2)),b3.2.2)))
def dJ(v18:Int) (v78:Bool) (b0:o7) (b1:B0) (_b2 b3:R3):Option (o7×R3):=
 sel v78 (
  (fo b0 b1).bind λr11=>
  some (r11.1,(b3.1,b3.2.1,b3.2.2.1,b3.2.2.2.1,r11.2))) (
  sel (decide (v18=9)) (
   (o9 b0 3).bind λr12=>
   some (r12.1,(b3.1,(B3 (1+r12.2)),b3.2.2))) (
   some (b0,b3)))
def dK(v18:Int) (v19:Bool) (b0:o7) (b1:B0) (b2 b3:R3):Option (o7×R3):=
 sel v19 (
  (gC b0 b1.1.2.1.2.1 b1.1.1.2.2.2.2.2.2.2.2.2.1).bind λr2=>
  sel (decide (0<((b1.1.2.2.2.2.2.1.length:Nat):Int))) (
   (o9 r2.1 6).bind λr6=>
   dI b1.1.2.2.2.2.2.1.length (decide (r6.2=0)) r6.1 b1 b2 (b3.1,b3.2.1,b3.2.2.1,b3.2.2.2.1,r2.2)) (
   dI b1.1.2.2.2.2.2.1.length false r2.1 b1 b2 (b3.1,b3.2.1,b3.2.2.1,b3.2.2.2.1,r2.2))) (
  sel (decide (v18=3)) (
   (o9 b0 9).bind λr7=>
   some (r7.1,(b3.1,(B3 (1+r7.2)),b3.2.2))) (
   sel (decide (v18=4)) (
    (o9 b0 700).bind λr8=>
    (o9 r8.1 1500).bind λr9=>
    (o9 r9.1 2).bind λr10=>
    sel (decide (r10.2=0)) (
     some (r10.1,(b3.1,b3.2.1,1048576,(-1),b3.2.2.2.2))) (
     some (r10.1,(b3.1,b3.2.1,r8.2,(B3 (r9.2-1)),b3.2.2.2.2)))) (
    sel (decide (v18=6)) (
     dJ v18 (decide (v18=6)) b0 b1 b2 b3) (
     dJ v18 (decide (v18=7)) b0 b1 b2 b3))))
def kW(a0:o7) (a1:B0):Option (o7×R3):=
 (o9 a0 15).bind λr1=>
 chk (decide ((0:Int)<=r1.2/\r1.2<15)) <|
 chk (decide (r1.2.toNat<15)) <|
 sel (decide ((List.getD [1,1,1,2,2,3,4,4,5,5,6,7,8,9,9] r1.2.toNat (0:Int))=1)) (
  dK (List.getD [1,1,1,2,2,3,4,4,5,5,6,7,8,9,9] r1.2.toNat (0:Int)) (decide ((List.getD [1,1,1,2,2,3,4,4,5,5,6,7,8,9,9] r1.2.toNat (0:Int))=1)) r1.1 a1 ((0:Int),(0:Int),(0:Int),(0:Int),[]) ((List.getD [1,1,1,2,2,3,4,4,5,5,6,7,8,9,9] r1.2.toNat (0:Int)),(0:Int),(0:Int),(0:Int),[])) (
  dK (List.getD [1,1,1,2,2,3,4,4,5,5,6,7,8,9,9] r1.2.toNat (0:Int)) (decide ((List.getD [1,1,1,2,2,3,4,4,5,5,6,7,8,9,9] r1.2.toNat (0:Int))=2)) r1.1 a1 ((0:Int),(0:Int),(0:Int),(0:Int),[]) ((List.getD [1,1,1,2,2,3,4,4,5,5,6,7,8,9,9] r1.2.toNat (0:Int)),(0:Int),(0:Int),(0:Int),[]))
def D2(a0:B0) (a1:Int):Option (B0×E3):=
 some (a0,(a1,(Vector.replicate 32 (0:UInt8)),(0:Int),[],[],[],[],[],[],(0:Int),(Vector.replicate 32 (0:UInt8))))
def X5(v1 v2:Int) (b0:C6):Option (Int×Int):=
 some ((min v1 b0.2.2.2.2.2.2.2.1),v2)
def fp(a0:C6) (a1 a2:Int):Option (Int×Int):=
 sel (decide (a0.2.2.2.2.2.2.2.2.1<0)) (
  X5 a1 a2 a0) (
  sel (decide (a2<0)) (
   X5 a1 a0.2.2.2.2.2.2.2.2.1 a0) (
   X5 a1 (min a2 a0.2.2.2.2.2.2.2.2.1) a0))
def bj(a0 a1:Int):Option (E6×Bool):=
 sel (decide (a0<0)) (
  some (((0:Int),(0:Int),false),false)) (
  sel (decide (a1<(-1))) (
   some (((0:Int),(0:Int),false),false)) (
   some ((a0,(D4 (max a1 0)),(decide (a1<0))),true)))
def Q6(v6:Int) (v7:List o6) (v8 v9:Int) (b0:o6) (l0:List o6):Option ((List o6×Int×Int×List o6)⊕(List o6)):=
 chk (decide ((0:Int)<=0/\0<=v6/\v6<=((l0.length:Nat):Int))) <|
 chk (decide ((0+(List.length (l0.take v6.toNat)))*144<=LIM/\0+(List.length (l0.take v6.toNat))<=LEN)) <|
 chk (decide (((List.length (l0.take v6.toNat))+1)*144<=LIM/\(List.length (l0.take v6.toNat))+1<=LEN)) <|
 chk (decide ((0:Int)<=v6/\v6<=((l0.length:Nat):Int)/\((l0.length:Nat):Int)<=((l0.length:Nat):Int))) <|
 chk (decide (((List.length ((l0.take v6.toNat)++([b0]:List o6)))+(List.length (List.drop v6.toNat (List.take (Int.toNat l0.length) l0))))*144<=LIM/\(List.length ((l0.take v6.toNat)++([b0]:List o6)))+(List.length (List.drop v6.toNat (List.take (Int.toNat l0.length) l0)))<=LEN)) <|
 some (.inl (v7,v8,(B3 (v9+1)),(((l0.take v6.toNat)++([b0]:List o6))++(List.drop v6.toNat (List.take (Int.toNat l0.length) l0)))))
def bM(v6:Int) (v7:List o6) (v8 v9:Int) (b0:o6) (l0:List o6):Option ((Int×List o6×Int×Int×o6×List o6)⊕((List o6×Int×Int×List o6)⊕(List o6))):=
 sel (decide (0<v6)) (
  chk (decide (0<=(B3 (v6-1))/\(B3 (v6-1))<l0.length)) <|
  chk (decide ((Int.toNat (B3 (v6-1)))<l0.length)) <|
  sel (decide ((l0.getD (Int.toNat (B3 (v6-1))) B2).2.2.2.2.2.1<b0.2.2.2.2.2.1)) (
   some (.inl ((B3 (v6-1)),v7,v8,v9,b0,l0))) (
   chk (decide (0<=(B3 (v6-1))/\(B3 (v6-1))<l0.length)) <|
   chk (decide ((Int.toNat (B3 (v6-1)))<l0.length)) <|
   sel (decide ((l0.getD (Int.toNat (B3 (v6-1))) B2).2.2.2.2.2.1=b0.2.2.2.2.2.1)) (
    chk (decide (0<=(B3 (v6-1))/\(B3 (v6-1))<l0.length)) <|
    chk (decide ((Int.toNat (B3 (v6-1)))<l0.length)) <|
    sel (decide (b0.2.2.2.2.2.2.2.2.1<(l0.getD (Int.toNat (B3 (v6-1))) B2).2.2.2.2.2.2.2.2.1)) (
     some (.inl ((B3 (v6-1)),v7,v8,v9,b0,l0))) (
     Option.map .inr (
      Q6 v6 v7 v8 v9 b0 l0))) (
    Option.map .inr (
     Q6 v6 v7 v8 v9 b0 l0)))) (
  Option.map .inr (
   Q6 v6 v7 v8 v9 b0 l0))
def fM(v6:Int) (v7:List o6) (v8 v9:Int) (b0:o6) (l0:List o6):=
 F8 (λv=>bM v.1 v.2.1 v.2.2.1 v.2.2.2.1 v.2.2.2.2.1 v.2.2.2.2.2) (v6,v7,v8,v9,b0,l0)
def bN(v7:List o6) (v8 v9:Int) (l0:List o6):Option ((List o6×Int×Int×List o6)⊕(List o6)):=
 sel (decide (v9<v8)) (
  chk (decide (0<=v9/\v9<v7.length)) <|
  fM l0.length v7 v8 v9 (v7.getD v9.toNat B2) l0) (
  some (.inr l0))
def kG(v7:List o6) (v8 v9:Int) (l0:List o6):=
 F8 (λv=>bN v.1 v.2.1 v.2.2.1 v.2.2.2) (v7,v8,v9,l0)
def fq(a0:List o6):Option (List o6):=
 kG a0 a0.length 0 []
def aG(v6:Int) (b0:E6) (b1:o6) (_b2:E6):Option (E6×Bool):=
 sel (!b0.2.2) (
  some (((B3 (b0.1-v6)),(D4 (b0.2.1-b1.2.2.2.2.1)),b0.2.2),true)) (
  some (((B3 (b0.1-v6)),b0.2),true))
def aN(a0:E6) (a1:o6):Option (E6×Bool):=
 (S6 a1.2.1.length).bind λr1=>
 sel (decide (a0.1<r1)) (
  some (a0,false)) (
  sel (!a0.2.2) (
   sel (decide (a0.2.1<a1.2.2.2.2.1)) (
    some (a0,false)) (
    aG r1 a0 a1 ((0:Int),(0:Int),false))) (
   aG r1 a0 a1 ((0:Int),(0:Int),false)))
def T2(v30:List o6) (v31 v32:Int) (v62:Bool) (b0:A2) (b1:E6) (b2:o8) (b3:o6) (b4:E6) (b5:o8) (l0:List (List UInt8)):Option ((List o6×Int×Int×A2×E6×o8×List (List UInt8))⊕(List (List UInt8))):=
 sel v62 (
  chk (decide ((0+b3.2.1.length)*1<=LIM/\0+b3.2.1.length<=LEN)) <|
  chk (decide ((l0.length+1)*24<=LIM/\l0.length+1<=LEN)) <|
  some (.inl (v30,v31,(B3 (v32+1)),b0,b4,b5,(l0++[b3.2.1])))) (
  some (.inl (v30,v31,(B3 (v32+1)),b0,b1,b2,l0)))
def cY(v30:List o6) (v31 v32:Int) (b0:A2) (b1:E6) (b2:o8) (l0:List (List UInt8)):Option ((List o6×Int×Int×A2×E6×o8×List (List UInt8))⊕(List (List UInt8))):=
 sel (decide (v32<v31)) (
  chk (decide (0<=v32/\v32<v30.length)) <|
  (aN b1 (v30.getD v32.toNat B2)).bind λr3=>
  (O2 b2 b0.2.1.2.2.2.2 (v30.getD v32.toNat B2).2.1).bind λr4=>
  sel r3.2 (
   sel (decide (r4.2.1=0)) (
    T2 v30 v31 v32 (decide (((l0.length:Nat):Int)<512)) b0 b1 b2 (v30.getD v32.toNat B2) r3.1 r4.1 l0) (
    T2 v30 v31 v32 false b0 b1 b2 (v30.getD v32.toNat B2) r3.1 r4.1 l0)) (
   T2 v30 v31 v32 false b0 b1 b2 (v30.getD v32.toNat B2) r3.1 r4.1 l0)) (
  some (.inr l0))
def lG(v30:List o6) (v31 v32:Int) (b0:A2) (b1:E6) (b2:o8) (l0:List (List UInt8)):=
 F8 (λv=>cY v.1 v.2.1 v.2.2.1 v.2.2.2.1 v.2.2.2.2.1 v.2.2.2.2.2.1 v.2.2.2.2.2.2) (v30,v31,v32,b0,b1,b2,l0)
def gd(a0:A2) (a1 a2:Int):Option (List (List UInt8)):=
 (bj a1 a2).bind λr1=>
 sel (!r1.2) (
  some []) (
  (fq a0.2.2.2.2.2.1).bind λr2=>
  lG r2 r2.length 0 a0 r1.1 a0.2.1.1 [])
def W9(a0:D0):Option (Vector UInt8 32):=
 (X4 a0).bind λr1=>
 (H1 r1).bind λr2=>
 some r2
def eC(a0:B0) (a1:R3):Option (B0×E3):=
 sel (decide (a1.2.2.1<0)) (
  (D2 a0 1).bind λr1=>
  some (r1.1,r1.2)) (
  sel (decide (a1.2.2.2.1<(-1))) (
   (D2 a0 1).bind λr2=>
   some (r2.1,r2.2)) (
   chk (!decide (a0.1.1.2.2.2.2.2.2.2.2.2.2.2=0)) <|
   sel (!decide (a0.1.1.2.2.2.2.2.2.2.2.2.2.1=(Int.tmod (B3 (a0.2.1.1+1)) a0.1.1.2.2.2.2.2.2.2.2.2.2.2))) (
    (D2 a0 36).bind λr3=>
    some (r3.1,r3.2)) (
    sel (decide (1073741824<=a0.2.1.1)) (
     (D2 a0 3).bind λr4=>
     some (r4.1,r4.2)) (
     sel (decide (1099511627776<(max a0.1.2.2.2.1 (B3 (a0.2.1.2.1+1))))) (
      (D2 a0 3).bind λr5=>
      some (r5.1,r5.2)) (
      (fp a0.1.1 a1.2.2.1 a1.2.2.2.1).bind λr6=>
      (gd a0.1 r6.1 r6.2).bind λr7=>
      (dH a0.2.1 a0.1.2.2.2.1 a0.1.1.2.2.2.2.2.2.2.2.2.2.1 r7).bind λr8=>
      (W9 r8.1).bind λr9=>
      some ((a0.1,a0.2.1,a0.2.2.1,a0.2.2.2.1,true,r8,a0.2.2.2.2.2.2),((0:Int),(Vector.replicate 32 (0:UInt8)),(0:Int),[],[],[],[],[],r8.2,r8.1.1,r9)))))))
def bk(a0:H4):Option (List UInt8×Int):=
 sel (decide (a0.1.1<1)) (
  some ([],1)) (
  sel (decide (1073741824<a0.1.1)) (
   some ([],1)) (
   sel (decide (a0.1.2.1<1)) (
    some ([],1)) (
    sel (decide (1099511627776<a0.1.2.1)) (
     some ([],1)) (
     sel (decide (a0.1.2.2.1<0)) (
      some ([],1)) (
      sel (decide (8<=a0.1.2.2.1)) (
       some ([],1)) (
       sel (decide (512<((a0.2.length:Nat):Int))) (
        some ([],3)) (
        (H7 a0).bind λr1=>
        sel (decide (2097152<((r1.length:Nat):Int))) (
         some ([],3)) (
         some (r1,0)))))))))
def bO(a0 a1:List UInt8):Option (List UInt8×Int):=
 sel (decide (2097152<((a1.length:Nat):Int))) (
  some ([],3)) (
  sel (decide (16777216<(B3 ((B3 (((a0.length:Nat):Int)+8))+((a1.length:Nat):Int))))) (
   some ([],3)) (
   (H1 a1).bind λr1=>
   chk (decide ((0+a0.length)*1<=LIM/\0+a0.length<=LEN)) <|
   chk (decide ((0:Int)<=(wu8 (((a1.length:Nat):Int) / 2^24))/\(wu8 (((a1.length:Nat):Int) / 2^24))<256)) <|
   chk (decide ((0:Int)<=(wu8 (((a1.length:Nat):Int) / 2^16))/\(wu8 (((a1.length:Nat):Int) / 2^16))<256)) <|
   chk (decide ((0:Int)<=(wu8 (((a1.length:Nat):Int) / 2^8))/\(wu8 (((a1.length:Nat):Int) / 2^8))<256)) <|
   chk (decide ((0:Int)<=(wu8 a1.length)/\(wu8 a1.length)<256)) <|
   chk (decide ((a0.length+4)*1<=LIM/\a0.length+4<=LEN)) <|
   chk (decide (((List.length (a0++[(UInt8.ofNat (Int.toNat (wu8 (((a1.length:Nat):Int) / 2^24)))),(UInt8.ofNat (Int.toNat (wu8 (((a1.length:Nat):Int) / 2^16)))),(UInt8.ofNat (Int.toNat (wu8 (((a1.length:Nat):Int) / 2^8)))),(UInt8.ofNat (Int.toNat (wu8 a1.length)))]))+(List.length (List.take 4 (Vector.toList r1))))*1<=LIM/\(List.length (a0++[(UInt8.ofNat (Int.toNat (wu8 (((a1.length:Nat):Int) / 2^24)))),(UInt8.ofNat (Int.toNat (wu8 (((a1.length:Nat):Int) / 2^16)))),(UInt8.ofNat (Int.toNat (wu8 (((a1.length:Nat):Int) / 2^8)))),(UInt8.ofNat (Int.toNat (wu8 a1.length)))]))+(List.length (List.take 4 (Vector.toList r1)))<=LEN)) <|
   chk (decide (((List.length ((a0++[(UInt8.ofNat (Int.toNat (wu8 (((a1.length:Nat):Int) / 2^24)))),(UInt8.ofNat (Int.toNat (wu8 (((a1.length:Nat):Int) / 2^16)))),(UInt8.ofNat (Int.toNat (wu8 (((a1.length:Nat):Int) / 2^8)))),(UInt8.ofNat (Int.toNat (wu8 a1.length)))])++(List.take 4 (Vector.toList r1))))+a1.length)*1<=LIM/\(List.length ((a0++[(UInt8.ofNat (Int.toNat (wu8 (((a1.length:Nat):Int) / 2^24)))),(UInt8.ofNat (Int.toNat (wu8 (((a1.length:Nat):Int) / 2^16)))),(UInt8.ofNat (Int.toNat (wu8 (((a1.length:Nat):Int) / 2^8)))),(UInt8.ofNat (Int.toNat (wu8 a1.length)))])++(List.take 4 (Vector.toList r1))))+a1.length<=LEN)) <|
   some ((((a0++[(UInt8.ofNat (Int.toNat (wu8 (((a1.length:Nat):Int) / 2^24)))),(UInt8.ofNat (Int.toNat (wu8 (((a1.length:Nat):Int) / 2^16)))),(UInt8.ofNat (Int.toNat (wu8 (((a1.length:Nat):Int) / 2^8)))),(UInt8.ofNat (Int.toNat (wu8 a1.length)))])++(List.take 4 (Vector.toList r1)))++a1),0)))
def jD(b0 _b1:o8) (l0:List B1):Option (o8×List B1):=
 some (b0,l0)
def fu(v1:Int) (v13:List (List UInt8)) (v14 v15:Int) (b0 b1:o8) (l0:List B1):Option ((Int×List (List UInt8)×Int×Int×o8×o8×List B1)⊕(o8×List B1)):=
 sel (decide (v15<v14)) (
  chk (decide (0<=v15/\v15<v13.length)) <|
  (O2 b0 v1 (v13.getD v15.toNat [])).bind λr1=>
  chk (decide ((l0.length+1)*48<=LIM/\l0.length+1<=LEN)) <|
  some (.inl (v1,v13,v14,(B3 (v15+1)),r1.1,b1,(l0++([r1.2]:List B1))))) (
  Option.map .inr (
   jD b0 b1 l0))
def mM(v1:Int) (v13:List (List UInt8)) (v14 v15:Int) (b0 b1:o8) (l0:List B1):=
 F8 (λv=>fu v.1 v.2.1 v.2.2.1 v.2.2.2.1 v.2.2.2.2.1 v.2.2.2.2.2.1 v.2.2.2.2.2.2) (v1,v13,v14,v15,b0,b1,l0)
def jj(a0:o8) (a1:Int) (a2:List (List UInt8)):Option (o8×List B1):=
 mM a1 a2 a2.length 0 a0 ([],(0:Int)) []
def T3(a0:H6) (a1:List (List UInt8)):Option (H6×List B1×Int):=
 sel a0.2.2.2.1 (
  some ((([],(0:Int)),([],(0:Int)),([],(0:Int)),false,(0:Int)),[],9)) (
  sel (decide (512<((a1.length:Nat):Int))) (
   some ((([],(0:Int)),([],(0:Int)),([],(0:Int)),false,(0:Int)),[],3)) (
   (jj a0.1 a0.2.2.2.2 a1).bind λr1=>
   some ((a0.1,a0.2.1,r1.1,true,a0.2.2.2.2),r1.2,0)))
def X6(a0:H6):Option (H6×Int):=
 sel (!a0.2.2.2.1) (
  some ((([],(0:Int)),([],(0:Int)),([],(0:Int)),false,(0:Int)),9)) (
  some ((a0.2.2.1,a0.2.2.1,([],(0:Int)),false,a0.2.2.2.2),0))
def eD(a0:H4) (a1:o8) (a2:List B1):Option (eX):=
 (W9 a0.1).bind λr1=>
 (S3 a1).bind λr2=>
 (bg a2).bind λr3=>
 some (a0.1.1,a0.1.2.1,r1,r2,r3)
def Q7(b0 _b1:A2) (l0:List (Vector UInt8 32)):Option (A2×List (Vector UInt8 32)):=
 some (b0,l0)
def M2(v1:List (List UInt8)) (v2:List B1) (v9 _v18:Int) (_v19:List B1) (_v20:Int) (_v21:Bool) (b0 b1:A2) (b2:Vector UInt8 32) (l0:List (Vector UInt8 32)):Option ((List (List UInt8)×List B1×Int×A2×A2×List (Vector UInt8 32))⊕(A2×List (Vector UInt8 32))):=
 (L9 b0 b2).bind λr2=>
 sel r2.2 (
  chk (decide ((l0.length+1)*32<=LIM/\l0.length+1<=LEN)) <|
  some (.inl (v1,v2,(B3 (v9+1)),r2.1,b1,(l0++[b2])))) (
  some (.inl (v1,v2,(B3 (v9+1)),r2.1,b1,l0)))
def bP(v1:List (List UInt8)) (v2:List B1) (v9:Int) (b0 b1:A2) (l0:List (Vector UInt8 32)):Option ((List (List UInt8)×List B1×Int×A2×A2×List (Vector UInt8 32))⊕(A2×List (Vector UInt8 32))):=
 sel (decide (v9<v1.length)) (
  sel (decide (v9<v2.length)) (
   chk (decide (0<=v9/\v9<v1.length)) <|
   (H1 (v1.getD v9.toNat [])).bind λr1=>
   chk (decide (0<=v9/\v9<v2.length)) <|
   sel (decide ((v2.getD v9.toNat R6).1=0)) (
    (W8 b0 r1).bind λr3=>
    M2 v1 v2 v9 v9 v2 v2.length (decide (v9<v2.length)) r3 b1 r1 l0) (
    (K7 b0 r1).bind λr4=>
    M2 v1 v2 v9 v9 v2 v2.length (decide (v9<v2.length)) r4 b1 r1 l0)) (
   Option.map .inr (
    Q7 b0 b1 l0))) (
  Option.map .inr (
   Q7 b0 b1 l0))
def fN(v1:List (List UInt8)) (v2:List B1) (v9:Int) (b0 b1:A2) (l0:List (Vector UInt8 32)):=
 F8 (λv=>bP v.1 v.2.1 v.2.2.1 v.2.2.2.1 v.2.2.2.2.1 v.2.2.2.2.2) (v1,v2,v9,b0,b1,l0)
def M6(a0:A2) (a1:List (List UInt8)) (a2:List B1):Option (A2×List (Vector UInt8 32)):=
 fN a1 a2 0 a0 (((0:Int),(0:Int),(0:Int),(0:Int),(0:Int),(0:Int),false,(0:Int),(0:Int),(0:Int),(0:Int),(0:Int)),(([],(0:Int)),([],(0:Int)),([],(0:Int)),false,(0:Int)),(0:Int),(0:Int),(0:Int),[],[]) []
def X0(a0 a1 a2:Int):Option (Bool):=
 sel (decide (0<a2)) (
  sel (decide (a1<a0)) (
   some (decide ((D4 a2)<(D4 ((D4 a0)-(D4 a1)))))) (
   some false)) (
  some false)
def V3(v2 v3:Int) (v12:List o6) (v13 v14:Int) (b0:C6) (l0:List (Vector UInt8 32)):Option ((Int×Int×List o6×Int×Int×C6×List (Vector UInt8 32))⊕(List (Vector UInt8 32))):=
 sel (decide (v14<v13)) (
  chk (decide (0<=v14/\v14<v12.length)) <|
  (X0 v2 (v12.getD v14.toNat B2).2.2.2.2.2.2.1 b0.2.2.2.2.1).bind λr1=>
  sel r1 (
   chk (decide ((l0.length+1)*32<=LIM/\l0.length+1<=LEN)) <|
   some (.inl (v2,v3,v12,v13,(B3 (v14+1)),b0,(l0++[(v12.getD v14.toNat B2).1])))) (
   (X0 v3 (v12.getD v14.toNat B2).2.2.2.2.2.2.2.1 b0.2.2.2.2.2.1).bind λr2=>
   sel r2 (
    chk (decide ((l0.length+1)*32<=LIM/\l0.length+1<=LEN)) <|
    some (.inl (v2,v3,v12,v13,(B3 (v14+1)),b0,(l0++[(v12.getD v14.toNat B2).1])))) (
    some (.inl (v2,v3,v12,v13,(B3 (v14+1)),b0,l0))))) (
  some (.inr l0))
def iw(v2 v3:Int) (v12:List o6) (v13 v14:Int) (b0:C6) (l0:List (Vector UInt8 32)):=
 F8 (λv=>V3 v.1 v.2.1 v.2.2.1 v.2.2.2.1 v.2.2.2.2.1 v.2.2.2.2.2.1 v.2.2.2.2.2.2) (v2,v3,v12,v13,v14,b0,l0)
def X1(a0:C6) (a1:List o6) (a2 a3:Int):Option (List (Vector UInt8 32)):=
 iw a2 a3 a1 a1.length 0 a0 []
def cZ(b0 _b1:A2) (l0:List (Vector UInt8 32)):Option (A2×List (Vector UInt8 32)):=
 some (b0,l0)
def T4(v17 v18:Int) (b0 b1:A2) (l0:List (Vector UInt8 32)):Option ((Int×Int×A2×A2×List (Vector UInt8 32))⊕(A2×List (Vector UInt8 32))):=
 sel (decide (v18<v17)) (
  chk (decide (0<=v18/\v18<l0.length)) <|
  chk (decide (v18.toNat<l0.length)) <|
  (L9 b0 (l0.getD v18.toNat (Vector.replicate 32 (0:UInt8)))).bind λr2=>
  (S1 r2.1 (l0.getD v18.toNat (Vector.replicate 32 (0:UInt8)))).bind λr3=>
  some (.inl (v17,(B3 (v18+1)),r3,b1,l0))) (
  Option.map .inr (
   cZ b0 b1 l0))
def gG(v17 v18:Int) (b0 b1:A2) (l0:List (Vector UInt8 32)):=
 F8 (λv=>T4 v.1 v.2.1 v.2.2.1 v.2.2.2.1 v.2.2.2.2) (v17,v18,b0,b1,l0)
def U2(a0:A2):Option (A2×List (Vector UInt8 32)):=
 (X1 a0.1 a0.2.2.2.2.2.1 a0.2.2.1 a0.2.2.2.1).bind λr1=>
 gG r1.length 0 a0 (((0:Int),(0:Int),(0:Int),(0:Int),(0:Int),(0:Int),false,(0:Int),(0:Int),(0:Int),(0:Int),(0:Int)),(([],(0:Int)),([],(0:Int)),([],(0:Int)),false,(0:Int)),(0:Int),(0:Int),(0:Int),[],[]) r1
def cH(a0:H6):Option (H6):=
 some (a0.1,a0.1,a0.2.2)
def aU(b0 _b1:A2) (l0:List (Vector UInt8 32)):Option (A2×List (Vector UInt8 32)):=
 some (b0,l0)
def O3(v49 v50:Int) (b0 b1:A2) (l0:List (Vector UInt8 32)):Option ((Int×Int×A2×A2×List (Vector UInt8 32))⊕(A2×List (Vector UInt8 32))):=
 sel (decide (v50<v49)) (
  chk (decide (0<=v50/\v50<l0.length)) <|
  chk (decide (v50.toNat<l0.length)) <|
  (L9 b0 (l0.getD v50.toNat (Vector.replicate 32 (0:UInt8)))).bind λr2=>
  (K7 r2.1 (l0.getD v50.toNat (Vector.replicate 32 (0:UInt8)))).bind λr3=>
  some (.inl (v49,(B3 (v50+1)),r3,b1,l0))) (
  Option.map .inr (
   aU b0 b1 l0))
def eR(v49 v50:Int) (b0 b1:A2) (l0:List (Vector UInt8 32)):=
 F8 (λv=>O3 v.1 v.2.1 v.2.2.1 v.2.2.2.1 v.2.2.2.2) (v49,v50,b0,b1,l0)
def V6(b0 b1:A2) (l0:List (Vector UInt8 32)):Option (A2×List (Vector UInt8 32)):=
 eR l0.length 0 b0 b1 l0
def L1(v15:List o6) (v16 v17:Int) (v35:Bool) (b0 b1:A2) (b2:o6) (l0:List (Vector UInt8 32)):Option ((List o6×Int×Int×A2×A2×List (Vector UInt8 32))⊕(A2×List (Vector UInt8 32))):=
 sel v35 (
  (M5 b0.2.1 b2.2.1).bind λr5=>
  some (.inl (v15,v16,(B3 (v17+1)),(b0.1,r5,b0.2.2),b1,l0))) (
  chk (decide ((l0.length+1)*32<=LIM/\l0.length+1<=LEN)) <|
  some (.inl (v15,v16,(B3 (v17+1)),b0,b1,(l0++[b2.1]))))
def O4(v15:List o6) (v16 v17:Int) (b0 b1:A2) (l0:List (Vector UInt8 32)):Option ((List o6×Int×Int×A2×A2×List (Vector UInt8 32))⊕(A2×List (Vector UInt8 32))):=
 sel (decide (v17<v16)) (
  chk (decide (0<=v17/\v17<v15.length)) <|
  (ab b0.2.1 (v15.getD v17.toNat B2).2.1).bind λr4=>
  sel (decide (r4.1=0)) (
   (U0 b0 r4.2.2.2.1).bind λr6=>
   L1 v15 v16 v17 (!r6) b0 b1 (v15.getD v17.toNat B2) l0) (
   L1 v15 v16 v17 false b0 b1 (v15.getD v17.toNat B2) l0)) (
  Option.map .inr (
   V6 b0 b1 l0))
def eS(v15:List o6) (v16 v17:Int) (b0 b1:A2) (l0:List (Vector UInt8 32)):=
 F8 (λv=>O4 v.1 v.2.1 v.2.2.1 v.2.2.2.1 v.2.2.2.2.1 v.2.2.2.2.2) (v15,v16,v17,b0,b1,l0)
def P4(a0:A2):Option (A2×List (Vector UInt8 32)):=
 (cH a0.2.1).bind λr1=>
 eS a0.2.2.2.2.2.1 a0.2.2.2.2.2.1.length 0 (a0.1,r1,a0.2.2) (((0:Int),(0:Int),(0:Int),(0:Int),(0:Int),(0:Int),false,(0:Int),(0:Int),(0:Int),(0:Int),(0:Int)),(([],(0:Int)),([],(0:Int)),([],(0:Int)),false,(0:Int)),(0:Int),(0:Int),(0:Int),[],[]) []
def S4(a0:A2) (a1:List (List UInt8)) (a2:List B1) (a3 a4:Int):Option (A2×E3):=
 (M6 (a0.1,a0.2.1,a3,(max a0.2.2.2.1 a4),a0.2.2.2.2) a1 a2).bind λr1=>
 (U2 r1.1).bind λr2=>
 (P4 r2.1).bind λr3=>
 some (r3.1,((0:Int),(Vector.replicate 32 (0:UInt8)),(0:Int),[],r2.2,r3.2,r1.2,[],[],a3,(Vector.replicate 32 (0:UInt8))))
def da(v1:List o6) (v8:List (Vector UInt8 32)) (v9 v10:Int) (l0:List (Vector UInt8 32)):Option ((List o6×List (Vector UInt8 32)×Int×Int×List (Vector UInt8 32))⊕(List (Vector UInt8 32))):=
 sel (decide (v10<v9)) (
  chk (decide (0<=v10/\v10<v8.length)) <|
  (S7 v1 (v8.getD v10.toNat (Vector.replicate 32 (0:UInt8)))).bind λr1=>
  sel (decide (0<=r1)) (
   chk (decide ((l0.length+1)*32<=LIM/\l0.length+1<=LEN)) <|
   some (.inl (v1,v8,v9,(B3 (v10+1)),(l0++[(v8.getD v10.toNat (Vector.replicate 32 (0:UInt8)))])))) (
   some (.inl (v1,v8,v9,(B3 (v10+1)),l0)))) (
  some (.inr l0))
def lH(v1:List o6) (v8:List (Vector UInt8 32)) (v9 v10:Int) (l0:List (Vector UInt8 32)):=
 F8 (λv=>da v.1 v.2.1 v.2.2.1 v.2.2.2.1 v.2.2.2.2) (v1,v8,v9,v10,l0)
def ge(a0:List (Vector UInt8 32)) (a1:List o6):Option (List (Vector UInt8 32)):=
 lH a1 a0 a0.length 0 []
def gH(b0:H4) (_b1_0 _b1_1 _b1_2 _b1_3 _b1_4 _b1_5:Int) (_b1_6:Bool) (_b1_7 _b1_8 _b1_9 _b1_10 _b1_11 _b1_13 _b1_15 _b1_17:Int) (_b1_18:Bool) (_b1_19 _b1_20 _b1_21 _b1_22 _b1_25 _b1_26:Int) (_b1_27 _b1_28 _b1_29:Vector UInt8 32) (_b1_32:Bool) (_b1_33 _b1_34 _b1_35:Int) (_b1_36 _b1_37 _b1_38 _b1_39:Vector UInt8 32) (_b2_0:Int) (_b2_1:Vector UInt8 32) (_b2_2 _b2_9:Int) (_b2_10:Vector UInt8 32) (b3_0:A2) (b3_1:eX) (b3_4:Bool) (b3_5 b3_6 b3_7:Int) (b3_8 b3_9 b3_10 b3_11:Vector UInt8 32) (b4:E3) (l0:List H4) (l1:List (List (Vector UInt8 32))) (l2:List UInt8):Option (B0×E3):=
 (W9 b0.1).bind λr10=>
 some ((b3_0,b3_1,l0,l1,b3_4,((b3_5,b3_6,b3_7,b3_8,b3_9,b3_10,b3_11),[]),l2),(b4.1,b4.2.1,b4.2.2.1,b4.2.2.2.1,b4.2.2.2.2.1,b4.2.2.2.2.2.1,b4.2.2.2.2.2.2.1,b4.2.2.2.2.2.2.2.1,b4.2.2.2.2.2.2.2.2.1,b4.2.2.2.2.2.2.2.2.2.1,r10))
def bQ(v103:List (List (Vector UInt8 32))) (v104 v105:Int) (b0:H4) (b1_0 b1_1 b1_2 b1_3 b1_4 b1_5:Int) (b1_6:Bool) (b1_7 b1_8 b1_9 b1_10 b1_11 b1_13 b1_15 b1_17:Int) (b1_18:Bool) (b1_19 b1_20 b1_21 b1_22 b1_25 b1_26:Int) (b1_27 b1_28 b1_29:Vector UInt8 32) (b1_32:Bool) (b1_33 b1_34 b1_35:Int) (b1_36 b1_37 b1_38 b1_39:Vector UInt8 32) (b2_0:Int) (b2_1:Vector UInt8 32) (b2_2 b2_9:Int) (b2_10:Vector UInt8 32) (b3_0:A2) (b3_1:eX) (b3_4:Bool) (b3_5 b3_6 b3_7:Int) (b3_8 b3_9 b3_10 b3_11:Vector UInt8 32) (b4:A2) (b5:E3) (l0:List H4) (l1:List (List (Vector UInt8 32))) (l2:List UInt8):Option ((List (List (Vector UInt8 32))×Int×Int×H4×Int×Int×Int×Int×Int×Int×Bool×Int×Int×Int×Int×Int×Int×Int×Int×Bool×Int×Int×Int×Int×Int×Int×Vector UInt8 32×Vector UInt8 32×Vector UInt8 32×Bool×Int×Int×Int×Vector UInt8 32×Vector UInt8 32×Vector UInt8 32×Vector UInt8 32×Int×Vector UInt8 32×Int×Int×Vector UInt8 32×A2×eX×Bool×Int×Int×Int×Vector UInt8 32×Vector UInt8 32×Vector UInt8 32×Vector UInt8 32×A2×E3×List H4×List (List (Vector UInt8 32))×List UInt8)⊕(B0×E3)):=
 sel (decide (v105<v104)) (
  chk (decide (0<=v105/\v105<v103.length)) <|
  (ge (v103.getD v105.toNat []) b4.2.2.2.2.2.1).bind λr11=>
  chk (decide ((l1.length+1)*24<=LIM/\l1.length+1<=LEN)) <|
  some (.inl (v103,v104,(B3 (v105+1)),b0,b1_0,b1_1,b1_2,b1_3,b1_4,b1_5,b1_6,b1_7,b1_8,b1_9,b1_10,b1_11,b1_13,b1_15,b1_17,b1_18,b1_19,b1_20,b1_21,b1_22,b1_25,b1_26,b1_27,b1_28,b1_29,b1_32,b1_33,b1_34,b1_35,b1_36,b1_37,b1_38,b1_39,b2_0,b2_1,b2_2,b2_9,b2_10,b3_0,b3_1,b3_4,b3_5,b3_6,b3_7,b3_8,b3_9,b3_10,b3_11,b4,b5,l0,(l1++[r11]),l2))) (
  Option.map .inr (
   gH b0 b1_0 b1_1 b1_2 b1_3 b1_4 b1_5 b1_6 b1_7 b1_8 b1_9 b1_10 b1_11 b1_13 b1_15 b1_17 b1_18 b1_19 b1_20 b1_21 b1_22 b1_25 b1_26 b1_27 b1_28 b1_29 b1_32 b1_33 b1_34 b1_35 b1_36 b1_37 b1_38 b1_39 b2_0 b2_1 b2_2 b2_9 b2_10 b3_0 b3_1 b3_4 b3_5 b3_6 b3_7 b3_8 b3_9 b3_10 b3_11 b5 l0 l1 l2))
def kH(v103:List (List (Vector UInt8 32))) (v104 v105:Int) (b0:H4) (b1_0 b1_1 b1_2 b1_3 b1_4 b1_5:Int) (b1_6:Bool) (b1_7 b1_8 b1_9 b1_10 b1_11 b1_13 b1_15 b1_17:Int) (b1_18:Bool) (b1_19 b1_20 b1_21 b1_22 b1_25 b1_26:Int) (b1_27 b1_28 b1_29:Vector UInt8 32) (b1_32:Bool) (b1_33 b1_34 b1_35:Int) (b1_36 b1_37 b1_38 b1_39:Vector UInt8 32) (b2_0:Int) (b2_1:Vector UInt8 32) (b2_2 b2_9:Int) (b2_10:Vector UInt8 32) (b3_0:A2) (b3_1:eX) (b3_4:Bool) (b3_5 b3_6 b3_7:Int) (b3_8 b3_9 b3_10 b3_11:Vector UInt8 32) (b4:A2) (b5:E3) (l0:List H4) (l1:List (List (Vector UInt8 32))) (l2:List UInt8):=
 F8 (λv=>bQ v.1 v.2.1 v.2.2.1 v.2.2.2.1 v.2.2.2.2.1 v.2.2.2.2.2.1 v.2.2.2.2.2.2.1 v.2.2.2.2.2.2.2.1 v.2.2.2.2.2.2.2.2.1 v.2.2.2.2.2.2.2.2.2.1 v.2.2.2.2.2.2.2.2.2.2.1 v.2.2.2.2.2.2.2.2.2.2.2.1 v.2.2.2.2.2.2.2.2.2.2.2.2.1 v.2.2.2.2.2.2.2.2.2.2.2.2.2.1 v.2.2.2.2.2.2.2.2.2.2.2.2.2.2.1 v.2.2.2.2.2.2.2.2.2.2.2.2.2.2.2.1 v.2.2.2.2.2.2.2.2.2.2.2.2.2.2.2.2.1 v.2.2.2.2.2.2.2.2.2.2.2.2.2.2.2.2.2.1 v.2.2.2.2.2.2.2.2.2.2.2.2.2.2.2.2.2.2.1 v.2.2.2.2.2.2.2.2.2.2.2.2.2.2.2.2.2.2.2.1 v.2.2.2.2.2.2.2.2.2.2.2.2.2.2.2.2.2.2.2.2.1 v.2.2.2.2.2.2.2.2.2.2.2.2.2.2.2.2.2.2.2.2.2.1 v.2.2.2.2.2.2.2.2.2.2.2.2.2.2.2.2.2.2.2.2.2.2.1 v.2.2.2.2.2.2.2.2.2.2.2.2.2.2.2.2.2.2.2.2.2.2.2.1 v.2.2.2.2.2.2.2.2.2.2.2.2.2.2.2.2.2.2.2.2.2.2.2.2.1 v.2.2.2.2.2.2.2.2.2.2.2.2.2.2.2.2.2.2.2.2.2.2.2.2.2.1 v.2.2.2.2.2.2.2.2.2.2.2.2.2.2.2.2.2.2.2.2.2.2.2.2.2.2.1 v.2.2.2.2.2.2.2.2.2.2.2.2.2.2.2.2.2.2.2.2.2.2.2.2.2.2.2.1 v.2.2.2.2.2.2.2.2.2.2.2.2.2.2.2.2.2.2.2.2.2.2.2.2.2.2.2.2.1 v.2.2.2.2.2.2.2.2.2.2.2.2.2.2.2.2.2.2.2.2.2.2.2.2.2.2.2.2.2.1 v.2.2.2.2.2.2.2.2.2.2.2.2.2.2.2.2.2.2.2.2.2.2.2.2.2.2.2.2.2.2.1 v.2.2.2.2.2.2.2.2.2.2.2.2.2.2.2.2.2.2.2.2.2.2.2.2.2.2.2.2.2.2.2.1 v.2.2.2.2.2.2.2.2.2.2.2.2.2.2.2.2.2.2.2.2.2.2.2.2.2.2.2.2.2.2.2.2.1 v.2.2.2.2.2.2.2.2.2.2.2.2.2.2.2.2.2.2.2.2.2.2.2.2.2.2.2.2.2.2.2.2.2.1 v.2.2.2.2.2.2.2.2.2.2.2.2.2.2.2.2.2.2.2.2.2.2.2.2.2.2.2.2.2.2.2.2.2.2.1 v.2.2.2.2.2.2.2.2.2.2.2.2.2.2.2.2.2.2.2.2.2.2.2.2.2.2.2.2.2.2.2.2.2.2.2.1 v.2.2.2.2.2.2.2.2.2.2.2.2.2.2.2.2.2.2.2.2.2.2.2.2.2.2.2.2.2.2.2.2.2.2.2.2.1 v.2.2.2.2.2.2.2.2.2.2.2.2.2.2.2.2.2.2.2.2.2.2.2.2.2.2.2.2.2.2.2.2.2.2.2.2.2.1 v.2.2.2.2.2.2.2.2.2.2.2.2.2.2.2.2.2.2.2.2.2.2.2.2.2.2.2.2.2.2.2.2.2.2.2.2.2.2.1 v.2.2.2.2.2.2.2.2.2.2.2.2.2.2.2.2.2.2.2.2.2.2.2.2.2.2.2.2.2.2.2.2.2.2.2.2.2.2.2.1 v.2.2.2.2.2.2.2.2.2.2.2.2.2.2.2.2.2.2.2.2.2.2.2.2.2.2.2.2.2.2.2.2.2.2.2.2.2.2.2.2.1 v.2.2.2.2.2.2.2.2.2.2.2.2.2.2.2.2.2.2.2.2.2.2.2.2.2.2.2.2.2.2.2.2.2.2.2.2.2.2.2.2.2.1 v.2.2.2.2.2.2.2.2.2.2.2.2.2.2.2.2.2.2.2.2.2.2.2.2.2.2.2.2.2.2.2.2.2.2.2.2.2.2.2.2.2.2.1 v.2.2.2.2.2.2.2.2.2.2.2.2.2.2.2.2.2.2.2.2.2.2.2.2.2.2.2.2.2.2.2.2.2.2.2.2.2.2.2.2.2.2.2.1 v.2.2.2.2.2.2.2.2.2.2.2.2.2.2.2.2.2.2.2.2.2.2.2.2.2.2.2.2.2.2.2.2.2.2.2.2.2.2.2.2.2.2.2.2.1 v.2.2.2.2.2.2.2.2.2.2.2.2.2.2.2.2.2.2.2.2.2.2.2.2.2.2.2.2.2.2.2.2.2.2.2.2.2.2.2.2.2.2.2.2.2.1 v.2.2.2.2.2.2.2.2.2.2.2.2.2.2.2.2.2.2.2.2.2.2.2.2.2.2.2.2.2.2.2.2.2.2.2.2.2.2.2.2.2.2.2.2.2.2.1 v.2.2.2.2.2.2.2.2.2.2.2.2.2.2.2.2.2.2.2.2.2.2.2.2.2.2.2.2.2.2.2.2.2.2.2.2.2.2.2.2.2.2.2.2.2.2.2.1 v.2.2.2.2.2.2.2.2.2.2.2.2.2.2.2.2.2.2.2.2.2.2.2.2.2.2.2.2.2.2.2.2.2.2.2.2.2.2.2.2.2.2.2.2.2.2.2.2.1 v.2.2.2.2.2.2.2.2.2.2.2.2.2.2.2.2.2.2.2.2.2.2.2.2.2.2.2.2.2.2.2.2.2.2.2.2.2.2.2.2.2.2.2.2.2.2.2.2.2.1 v.2.2.2.2.2.2.2.2.2.2.2.2.2.2.2.2.2.2.2.2.2.2.2.2.2.2.2.2.2.2.2.2.2.2.2.2.2.2.2.2.2.2.2.2.2.2.2.2.2.2.1 v.2.2.2.2.2.2.2.2.2.2.2.2.2.2.2.2.2.2.2.2.2.2.2.2.2.2.2.2.2.2.2.2.2.2.2.2.2.2.2.2.2.2.2.2.2.2.2.2.2.2.2.1 v.2.2.2.2.2.2.2.2.2.2.2.2.2.2.2.2.2.2.2.2.2.2.2.2.2.2.2.2.2.2.2.2.2.2.2.2.2.2.2.2.2.2.2.2.2.2.2.2.2.2.2.2.1 v.2.2.2.2.2.2.2.2.2.2.2.2.2.2.2.2.2.2.2.2.2.2.2.2.2.2.2.2.2.2.2.2.2.2.2.2.2.2.2.2.2.2.2.2.2.2.2.2.2.2.2.2.2.1 v.2.2.2.2.2.2.2.2.2.2.2.2.2.2.2.2.2.2.2.2.2.2.2.2.2.2.2.2.2.2.2.2.2.2.2.2.2.2.2.2.2.2.2.2.2.2.2.2.2.2.2.2.2.2.1 v.2.2.2.2.2.2.2.2.2.2.2.2.2.2.2.2.2.2.2.2.2.2.2.2.2.2.2.2.2.2.2.2.2.2.2.2.2.2.2.2.2.2.2.2.2.2.2.2.2.2.2.2.2.2.2.1 v.2.2.2.2.2.2.2.2.2.2.2.2.2.2.2.2.2.2.2.2.2.2.2.2.2.2.2.2.2.2.2.2.2.2.2.2.2.2.2.2.2.2.2.2.2.2.2.2.2.2.2.2.2.2.2.2) (v103,v104,v105,b0,b1_0,b1_1,b1_2,b1_3,b1_4,b1_5,b1_6,b1_7,b1_8,b1_9,b1_10,b1_11,b1_13,b1_15,b1_17,b1_18,b1_19,b1_20,b1_21,b1_22,b1_25,b1_26,b1_27,b1_28,b1_29,b1_32,b1_33,b1_34,b1_35,b1_36,b1_37,b1_38,b1_39,b2_0,b2_1,b2_2,b2_9,b2_10,b3_0,b3_1,b3_4,b3_5,b3_6,b3_7,b3_8,b3_9,b3_10,b3_11,b4,b5,l0,l1,l2)
def bl(a0:B0) (a1:H4):Option (B0×E3):=
 (bk a1).bind λr1=>
 sel (!decide (r1.2=0)) (
  (D2 a0 r1.2).bind λr2=>
  some (r2.1,r2.2)) (
  (bO a0.2.2.2.2.2.2 r1.1).bind λr3=>
  sel (!decide (r3.2=0)) (
   (D2 a0 r3.2).bind λr4=>
   some (r4.1,r4.2)) (
   (T3 a0.1.2.1 a1.2).bind λr5=>
   sel (!decide (r5.2.2=0)) (
    (D2 a0 r5.2.2).bind λr6=>
    some (r6.1,r6.2)) (
    chk (decide ((0+a0.2.2.1.length)*176<=LIM/\0+a0.2.2.1.length<=LEN)) <|
    chk (decide ((a0.2.2.1.length+1)*176<=LIM/\a0.2.2.1.length+1<=LEN)) <|
    (X6 r5.1).bind λr7=>
    (eD a1 r7.1.1 r5.2.1).bind λr8=>
    (S4 (a0.1.1,r7.1,a0.1.2.2) a1.2 r5.2.1 a1.1.1 a1.1.2.1).bind λr9=>
    kH a0.2.2.2.1 a0.2.2.2.1.length 0 a1 (0:Int) (0:Int) (0:Int) (0:Int) (0:Int) (0:Int) false (0:Int) (0:Int) (0:Int) (0:Int) (0:Int) (0:Int) (0:Int) (0:Int) false (0:Int) (0:Int) (0:Int) (0:Int) (0:Int) (0:Int) (Vector.replicate 32 (0:UInt8)) (Vector.replicate 32 (0:UInt8)) (Vector.replicate 32 (0:UInt8)) false (0:Int) (0:Int) (0:Int) (Vector.replicate 32 (0:UInt8)) (Vector.replicate 32 (0:UInt8)) (Vector.replicate 32 (0:UInt8)) (Vector.replicate 32 (0:UInt8)) (0:Int) (Vector.replicate 32 (0:UInt8)) (0:Int) (0:Int) (Vector.replicate 32 (0:UInt8)) r9.1 r8 false (0:Int) (0:Int) (0:Int) (Vector.replicate 32 (0:UInt8)) (Vector.replicate 32 (0:UInt8)) (Vector.replicate 32 (0:UInt8)) (Vector.replicate 32 (0:UInt8)) r9.1 r9.2 (a0.2.2.1++([a1]:List H4)) [] r3.1)))
def db(v0:List UInt8) (_b0 b1:D0) (b2:Vector (Vector UInt8 32) 4):Option (D0×Bool):=
 (X4 (b1.1,b1.2.1,b1.2.2.1,(L0 b2 0 (Vector.replicate 32 (0:UInt8))),(L0 b2 1 (Vector.replicate 32 (0:UInt8))),(L0 b2 2 (Vector.replicate 32 (0:UInt8))),(L0 b2 3 (Vector.replicate 32 (0:UInt8))))).bind λr2=>
 (G8 r2 v0).bind λr3=>
 some ((b1.1,b1.2.1,b1.2.2.1,(L0 b2 0 (Vector.replicate 32 (0:UInt8))),(L0 b2 1 (Vector.replicate 32 (0:UInt8))),(L0 b2 2 (Vector.replicate 32 (0:UInt8))),(L0 b2 3 (Vector.replicate 32 (0:UInt8)))),r3)
def de(v0:List UInt8) (v10 v55 v67:Int) (b0 b1:D0) (b2:Vector (Vector UInt8 32) 4) (l0:List A3):Option ((List UInt8×Int×Int×Int×D0×D0×Vector (Vector UInt8 32) 4×List A3)⊕((List UInt8×Int×D0×D0×Vector (Vector UInt8 32) 4×List A3)⊕(D0×Bool))):=
 sel (decide (v67<32)) (
  chk (decide (0<=(B3 (v10+3))/\(B3 (v10+3))<l0.length)) <|
  chk (decide ((Int.toNat (B3 (v10+3)))<l0.length)) <|
  chk (decide ((0:Int)<=v67/\v67<(((List.length (l0.getD (Int.toNat (B3 (v10+3))) D6).2.2.2):Nat):Int))) <|
  chk (decide ((0:Int)<=v10/\v10<4)) <|
  chk (decide ((0:Int)<=v67/\v67<32)) <|
  chk (decide (v10.toNat<4/\v67.toNat<32)) <|
  some (.inl (v0,v10,v55,(B3 (v67+1)),b0,b1,(ws b2 v10.toNat (ws (L0 b2 v10.toNat (Vector.replicate 32 (0:UInt8))) v67.toNat (List.getD (l0.getD (Int.toNat (B3 (v10+3))) D6).2.2.2 v67.toNat (0:UInt8)))),l0))) (
  some (.inr (.inl (v0,(B3 (v55+1)),b0,b1,b2,l0))))
def cn(v0:List UInt8) (v10 v55 v67:Int) (b0 b1:D0) (b2:Vector (Vector UInt8 32) 4) (l0:List A3):=
 F8 (λv=>de v.1 v.2.1 v.2.2.1 v.2.2.2.1 v.2.2.2.2.1 v.2.2.2.2.2.1 v.2.2.2.2.2.2.1 v.2.2.2.2.2.2.2) (v0,v10,v55,v67,b0,b1,b2,l0)
def dg(v0:List UInt8) (v55:Int) (b0 b1:D0) (b2:Vector (Vector UInt8 32) 4) (l0:List A3):Option ((List UInt8×Int×D0×D0×Vector (Vector UInt8 32) 4×List A3)⊕(D0×Bool)):=
 sel (decide (v55<4)) (
  chk (decide (0<=(B3 (v55+3))/\(B3 (v55+3))<l0.length)) <|
  chk (decide ((Int.toNat (B3 (v55+3)))<l0.length)) <|
  sel (!decide ((((List.length (l0.getD (Int.toNat (B3 (v55+3))) D6).2.2.2):Nat):Int)=32)) (
   some (.inr (b1,false))) (
   cn v0 v55 v55 0 b0 b1 b2 l0)) (
  Option.map .inr (
   db v0 b0 b1 b2))
def co(v0:List UInt8) (v55:Int) (b0 b1:D0) (b2:Vector (Vector UInt8 32) 4) (l0:List A3):=
 F8 (λv=>dg v.1 v.2.1 v.2.2.1 v.2.2.2.1 v.2.2.2.2.1 v.2.2.2.2.2) (v0,v55,b0,b1,b2,l0)
def dh(v0:List UInt8) (b0 b1:D0) (l0:List A3):Option (D0×Bool):=
 chk (decide ((0:Int)<=0/\0<((l0.length:Nat):Int))) <|
 chk (decide (0<l0.length)) <|
 chk (decide ((0:Int)<=1/\1<((l0.length:Nat):Int))) <|
 chk (decide (1<l0.length)) <|
 chk (decide ((0:Int)<=2/\2<((l0.length:Nat):Int))) <|
 chk (decide (2<l0.length)) <|
 co v0 0 b0 ((B3 (l0.getD 0 D6).2.2.1),(B3 (l0.getD 1 D6).2.2.1),(B3 (l0.getD 2 D6).2.2.1),b1.2.2.2) (Vector.replicate 4 (Vector.replicate 32 (0:UInt8))) l0
def di(v0:List UInt8) (v8:Int) (b0 b1:D0) (l0:List A3):Option ((List UInt8×Int×D0×D0×List A3)⊕(D0×Bool)):=
 sel (decide (v8<3)) (
  chk (decide (0<=v8/\v8<l0.length)) <|
  chk (decide (v8.toNat<l0.length)) <|
  sel (decide (9223372036854775807<(l0.getD v8.toNat D6).2.2.1)) (
   some (.inr (b1,false))) (
   some (.inl (v0,(B3 (v8+1)),b0,b1,l0)))) (
  Option.map .inr (
   dh v0 b0 b1 l0))
def iJ(v0:List UInt8) (v8:Int) (b0 b1:D0) (l0:List A3):=
 F8 (λv=>di v.1 v.2.1 v.2.2.1 v.2.2.2.1 v.2.2.2.2) (v0,v8,b0,b1,l0)
def aV(a0:List UInt8):Option (D0×Bool):=
 (K3 a0).bind λr1=>
 sel (!decide (r1.2.2=0)) (
  some (((0:Int),(0:Int),(0:Int),(Vector.replicate 32 (0:UInt8)),(Vector.replicate 32 (0:UInt8)),(Vector.replicate 32 (0:UInt8)),(Vector.replicate 32 (0:UInt8))),false)) (
  sel (!decide (((r1.1.length:Nat):Int)=7)) (
   some (((0:Int),(0:Int),(0:Int),(Vector.replicate 32 (0:UInt8)),(Vector.replicate 32 (0:UInt8)),(Vector.replicate 32 (0:UInt8)),(Vector.replicate 32 (0:UInt8))),false)) (
   iJ a0 0 ((0:Int),(0:Int),(0:Int),(Vector.replicate 32 (0:UInt8)),(Vector.replicate 32 (0:UInt8)),(Vector.replicate 32 (0:UInt8)),(Vector.replicate 32 (0:UInt8))) ((0:Int),(0:Int),(0:Int),(Vector.replicate 32 (0:UInt8)),(Vector.replicate 32 (0:UInt8)),(Vector.replicate 32 (0:UInt8)),(Vector.replicate 32 (0:UInt8))) r1.1))
def bR(v0:List UInt8) (_b0_0 _b0_1 _b0_2:Int) (_b0_3 _b0_4 _b0_5 _b0_6:Vector UInt8 32) (b1_0:D0) (l0:List (List UInt8)):Option (H4×Int):=
 (H7 (b1_0,l0)).bind λr3=>
 (G8 r3 v0).bind λr4=>
 sel (!r4) (
  some ((((0:Int),(0:Int),(0:Int),(Vector.replicate 32 (0:UInt8)),(Vector.replicate 32 (0:UInt8)),(Vector.replicate 32 (0:UInt8)),(Vector.replicate 32 (0:UInt8))),[]),4)) (
  (bk (b1_0,l0)).bind λr5=>
  sel (!decide (r5.2=0)) (
   some ((((0:Int),(0:Int),(0:Int),(Vector.replicate 32 (0:UInt8)),(Vector.replicate 32 (0:UInt8)),(Vector.replicate 32 (0:UInt8)),(Vector.replicate 32 (0:UInt8))),[]),r5.2)) (
   some ((b1_0,l0),0)))
def bS(v0:List UInt8) (v46:List A3) (v47 v48 b0_0 b0_1 b0_2:Int) (b0_3 b0_4 b0_5 b0_6:Vector UInt8 32) (b1_0:D0) (l0:List (List UInt8)):Option ((List UInt8×List A3×Int×Int×Int×Int×Int×Vector UInt8 32×Vector UInt8 32×Vector UInt8 32×Vector UInt8 32×D0×List (List UInt8))⊕(H4×Int)):=
 sel (decide (v48<v47)) (
  chk (decide (0<=v48/\v48<v46.length)) <|
  chk (decide ((l0.length+1)*24<=LIM/\l0.length+1<=LEN)) <|
  some (.inl (v0,v46,v47,(B3 (v48+1)),b0_0,b0_1,b0_2,b0_3,b0_4,b0_5,b0_6,b1_0,(l0++[(v46.getD v48.toNat D6).2.2.2])))) (
  Option.map .inr (
   bR v0 b0_0 b0_1 b0_2 b0_3 b0_4 b0_5 b0_6 b1_0 l0))
def kI(v0:List UInt8) (v46:List A3) (v47 v48 b0_0 b0_1 b0_2:Int) (b0_3 b0_4 b0_5 b0_6:Vector UInt8 32) (b1_0:D0) (l0:List (List UInt8)):=
 F8 (λv=>bS v.1 v.2.1 v.2.2.1 v.2.2.2.1 v.2.2.2.2.1 v.2.2.2.2.2.1 v.2.2.2.2.2.2.1 v.2.2.2.2.2.2.2.1 v.2.2.2.2.2.2.2.2.1 v.2.2.2.2.2.2.2.2.2.1 v.2.2.2.2.2.2.2.2.2.2.1 v.2.2.2.2.2.2.2.2.2.2.2.1 v.2.2.2.2.2.2.2.2.2.2.2.2) (v0,v46,v47,v48,b0_0,b0_1,b0_2,b0_3,b0_4,b0_5,b0_6,b1_0,l0)
def fv(a0:List UInt8):Option (H4×Int):=
 sel (decide (2097152<((a0.length:Nat):Int))) (
  some ((((0:Int),(0:Int),(0:Int),(Vector.replicate 32 (0:UInt8)),(Vector.replicate 32 (0:UInt8)),(Vector.replicate 32 (0:UInt8)),(Vector.replicate 32 (0:UInt8))),[]),3)) (
  (K3 a0).bind λr1=>
  sel (!decide (r1.2.2=0)) (
   some ((((0:Int),(0:Int),(0:Int),(Vector.replicate 32 (0:UInt8)),(Vector.replicate 32 (0:UInt8)),(Vector.replicate 32 (0:UInt8)),(Vector.replicate 32 (0:UInt8))),[]),4)) (
   sel (decide (((r1.1.length:Nat):Int)=0)) (
    some ((((0:Int),(0:Int),(0:Int),(Vector.replicate 32 (0:UInt8)),(Vector.replicate 32 (0:UInt8)),(Vector.replicate 32 (0:UInt8)),(Vector.replicate 32 (0:UInt8))),[]),4)) (
    chk (decide ((0:Int)<=0/\0<((r1.1.length:Nat):Int))) <|
    chk (decide (0<r1.1.length)) <|
    (aV (r1.1.getD 0 D6).2.2.2).bind λr2=>
    sel (!r2.2) (
     some ((((0:Int),(0:Int),(0:Int),(Vector.replicate 32 (0:UInt8)),(Vector.replicate 32 (0:UInt8)),(Vector.replicate 32 (0:UInt8)),(Vector.replicate 32 (0:UInt8))),[]),4)) (
     chk (decide ((0:Int)<=1/\1<=((r1.1.length:Nat):Int)/\((r1.1.length:Nat):Int)<=((r1.1.length:Nat):Int))) <|
     kI a0 (List.drop 1 (List.take (Int.toNat r1.1.length) r1.1)) (((List.length (List.drop 1 (List.take (Int.toNat r1.1.length) r1.1))):Nat):Int) 0 (0:Int) (0:Int) (0:Int) (Vector.replicate 32 (0:UInt8)) (Vector.replicate 32 (0:UInt8)) (Vector.replicate 32 (0:UInt8)) (Vector.replicate 32 (0:UInt8)) r2.1 []))))
def fw(v3:Int) (v6:List (List UInt8)) (v7 v8:Int):Option ((Int×List (List UInt8)×Int×Int)⊕(Int)):=
 sel (decide (v8<v7)) (
  chk (decide (0<=v8/\v8<v6.length)) <|
  (S6 (((List.length (v6.getD v8.toNat [])):Nat):Int)).bind λr1=>
  some (.inl ((B3 (v3+r1)),v6,v7,(B3 (v8+1))))) (
  some (.inr v3))
def mN(v3:Int) (v6:List (List UInt8)) (v7 v8:Int):=
 F8 (λv=>fw v.1 v.2.1 v.2.2.1 v.2.2.2) (v3,v6,v7,v8)
def fA(a0:List (List UInt8)):Option (Int):=
 mN 0 a0 a0.length 0
def P7(v3:Int) (v49:Bool) (b0:eX) (b1:H4) (b2:D0):Option (Int):=
 sel v49 (
  some 31) (
  sel (!(U.beq (.arr 32 .byte) b2.2.2.2.1 b0.2.2.1)) (
   some 32) (
   sel (!(U.beq (.arr 32 .byte) b2.2.2.2.2.2.1 b0.2.2.2.1)) (
    some 33) (
    sel (!(U.beq (.arr 32 .byte) b2.2.2.2.2.2.2 b0.2.2.2.2)) (
     some 34) (
     (U4 Fu.n b1.2).bind λr1=>
     sel (!(U.beq (.arr 32 .byte) b2.2.2.2.2.1 r1)) (
      some 35) (
      sel (decide (512<((b1.2.length:Nat):Int))) (
       some 3) (
       (fA b1.2).bind λr2=>
       sel (decide (v3<r2)) (
        some 3) (
        some 0)))))))
def P8(v2 v3:Int) (v29:Bool) (b0:eX) (b1:H4) (b2:D0):Option (Int):=
 sel v29 (
  some 30) (
  chk (!decide (v2=0)) <|
  sel (!decide (b2.2.2.1=(Int.tmod b2.1 v2))) (
   some 36) (
   sel (decide (b2.2.1<=b0.2.1)) (
    P7 v3 true b0 b1 b2) (
    P7 v3 (decide (1099511627776<b2.2.1)) b0 b1 b2)))
def J4(v2 v3:Int) (v12:Bool) (b0:eX) (b1:H4) (b2:D0):Option (Int):=
 sel v12 (
  some 1) (
  sel (!decide (b2.1=(B3 (b0.1+1)))) (
   P8 v2 v3 true b0 b1 b2) (
   P8 v2 v3 (decide (1073741824<b2.1)) b0 b1 b2))
def aW(a0:eX) (a1:H4) (a2 a3:Int):Option (Int):=
 sel (decide (a2<1)) (
  J4 a2 a3 true a0 a1 a1.1) (
  sel (decide (8<a2)) (
   J4 a2 a3 true a0 a1 a1.1) (
   sel (decide (a0.1<0)) (
    J4 a2 a3 true a0 a1 a1.1) (
    J4 a2 a3 (decide (1073741824<a0.1)) a0 a1 a1.1)))
def aH(a0:B0) (a1:List UInt8):Option (H4×Int):=
 (fv a1).bind λr1=>
 sel (!decide (r1.2=0)) (
  some (r1.1,r1.2)) (
  (aW a0.2.1 r1.1 a0.1.1.2.2.2.2.2.2.2.2.2.2.2 a0.1.1.2.2.2.2.2.2.2.1).bind λr2=>
  some (r1.1,r2))
def gI(b0 _b1:o8):Option (o8×Int×Int):=
 some (b0,0,0)
def bT(v1:Int) (v13:List (List UInt8)) (v14 v15:Int) (b0 b1:o8):Option ((Int×List (List UInt8)×Int×Int×o8×o8)⊕(o8×Int×Int)):=
 sel (decide (v15<v14)) (
  chk (decide (0<=v15/\v15<v13.length)) <|
  (O2 b0 v1 (v13.getD v15.toNat [])).bind λr1=>
  sel (!decide (r1.2.1=0)) (
   some (.inr (([],(0:Int)),v15,r1.2.1))) (
   some (.inl (v1,v13,v14,(B3 (v15+1)),r1.1,b1)))) (
  Option.map .inr (
   gI b0 b1))
def kJ(v1:Int) (v13:List (List UInt8)) (v14 v15:Int) (b0 b1:o8):=
 F8 (λv=>bT v.1 v.2.1 v.2.2.1 v.2.2.2.1 v.2.2.2.2.1 v.2.2.2.2.2) (v1,v13,v14,v15,b0,b1)
def X7(a0:o8) (a1:Int) (a2:List (List UInt8)):Option (o8×Int×Int):=
 kJ a1 a2 a2.length 0 a0 ([],(0:Int))
def dk(v52:List (List UInt8)) (v53 v54:Int) (b0:E6):Option ((List (List UInt8)×Int×Int×E6)⊕(Int)):=
 sel (decide (v54<v53)) (
  chk (decide (0<=v54/\v54<v52.length)) <|
  (S8 (v52.getD v54.toNat [])).bind λr4=>
  (aN b0 ((Vector.replicate 32 (0:UInt8)),(v52.getD v54.toNat []),[],(0:Int),r4.1.2.2.1,(0:Int),(0:Int),(0:Int),(0:Int),[])).bind λr5=>
  sel (!r5.2) (
   some (.inr 3)) (
   some (.inl (v52,v53,(B3 (v54+1)),r5.1)))) (
  some (.inr 0))
def lI(v52:List (List UInt8)) (v53 v54:Int) (b0:E6):=
 F8 (λv=>dk v.1 v.2.1 v.2.2.1 v.2.2.2) (v52,v53,v54,b0)
def gf(a0:A2) (a1:List (List UInt8)) (a2 a3:Int):Option (Int):=
 (bj a2 a3).bind λr1=>
 sel (!r1.2) (
  some 1) (
  sel (decide (512<((a1.length:Nat):Int))) (
   some 3) (
   (fA a1).bind λr2=>
   sel (decide (a2<r2)) (
    some 3) (
    (X7 a0.2.1.1 a0.2.1.2.2.2.2 a1).bind λr3=>
    sel (!decide (r3.2.2=0)) (
     some r3.2.2) (
     lI a1 a1.length 0 r1.1))))
def dl(a0:B0) (a1:List UInt8):Option (B0×E3):=
 (aH a0 a1).bind λr1=>
 sel (!decide (r1.2=0)) (
  (D2 a0 r1.2).bind λr2=>
  some (r2.1,r2.2)) (
  (gf a0.1 r1.1.2 a0.1.1.2.2.2.2.2.2.2.1 a0.1.1.2.2.2.2.2.2.2.2.1).bind λr3=>
  sel (!decide (r3=0)) (
   (D2 a0 r3).bind λr4=>
   some (r4.1,r4.2)) (
   (W9 r1.1.1).bind λr5=>
   some (a0,((0:Int),(Vector.replicate 32 (0:UInt8)),(0:Int),[],[],[],[],[],[],r1.1.1.1,r5))))
def ix(b0:B0) (_b1_0 _b1_1 _b1_2 _b1_3 _b1_4 _b1_5:Int) (_b1_6:Bool) (_b1_7 _b1_8 _b1_9 _b1_10 _b1_11 _b1_13 _b1_15 _b1_17:Int) (_b1_18:Bool) (_b1_19 _b1_20 _b1_21 _b1_22 _b1_25 _b1_26:Int) (_b1_27 _b1_28 _b1_29:Vector UInt8 32) (_b1_32:Bool) (_b1_33 _b1_34 _b1_35:Int) (_b1_36 _b1_37 _b1_38 _b1_39:Vector UInt8 32) (_b2_0:Int) (_b2_1:Vector UInt8 32) (_b2_2 _b2_9:Int) (_b2_10:Vector UInt8 32) (b3_0:Int) (b3_1:Vector UInt8 32) (b3_2 b3_9:Int) (b3_10:Vector UInt8 32) (l0:List (Vector UInt8 32)):Option (B0×E3):=
 (cH b0.1.2.1).bind λr1=>
 some (((b0.1.1,r1,b0.1.2.2.1,b0.1.2.2.2.1,b0.1.2.2.2.2.1,[],[]),b0.2.1,b0.2.2.1,(List.replicate 15 []),b0.2.2.2.2),(b3_0,b3_1,b3_2,[],[],[],[],l0,[],b3_9,b3_10))
def dm(v9:List o6) (v10 v11:Int) (b0:B0) (b1_0 b1_1 b1_2 b1_3 b1_4 b1_5:Int) (b1_6:Bool) (b1_7 b1_8 b1_9 b1_10 b1_11 b1_13 b1_15 b1_17:Int) (b1_18:Bool) (b1_19 b1_20 b1_21 b1_22 b1_25 b1_26:Int) (b1_27 b1_28 b1_29:Vector UInt8 32) (b1_32:Bool) (b1_33 b1_34 b1_35:Int) (b1_36 b1_37 b1_38 b1_39:Vector UInt8 32) (b2_0:Int) (b2_1:Vector UInt8 32) (b2_2 b2_9:Int) (b2_10:Vector UInt8 32) (b3_0:Int) (b3_1:Vector UInt8 32) (b3_2 b3_9:Int) (b3_10:Vector UInt8 32) (l0:List (Vector UInt8 32)):Option ((List o6×Int×Int×B0×Int×Int×Int×Int×Int×Int×Bool×Int×Int×Int×Int×Int×Int×Int×Int×Bool×Int×Int×Int×Int×Int×Int×Vector UInt8 32×Vector UInt8 32×Vector UInt8 32×Bool×Int×Int×Int×Vector UInt8 32×Vector UInt8 32×Vector UInt8 32×Vector UInt8 32×Int×Vector UInt8 32×Int×Int×Vector UInt8 32×Int×Vector UInt8 32×Int×Int×Vector UInt8 32×List (Vector UInt8 32))⊕(B0×E3)):=
 sel (decide (v11<v10)) (
  chk (decide (0<=v11/\v11<v9.length)) <|
  chk (decide ((l0.length+1)*32<=LIM/\l0.length+1<=LEN)) <|
  some (.inl (v9,v10,(B3 (v11+1)),b0,b1_0,b1_1,b1_2,b1_3,b1_4,b1_5,b1_6,b1_7,b1_8,b1_9,b1_10,b1_11,b1_13,b1_15,b1_17,b1_18,b1_19,b1_20,b1_21,b1_22,b1_25,b1_26,b1_27,b1_28,b1_29,b1_32,b1_33,b1_34,b1_35,b1_36,b1_37,b1_38,b1_39,b2_0,b2_1,b2_2,b2_9,b2_10,b3_0,b3_1,b3_2,b3_9,b3_10,(l0++[(v9.getD v11.toNat B2).1])))) (
  Option.map .inr (
   ix b0 b1_0 b1_1 b1_2 b1_3 b1_4 b1_5 b1_6 b1_7 b1_8 b1_9 b1_10 b1_11 b1_13 b1_15 b1_17 b1_18 b1_19 b1_20 b1_21 b1_22 b1_25 b1_26 b1_27 b1_28 b1_29 b1_32 b1_33 b1_34 b1_35 b1_36 b1_37 b1_38 b1_39 b2_0 b2_1 b2_2 b2_9 b2_10 b3_0 b3_1 b3_2 b3_9 b3_10 l0))
def lJ(v9:List o6) (v10 v11:Int) (b0:B0) (b1_0 b1_1 b1_2 b1_3 b1_4 b1_5:Int) (b1_6:Bool) (b1_7 b1_8 b1_9 b1_10 b1_11 b1_13 b1_15 b1_17:Int) (b1_18:Bool) (b1_19 b1_20 b1_21 b1_22 b1_25 b1_26:Int) (b1_27 b1_28 b1_29:Vector UInt8 32) (b1_32:Bool) (b1_33 b1_34 b1_35:Int) (b1_36 b1_37 b1_38 b1_39:Vector UInt8 32) (b2_0:Int) (b2_1:Vector UInt8 32) (b2_2 b2_9:Int) (b2_10:Vector UInt8 32) (b3_0:Int) (b3_1:Vector UInt8 32) (b3_2 b3_9:Int) (b3_10:Vector UInt8 32) (l0:List (Vector UInt8 32)):=
 F8 (λv=>dm v.1 v.2.1 v.2.2.1 v.2.2.2.1 v.2.2.2.2.1 v.2.2.2.2.2.1 v.2.2.2.2.2.2.1 v.2.2.2.2.2.2.2.1 v.2.2.2.2.2.2.2.2.1 v.2.2.2.2.2.2.2.2.2.1 v.2.2.2.2.2.2.2.2.2.2.1 v.2.2.2.2.2.2.2.2.2.2.2.1 v.2.2.2.2.2.2.2.2.2.2.2.2.1 v.2.2.2.2.2.2.2.2.2.2.2.2.2.1 v.2.2.2.2.2.2.2.2.2.2.2.2.2.2.1 v.2.2.2.2.2.2.2.2.2.2.2.2.2.2.2.1 v.2.2.2.2.2.2.2.2.2.2.2.2.2.2.2.2.1 v.2.2.2.2.2.2.2.2.2.2.2.2.2.2.2.2.2.1 v.2.2.2.2.2.2.2.2.2.2.2.2.2.2.2.2.2.2.1 v.2.2.2.2.2.2.2.2.2.2.2.2.2.2.2.2.2.2.2.1 v.2.2.2.2.2.2.2.2.2.2.2.2.2.2.2.2.2.2.2.2.1 v.2.2.2.2.2.2.2.2.2.2.2.2.2.2.2.2.2.2.2.2.2.1 v.2.2.2.2.2.2.2.2.2.2.2.2.2.2.2.2.2.2.2.2.2.2.1 v.2.2.2.2.2.2.2.2.2.2.2.2.2.2.2.2.2.2.2.2.2.2.2.1 v.2.2.2.2.2.2.2.2.2.2.2.2.2.2.2.2.2.2.2.2.2.2.2.2.1 v.2.2.2.2.2.2.2.2.2.2.2.2.2.2.2.2.2.2.2.2.2.2.2.2.2.1 v.2.2.2.2.2.2.2.2.2.2.2.2.2.2.2.2.2.2.2.2.2.2.2.2.2.2.1 v.2.2.2.2.2.2.2.2.2.2.2.2.2.2.2.2.2.2.2.2.2.2.2.2.2.2.2.1 v.2.2.2.2.2.2.2.2.2.2.2.2.2.2.2.2.2.2.2.2.2.2.2.2.2.2.2.2.1 v.2.2.2.2.2.2.2.2.2.2.2.2.2.2.2.2.2.2.2.2.2.2.2.2.2.2.2.2.2.1 v.2.2.2.2.2.2.2.2.2.2.2.2.2.2.2.2.2.2.2.2.2.2.2.2.2.2.2.2.2.2.1 v.2.2.2.2.2.2.2.2.2.2.2.2.2.2.2.2.2.2.2.2.2.2.2.2.2.2.2.2.2.2.2.1 v.2.2.2.2.2.2.2.2.2.2.2.2.2.2.2.2.2.2.2.2.2.2.2.2.2.2.2.2.2.2.2.2.1 v.2.2.2.2.2.2.2.2.2.2.2.2.2.2.2.2.2.2.2.2.2.2.2.2.2.2.2.2.2.2.2.2.2.1 v.2.2.2.2.2.2.2.2.2.2.2.2.2.2.2.2.2.2.2.2.2.2.2.2.2.2.2.2.2.2.2.2.2.2.1 v.2.2.2.2.2.2.2.2.2.2.2.2.2.2.2.2.2.2.2.2.2.2.2.2.2.2.2.2.2.2.2.2.2.2.2.1 v.2.2.2.2.2.2.2.2.2.2.2.2.2.2.2.2.2.2.2.2.2.2.2.2.2.2.2.2.2.2.2.2.2.2.2.2.1 v.2.2.2.2.2.2.2.2.2.2.2.2.2.2.2.2.2.2.2.2.2.2.2.2.2.2.2.2.2.2.2.2.2.2.2.2.2.1 v.2.2.2.2.2.2.2.2.2.2.2.2.2.2.2.2.2.2.2.2.2.2.2.2.2.2.2.2.2.2.2.2.2.2.2.2.2.2.1 v.2.2.2.2.2.2.2.2.2.2.2.2.2.2.2.2.2.2.2.2.2.2.2.2.2.2.2.2.2.2.2.2.2.2.2.2.2.2.2.1 v.2.2.2.2.2.2.2.2.2.2.2.2.2.2.2.2.2.2.2.2.2.2.2.2.2.2.2.2.2.2.2.2.2.2.2.2.2.2.2.2.1 v.2.2.2.2.2.2.2.2.2.2.2.2.2.2.2.2.2.2.2.2.2.2.2.2.2.2.2.2.2.2.2.2.2.2.2.2.2.2.2.2.2.1 v.2.2.2.2.2.2.2.2.2.2.2.2.2.2.2.2.2.2.2.2.2.2.2.2.2.2.2.2.2.2.2.2.2.2.2.2.2.2.2.2.2.2.1 v.2.2.2.2.2.2.2.2.2.2.2.2.2.2.2.2.2.2.2.2.2.2.2.2.2.2.2.2.2.2.2.2.2.2.2.2.2.2.2.2.2.2.2.1 v.2.2.2.2.2.2.2.2.2.2.2.2.2.2.2.2.2.2.2.2.2.2.2.2.2.2.2.2.2.2.2.2.2.2.2.2.2.2.2.2.2.2.2.2.1 v.2.2.2.2.2.2.2.2.2.2.2.2.2.2.2.2.2.2.2.2.2.2.2.2.2.2.2.2.2.2.2.2.2.2.2.2.2.2.2.2.2.2.2.2.2.1 v.2.2.2.2.2.2.2.2.2.2.2.2.2.2.2.2.2.2.2.2.2.2.2.2.2.2.2.2.2.2.2.2.2.2.2.2.2.2.2.2.2.2.2.2.2.2.1 v.2.2.2.2.2.2.2.2.2.2.2.2.2.2.2.2.2.2.2.2.2.2.2.2.2.2.2.2.2.2.2.2.2.2.2.2.2.2.2.2.2.2.2.2.2.2.2) (v9,v10,v11,b0,b1_0,b1_1,b1_2,b1_3,b1_4,b1_5,b1_6,b1_7,b1_8,b1_9,b1_10,b1_11,b1_13,b1_15,b1_17,b1_18,b1_19,b1_20,b1_21,b1_22,b1_25,b1_26,b1_27,b1_28,b1_29,b1_32,b1_33,b1_34,b1_35,b1_36,b1_37,b1_38,b1_39,b2_0,b2_1,b2_2,b2_9,b2_10,b3_0,b3_1,b3_2,b3_9,b3_10,l0)
def gg(a0:B0):Option (B0×E3):=
 lJ a0.1.2.2.2.2.2.1 a0.1.2.2.2.2.2.1.length 0 a0 (0:Int) (0:Int) (0:Int) (0:Int) (0:Int) (0:Int) false (0:Int) (0:Int) (0:Int) (0:Int) (0:Int) (0:Int) (0:Int) (0:Int) false (0:Int) (0:Int) (0:Int) (0:Int) (0:Int) (0:Int) (Vector.replicate 32 (0:UInt8)) (Vector.replicate 32 (0:UInt8)) (Vector.replicate 32 (0:UInt8)) false (0:Int) (0:Int) (0:Int) (Vector.replicate 32 (0:UInt8)) (Vector.replicate 32 (0:UInt8)) (Vector.replicate 32 (0:UInt8)) (Vector.replicate 32 (0:UInt8)) (0:Int) (Vector.replicate 32 (0:UInt8)) (0:Int) (0:Int) (Vector.replicate 32 (0:UInt8)) (0:Int) (Vector.replicate 32 (0:UInt8)) (0:Int) (0:Int) (Vector.replicate 32 (0:UInt8)) []
def eE(v1:Int) (v2:List (Vector UInt8 32)) (v10:List o6) (v11 v12:Int):Option ((Int×List (Vector UInt8 32)×List o6×Int×Int)⊕(List UInt8×Bool)):=
 sel (decide (v12<v11)) (
  chk (decide (0<=v12/\v12<v10.length)) <|
  (cx (v10.getD v12.toNat B2).2.2.2.2.2.2.2.2.2 v1).bind λr1=>
  sel (!r1) (
   (O1 v2 (v10.getD v12.toNat B2).1).bind λr2=>
   sel (!r2) (
    chk (decide ((0+(List.length (v10.getD v12.toNat B2).2.1))*1<=LIM/\0+(List.length (v10.getD v12.toNat B2).2.1)<=LEN)) <|
    some (.inr ((v10.getD v12.toNat B2).2.1,true))) (
    some (.inl (v1,v2,v10,v11,(B3 (v12+1)))))) (
   some (.inl (v1,v2,v10,v11,(B3 (v12+1)))))) (
  some (.inr ([],false)))
def mr(v1:Int) (v2:List (Vector UInt8 32)) (v10:List o6) (v11 v12:Int):=
 F8 (λv=>eE v.1 v.2.1 v.2.2.1 v.2.2.2.1 v.2.2.2.2) (v1,v2,v10,v11,v12)
def iy(a0:List o6) (a1:Int) (a2:List (Vector UInt8 32)):Option (List UInt8×Bool):=
 mr a1 a2 a0 a0.length 0
def iz(a0:B0) (a1:Int):Option (B0×E3):=
 chk (decide (0<=(B3 (a1-1))/\(B3 (a1-1))<a0.2.2.2.1.length)) <|
 (iy a0.1.2.2.2.2.2.1 a1 (a0.2.2.2.1.getD (Int.toNat (B3 (a1-1))) [])).bind λr1=>
 sel (!r1.2) (
  (D2 a0 7).bind λr2=>
  some (r2.1,r2.2)) (
  (H1 r1.1).bind λr3=>
  chk (decide ((0+a0.2.2.2.1.length)*24<=LIM/\0+a0.2.2.2.1.length<=LEN)) <|
  chk (decide (0<=(B3 (a1-1))/\(B3 (a1-1))<a0.2.2.2.1.length)) <|
  chk (decide ((Int.toNat (B3 (a1-1)))<a0.2.2.2.1.length)) <|
  chk (decide ((0+(List.length (a0.2.2.2.1.getD (Int.toNat (B3 (a1-1))) [])))*32<=LIM/\0+(List.length (a0.2.2.2.1.getD (Int.toNat (B3 (a1-1))) []))<=LEN)) <|
  chk (decide (((List.length (a0.2.2.2.1.getD (Int.toNat (B3 (a1-1))) []))+1)*32<=LIM/\(List.length (a0.2.2.2.1.getD (Int.toNat (B3 (a1-1))) []))+1<=LEN)) <|
  chk (decide (0<=(B3 (a1-1))/\(B3 (a1-1))<a0.2.2.2.1.length)) <|
  chk (decide ((Int.toNat (B3 (a1-1)))<a0.2.2.2.1.length)) <|
  some ((a0.1,a0.2.1,a0.2.2.1,(List.set a0.2.2.2.1 (Int.toNat (B3 (a1-1))) ((a0.2.2.2.1.getD (Int.toNat (B3 (a1-1))) [])++[r3])),a0.2.2.2.2),((0:Int),r3,(0:Int),[],[],[],[],[],[r1.1],(0:Int),(Vector.replicate 32 (0:UInt8)))))
def cI(v6:Bool) (b0:B0) (b1:R3) (_b2:B0) (_b3:E3):Option (B0×E3):=
 sel (decide (b1.1=1)) (
  (O5 b0.1 b1.2.2.2.2 0).bind λr1=>
  some ((r1.1,b0.2),r1.2)) (
  sel (decide (b1.1=2)) (
   sel (!v6) (
    (D2 b0 1).bind λr2=>
    some (r2.1,r2.2)) (
    (O5 b0.1 b1.2.2.2.2 b1.2.1).bind λr3=>
    some ((r3.1,b0.2),r3.2))) (
   sel (decide (b1.1=3)) (
    sel (decide (b1.2.1<1)) (
     (D2 b0 1).bind λr4=>
     some (r4.1,r4.2)) (
     sel (decide ((B3 (1099511627776-b0.1.2.2.2.1))<b1.2.1)) (
      (D2 b0 1).bind λr5=>
      some (r5.1,r5.2)) (
      some (((b0.1.1,b0.1.2.1,b0.1.2.2.1,(B3 (b0.1.2.2.2.1+b1.2.1)),b0.1.2.2.2.2),b0.2),((0:Int),(Vector.replicate 32 (0:UInt8)),(0:Int),[],[],[],[],[],[],(0:Int),(Vector.replicate 32 (0:UInt8))))))) (
    sel (decide (b1.1=4)) (
     (eC b0 b1).bind λr6=>
     some (r6.1,r6.2)) (
     sel (decide (b1.1=5)) (
      sel (!b0.2.2.2.2.1) (
       (D2 b0 9).bind λr7=>
       some (r7.1,r7.2)) (
       (bl b0 b0.2.2.2.2.2.1).bind λr8=>
       some (r8.1,r8.2))) (
      sel (decide (b1.1=6)) (
       (dl b0 b1.2.2.2.2).bind λr9=>
       some (r9.1,r9.2)) (
       sel (decide (b1.1=7)) (
        (aH b0 b1.2.2.2.2).bind λr10=>
        sel (!decide (r10.2=0)) (
         (D2 b0 r10.2).bind λr11=>
         some (r11.1,r11.2)) (
         (bl b0 r10.1).bind λr12=>
         some (r12.1,r12.2))) (
        sel (decide (b1.1=8)) (
         (gg b0).bind λr13=>
         some (r13.1,r13.2)) (
         sel (decide (b1.1=9)) (
          sel (!v6) (
           (D2 b0 1).bind λr14=>
           some (r14.1,r14.2)) (
           (iz b0 b1.2.1).bind λr15=>
           some (r15.1,r15.2))) (
          (D2 b0 1).bind λr16=>
          some (r16.1,r16.2))))))))))
def jU(a0:B0) (a1:R3):Option (B0×E3):=
 sel (decide (1<=a1.2.1)) (
  cI (decide (a1.2.1<=15)) a0 a1 ((((0:Int),(0:Int),(0:Int),(0:Int),(0:Int),(0:Int),false,(0:Int),(0:Int),(0:Int),(0:Int),(0:Int)),(([],(0:Int)),([],(0:Int)),([],(0:Int)),false,(0:Int)),(0:Int),(0:Int),(0:Int),[],[]),((0:Int),(0:Int),(Vector.replicate 32 (0:UInt8)),(Vector.replicate 32 (0:UInt8)),(Vector.replicate 32 (0:UInt8))),[],[],false,(((0:Int),(0:Int),(0:Int),(Vector.replicate 32 (0:UInt8)),(Vector.replicate 32 (0:UInt8)),(Vector.replicate 32 (0:UInt8)),(Vector.replicate 32 (0:UInt8))),[]),[]) ((0:Int),(Vector.replicate 32 (0:UInt8)),(0:Int),[],[],[],[],[],[],(0:Int),(Vector.replicate 32 (0:UInt8)))) (
  cI false a0 a1 ((((0:Int),(0:Int),(0:Int),(0:Int),(0:Int),(0:Int),false,(0:Int),(0:Int),(0:Int),(0:Int),(0:Int)),(([],(0:Int)),([],(0:Int)),([],(0:Int)),false,(0:Int)),(0:Int),(0:Int),(0:Int),[],[]),((0:Int),(0:Int),(Vector.replicate 32 (0:UInt8)),(Vector.replicate 32 (0:UInt8)),(Vector.replicate 32 (0:UInt8))),[],[],false,(((0:Int),(0:Int),(0:Int),(Vector.replicate 32 (0:UInt8)),(Vector.replicate 32 (0:UInt8)),(Vector.replicate 32 (0:UInt8)),(Vector.replicate 32 (0:UInt8))),[]),[]) ((0:Int),(Vector.replicate 32 (0:UInt8)),(0:Int),[],[],[],[],[],[],(0:Int),(Vector.replicate 32 (0:UInt8))))
def mt(_b0 b1:B0) (b2:o7) (l0:List o5) (l1:List R3):Option (o7×B0×List o5×List R3):=
 some (b2,b1,l0,l1)
def iA(v12:Int) (b0:o7) (b1 b2:B0) (l0:List o5) (l1:List R3):Option ((Int×o7×B0×B0×List o5×List R3)⊕(o7×B0×List o5×List R3)):=
 sel (decide (0<v12)) (
  (kW b0 b2).bind λr5=>
  chk (decide ((l1.length+1)*56<=LIM/\l1.length+1<=LEN)) <|
  (jU b2 r5.2).bind λr6=>
  some (.inl ((B3 (v12-1)),r5.1,b1,r6.1,l0,(l1++([r5.2]:List R3))))) (
  Option.map .inr (
   mt b1 b2 b0 l0 l1))
def lK(v12:Int) (b0:o7) (b1 b2:B0) (l0:List o5) (l1:List R3):=
 F8 (λv=>iA v.1 v.2.1 v.2.2.1 v.2.2.2.1 v.2.2.2.2.1 v.2.2.2.2.2) (v12,b0,b1,b2,l0,l1)
def gh(a0:o7) (a1:Int):Option (o7×B0×List o5×List R3):=
 (gc a0).bind λr1=>
 (eg r1.1).bind λr2=>
 (jh r1.2 r2.2).bind λr3=>
 sel (!decide (r3.2=0)) (
  some (r2.1,r3.1,r2.2,[])) (
  (o9 r2.1 (B3 (a1+1))).bind λr4=>
  lK r4.2 r4.1 ((((0:Int),(0:Int),(0:Int),(0:Int),(0:Int),(0:Int),false,(0:Int),(0:Int),(0:Int),(0:Int),(0:Int)),(([],(0:Int)),([],(0:Int)),([],(0:Int)),false,(0:Int)),(0:Int),(0:Int),(0:Int),[],[]),((0:Int),(0:Int),(Vector.replicate 32 (0:UInt8)),(Vector.replicate 32 (0:UInt8)),(Vector.replicate 32 (0:UInt8))),[],[],false,(((0:Int),(0:Int),(0:Int),(Vector.replicate 32 (0:UInt8)),(Vector.replicate 32 (0:UInt8)),(Vector.replicate 32 (0:UInt8)),(Vector.replicate 32 (0:UInt8))),[]),[]) r3.1 r2.2 [])
def aX(v0 v5:List (Vector UInt8 32)) (v6 v7:Int):Option ((List (Vector UInt8 32)×List (Vector UInt8 32)×Int×Int)⊕(Bool)):=
 sel (decide (v7<v6)) (
  chk (decide (0<=v7/\v7<v5.length)) <|
  chk (decide ((0:Int)<=0/\0<=v7/\v7<=((v0.length:Nat):Int))) <|
  (O1 (v0.take v7.toNat) (v5.getD v7.toNat (Vector.replicate 32 (0:UInt8)))).bind λr1=>
  sel r1 (
   some (.inr false)) (
   some (.inl (v0,v5,v6,(B3 (v7+1)))))) (
  some (.inr true))
def kb(v0 v5:List (Vector UInt8 32)) (v6 v7:Int):=
 F8 (λv=>aX v.1 v.2.1 v.2.2.1 v.2.2.2) (v0,v5,v6,v7)
def eG(a0:List (Vector UInt8 32)):Option (Bool):=
 kb a0 a0 a0.length 0
def eH(v3:Int) (v6:List (List Int)) (v7 v8:Int):Option ((Int×List (List Int)×Int×Int)⊕(Bool)):=
 sel (decide (v8<v7)) (
  chk (decide (0<=v8/\v8<v6.length)) <|
  some (.inl ((B3 (v3+(((List.length (v6.getD v8.toNat [])):Nat):Int))),v6,v7,(B3 (v8+1))))) (
  some (.inr (decide (160<v3))))
def mu(v3:Int) (v6:List (List Int)) (v7 v8:Int):=
 F8 (λv=>eH v.1 v.2.1 v.2.2.1 v.2.2.2) (v3,v6,v7,v8)
def N1(a0:List (List Int)):Option (Bool):=
 mu 0 a0 a0.length 0
def bU(a0:List UInt8) (a1 a2:Int):Option (List UInt8):=
 (Z0 (a0,a1,300,a2,[],[(([98,111,98]:List UInt8),5)])).bind λr1=>
 some r1.1
def qT(a0:H6):Option (H6):=
 (gQ a0.1).bind λr1=>
 (gQ a0.2.1).bind λr2=>
 (gQ a0.2.2.1).bind λr3=>
 some (r1,r2,r3,a0.2.2.2)
def J8(a0:List (Vector UInt8 32)):Option (List (Vector UInt8 32)):=wD (u:=(.arr 32 .byte)) 32 a0
def ng(a0:A2):Option (A2):=
 (qT a0.2.1).bind λr1=>
 (oO a0.2.2.2.2.2.1).bind λr2=>
 (J8 a0.2.2.2.2.2.2).bind λr3=>
 some (a0.1,r1,a0.2.2.1,a0.2.2.2.1,a0.2.2.2.2.1,r2,r3)
def Ay:Option (Vector Int 8):=
 some (Vector.push (Vector.push (Vector.push (Vector.push (Vector.push (Vector.push (Vector.push (Vector.push #v[] 1779033703) 3144134277) 1013904242) 2773480762) 1359893119) 2600822924) 528734635) 1541459225)
def Az:Option (E0):=
 (Ay).bind λr1=>
 some (r1,[],(0:Int))
def lL(a0 a1:Int):Option (Int):=
 chk (decide ((0:Int)<=(bits .and .u64 (D4 a1) 31))) <|
 chk (decide ((0:Int)<=(D4 (32-(bits .and .u64 (D4 a1) 31))))) <|
 some (bits .or .u32 (li (a0*2^(min (Int.toNat (bits .and .u64 (D4 a1) 31)) 32))) (a0 / 2^(min (Int.toNat (D4 (32-(bits .and .u64 (D4 a1) 31)))) 32)))
def L2(a0 a1:Int):Option (Int):=
 (lL a0 (a4m .i64 a1)).bind λr1=>
 some r1
def gJ(v5:Int) (b0 b1:Vector Int 64):Option ((Int×Vector Int 64×Vector Int 64)⊕(Vector Int 64)):=
 sel (decide (v5<64)) (
  chk (decide ((0:Int)<=(B3 (v5-15))/\(B3 (v5-15))<64)) <|
  chk (decide ((Int.toNat (B3 (v5-15)))<64)) <|
  chk (decide ((0:Int)<=(B3 (v5-2))/\(B3 (v5-2))<64)) <|
  chk (decide ((Int.toNat (B3 (v5-2)))<64)) <|
  (L2 (L0 b1 (Int.toNat (B3 (v5-15))) (0:Int)) 7).bind λr1=>
  (L2 (L0 b1 (Int.toNat (B3 (v5-15))) (0:Int)) 18).bind λr2=>
  (L2 (L0 b1 (Int.toNat (B3 (v5-2))) (0:Int)) 17).bind λr3=>
  (L2 (L0 b1 (Int.toNat (B3 (v5-2))) (0:Int)) 19).bind λr4=>
  chk (decide ((0:Int)<=(B3 (v5-7))/\(B3 (v5-7))<64)) <|
  chk (decide ((Int.toNat (B3 (v5-7)))<64)) <|
  chk (decide ((0:Int)<=(B3 (v5-16))/\(B3 (v5-16))<64)) <|
  chk (decide ((Int.toNat (B3 (v5-16)))<64)) <|
  chk (decide ((0:Int)<=v5/\v5<64)) <|
  chk (decide (v5.toNat<64)) <|
  some (.inl ((B3 (v5+1)),b0,(ws b1 v5.toNat (li ((li ((li ((bits .xor .u32 (bits .xor .u32 r3 r4) ((L0 b1 (Int.toNat (B3 (v5-2))) (0:Int)) / 2^10))+(L0 b1 (Int.toNat (B3 (v5-7))) (0:Int))))+(bits .xor .u32 (bits .xor .u32 r1 r2) ((L0 b1 (Int.toNat (B3 (v5-15))) (0:Int)) / 2^3))))+(L0 b1 (Int.toNat (B3 (v5-16))) (0:Int)))))))) (
  some (.inr b1))
def bV(v5:Int) (b0 b1:Vector Int 64):=
 F8 (λv=>gJ v.1 v.2.1 v.2.2) (v5,b0,b1)
def jV(b0 b1:Vector Int 64):Option (Vector Int 64):=
 bV 16 b0 b1
def gK(v0:List UInt8) (v10:Int) (b0 b1:Vector Int 64):Option ((List UInt8×Int×Vector Int 64×Vector Int 64)⊕(Vector Int 64)):=
 sel (decide (v10<16)) (
  chk (decide (0<=(B3 (4*v10))/\(B3 (4*v10))<v0.length)) <|
  chk (decide ((0:Int)<=(B3 ((B3 (4*v10))+1))/\(B3 ((B3 (4*v10))+1))<((v0.length:Nat):Int))) <|
  chk (decide ((0:Int)<=(B3 ((B3 (4*v10))+2))/\(B3 ((B3 (4*v10))+2))<((v0.length:Nat):Int))) <|
  chk (decide ((0:Int)<=(B3 ((B3 (4*v10))+3))/\(B3 ((B3 (4*v10))+3))<((v0.length:Nat):Int))) <|
  chk (decide ((0:Int)<=v10/\v10<64)) <|
  chk (decide (v10.toNat<64)) <|
  some (.inl (v0,(B3 (v10+1)),b0,(ws b1 v10.toNat (bits .or .u32 (bits .or .u32 (bits .or .u32 (li ((li ((UInt8.toNat (v0.getD (Int.toNat (B3 (4*v10))) (0:UInt8)):Nat):Int))*2^24)) (li ((li ((UInt8.toNat (v0.getD (Int.toNat (B3 ((B3 (4*v10))+1))) (0:UInt8)):Nat):Int))*2^16))) (li ((li ((UInt8.toNat (v0.getD (Int.toNat (B3 ((B3 (4*v10))+2))) (0:UInt8)):Nat):Int))*2^8))) (li ((UInt8.toNat (v0.getD (Int.toNat (B3 ((B3 (4*v10))+3))) (0:UInt8)):Nat):Int))))))) (
  Option.map .inr (
   jV b0 b1))
def bW(v0:List UInt8) (v10:Int) (b0 b1:Vector Int 64):=
 F8 (λv=>gK v.1 v.2.1 v.2.2.1 v.2.2.2) (v0,v10,b0,b1)
def nr(a0:List UInt8):Option (Vector Int 64):=
 bW a0 0 (Vector.replicate 64 (0:Int)) (Vector.replicate 64 (0:Int))
def lM:Option (Vector Int 64):=
 some (Vector.push (Vector.push (Vector.push (Vector.push (Vector.push (Vector.push (Vector.push (Vector.push (Vector.push (Vector.push (Vector.push (Vector.push (Vector.push (Vector.push (Vector.push (Vector.push (Vector.push (Vector.push (Vector.push (Vector.push (Vector.push (Vector.push (Vector.push (Vector.push (Vector.push (Vector.push (Vector.push (Vector.push (Vector.push (Vector.push (Vector.push (Vector.push (Vector.push (Vector.push (Vector.push (Vector.push (Vector.push (Vector.push (Vector.push (Vector.push (Vector.push (Vector.push (Vector.push (Vector.push (Vector.push (Vector.push (Vector.push (Vector.push (Vector.push (Vector.push (Vector.push (Vector.push (Vector.push (Vector.push (Vector.push (Vector.push (Vector.push (Vector.push (Vector.push (Vector.push (Vector.push (Vector.push (Vector.push (Vector.push #v[] 1116352408) 1899447441) 3049323471) 3921009573) 961987163) 1508970993) 2453635748) 2870763221) 3624381080) 310598401) 607225278) 1426881987) 1925078388) 2162078206) 2614888103) 3248222580) 3835390401) 4022224774) 264347078) 604807628) 770255983) 1249150122) 1555081692) 1996064986) 2554220882) 2821834349) 2952996808) 3210313671) 3336571891) 3584528711) 113926993) 338241895) 666307205) 773529912) 1294757372) 1396182291) 1695183700) 1986661051) 2177026350) 2456956037) 2730485921) 2820302411) 3259730800) 3345764771) 3516065817) 3600352804) 4094571909) 275423344) 430227734) 506948616) 659060556) 883997877) 958139571) 1322822218) 1537002063) 1747873779) 1955562222) 2024104815) 2227730452) 2361852424) 2428436474) 2756734187) 3204031479) 3329325298)
def gi(v106:Int) (b0 b1 b2:Vector Int 8):Option ((Int×Vector Int 8×Vector Int 8×Vector Int 8)⊕(Vector Int 8)):=
 sel (decide (v106<8)) (
  chk (decide ((0:Int)<=v106/\v106<8)) <|
  chk (decide (v106.toNat<8)) <|
  chk (decide ((0:Int)<=v106/\v106<8)) <|
  chk (decide (v106.toNat<8)) <|
  chk (decide ((0:Int)<=v106/\v106<8)) <|
  chk (decide (v106.toNat<8)) <|
  some (.inl ((B3 (v106+1)),(ws b0 v106.toNat (li ((L0 b0 v106.toNat (0:Int))+(L0 b2 v106.toNat (0:Int))))),b1,b2))) (
  some (.inr b0))
def bm(v106:Int) (b0 b1 b2:Vector Int 8):=
 F8 (λv=>gi v.1 v.2.1 v.2.2.1 v.2.2.2) (v106,b0,b1,b2)
def gj(b0 b1 b2:Vector Int 8):Option (Vector Int 8):=
 bm 0 b0 b1 b2
def cJ(v21:Int) (b0 b1:Vector Int 8) (b2 b3:Vector Int 64) (b4:Vector Int 8):Option ((Int×Vector Int 8×Vector Int 8×Vector Int 64×Vector Int 64×Vector Int 8)⊕(Vector Int 8)):=
 sel (decide (v21<64)) (
  (L2 (L0 b4 4 (0:Int)) 6).bind λr3=>
  (L2 (L0 b4 4 (0:Int)) 11).bind λr4=>
  (L2 (L0 b4 4 (0:Int)) 25).bind λr5=>
  chk (decide ((0:Int)<=v21/\v21<64)) <|
  chk (decide (v21.toNat<64)) <|
  chk (decide ((0:Int)<=v21/\v21<64)) <|
  chk (decide (v21.toNat<64)) <|
  (L2 (L0 b4 0 (0:Int)) 2).bind λr6=>
  (L2 (L0 b4 0 (0:Int)) 13).bind λr7=>
  (L2 (L0 b4 0 (0:Int)) 22).bind λr8=>
  some (.inl ((B3 (v21+1)),b0,b1,b2,b3,(Vector.push (Vector.push (Vector.push (Vector.push (Vector.push (Vector.push (Vector.push (Vector.push #v[] (li ((li ((li ((li ((li ((li ((L0 b4 7 (0:Int))+(bits .xor .u32 (bits .xor .u32 r3 r4) r5)))+(bits .xor .u32 (bits .and .u32 (L0 b4 4 (0:Int)) (L0 b4 5 (0:Int))) (bits .and .u32 (notI .u32 (L0 b4 4 (0:Int))) (L0 b4 6 (0:Int))))))+(L0 b3 v21.toNat (0:Int))))+(L0 b2 v21.toNat (0:Int))))+(bits .xor .u32 (bits .xor .u32 r6 r7) r8)))+(bits .xor .u32 (bits .xor .u32 (bits .and .u32 (L0 b4 0 (0:Int)) (L0 b4 1 (0:Int))) (bits .and .u32 (L0 b4 0 (0:Int)) (L0 b4 2 (0:Int)))) (bits .and .u32 (L0 b4 1 (0:Int)) (L0 b4 2 (0:Int))))))) (L0 b4 0 (0:Int))) (L0 b4 1 (0:Int))) (L0 b4 2 (0:Int))) (li ((L0 b4 3 (0:Int))+(li ((li ((li ((li ((L0 b4 7 (0:Int))+(bits .xor .u32 (bits .xor .u32 r3 r4) r5)))+(bits .xor .u32 (bits .and .u32 (L0 b4 4 (0:Int)) (L0 b4 5 (0:Int))) (bits .and .u32 (notI .u32 (L0 b4 4 (0:Int))) (L0 b4 6 (0:Int))))))+(L0 b3 v21.toNat (0:Int))))+(L0 b2 v21.toNat (0:Int))))))) (L0 b4 4 (0:Int))) (L0 b4 5 (0:Int))) (L0 b4 6 (0:Int)))))) (
  Option.map .inr (
   gj b0 b1 b4))
def X8(v21:Int) (b0 b1:Vector Int 8) (b2 b3:Vector Int 64) (b4:Vector Int 8):=
 F8 (λv=>cJ v.1 v.2.1 v.2.2.1 v.2.2.2.1 v.2.2.2.2.1 v.2.2.2.2.2) (v21,b0,b1,b2,b3,b4)
def T5(a0:Vector Int 8) (a1:List UInt8):Option (Vector Int 8):=
 (nr a1).bind λr1=>
 (lM).bind λr2=>
 X8 0 a0 (Vector.replicate 8 (0:Int)) r1 r2 a0
def jE(v4:List UInt8) (b0:E0):Option (E0):=
 chk (decide (v4.length*1<=LIM/\v4.length<=LEN)) <|
 some (b0.1,v4,b0.2.2)
def jF(v4:List UInt8) (b0:E0):Option ((List UInt8×E0)⊕(E0)):=
 sel (decide (64<=((v4.length:Nat):Int))) (
  chk (decide ((0:Int)<=0/\(0:Int)<=64/\64<=((v4.length:Nat):Int))) <|
  (T5 b0.1 (v4.take 64)).bind λr1=>
  chk (decide ((0:Int)<=64/\64<=((v4.length:Nat):Int)/\((v4.length:Nat):Int)<=((v4.length:Nat):Int))) <|
  some (.inl ((List.drop 64 (List.take (Int.toNat v4.length) v4)),(r1,b0.2)))) (
  Option.map .inr (
   jE v4 b0))
def iW(v4:List UInt8) (b0:E0):=
 F8 (λv=>jF v.1 v.2) (v4,b0)
def jk(a0:E0) (a1:List UInt8):Option (E0):=
 chk (decide (a0.2.1.length*1<=LIM/\a0.2.1.length<=LEN)) <|
 chk (decide ((a0.2.1.length+a1.length)*1<=LIM/\a0.2.1.length+a1.length<=LEN)) <|
 iW (a0.2.1++a1) (a0.1,a0.2.1,(B3 (a0.2.2+((a1.length:Nat):Int))))
def ll(v57:Vector Int 8) (v58:Int) (b0 b1:Vector UInt8 32) (b2:E0):Option ((Vector Int 8×Int×Vector UInt8 32×Vector UInt8 32×E0)⊕(E0×Vector UInt8 32)):=
 sel (decide (v58<8)) (
  chk (decide ((0:Int)<=v58/\v58<8)) <|
  chk (decide ((0:Int)<=(B3 (4*v58))/\(B3 (4*v58))<32)) <|
  chk (decide ((Int.toNat (B3 (4*v58)))<32)) <|
  chk (decide ((0:Int)<=(wu8 ((L0 v57 v58.toNat (0:Int)) / 2^24))/\(wu8 ((L0 v57 v58.toNat (0:Int)) / 2^24))<256)) <|
  chk (decide ((0:Int)<=(B3 ((B3 (4*v58))+1))/\(B3 ((B3 (4*v58))+1))<32)) <|
  chk (decide ((Int.toNat (B3 ((B3 (4*v58))+1)))<32)) <|
  chk (decide ((0:Int)<=(wu8 ((L0 v57 v58.toNat (0:Int)) / 2^16))/\(wu8 ((L0 v57 v58.toNat (0:Int)) / 2^16))<256)) <|
  chk (decide ((0:Int)<=(B3 ((B3 (4*v58))+2))/\(B3 ((B3 (4*v58))+2))<32)) <|
  chk (decide ((Int.toNat (B3 ((B3 (4*v58))+2)))<32)) <|
  chk (decide ((0:Int)<=(wu8 ((L0 v57 v58.toNat (0:Int)) / 2^8))/\(wu8 ((L0 v57 v58.toNat (0:Int)) / 2^8))<256)) <|
  chk (decide ((0:Int)<=(B3 ((B3 (4*v58))+3))/\(B3 ((B3 (4*v58))+3))<32)) <|
  chk (decide ((Int.toNat (B3 ((B3 (4*v58))+3)))<32)) <|
  chk (decide ((0:Int)<=(wu8 (L0 v57 v58.toNat (0:Int)))/\(wu8 (L0 v57 v58.toNat (0:Int)))<256)) <|
  some (.inl (v57,(B3 (v58+1)),b0,(ws (ws (ws (ws b1 (Int.toNat (B3 (4*v58))) (UInt8.ofNat (Int.toNat (wu8 ((L0 v57 v58.toNat (0:Int)) / 2^24))))) (Int.toNat (B3 ((B3 (4*v58))+1))) (UInt8.ofNat (Int.toNat (wu8 ((L0 v57 v58.toNat (0:Int)) / 2^16))))) (Int.toNat (B3 ((B3 (4*v58))+2))) (UInt8.ofNat (Int.toNat (wu8 ((L0 v57 v58.toNat (0:Int)) / 2^8))))) (Int.toNat (B3 ((B3 (4*v58))+3))) (UInt8.ofNat (Int.toNat (wu8 (L0 v57 v58.toNat (0:Int)))))),b2))) (
  some (.inr (b2,b1)))
def oB(v57:Vector Int 8) (v58:Int) (b0 b1:Vector UInt8 32) (b2:E0):=
 F8 (λv=>ll v.1 v.2.1 v.2.2.1 v.2.2.2.1 v.2.2.2.2) (v57,v58,b0,b1,b2)
def dL(b0 b1:Vector UInt8 32) (b2:Vector Int 8) (b3:E0):Option (E0×Vector UInt8 32):=
 oB b2 0 b0 b1 b3
def lm(v4:List UInt8) (b0 b1:Vector UInt8 32) (b2:Vector Int 8) (b3:E0):Option ((List UInt8×Vector UInt8 32×Vector UInt8 32×Vector Int 8×E0)⊕(E0×Vector UInt8 32)):=
 sel (decide (0<((v4.length:Nat):Int))) (
  chk (decide ((0:Int)<=0/\(0:Int)<=64/\64<=((v4.length:Nat):Int))) <|
  (T5 b2 (v4.take 64)).bind λr1=>
  chk (decide ((0:Int)<=64/\64<=((v4.length:Nat):Int)/\((v4.length:Nat):Int)<=((v4.length:Nat):Int))) <|
  some (.inl ((List.drop 64 (List.take (Int.toNat v4.length) v4)),b0,b1,r1,b3))) (
  Option.map .inr (
   dL b0 b1 b2 b3))
def kp(v4:List UInt8) (b0 b1:Vector UInt8 32) (b2:Vector Int 8) (b3:E0):=
 F8 (λv=>lm v.1 v.2.1 v.2.2.1 v.2.2.2.1 v.2.2.2.2) (v4,b0,b1,b2,b3)
def iB(b0:E0) (b1 b2:Vector UInt8 32) (l0:List UInt8):Option (E0×Vector UInt8 32):=
 kp l0 b1 b2 b0.1 b0
def ln(v5 v6:Int) (b0:E0) (b1 b2:Vector UInt8 32) (l0:List UInt8):Option ((Int×Int×E0×Vector UInt8 32×Vector UInt8 32×List UInt8)⊕(E0×Vector UInt8 32)):=
 sel (decide (0<=v6)) (
  chk (decide ((0:Int)<=v6)) <|
  chk (decide ((0:Int)<=(wu8 (v5 / 2^(min v6.toNat 64)))/\(wu8 (v5 / 2^(min v6.toNat 64)))<256)) <|
  chk (decide ((l0.length+1)*1<=LIM/\l0.length+1<=LEN)) <|
  some (.inl (v5,(B3 (v6-8)),b0,b1,b2,(l0++[(UInt8.ofNat (Int.toNat (wu8 (v5 / 2^(min v6.toNat 64)))))])))) (
  Option.map .inr (
   iB b0 b1 b2 l0))
def kq(v5 v6:Int) (b0:E0) (b1 b2:Vector UInt8 32) (l0:List UInt8):=
 F8 (λv=>ln v.1 v.2.1 v.2.2.1 v.2.2.2.1 v.2.2.2.2.1 v.2.2.2.2.2) (v5,v6,b0,b1,b2,l0)
def iC(b0:E0) (b1 b2:Vector UInt8 32) (l0:List UInt8):Option (E0×Vector UInt8 32):=
 kq (D4 ((D4 b0.2.2)*8)) 56 b0 b1 b2 l0
def lp(b0:E0) (b1 b2:Vector UInt8 32) (l0:List UInt8):Option ((E0×Vector UInt8 32×Vector UInt8 32×List UInt8)⊕(E0×Vector UInt8 32)):=
 sel (!decide ((Int.tmod l0.length 64)=56)) (
  chk (decide ((l0.length+1)*1<=LIM/\l0.length+1<=LEN)) <|
  some (.inl (b0,b1,b2,(l0++[(0:UInt8)])))) (
  Option.map .inr (
   iC b0 b1 b2 l0))
def kr(b0:E0) (b1 b2:Vector UInt8 32) (l0:List UInt8):=
 F8 (λv=>lp v.1 v.2.1 v.2.2.1 v.2.2.2) (b0,b1,b2,l0)
def kX(a0:E0):Option (E0×Vector UInt8 32):=
 chk (decide (a0.2.1.length*1<=LIM/\a0.2.1.length<=LEN)) <|
 chk (decide ((a0.2.1.length+1)*1<=LIM/\a0.2.1.length+1<=LEN)) <|
 kr a0 (Vector.replicate 32 (0:UInt8)) (Vector.replicate 32 (0:UInt8)) (a0.2.1++[(128:UInt8)])
def wI(a0:List UInt8):Option (Vector UInt8 32):=
 (Az).bind λr1=>
 (jk r1 a0).bind λr2=>
 (kX r2).bind λr3=>
 some r3.2
def zj(a0:List UInt8):Option (Vector UInt8 32):=
 (wI a0).bind λr1=>
 some r1
def P9(v0:List (Vector UInt8 32)) (v7 v8:Int) (b0:Vector UInt8 32):Option ((List (Vector UInt8 32)×Int×Int×Vector UInt8 32)⊕(Int)):=
 sel (decide (v8<v7)) (
  chk (decide (0<=v8/\v8<v0.length)) <|
  sel (U.beq (.arr 32 .byte) b0 (v0.getD v8.toNat (Vector.replicate 32 (0:UInt8)))) (
   some (.inr v8)) (
   some (.inl (v0,v7,(B3 (v8+1)),b0)))) (
  some (.inr (-1)))
def eO(v0:List (Vector UInt8 32)) (v7 v8:Int) (b0:Vector UInt8 32):=
 F8 (λv=>P9 v.1 v.2.1 v.2.2.1 v.2.2.2) (v0,v7,v8,b0)
def U6(a0:List (Vector UInt8 32)) (a1:Vector UInt8 32):Option (Int):=
 eO a0 a0.length 0 a1
def Z6(a0:List (Vector UInt8 32)) (a1:Vector UInt8 32):Option (Bool):=
 (U6 a0 a1).bind λr1=>
 some (decide (0<=r1))
def wJ(a0:List (Vector UInt8 32)) (a1:Vector UInt8 32):Option (Bool):=
 (Z6 a0 a1).bind λr1=>
 some r1
def kK(a0 a1:Vector UInt8 32):Option (Bool):=
 some (U.beq (.arr 32 .byte) a0 a1)
def H2(v1:Vector UInt8 32) (v7 v8:Int) (l0:List (Vector UInt8 32)):Option ((Vector UInt8 32×Int×Int×List (Vector UInt8 32))⊕(List (Vector UInt8 32)×Int)):=
 sel (decide (v8<v7)) (
  chk (decide (0<=v8/\v8<l0.length)) <|
  chk (decide (v8.toNat<l0.length)) <|
  (kK (l0.getD v8.toNat (Vector.replicate 32 (0:UInt8))) v1).bind λr1=>
  sel r1 (
   some (.inr (l0,v8))) (
   some (.inl (v1,v7,(B3 (v8+1)),l0)))) (
  some (.inr (l0,(-1))))
def P2(v1:Vector UInt8 32) (v7 v8:Int) (l0:List (Vector UInt8 32)):=
 F8 (λv=>H2 v.1 v.2.1 v.2.2.1 v.2.2.2) (v1,v7,v8,l0)
def I0(a0:List (Vector UInt8 32)) (a1:Vector UInt8 32):Option (List (Vector UInt8 32)×Int):=
 P2 a1 a0.length 0 a0
def I8(v5:Int) (l0:List (Vector UInt8 32)):Option (List (Vector UInt8 32)):=
 chk (decide ((0:Int)<=v5/\v5<=((l0.length:Nat):Int))) <|
 chk (decide (v5.toNat<l0.length)) <|
 chk (decide ((0:Int)<=v5/\v5<=(((List.length (List.take v5.toNat l0++List.replicate (l0.length-v5.toNat) (Vector.replicate 32 (0:UInt8)))):Nat):Int))) <|
 some (List.take v5.toNat (List.take v5.toNat l0++List.replicate (l0.length-v5.toNat) (Vector.replicate 32 (0:UInt8))))
def I9(v1:Vector UInt8 32) (v5 v6:Int) (l0:List (Vector UInt8 32)):Option ((Vector UInt8 32×Int×Int×List (Vector UInt8 32))⊕(List (Vector UInt8 32))):=
 sel (decide (v6<l0.length)) (
  chk (decide (0<=v6/\v6<l0.length)) <|
  chk (decide (v6.toNat<l0.length)) <|
  (kK (l0.getD v6.toNat (Vector.replicate 32 (0:UInt8))) v1).bind λr2=>
  sel (!r2) (
   chk (decide (0<=v5/\v5<l0.length)) <|
   chk (decide (v5.toNat<l0.length)) <|
   some (.inl (v1,(B3 (v5+1)),(B3 (v6+1)),(List.set l0 v5.toNat (l0.getD v6.toNat (Vector.replicate 32 (0:UInt8))))))) (
   some (.inl (v1,v5,(B3 (v6+1)),l0)))) (
  Option.map .inr (
   I8 v5 l0))
def N8(v1:Vector UInt8 32) (v5 v6:Int) (l0:List (Vector UInt8 32)):=
 F8 (λv=>I9 v.1 v.2.1 v.2.2.1 v.2.2.2) (v1,v5,v6,l0)
def E9(a0:List (Vector UInt8 32)) (a1:Vector UInt8 32):Option (List (Vector UInt8 32)):=
 (I0 a0 a1).bind λr1=>
 sel (decide (r1.2=(-1))) (
  some r1.1) (
  N8 a1 r1.2 (B3 (r1.2+1)) r1.1)
def kY(a0:List (Vector UInt8 32)) (a1:Vector UInt8 32):Option (List (Vector UInt8 32)):=
 (J8 a0).bind λr1=>
 (E9 r1 a1).bind λr2=>
 some r2
def pS(a0:List (Vector UInt8 32)) (a1:Int) (a2:Vector UInt8 32):Option (List (Vector UInt8 32)):=
 (wJ a0 a2).bind λr1=>
 sel (!r1) (
  sel (decide ((min (max a1 0) 1024)=0)) (
   (J8 a0).bind λr2=>
   some r2) (
   chk (decide ((0:Int)<=(max (B3 ((B3 (((a0.length:Nat):Int)-(min (max a1 0) 1024)))+1)) 0)/\(max (B3 ((B3 (((a0.length:Nat):Int)-(min (max a1 0) 1024)))+1)) 0)<=((a0.length:Nat):Int)/\((a0.length:Nat):Int)<=((a0.length:Nat):Int))) <|
   (J8 (List.drop (Int.toNat (max (B3 ((B3 (((a0.length:Nat):Int)-(min (max a1 0) 1024)))+1)) 0)) (List.take (Int.toNat a0.length) a0))).bind λr3=>
   chk (decide ((r3.length+1)*32<=LIM/\r3.length+1<=LEN)) <|
   some (r3++[a2]))) (
  (kY a0 a2).bind λr4=>
  chk (decide ((r4.length+1)*32<=LIM/\r4.length+1<=LEN)) <|
  some (r4++[a2]))
def gR(a0:List (Vector UInt8 32)) (a1:Vector UInt8 32):Option (List (Vector UInt8 32)):=
 (J8 a0).bind λr1=>
 (E9 r1 a1).bind λr2=>
 some r2
def nh(a0:o6) (a1:Vector UInt8 32):Option (Bool):=
 some (U.beq (.arr 32 .byte) a0.1 a1)
def F7(v0:List o6) (v1:Vector UInt8 32) (v7 v8:Int):Option ((List o6×Vector UInt8 32×Int×Int)⊕(Int)):=
 sel (decide (v8<v7)) (
  chk (decide (0<=v8/\v8<v0.length)) <|
  (nh (v0.getD v8.toNat B2) v1).bind λr1=>
  sel r1 (
   some (.inr v8)) (
   some (.inl (v0,v1,v7,(B3 (v8+1)))))) (
  some (.inr (-1)))
def L7(v0:List o6) (v1:Vector UInt8 32) (v7 v8:Int):=
 F8 (λv=>F7 v.1 v.2.1 v.2.2.1 v.2.2.2) (v0,v1,v7,v8)
def G6(a0:List o6) (a1:Vector UInt8 32):Option (Int):=
 L7 a0 a1 a0.length 0
def pp(a0:A2) (a1:Vector UInt8 32):Option (Int):=
 (G6 a0.2.2.2.2.2.1 a1).bind λr1=>
 some r1
def kZ(a0:A2) (a1:Vector UInt8 32):Option (A2×Bool):=
 (pp a0 a1).bind λr1=>
 sel (decide (r1<0)) (
  some (a0,false)) (
  chk (decide ((0:Int)<=0/\0<=r1/\r1<=((a0.2.2.2.2.2.1.length:Nat):Int))) <|
  chk (decide ((List.length (a0.2.2.2.2.2.1.take r1.toNat))*144<=LIM/\(List.length (a0.2.2.2.2.2.1.take r1.toNat))<=LEN)) <|
  chk (decide ((0:Int)<=(B3 (r1+1))/\(B3 (r1+1))<=((a0.2.2.2.2.2.1.length:Nat):Int)/\((a0.2.2.2.2.2.1.length:Nat):Int)<=((a0.2.2.2.2.2.1.length:Nat):Int))) <|
  chk (decide (((List.length (a0.2.2.2.2.2.1.take r1.toNat))+(List.length (List.drop (Int.toNat (B3 (r1+1))) (List.take (Int.toNat a0.2.2.2.2.2.1.length) a0.2.2.2.2.2.1))))*144<=LIM/\(List.length (a0.2.2.2.2.2.1.take r1.toNat))+(List.length (List.drop (Int.toNat (B3 (r1+1))) (List.take (Int.toNat a0.2.2.2.2.2.1.length) a0.2.2.2.2.2.1)))<=LEN)) <|
  some ((a0.1,a0.2.1,a0.2.2.1,a0.2.2.2.1,a0.2.2.2.2.1,((a0.2.2.2.2.2.1.take r1.toNat)++(List.drop (Int.toNat (B3 (r1+1))) (List.take (Int.toNat a0.2.2.2.2.2.1.length) a0.2.2.2.2.2.1))),a0.2.2.2.2.2.2),true))
def mv(b0 _b1:A2) (l0:List (Vector UInt8 32)):Option (A2×List (Vector UInt8 32)):=
 some (b0,l0)
def bX(v1:List (List UInt8)) (v2:List B1) (v18 v19:Int) (b0 b1:A2) (b2:Vector UInt8 32) (l0:List (Vector UInt8 32)):Option ((List (List UInt8)×List B1×Int×Int×A2×A2×List (Vector UInt8 32))⊕(A2×List (Vector UInt8 32))):=
 (kZ b0 b2).bind λr3=>
 sel r3.2 (
  chk (decide ((l0.length+1)*32<=LIM/\l0.length+1<=LEN)) <|
  some (.inl (v1,v2,v18,(B3 (v19+1)),r3.1,b1,(l0++[b2])))) (
  some (.inl (v1,v2,v18,(B3 (v19+1)),r3.1,b1,l0)))
def mw(v1:List (List UInt8)) (v2:List B1) (v18 v19:Int) (b0 b1:A2) (l0:List (Vector UInt8 32)):Option ((List (List UInt8)×List B1×Int×Int×A2×A2×List (Vector UInt8 32))⊕(A2×List (Vector UInt8 32))):=
 sel (decide (v19<v18)) (
  chk (decide (0<=v19/\v19<v1.length)) <|
  (zj (v1.getD v19.toNat [])).bind λr2=>
  chk (decide (0<=v19/\v19<v2.length)) <|
  sel (decide ((v2.getD v19.toNat R6).1=0)) (
   (pS b0.2.2.2.2.2.2 b0.1.2.2.2.1 r2).bind λr4=>
   bX v1 v2 v18 v19 (b0.1,b0.2.1,b0.2.2.1,b0.2.2.2.1,b0.2.2.2.2.1,b0.2.2.2.2.2.1,r4) b1 r2 l0) (
   sel (!b0.1.2.2.2.2.2.2.1) (
    (gR b0.2.2.2.2.2.2 r2).bind λr5=>
    bX v1 v2 v18 v19 (b0.1,b0.2.1,b0.2.2.1,b0.2.2.2.1,b0.2.2.2.2.1,b0.2.2.2.2.2.1,r5) b1 r2 l0) (
    bX v1 v2 v18 v19 b0 b1 r2 l0))) (
  Option.map .inr (
   mv b0 b1 l0))
def pq(v1:List (List UInt8)) (v2:List B1) (v18 v19:Int) (b0 b1:A2) (l0:List (Vector UInt8 32)):=
 F8 (λv=>mw v.1 v.2.1 v.2.2.1 v.2.2.2.1 v.2.2.2.2.1 v.2.2.2.2.2.1 v.2.2.2.2.2.2) (v1,v2,v18,v19,b0,b1,l0)
def gL(a0:A2) (a1:List (List UInt8)) (a2:List B1):Option (A2×List (Vector UInt8 32)):=
 (ng a0).bind λr1=>
 pq a1 a2 (min ((a1.length:Nat):Int) a2.length) 0 r1 (((0:Int),(0:Int),(0:Int),(0:Int),(0:Int),(0:Int),false,(0:Int),(0:Int),(0:Int),(0:Int),(0:Int)),(([],(0:Int)),([],(0:Int)),([],(0:Int)),false,(0:Int)),(0:Int),(0:Int),(0:Int),[],[]) []
def iD(a0 a1 a2:Int):Option (Bool):=
 sel (!decide (a2=0)) (
  sel (decide (a1<a0)) (
   some (decide ((D4 a2)<(D4 ((D4 a0)-(D4 a1)))))) (
   some false)) (
  some false)
def ni(b0 _b1:A2) (l0:List (Vector UInt8 32)) (l1:List o6):Option (A2×List (Vector UInt8 32)):=
 some ((b0.1,b0.2.1,b0.2.2.1,b0.2.2.2.1,b0.2.2.2.2.1,l1,b0.2.2.2.2.2.2),l0)
def gM(v11:List o6) (v12 v13:Int) (v34:Bool) (b0 b1:A2) (b2:o6) (l0:List (Vector UInt8 32)) (l1:List o6):Option ((List o6×Int×Int×A2×A2×List (Vector UInt8 32)×List o6)⊕(A2×List (Vector UInt8 32))):=
 sel v34 (
  chk (decide ((l0.length+1)*32<=LIM/\l0.length+1<=LEN)) <|
  (gR b0.2.2.2.2.2.2 b2.1).bind λr2=>
  some (.inl (v11,v12,(B3 (v13+1)),(b0.1,b0.2.1,b0.2.2.1,b0.2.2.2.1,b0.2.2.2.2.1,b0.2.2.2.2.2.1,r2),b1,(l0++[b2.1]),l1))) (
  chk (decide ((l1.length+1)*144<=LIM/\l1.length+1<=LEN)) <|
  some (.inl (v11,v12,(B3 (v13+1)),b0,b1,l0,(l1++([b2]:List o6)))))
def jW(v11:List o6) (v12 v13:Int) (b0 b1:A2) (l0:List (Vector UInt8 32)) (l1:List o6):Option ((List o6×Int×Int×A2×A2×List (Vector UInt8 32)×List o6)⊕(A2×List (Vector UInt8 32))):=
 sel (decide (v13<v12)) (
  chk (decide (0<=v13/\v13<v11.length)) <|
  (iD b0.2.2.1 (v11.getD v13.toNat B2).2.2.2.2.2.2.1 b0.1.2.2.2.2.1).bind λr3=>
  sel r3 (
   gM v11 v12 v13 true b0 b1 (v11.getD v13.toNat B2) l0 l1) (
   (iD b0.2.2.2.1 (v11.getD v13.toNat B2).2.2.2.2.2.2.2.1 b0.1.2.2.2.2.2.1).bind λr4=>
   gM v11 v12 v13 r4 b0 b1 (v11.getD v13.toNat B2) l0 l1)) (
  Option.map .inr (
   ni b0 b1 l0 l1))
def pU(v11:List o6) (v12 v13:Int) (b0 b1:A2) (l0:List (Vector UInt8 32)) (l1:List o6):=
 F8 (λv=>jW v.1 v.2.1 v.2.2.1 v.2.2.2.1 v.2.2.2.2.1 v.2.2.2.2.2.1 v.2.2.2.2.2.2) (v11,v12,v13,b0,b1,l0,l1)
def kL(a0:A2):Option (A2×List (Vector UInt8 32)):=
 (ng a0).bind λr1=>
 pU r1.2.2.2.2.2.1 r1.2.2.2.2.2.1.length 0 r1 (((0:Int),(0:Int),(0:Int),(0:Int),(0:Int),(0:Int),false,(0:Int),(0:Int),(0:Int),(0:Int),(0:Int)),(([],(0:Int)),([],(0:Int)),([],(0:Int)),false,(0:Int)),(0:Int),(0:Int),(0:Int),[],[]) [] []
def rN(a0:H6):Option (H6):=
 (qT a0).bind λr1=>
 (gQ a0.1).bind λr2=>
 some (r1.1,r2,r1.2.2)
def vu(a0:H6) (a1:List UInt8):Option (B1):=
 (lF a0.2.1 a0.2.2.2.2 a1).bind λr1=>
 some r1.2
def mz(a0:A2) (a1:o6):Option (Bool):=
 (vu a0.2.1 a1.2.1).bind λr1=>
 sel (decide (r1.1=0)) (
  sel (decide (a0.1.2.2.2.2.2.2.2.2.1=(-1))) (
   some true) (
   some (decide (r1.2.2.2.1<=(D4 (max a0.1.2.2.2.2.2.2.2.2.1 0)))))) (
  some false)
def pV(a0:H6) (a1:List UInt8):Option (H6):=
 (qT a0).bind λr1=>
 (lF a0.2.1 a0.2.2.2.2 a1).bind λr2=>
 some (r1.1,r2.1,r1.2.2)
def lr(b0 _b1:A2) (l0:List (Vector UInt8 32)) (l1:List o6):Option (A2×List (Vector UInt8 32)):=
 some ((b0.1,b0.2.1,b0.2.2.1,b0.2.2.2.1,b0.2.2.2.2.1,l1,b0.2.2.2.2.2.2),l0)
def iE(v15:List o6) (v16 v17:Int) (b0 b1:A2) (l0:List (Vector UInt8 32)) (l1:List o6):Option ((List o6×Int×Int×A2×A2×List (Vector UInt8 32)×List o6)⊕(A2×List (Vector UInt8 32))):=
 sel (decide (v17<v16)) (
  chk (decide (0<=v17/\v17<v15.length)) <|
  (mz b0 (v15.getD v17.toNat B2)).bind λr3=>
  sel r3 (
   (pV b0.2.1 (v15.getD v17.toNat B2).2.1).bind λr4=>
   chk (decide ((l1.length+1)*144<=LIM/\l1.length+1<=LEN)) <|
   some (.inl (v15,v16,(B3 (v17+1)),(b0.1,r4,b0.2.2),b1,l0,(l1++([(v15.getD v17.toNat B2)]:List o6))))) (
   chk (decide ((l0.length+1)*32<=LIM/\l0.length+1<=LEN)) <|
   sel (!b0.1.2.2.2.2.2.2.1) (
    (gR b0.2.2.2.2.2.2 (v15.getD v17.toNat B2).1).bind λr5=>
    some (.inl (v15,v16,(B3 (v17+1)),(b0.1,b0.2.1,b0.2.2.1,b0.2.2.2.1,b0.2.2.2.2.1,b0.2.2.2.2.2.1,r5),b1,(l0++[(v15.getD v17.toNat B2).1]),l1))) (
    some (.inl (v15,v16,(B3 (v17+1)),b0,b1,(l0++[(v15.getD v17.toNat B2).1]),l1))))) (
  Option.map .inr (
   lr b0 b1 l0 l1))
def oC(v15:List o6) (v16 v17:Int) (b0 b1:A2) (l0:List (Vector UInt8 32)) (l1:List o6):=
 F8 (λv=>iE v.1 v.2.1 v.2.2.1 v.2.2.2.1 v.2.2.2.2.1 v.2.2.2.2.2.1 v.2.2.2.2.2.2) (v15,v16,v17,b0,b1,l0,l1)
def eT(a0:A2):Option (A2×List (Vector UInt8 32)):=
 (ng a0).bind λr1=>
 (rN r1.2.1).bind λr2=>
 oC r1.2.2.2.2.2.1 r1.2.2.2.2.2.1.length 0 (r1.1,r2,r1.2.2) (((0:Int),(0:Int),(0:Int),(0:Int),(0:Int),(0:Int),false,(0:Int),(0:Int),(0:Int),(0:Int),(0:Int)),(([],(0:Int)),([],(0:Int)),([],(0:Int)),false,(0:Int)),(0:Int),(0:Int),(0:Int),[],[]) [] []
def dM(a0:A2) (a1:List (List UInt8)) (a2:List B1) (a3 a4:Int):Option (A2×E3):=
 (gL (a0.1,a0.2.1,a3,(max a0.2.2.2.1 a4),a0.2.2.2.2) a1 a2).bind λr1=>
 (kL r1.1).bind λr2=>
 (eT r2.1).bind λr3=>
 some (r3.1,((0:Int),(Vector.replicate 32 (0:UInt8)),(0:Int),[],r2.2,r3.2,r1.2,[],[],a3,(Vector.replicate 32 (0:UInt8))))
def aY(v0 v1:List (Vector UInt8 32)) (v12 v13:Int):Option ((List (Vector UInt8 32)×List (Vector UInt8 32)×Int×Int)⊕(Bool)):=
 sel (decide (v13<v12)) (
  chk (decide (0<=v13/\v13<v0.length)) <|
  chk (decide (0<=v13/\v13<v1.length)) <|
  sel (!(U.beq (.arr 32 .byte) (v0.getD v13.toNat (Vector.replicate 32 (0:UInt8))) (v1.getD v13.toNat (Vector.replicate 32 (0:UInt8))))) (
   some (.inr false)) (
   some (.inl (v0,v1,v12,(B3 (v13+1)))))) (
  some (.inr true))
def kc(v0 v1:List (Vector UInt8 32)) (v12 v13:Int):=
 F8 (λv=>aY v.1 v.2.1 v.2.2.1 v.2.2.2) (v0,v1,v12,v13)
def D7(a0 a1:List (Vector UInt8 32)):Option (Bool):=
 sel (!decide (((a0.length:Nat):Int)=((a1.length:Nat):Int))) (
  some false) (
  kc a0 a1 a0.length 0)
def F9:Option (Bool):=
 (cu (5,500,100,5,3,(0:Int),false,200,(-1),(0:Int),(0:Int),1) [(([97,110,110]:List UInt8),1000,(0:Int)),(([98,111,98]:List UInt8),1000,(0:Int))]).bind λr1=>
 (bU ([97,110,110]:List UInt8) 0 3).bind λr2=>
 (O5 r1.1 r2 0).bind λr3=>
 (bU ([98,111,98]:List UInt8) 0 3).bind λr4=>
 (O5 r3.1 r4 0).bind λr5=>
 (bU ([98,111,98]:List UInt8) 0 4).bind λr6=>
 (bU ([97,110,110]:List UInt8) 0 3).bind λr7=>
 (T3 r5.1.2.1 [r7,r6]).bind λr8=>
 (X6 r8.1).bind λr9=>
 (bU ([97,110,110]:List UInt8) 0 3).bind λr10=>
 (dM (r5.1.1,r9.1,r5.1.2.2) [r10,r6] r8.2.1 1 7).bind λr11=>
 (D7 r11.2.2.2.2.2.2.2.1 [r3.2.2.1]).bind λr12=>
 sel r12 (
  (D7 r11.2.2.2.2.2.2.1 [r5.2.2.1]).bind λr13=>
  sel r13 (
   sel (decide (((r11.2.2.2.2.2.1.length:Nat):Int)=0)) (
    sel (decide (((r11.1.2.2.2.2.2.1.length:Nat):Int)=0)) (
     sel (decide (r11.1.2.2.1=1)) (
      sel (decide (r11.1.2.2.2.1=7)) (
       (H1 r6).bind λr14=>
       (D7 r11.1.2.2.2.2.2.2 [r3.2.2.1,r14]).bind λr15=>
       some r15) (
       some false)) (
      some false)) (
     some false)) (
    some false)) (
   some false)) (
  some false)
def dn(_b0:A2) (b1:o7) (b2:A2) (l0:List (List UInt8)):Option (A2×List (List UInt8)×List B1×o7):=
 (fm b1 b2.2.1 3).bind λr3=>
 chk (decide ((l0.length+r3.2.length)*24<=LIM/\l0.length+r3.2.length<=LEN)) <|
 (T3 b2.2.1 (l0++r3.2)).bind λr4=>
 sel (!decide (r4.2.2=0)) (
  some (b2,[],[],r3.1)) (
  (X6 r4.1).bind λr5=>
  some ((b2.1,r5.1,b2.2.2),(l0++r3.2),r4.2.1,r3.1))
def dp(v28:List o6) (v29 v30:Int) (b0:A2) (b1:o7) (b2:A2) (l0:List (List UInt8)):Option ((List o6×Int×Int×A2×o7×A2×List (List UInt8))⊕(A2×List (List UInt8)×List B1×o7)):=
 sel (decide (v30<v29)) (
  chk (decide (0<=v30/\v30<v28.length)) <|
  (o9 b1 2).bind λr6=>
  sel (decide (r6.2=0)) (
   chk (decide ((l0.length+1)*24<=LIM/\l0.length+1<=LEN)) <|
   some (.inl (v28,v29,(B3 (v30+1)),b0,r6.1,b2,(l0++[(v28.getD v30.toNat B2).2.1])))) (
   some (.inl (v28,v29,(B3 (v30+1)),b0,r6.1,b2,l0)))) (
  Option.map .inr (
   dn b0 b1 b2 l0))
def lN(v28:List o6) (v29 v30:Int) (b0:A2) (b1:o7) (b2:A2) (l0:List (List UInt8)):=
 F8 (λv=>dp v.1 v.2.1 v.2.2.1 v.2.2.2.1 v.2.2.2.2.1 v.2.2.2.2.2.1 v.2.2.2.2.2.2) (v28,v29,v30,b0,b1,b2,l0)
def M0(a0:List Int):Option (A2×List (List UInt8)×List B1×o7):=
 (mm a0).bind λr1=>
 (gh r1 9).bind λr2=>
 lN r2.2.1.1.2.2.2.2.2.1 r2.2.1.1.2.2.2.2.2.1.length 0 (((0:Int),(0:Int),(0:Int),(0:Int),(0:Int),(0:Int),false,(0:Int),(0:Int),(0:Int),(0:Int),(0:Int)),(([],(0:Int)),([],(0:Int)),([],(0:Int)),false,(0:Int)),(0:Int),(0:Int),(0:Int),[],[]) r2.1 r2.2.1.1 []
def Y4(v22 v23:Int) (b0 b1:o8):Option ((Int×Int×o8×o8)⊕(Bool)):=
 sel (decide (v23<v22)) (
  chk (decide (0<=v23/\v23<b0.1.length)) <|
  chk (decide (0<=v23/\v23<b1.1.length)) <|
  sel (!(U.beq C0 (List.getD b0.1 v23.toNat A6) (List.getD b1.1 v23.toNat A6))) (
   some (.inr false)) (
   some (.inl (v22,(B3 (v23+1)),b0,b1)))) (
  some (.inr true))
def iK(v22 v23:Int) (b0 b1:o8):=
 F8 (λv=>Y4 v.1 v.2.1 v.2.2.1 v.2.2.2) (v22,v23,b0,b1)
def L3(a0 a1:o8):Option (Bool):=
 sel (!decide (((a0.1.length:Nat):Int)=((a1.1.length:Nat):Int))) (
  some false) (
  sel (!decide (a0.2=a1.2)) (
   some false) (
   iK a0.1.length 0 a0 a1))
def eI(a0 a1:H6):Option (Bool):=
 (L3 a0.1 a1.1).bind λr1=>
 sel r1 (
  (L3 a0.2.1 a1.2.1).bind λr2=>
  sel r2 (
   (L3 a0.2.2.1 a1.2.2.1).bind λr3=>
   sel r3 (
    sel (WA a0.2.2.2.1 a1.2.2.2.1) (
     some (decide (a0.2.2.2.2=a1.2.2.2.2))) (
     some false)) (
    some false)) (
   some false)) (
  some false)
def aZ(v0 v1:List Int) (v12 v13:Int):Option ((List Int×List Int×Int×Int)⊕(Bool)):=
 sel (decide (v13<v12)) (
  chk (decide (0<=v13/\v13<v0.length)) <|
  chk (decide (0<=v13/\v13<v1.length)) <|
  sel (!decide ((v0.getD v13.toNat (0:Int))=(v1.getD v13.toNat (0:Int)))) (
   some (.inr false)) (
   some (.inl (v0,v1,v12,(B3 (v13+1)))))) (
  some (.inr true))
def ke(v0 v1:List Int) (v12 v13:Int):=
 F8 (λv=>aZ v.1 v.2.1 v.2.2.1 v.2.2.2) (v0,v1,v12,v13)
def eJ(a0 a1:List Int):Option (Bool):=
 sel (!decide (((a0.length:Nat):Int)=((a1.length:Nat):Int))) (
  some false) (
  ke a0 a1 a0.length 0)
def Q8(a0 a1:o6):Option (Bool):=
 sel (U.beq (.arr 32 .byte) a0.1 a1.1) (
  (G8 a0.2.1 a1.2.1).bind λr1=>
  sel r1 (
   sel (decide (a0.2.2.1=a1.2.2.1)) (
    sel (decide (a0.2.2.2.1=a1.2.2.2.1)) (
     sel (decide (a0.2.2.2.2.1=a1.2.2.2.2.1)) (
      sel (decide (a0.2.2.2.2.2.1=a1.2.2.2.2.2.1)) (
       sel (decide (a0.2.2.2.2.2.2.1=a1.2.2.2.2.2.2.1)) (
        sel (decide (a0.2.2.2.2.2.2.2.1=a1.2.2.2.2.2.2.2.1)) (
         sel (decide (a0.2.2.2.2.2.2.2.2.1=a1.2.2.2.2.2.2.2.2.1)) (
          (eJ a0.2.2.2.2.2.2.2.2.2 a1.2.2.2.2.2.2.2.2.2).bind λr2=>
          some r2) (
          some false)) (
         some false)) (
        some false)) (
       some false)) (
      some false)) (
     some false)) (
    some false)) (
   some false)) (
  some false)
def W2(v0 v1:List o6) (v12 v13:Int):Option ((List o6×List o6×Int×Int)⊕(Bool)):=
 sel (decide (v13<v12)) (
  chk (decide (0<=v13/\v13<v0.length)) <|
  chk (decide (0<=v13/\v13<v1.length)) <|
  (Q8 (v0.getD v13.toNat B2) (v1.getD v13.toNat B2)).bind λr1=>
  sel (!r1) (
   some (.inr false)) (
   some (.inl (v0,v1,v12,(B3 (v13+1)))))) (
  some (.inr true))
def gS(v0 v1:List o6) (v12 v13:Int):=
 F8 (λv=>W2 v.1 v.2.1 v.2.2.1 v.2.2.2) (v0,v1,v12,v13)
def aq(a0 a1:List o6):Option (Bool):=
 sel (!decide (((a0.length:Nat):Int)=((a1.length:Nat):Int))) (
  some false) (
  gS a0 a1 a0.length 0)
def J9(a0 a1:A2):Option (Bool):=
 sel (U.beq I6 a0.1 a1.1) (
  (eI a0.2.1 a1.2.1).bind λr1=>
  sel r1 (
   sel (decide (a0.2.2.1=a1.2.2.1)) (
    sel (decide (a0.2.2.2.1=a1.2.2.2.1)) (
     sel (decide (a0.2.2.2.2.1=a1.2.2.2.2.1)) (
      (aq a0.2.2.2.2.2.1 a1.2.2.2.2.2.1).bind λr2=>
      sel r2 (
       (D7 a0.2.2.2.2.2.2 a1.2.2.2.2.2.2).bind λr3=>
       some r3) (
       some false)) (
      some false)) (
     some false)) (
    some false)) (
   some false)) (
  some false)
def T6(v8:List (List UInt8)) (v54 v55:Int) (b0:A2) (l0:List B1) (l1:List (Vector Int 2)):Option ((List (List UInt8)×Int×Int×A2×List B1×List (Vector Int 2))⊕(Bool)):=
 sel (decide (v55<v54)) (
  chk (decide (0<=v55/\v55<l1.length)) <|
  chk (decide (v55.toNat<l1.length)) <|
  chk (decide ((0:Int)<=0/\0<=(L0 (l1.getD v55.toNat (Vector.replicate 2 (0:Int))) 0 (0:Int))/\(L0 (l1.getD v55.toNat (Vector.replicate 2 (0:Int))) 0 (0:Int))<=((v8.length:Nat):Int))) <|
  chk (decide ((0:Int)<=0/\0<=(L0 (l1.getD v55.toNat (Vector.replicate 2 (0:Int))) 1 (0:Int))/\(L0 (l1.getD v55.toNat (Vector.replicate 2 (0:Int))) 1 (0:Int))<=((l0.length:Nat):Int))) <|
  (gL b0 (List.take (Int.toNat (L0 (l1.getD v55.toNat (Vector.replicate 2 (0:Int))) 0 (0:Int))) v8) (List.take (Int.toNat (L0 (l1.getD v55.toNat (Vector.replicate 2 (0:Int))) 1 (0:Int))) l0)).bind λr6=>
  chk (decide ((0:Int)<=0/\0<=(L0 (l1.getD v55.toNat (Vector.replicate 2 (0:Int))) 0 (0:Int))/\(L0 (l1.getD v55.toNat (Vector.replicate 2 (0:Int))) 0 (0:Int))<=((v8.length:Nat):Int))) <|
  chk (decide ((0:Int)<=0/\0<=(L0 (l1.getD v55.toNat (Vector.replicate 2 (0:Int))) 1 (0:Int))/\(L0 (l1.getD v55.toNat (Vector.replicate 2 (0:Int))) 1 (0:Int))<=((l0.length:Nat):Int))) <|
  (M6 b0 (List.take (Int.toNat (L0 (l1.getD v55.toNat (Vector.replicate 2 (0:Int))) 0 (0:Int))) v8) (List.take (Int.toNat (L0 (l1.getD v55.toNat (Vector.replicate 2 (0:Int))) 1 (0:Int))) l0)).bind λr7=>
  (J9 r6.1 r7.1).bind λr8=>
  sel (!r8) (
   some (.inr false)) (
   (D7 r6.2 r7.2).bind λr9=>
   sel (!r9) (
    some (.inr false)) (
    some (.inl (v8,v54,(B3 (v55+1)),b0,l0,l1))))) (
  Option.map .inr (
   (F9).bind λr10=>
   some r10))
def aj(v8:List (List UInt8)) (v54 v55:Int) (b0:A2) (l0:List B1) (l1:List (Vector Int 2)):=
 F8 (λv=>T6 v.1 v.2.1 v.2.2.1 v.2.2.2.1 v.2.2.2.2.1 v.2.2.2.2.2) (v8,v54,v55,b0,l0,l1)
def Y5(a0:List Int) (a1 a2:Int):Option (Bool):=
 (N1 [a0]).bind λr1=>
 sel r1 (
  (F9).bind λr2=>
  some r2) (
  (M0 a0).bind λr3=>
  (I3 a1 (B3 (((r3.2.1.length:Nat):Int)+1))).bind λr4=>
  (I3 a2 (B3 (((r3.2.2.1.length:Nat):Int)+1))).bind λr5=>
  aj r3.2.1 3 0 r3.1 r3.2.2.1 [(Vector.push (Vector.push #v[] r3.2.1.length) r3.2.2.1.length),(Vector.push (Vector.push #v[] r4) r3.2.2.1.length),(Vector.push (Vector.push #v[] r3.2.1.length) r5)])
def Z7(a0:List Int) (a1 a2:Int):Option (Bool):=
 (N1 [a0]).bind λr1=>
 sel r1 (
  (F9).bind λr2=>
  some r2) (
  (M0 a0).bind λr3=>
  (I3 a1 6).bind λr4=>
  (I3 a2 60).bind λr5=>
  (kL (r3.1.1,r3.1.2.1,(B3 (r3.1.2.2.1+r4)),(B3 (r3.1.2.2.2.1+r5)),r3.1.2.2.2.2)).bind λr6=>
  (U2 (r3.1.1,r3.1.2.1,(B3 (r3.1.2.2.1+r4)),(B3 (r3.1.2.2.2.1+r5)),r3.1.2.2.2.2)).bind λr7=>
  (J9 r6.1 r7.1).bind λr8=>
  sel r8 (
   (D7 r6.2 r7.2).bind λr9=>
   sel r9 (
    (F9).bind λr10=>
    some r10) (
    some false)) (
   some false))
def W3(a0:List Int):Option (Bool):=
 (N1 [a0]).bind λr1=>
 sel r1 (
  (F9).bind λr2=>
  some r2) (
  (M0 a0).bind λr3=>
  (eT r3.1).bind λr4=>
  (P4 r3.1).bind λr5=>
  (eT r4.1).bind λr6=>
  (J9 r4.1 r5.1).bind λr7=>
  sel r7 (
   (D7 r4.2 r5.2).bind λr8=>
   sel r8 (
    (J9 r4.1 r6.1).bind λr9=>
    sel r9 (
     sel (decide (((r6.2.length:Nat):Int)=0)) (
      (F9).bind λr10=>
      some r10) (
      some false)) (
     some false)) (
    some false)) (
   some false))
def X9(a0 a1:E3):Option (Bool):=
 sel (decide (a0.1=a1.1)) (
  sel (U.beq (.arr 32 .byte) a0.2.1 a1.2.1) (
   sel (decide (a0.2.2.1=a1.2.2.1)) (
    (D7 a0.2.2.2.1 a1.2.2.2.1).bind λr1=>
    sel r1 (
     (D7 a0.2.2.2.2.1 a1.2.2.2.2.1).bind λr2=>
     sel r2 (
      (D7 a0.2.2.2.2.2.1 a1.2.2.2.2.2.1).bind λr3=>
      sel r3 (
       (D7 a0.2.2.2.2.2.2.1 a1.2.2.2.2.2.2.1).bind λr4=>
       sel r4 (
        (D7 a0.2.2.2.2.2.2.2.1 a1.2.2.2.2.2.2.2.1).bind λr5=>
        sel r5 (
         (Z4 a0.2.2.2.2.2.2.2.2.1 a1.2.2.2.2.2.2.2.2.1).bind λr6=>
         sel r6 (
          sel (decide (a0.2.2.2.2.2.2.2.2.2.1=a1.2.2.2.2.2.2.2.2.2.1)) (
           some (U.beq (.arr 32 .byte) a0.2.2.2.2.2.2.2.2.2.2 a1.2.2.2.2.2.2.2.2.2.2)) (
           some false)) (
          some false)) (
         some false)) (
        some false)) (
       some false)) (
      some false)) (
     some false)) (
    some false)) (
   some false)) (
  some false)
def Y6(a0:List Int) (a1 a2:Int):Option (Bool):=
 (N1 [a0]).bind λr1=>
 sel r1 (
  (F9).bind λr2=>
  some r2) (
  (M0 a0).bind λr3=>
  (I3 a1 4).bind λr4=>
  (I3 a2 40).bind λr5=>
  (dM r3.1 r3.2.1 r3.2.2.1 (B3 ((B3 (r3.1.2.2.1+1))+r4)) (B3 ((B3 (r3.1.2.2.2.1+r5))-5))).bind λr6=>
  (S4 r3.1 r3.2.1 r3.2.2.1 (B3 ((B3 (r3.1.2.2.1+1))+r4)) (B3 ((B3 (r3.1.2.2.2.1+r5))-5))).bind λr7=>
  (J9 r6.1 r7.1).bind λr8=>
  sel r8 (
   (X9 r6.2 r7.2).bind λr9=>
   sel r9 (
    (F9).bind λr10=>
    some r10) (
    some false)) (
   some false))
def U7(b0:A2) (l0:List (List UInt8)):Option (Bool):=
 (X7 b0.2.1.1 b0.2.1.2.2.2.2 l0).bind λr6=>
 sel (decide (r6.2.2=0)) (
  (L3 r6.1 b0.2.1.2.1).bind λr7=>
  sel r7 (
   (X1 b0.1 b0.2.2.2.2.2.1 b0.2.2.1 b0.2.2.2.1).bind λr8=>
   sel (decide (((r8.length:Nat):Int)=0)) (
    (F9).bind λr9=>
    some r9) (
    some false)) (
   some false)) (
  some false)
def U8(v64:List (List UInt8)) (v65 v66:Int) (b0:A2) (l0:List B1) (l1:List (List UInt8)):Option ((List (List UInt8)×Int×Int×A2×List B1×List (List UInt8))⊕(Bool)):=
 sel (decide (v66<v65)) (
  chk (decide (0<=v66/\v66<v64.length)) <|
  sel (decide (v66<l0.length)) (
   chk (decide (0<=v66/\v66<l0.length)) <|
   chk (decide (v66.toNat<l0.length)) <|
   sel (decide ((l0.getD v66.toNat R6).1=0)) (
    (H1 (v64.getD v66.toNat [])).bind λr10=>
    (S7 b0.2.2.2.2.2.1 r10).bind λr11=>
    sel (decide (0<=r11)) (
     some (.inr false)) (
     some (.inl (v64,v65,(B3 (v66+1)),b0,l0,l1)))) (
    some (.inl (v64,v65,(B3 (v66+1)),b0,l0,l1)))) (
   some (.inl (v64,v65,(B3 (v66+1)),b0,l0,l1)))) (
  Option.map .inr (
   U7 b0 l1))
def gN(v64:List (List UInt8)) (v65 v66:Int) (b0:A2) (l0:List B1) (l1:List (List UInt8)):=
 F8 (λv=>U8 v.1 v.2.1 v.2.2.1 v.2.2.2.1 v.2.2.2.2.1 v.2.2.2.2.2) (v64,v65,v66,b0,l0,l1)
def U9(v6:List (List UInt8)) (b0:A2) (l0:List B1) (l1:List (List UInt8)):Option (Bool):=
 gN v6 v6.length 0 b0 l0 l1
def V0(v6:List (List UInt8)) (v46:List o6) (v47 v48:Int) (b0 b1:A2) (l0:List B1) (l1:List (List UInt8)):Option ((List (List UInt8)×List o6×Int×Int×A2×A2×List B1×List (List UInt8))⊕(Bool)):=
 sel (decide (v48<v47)) (
  chk (decide (0<=v48/\v48<v46.length)) <|
  (S7 b0.2.2.2.2.2.1 (v46.getD v48.toNat B2).1).bind λr12=>
  sel (decide (r12<0)) (
   some (.inr false)) (
   chk (decide ((l1.length+1)*24<=LIM/\l1.length+1<=LEN)) <|
   some (.inl (v6,v46,v47,(B3 (v48+1)),b0,b1,l0,(l1++[(v46.getD v48.toNat B2).2.1]))))) (
  Option.map .inr (
   U9 v6 b1 l0 l1))
def aO(v6:List (List UInt8)) (v46:List o6) (v47 v48:Int) (b0 b1:A2) (l0:List B1) (l1:List (List UInt8)):=
 F8 (λv=>V0 v.1 v.2.1 v.2.2.1 v.2.2.2.1 v.2.2.2.2.1 v.2.2.2.2.2.1 v.2.2.2.2.2.2.1 v.2.2.2.2.2.2.2) (v6,v46,v47,v48,b0,b1,l0,l1)
def Z8(a0:List Int) (a1:Int):Option (Bool):=
 (N1 [a0]).bind λr1=>
 sel r1 (
  (F9).bind λr2=>
  some r2) (
  (M0 a0).bind λr3=>
  (I3 a1 30).bind λr4=>
  (dM r3.1 r3.2.1 r3.2.2.1 (B3 (r3.1.2.2.1+1)) (B3 (r3.1.2.2.2.1+r4))).bind λr5=>
  aO r3.2.1 r5.1.2.2.2.2.2.1 r5.1.2.2.2.2.2.1.length 0 r3.1 r5.1 r3.2.2.1 [])
def V1(v67:List o6) (v68 v69:Int) (b0:A2) (l0:List (Vector UInt8 32)):Option ((List o6×Int×Int×A2×List (Vector UInt8 32))⊕(Bool)):=
 sel (decide (v69<v68)) (
  chk (decide (0<=v69/\v69<v67.length)) <|
  (S7 b0.2.2.2.2.2.1 (v67.getD v69.toNat B2).1).bind λr7=>
  (O1 l0 (v67.getD v69.toNat B2).1).bind λr8=>
  sel (WA r8 (decide (0<=r7))) (
   some (.inr false)) (
   sel (decide (0<=r7)) (
    chk (decide (0<=r7/\r7<b0.2.2.2.2.2.1.length)) <|
    (Q8 (b0.2.2.2.2.2.1.getD r7.toNat B2) (v67.getD v69.toNat B2)).bind λr9=>
    sel (!r9) (
     some (.inr false)) (
     some (.inl (v67,v68,(B3 (v69+1)),b0,l0)))) (
    some (.inl (v67,v68,(B3 (v69+1)),b0,l0))))) (
  Option.map .inr (
   (F9).bind λr10=>
   some r10))
def aP(v67:List o6) (v68 v69:Int) (b0:A2) (l0:List (Vector UInt8 32)):=
 F8 (λv=>V1 v.1 v.2.1 v.2.2.1 v.2.2.2.1 v.2.2.2.2) (v67,v68,v69,b0,l0)
def Z9(a0:List Int) (a1:Int):Option (Bool):=
 (N1 [a0]).bind λr1=>
 sel r1 (
  (F9).bind λr2=>
  some r2) (
  (M0 a0).bind λr3=>
  (I3 a1 30).bind λr4=>
  (dM r3.1 r3.2.1 r3.2.2.1 (B3 (r3.1.2.2.1+1)) (B3 (r3.1.2.2.2.1+r4))).bind λr5=>
  chk (decide ((0+r5.2.2.2.2.2.2.2.1.length)*32<=LIM/\0+r5.2.2.2.2.2.2.2.1.length<=LEN)) <|
  chk (decide ((r5.2.2.2.2.2.2.2.1.length+r5.2.2.2.2.2.1.length)*32<=LIM/\r5.2.2.2.2.2.2.2.1.length+r5.2.2.2.2.2.1.length<=LEN)) <|
  chk (decide (((List.length (r5.2.2.2.2.2.2.2.1++r5.2.2.2.2.2.1))+r5.2.2.2.2.2.2.1.length)*32<=LIM/\(List.length (r5.2.2.2.2.2.2.2.1++r5.2.2.2.2.2.1))+r5.2.2.2.2.2.2.1.length<=LEN)) <|
  (eG ((r5.2.2.2.2.2.2.2.1++r5.2.2.2.2.2.1)++r5.2.2.2.2.2.2.1)).bind λr6=>
  sel (!r6) (
   some false) (
   sel (!decide ((B3 ((((List.length ((r5.2.2.2.2.2.2.2.1++r5.2.2.2.2.2.1)++r5.2.2.2.2.2.2.1)):Nat):Int)+((r5.1.2.2.2.2.2.1.length:Nat):Int)))=((r3.1.2.2.2.2.2.1.length:Nat):Int))) (
    some false) (
    aP r3.1.2.2.2.2.2.1 r3.1.2.2.2.2.2.1.length 0 r5.1 ((r5.2.2.2.2.2.2.2.1++r5.2.2.2.2.2.1)++r5.2.2.2.2.2.2.1))))
end
end Go.Proofs.YtjbgdpjgfjnkbaaGreatDoor.Am
