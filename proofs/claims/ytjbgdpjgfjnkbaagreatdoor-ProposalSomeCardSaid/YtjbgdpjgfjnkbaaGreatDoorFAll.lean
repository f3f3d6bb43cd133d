/- What functions of the program compute on plain data. No conditions. -/
import Derived.Test.YtjbgdpjgfjnkbaaGreatDoorQAA
import Derived.Test.YtjbgdpjgfjnkbaaGreatDoorQAC
import Derived.Test.YtjbgdpjgfjnkbaaGreatDoorQAD
import Derived.Test.YtjbgdpjgfjnkbaaGreatDoorQAB
import Derived.Test.YtjbgdpjgfjnkbaaGreatDoorKD
namespace Go.Proofs.YtjbgdpjgfjnkbaaGreatDoor.Am
open Go
noncomputable section
variable [Fu]
def D3:U:=(.pr .str (.int .u64))
abbrev A0:Type:=List UInt8 × Int
def H5:A0:=([],(0:Int))
def B4:U:=(.pr (.sl (.int .i64)) (.int .i64))
abbrev o7:Type:=List Int × Int
def C7:U:=(.pr .str (.pr (.int .u64) (.int .u64)))
abbrev o6:Type:=List UInt8 × Int × Int
def B0:o6:=([],(0:Int),(0:Int))
def L6:U:=(.pr (.int .i64) (.pr (.int .u64) .bool))
abbrev E6:Type:=Int × Int × Bool
def C1:U:=(.pr (.sl (.pr .str (.pr (.int .u64) (.int .u64)))) (.int .u64))
abbrev o8:Type:=List o6 × Int
def D1:U:=(.pr (.int .i64) (.pr (.int .i64) (.pr (.int .u64) (.sl .byte))))
abbrev A6:Type:=Int × Int × Int × List UInt8
def E4:A6:=((0:Int),(0:Int),(0:Int),[])
def I9:U:=(.pr (.int .i64) (.pr .str (.pr (.int .u64) (.pr (.int .u64) (.int .u64)))))
abbrev D0:Type:=Int × List UInt8 × Int × Int × Int
def kx:D0:=((0:Int),[],(0:Int),(0:Int),(0:Int))
def jf:U:=(.pr (.int .i64) (.pr (.int .i64) (.pr (.int .i64) (.pr (.int .i64) (.sl .byte)))))
abbrev P4:Type:=Int × Int × Int × Int × List UInt8
def kV:U:=(.pr (.int .i64) (.pr (.int .i64) (.pr (.arr 32 .byte) (.pr (.arr 32 .byte) (.arr 32 .byte)))))
abbrev dN:Type:=Int × Int × Vector UInt8 32 × Vector UInt8 32 × Vector UInt8 32
def W5:U:=(.pr .str (.pr (.int .u64) (.pr (.int .u64) (.pr (.int .u64) (.pr .str (.sl (.pr .str (.int .u64))))))))
abbrev C5:Type:=List UInt8 × Int × Int × Int × List UInt8 × List A0
def J0:U:=(.pr (.int .i64) (.pr (.int .i64) (.pr (.int .i64) (.pr (.arr 32 .byte) (.pr (.arr 32 .byte) (.pr (.arr 32 .byte) (.arr 32 .byte)))))))
abbrev D5:Type:=Int × Int × Int × Vector UInt8 32 × Vector UInt8 32 × Vector UInt8 32 × Vector UInt8 32
def U4:U:=(.pr (.pr (.int .i64) (.pr (.int .i64) (.pr (.int .i64) (.pr (.arr 32 .byte) (.pr (.arr 32 .byte) (.pr (.arr 32 .byte) (.arr 32 .byte))))))) (.sl (.sl .byte)))
abbrev G9:Type:=D5 × List (List UInt8)
def B9:U:=(.pr (.arr 32 .byte) (.pr (.sl .byte) (.pr .str (.pr (.int .u64) (.pr (.int .u64) (.pr (.int .u64) (.pr (.int .i64) (.pr (.int .i64) (.pr (.int .i64) (.sl (.int .i64)))))))))))
abbrev o5:Type:=Vector UInt8 32 × List UInt8 × List UInt8 × Int × Int × Int × Int × Int × Int × List Int
def C0:o5:=((Vector.replicate 32 (0:UInt8)),[],[],(0:Int),(0:Int),(0:Int),(0:Int),(0:Int),(0:Int),[])
def J7:U:=(.pr (.int .i64) (.pr (.int .i64) (.pr (.int .i64) (.pr (.int .i64) (.pr (.int .i64) (.pr (.int .i64) (.pr .bool (.pr (.int .i64) (.pr (.int .i64) (.pr (.int .u64) (.pr (.int .i64) (.int .i64))))))))))))
abbrev D9:Type:=Int × Int × Int × Int × Int × Int × Bool × Int × Int × Int × Int × Int
def dO:U:=(.pr (.pr (.sl (.pr .str (.pr (.int .u64) (.int .u64)))) (.int .u64)) (.pr (.pr (.sl (.pr .str (.pr (.int .u64) (.int .u64)))) (.int .u64)) (.pr (.pr (.sl (.pr .str (.pr (.int .u64) (.int .u64)))) (.int .u64)) (.pr .bool (.int .u64)))))
abbrev J8:Type:=o8 × o8 × o8 × Bool × Int
def R9:U:=(.pr (.int .i64) (.pr (.arr 32 .byte) (.pr (.int .u64) (.pr (.sl (.arr 32 .byte)) (.pr (.sl (.arr 32 .byte)) (.pr (.sl (.arr 32 .byte)) (.pr (.sl (.arr 32 .byte)) (.pr (.sl (.arr 32 .byte)) (.pr (.sl (.sl .byte)) (.pr (.int .i64) (.arr 32 .byte)))))))))))
abbrev E7:Type:=Int × Vector UInt8 32 × Int × List (Vector UInt8 32) × List (Vector UInt8 32) × List (Vector UInt8 32) × List (Vector UInt8 32) × List (Vector UInt8 32) × List (List UInt8) × Int × Vector UInt8 32
def C2:U:=(.pr (.pr (.int .i64) (.pr (.int .i64) (.pr (.int .i64) (.pr (.int .i64) (.pr (.int .i64) (.pr (.int .i64) (.pr .bool (.pr (.int .i64) (.pr (.int .i64) (.pr (.int .u64) (.pr (.int .i64) (.int .i64)))))))))))) (.pr (.pr (.pr (.sl (.pr .str (.pr (.int .u64) (.int .u64)))) (.int .u64)) (.pr (.pr (.sl (.pr .str (.pr (.int .u64) (.int .u64)))) (.int .u64)) (.pr (.pr (.sl (.pr .str (.pr (.int .u64) (.int .u64)))) (.int .u64)) (.pr .bool (.int .u64))))) (.pr (.int .i64) (.pr (.int .i64) (.pr (.int .i64) (.pr (.sl (.pr (.arr 32 .byte) (.pr (.sl .byte) (.pr .str (.pr (.int .u64) (.pr (.int .u64) (.pr (.int .u64) (.pr (.int .i64) (.pr (.int .i64) (.pr (.int .i64) (.sl (.int .i64)))))))))))) (.sl (.arr 32 .byte))))))))
abbrev A8:Type:=D9 × J8 × Int × Int × Int × List o5 × List (Vector UInt8 32)
def C3:U:=(.pr (.pr (.pr (.int .i64) (.pr (.int .i64) (.pr (.int .i64) (.pr (.int .i64) (.pr (.int .i64) (.pr (.int .i64) (.pr .bool (.pr (.int .i64) (.pr (.int .i64) (.pr (.int .u64) (.pr (.int .i64) (.int .i64)))))))))))) (.pr (.pr (.pr (.sl (.pr .str (.pr (.int .u64) (.int .u64)))) (.int .u64)) (.pr (.pr (.sl (.pr .str (.pr (.int .u64) (.int .u64)))) (.int .u64)) (.pr (.pr (.sl (.pr .str (.pr (.int .u64) (.int .u64)))) (.int .u64)) (.pr .bool (.int .u64))))) (.pr (.int .i64) (.pr (.int .i64) (.pr (.int .i64) (.pr (.sl (.pr (.arr 32 .byte) (.pr (.sl .byte) (.pr .str (.pr (.int .u64) (.pr (.int .u64) (.pr (.int .u64) (.pr (.int .i64) (.pr (.int .i64) (.pr (.int .i64) (.sl (.int .i64)))))))))))) (.sl (.arr 32 .byte)))))))) (.pr (.pr (.int .i64) (.pr (.int .i64) (.pr (.arr 32 .byte) (.pr (.arr 32 .byte) (.arr 32 .byte))))) (.pr (.sl (.pr (.pr (.int .i64) (.pr (.int .i64) (.pr (.int .i64) (.pr (.arr 32 .byte) (.pr (.arr 32 .byte) (.pr (.arr 32 .byte) (.arr 32 .byte))))))) (.sl (.sl .byte)))) (.pr (.sl (.sl (.arr 32 .byte))) (.pr .bool (.pr (.pr (.pr (.int .i64) (.pr (.int .i64) (.pr (.int .i64) (.pr (.arr 32 .byte) (.pr (.arr 32 .byte) (.pr (.arr 32 .byte) (.arr 32 .byte))))))) (.sl (.sl .byte))) (.sl .byte)))))))
abbrev B6:Type:=A8 × dN × List G9 × List (List (Vector UInt8 32)) × Bool × G9 × List UInt8
def dn (v3:Int) (v6:List (List Int)) (v7 v8:Int):Option ((Int × List (List Int) × Int × Int) ⊕ (Bool)):=
 sel (decide (v8 < v7)) (
  chk (decide (0<=v8/\v8 < v6.length)) <|
  some (.inl ((A9 (v3 + (((List.length (v6.getD v8.toNat [])):Nat):Int))),v6,v7,(A9 (v8 + 1))))) (
  some (.inr (decide (160 < v3))))
def kW (v3:Int) (v6:List (List Int)) (v7 v8:Int):=
 F8 (λv=>dn v.1 v.2.1 v.2.2.1 v.2.2.2) (v3,v6,v7,v8)
def Q0 (a0:List (List Int)):Option (Bool):=
 kW 0 a0 a0.length 0
def km:Option (List (List UInt8)):=
 some [([109,97,120,45,116,120,115]:List UInt8),([109,97,120,45,98,121,116,101,115]:List UInt8),([109,97,120,45,116,120,45,98,121,116,101,115]:List UInt8),([99,97,99,104,101,45,115,105,122,101]:List UInt8),([116,116,108,45,98,108,111,99,107,115]:List UInt8),([116,116,108,45,116,105,109,101]:List UInt8),([107,101,101,112,45,105,110,118,97,108,105,100]:List UInt8),([98,108,111,99,107,45,98,121,116,101,115]:List UInt8),([98,108,111,99,107,45,103,97,115]:List UInt8),([112,114,105,99,101]:List UInt8),([115,101,108,102]:List UInt8),([110,111,100,101,115]:List UInt8)]
def ce (v1 v5:Int) (b0:D9):Option (Int):=
 chk (decide ((0:Int)<=v1/\v1 < 12)) <|
 chk (decide (v1.toNat < 12)) <|
 some (List.getD [b0.1,b0.2.1,b0.2.2.1,b0.2.2.2.1,b0.2.2.2.2.1,b0.2.2.2.2.2.1,v5,b0.2.2.2.2.2.2.2.1,b0.2.2.2.2.2.2.2.2.1,0,b0.2.2.2.2.2.2.2.2.2.2.1,b0.2.2.2.2.2.2.2.2.2.2.2] v1.toNat (0:Int))
def bF (a0:D9) (a1:Int):Option (Int):=
 sel a0.2.2.2.2.2.2.1 (
  ce a1 1 a0) (
  ce a1 0 a0)
def fa (a0:Int):Option (Int):=
 chk (decide ((0:Int)<=a0/\a0 < 12)) <|
 chk (decide (a0.toNat < 12)) <|
 some (List.getD [1,1,1,0,0,0,0,1,(-1),0,0,1] a0.toNat (0:Int))
def cg (a0:Int):Option (Int):=
 chk (decide ((0:Int)<=a0/\a0 < 12)) <|
 chk (decide (a0.toNat < 12)) <|
 some (List.getD [512,1048576,4096,1024,1073741824,1073741824,1,1048576,1125899906842624,0,7,8] a0.toNat (0:Int))
def Y2 (b0:D9):Option (Int):=
 sel (decide (b0.2.2.2.2.2.2.2.2.2.2.2<=b0.2.2.2.2.2.2.2.2.2.2.1)) (
  some 1) (
  some 0)
def P5 (v5 v6:Int) (b0:D9):Option ((Int × Int × D9) ⊕ (Int)):=
 sel (decide (v6 < v5)) (
  sel (!decide (v6=9)) (
   (bF b0 v6).bind λr2=>
   (fa v6).bind λr3=>
   sel (decide (r2 < r3)) (
    some (.inr 1)) (
    (bF b0 v6).bind λr4=>
    (cg v6).bind λr5=>
    sel (decide (r5 < r4)) (
     some (.inr 1)) (
     some (.inl (v5,(A9 (v6 + 1)),b0))))) (
   some (.inl (v5,(A9 (v6 + 1)),b0)))) (
  Option.map .inr (
   Y2 b0))
def dP (v5 v6:Int) (b0:D9):=
 F8 (λv=>P5 v.1 v.2.1 v.2.2) (v5,v6,b0)
def T8 (a0:D9):Option (Int):=
 (km).bind λr1=>
 dP r1.length 0 a0
def fH (v0:List UInt8):Option (Bool):=
 sel (decide (1<=((v0.length:Nat):Int))) (
  some (decide (((v0.length:Nat):Int)<=20))) (
  some false)
def V1 (v0:List UInt8) (v3:Int):Option ((List UInt8 × Int) ⊕ (Bool)):=
 sel (decide (v3 < v0.length)) (
  chk (decide (0<=v3/\v3 < v0.length)) <|
  sel (decide (97<=((UInt8.toNat (v0.getD v3.toNat (0:UInt8)):Nat):Int))) (
   sel (decide (((UInt8.toNat (v0.getD v3.toNat (0:UInt8)):Nat):Int)<=122)) (
    some (.inl (v0,(A9 (v3 + 1))))) (
    sel (decide (48<=((UInt8.toNat (v0.getD v3.toNat (0:UInt8)):Nat):Int))) (
     sel (decide (((UInt8.toNat (v0.getD v3.toNat (0:UInt8)):Nat):Int)<=57)) (
      some (.inl (v0,(A9 (v3 + 1))))) (
      sel (!(decide (((UInt8.toNat (v0.getD v3.toNat (0:UInt8)):Nat):Int)=45))) (
       some (.inr false)) (
       some (.inl (v0,(A9 (v3 + 1))))))) (
     sel (!(decide (((UInt8.toNat (v0.getD v3.toNat (0:UInt8)):Nat):Int)=45))) (
      some (.inr false)) (
      some (.inl (v0,(A9 (v3 + 1)))))))) (
   sel (decide (48<=((UInt8.toNat (v0.getD v3.toNat (0:UInt8)):Nat):Int))) (
    sel (decide (((UInt8.toNat (v0.getD v3.toNat (0:UInt8)):Nat):Int)<=57)) (
     some (.inl (v0,(A9 (v3 + 1))))) (
     sel (!(decide (((UInt8.toNat (v0.getD v3.toNat (0:UInt8)):Nat):Int)=45))) (
      some (.inr false)) (
      some (.inl (v0,(A9 (v3 + 1))))))) (
    sel (!(decide (((UInt8.toNat (v0.getD v3.toNat (0:UInt8)):Nat):Int)=45))) (
     some (.inr false)) (
     some (.inl (v0,(A9 (v3 + 1)))))))) (
  Option.map .inr (
   fH v0))
def jK (v0:List UInt8) (v3:Int):=
 F8 (λv=>V1 v.1 v.2) (v0,v3)
def Q3 (a0:List UInt8):Option (Bool):=
 jK a0 0
def dp (v1:List UInt8) (v7:List o6) (v8 v9:Int):Option ((List UInt8 × List o6 × Int × Int) ⊕ (Int)):=
 sel (decide (v9 < v8)) (
  chk (decide (0<=v9/\v9 < v7.length)) <|
  sel (decide ((v7.getD v9.toNat B0).1=v1)) (
   some (.inr v9)) (
   some (.inl (v1,v7,v8,(A9 (v9 + 1)))))) (
  some (.inr (-1)))
def kX (v1:List UInt8) (v7:List o6) (v8 v9:Int):=
 F8 (λv=>dp v.1 v.2.1 v.2.2.1 v.2.2.2) (v1,v7,v8,v9)
def U5 (a0:List o6) (a1:List UInt8):Option (Int):=
 kX a1 a0 a0.length 0
def aC (v0:List o6) (v7:Int) (b0:o6):Option (List o6):=
 chk (decide ((0:Int)<=0/\0<=v7/\v7<=((v0.length:Nat):Int))) <|
 chk (decide ((0 + (List.length (v0.take v7.toNat))) * 32<=LIM/\0 + (List.length (v0.take v7.toNat))<=LEN)) <|
 chk (decide (((List.length (v0.take v7.toNat)) + 1) * 32<=LIM/\(List.length (v0.take v7.toNat)) + 1<=LEN)) <|
 chk (decide ((0:Int)<=v7/\v7<=((v0.length:Nat):Int)/\((v0.length:Nat):Int)<=((v0.length:Nat):Int))) <|
 chk (decide (((List.length ((v0.take v7.toNat) ++ ([b0]:List o6))) + (List.length (List.drop v7.toNat (List.take (Int.toNat v0.length) v0)))) * 32<=LIM/\(List.length ((v0.take v7.toNat) ++ ([b0]:List o6))) + (List.length (List.drop v7.toNat (List.take (Int.toNat v0.length) v0)))<=LEN)) <|
 some (((v0.take v7.toNat) ++ ([b0]:List o6)) ++ (List.drop v7.toNat (List.take (Int.toNat v0.length) v0)))
def dQ (v0:List o6) (v7:Int) (b0:o6):Option ((List o6 × Int × o6) ⊕ (List o6)):=
 sel (decide (v7 < v0.length)) (
  chk (decide (0<=v7/\v7 < v0.length)) <|
  sel (Op.bytesLess (v0.getD v7.toNat B0).1 b0.1) (
   some (.inl (v0,(A9 (v7 + 1)),b0))) (
   Option.map .inr (
    aC v0 v7 b0))) (
  Option.map .inr (
   aC v0 v7 b0))
def lH (v0:List o6) (v7:Int) (b0:o6):=
 F8 (λv=>dQ v.1 v.2.1 v.2.2) (v0,v7,b0)
def ba (a0:List o6) (a1:o6):Option (List o6):=
 (U5 a0 a1.1).bind λr1=>
 sel (decide (0<=r1)) (
  chk (decide ((0 + a0.length) * 32<=LIM/\0 + a0.length<=LEN)) <|
  chk (decide (0<=r1/\r1 < a0.length)) <|
  chk (decide (r1.toNat < a0.length)) <|
  some (List.set a0 r1.toNat a1)) (
  lH a0 0 a1)
def fI (a0 a1:Int):Option (Int × Bool):=
 sel (decide ((D7 (18446744073709551615 - a1)) < a0)) (
  some (0,false)) (
  some ((D7 (a0 + a1)),true))
def ci (v4:Int) (v12:List o6) (v13 v14:Int):Option ((Int × List o6 × Int × Int) ⊕ (Int × Bool)):=
 sel (decide (v14 < v13)) (
  chk (decide (0<=v14/\v14 < v12.length)) <|
  (fI v4 (v12.getD v14.toNat B0).2.1).bind λr1=>
  sel (!r1.2) (
   some (.inr (0,false))) (
   some (.inl (r1.1,v12,v13,(A9 (v14 + 1)))))) (
  some (.inr (v4,true)))
def ky (v4:Int) (v12:List o6) (v13 v14:Int):=
 F8 (λv=>ci v.1 v.2.1 v.2.2.1 v.2.2.2) (v4,v12,v13,v14)
def bG (a0:o8):Option (Int × Bool):=
 ky a0.2 a0.1 a0.1.length 0
def eO (_b0:o8) (b1_1:Int) (l0:List o6):Option (o8 × Int):=
 (bG (l0,b1_1)).bind λr1=>
 sel (!r1.2) (
  some (([],(0:Int)),6)) (
  some ((l0,b1_1),0))
def aq (v13:List o6) (v14 v15:Int) (b0:o8) (b1_1:Int) (l0:List o6):Option ((List o6 × Int × Int × o8 × Int × List o6) ⊕ (o8 × Int)):=
 sel (decide (v15 < v14)) (
  chk (decide (0<=v15/\v15 < v13.length)) <|
  (Q3 (v13.getD v15.toNat B0).1).bind λr2=>
  sel (!r2) (
   some (.inr (([],(0:Int)),10))) (
   (U5 l0 (v13.getD v15.toNat B0).1).bind λr3=>
   sel (decide (0<=r3)) (
    some (.inr (([],(0:Int)),8))) (
    (ba l0 (v13.getD v15.toNat B0)).bind λr4=>
    some (.inl (v13,v14,(A9 (v15 + 1)),b0,b1_1,r4))))) (
  Option.map .inr (
   eO b0 b1_1 l0))
def js (v13:List o6) (v14 v15:Int) (b0:o8) (b1_1:Int) (l0:List o6):=
 F8 (λv=>aq v.1 v.2.1 v.2.2.1 v.2.2.2.1 v.2.2.2.2.1 v.2.2.2.2.2) (v13,v14,v15,b0,b1_1,l0)
def dq (a0:List o6):Option (o8 × Int):=
 sel (decide (256 < ((a0.length:Nat):Int))) (
  some (([],(0:Int)),3)) (
  js a0 a0.length 0 ([],(0:Int)) (0:Int) [])
def gc (a0:List o6) (a1:Int):Option (J8 × Int):=
 (dq a0).bind λr1=>
 sel (!decide (r1.2=0)) (
  some ((([],(0:Int)),([],(0:Int)),([],(0:Int)),false,(0:Int)),r1.2)) (
  some ((r1.1,r1.1,([],(0:Int)),false,a1),0))
def bH (a0:D9) (a1:List o6):Option (A8 × Int):=
 (T8 a0).bind λr1=>
 sel (!decide (r1=0)) (
  some ((((0:Int),(0:Int),(0:Int),(0:Int),(0:Int),(0:Int),false,(0:Int),(0:Int),(0:Int),(0:Int),(0:Int)),(([],(0:Int)),([],(0:Int)),([],(0:Int)),false,(0:Int)),(0:Int),(0:Int),(0:Int),[],[]),r1)) (
  (gc a1 a0.2.2.2.2.2.2.2.2.2.1).bind λr2=>
  sel (!decide (r2.2=0)) (
   some ((((0:Int),(0:Int),(0:Int),(0:Int),(0:Int),(0:Int),false,(0:Int),(0:Int),(0:Int),(0:Int),(0:Int)),(([],(0:Int)),([],(0:Int)),([],(0:Int)),false,(0:Int)),(0:Int),(0:Int),(0:Int),[],[]),r2.2)) (
   some ((a0,r2.1,(0:Int),(0:Int),(0:Int),[],[]),0)))
def J9 (a0:List UInt8) (a1:Int):Option (Bool):=
 sel (decide (a1 < a0.length)) (
  chk (decide (0<=a1/\a1 < a0.length)) <|
  sel (decide (128<=((UInt8.toNat (a0.getD a1.toNat (0:UInt8)):Nat):Int))) (
   chk (decide (0<=a1/\a1 < a0.length)) <|
   some (decide (((UInt8.toNat (a0.getD a1.toNat (0:UInt8)):Nat):Int) < 192))) (
   some false)) (
  some false)
def I8 (v0:List UInt8) (v1:Int) (v5:UInt8) (v64:Bool):Option (Int):=
 sel v64 (
  sel (decide (((UInt8.toNat v5:Nat):Int)=240)) (
   chk (decide (0<=(A9 (v1 + 1))/\(A9 (v1 + 1)) < v0.length)) <|
   sel (decide (((UInt8.toNat (v0.getD (Int.toNat (A9 (v1 + 1))) (0:UInt8)):Nat):Int) < 144)) (
    some 0) (
    sel (decide (((UInt8.toNat v5:Nat):Int)=244)) (
     chk (decide (0<=(A9 (v1 + 1))/\(A9 (v1 + 1)) < v0.length)) <|
     sel (decide (144<=((UInt8.toNat (v0.getD (Int.toNat (A9 (v1 + 1))) (0:UInt8)):Nat):Int))) (
      some 0) (
      some 4)) (
     some 4))) (
   sel (decide (((UInt8.toNat v5:Nat):Int)=244)) (
    chk (decide (0<=(A9 (v1 + 1))/\(A9 (v1 + 1)) < v0.length)) <|
    sel (decide (144<=((UInt8.toNat (v0.getD (Int.toNat (A9 (v1 + 1))) (0:UInt8)):Nat):Int))) (
     some 0) (
     some 4)) (
    some 4))) (
  some 0)
def K8 (v0:List UInt8) (v1:Int) (v5:UInt8) (v25:Bool):Option (Int):=
 sel v25 (
  sel (decide (((UInt8.toNat v5:Nat):Int)=224)) (
   chk (decide (0<=(A9 (v1 + 1))/\(A9 (v1 + 1)) < v0.length)) <|
   sel (decide (((UInt8.toNat (v0.getD (Int.toNat (A9 (v1 + 1))) (0:UInt8)):Nat):Int) < 160)) (
    some 0) (
    sel (decide (((UInt8.toNat v5:Nat):Int)=237)) (
     chk (decide (0<=(A9 (v1 + 1))/\(A9 (v1 + 1)) < v0.length)) <|
     sel (decide (160<=((UInt8.toNat (v0.getD (Int.toNat (A9 (v1 + 1))) (0:UInt8)):Nat):Int))) (
      some 0) (
      some 3)) (
     some 3))) (
   sel (decide (((UInt8.toNat v5:Nat):Int)=237)) (
    chk (decide (0<=(A9 (v1 + 1))/\(A9 (v1 + 1)) < v0.length)) <|
    sel (decide (160<=((UInt8.toNat (v0.getD (Int.toNat (A9 (v1 + 1))) (0:UInt8)):Nat):Int))) (
     some 0) (
     some 3)) (
    some 3))) (
  sel (decide (240<=((UInt8.toNat v5:Nat):Int))) (
   sel (decide (((UInt8.toNat v5:Nat):Int) < 245)) (
    (J9 v0 (A9 (v1 + 1))).bind λr1=>
    sel r1 (
     (J9 v0 (A9 (v1 + 2))).bind λr2=>
     sel r2 (
      (J9 v0 (A9 (v1 + 3))).bind λr3=>
      I8 v0 v1 v5 r3) (
      I8 v0 v1 v5 false)) (
     I8 v0 v1 v5 false)) (
    I8 v0 v1 v5 false)) (
   I8 v0 v1 v5 false))
def N5 (v0:List UInt8) (v1:Int) (v5:UInt8) (v12:Bool):Option (Int):=
 sel v12 (
  some 2) (
  sel (decide (224<=((UInt8.toNat v5:Nat):Int))) (
   sel (decide (((UInt8.toNat v5:Nat):Int) < 240)) (
    (J9 v0 (A9 (v1 + 1))).bind λr4=>
    sel r4 (
     (J9 v0 (A9 (v1 + 2))).bind λr5=>
     K8 v0 v1 v5 r5) (
     K8 v0 v1 v5 false)) (
    K8 v0 v1 v5 false)) (
   K8 v0 v1 v5 false))
def gd (a0:List UInt8) (a1:Int):Option (Int):=
 chk (decide (0<=a1/\a1 < a0.length)) <|
 sel (decide (((UInt8.toNat (a0.getD a1.toNat (0:UInt8)):Nat):Int) < 128)) (
  some 1) (
  sel (decide (194<=((UInt8.toNat (a0.getD a1.toNat (0:UInt8)):Nat):Int))) (
   sel (decide (((UInt8.toNat (a0.getD a1.toNat (0:UInt8)):Nat):Int) < 224)) (
    (J9 a0 (A9 (a1 + 1))).bind λr6=>
    N5 a0 a1 (a0.getD a1.toNat (0:UInt8)) r6) (
    N5 a0 a1 (a0.getD a1.toNat (0:UInt8)) false)) (
   N5 a0 a1 (a0.getD a1.toNat (0:UInt8)) false))
def ge (v0:List UInt8) (v4 v5:Int):Option ((List UInt8 × Int × Int) ⊕ (Int × Bool)):=
 sel (decide (v5 < v0.length)) (
  (gd v0 v5).bind λr1=>
  sel (decide (r1=0)) (
   some (.inr (0,false))) (
   some (.inl (v0,(A9 (v4 + 1)),(A9 (v5 + r1)))))) (
  some (.inr (v4,true)))
def kz (v0:List UInt8) (v4 v5:Int):=
 F8 (λv=>ge v.1 v.2.1 v.2.2) (v0,v4,v5)
def fb (a0:List UInt8):Option (Int × Bool):=
 kz a0 0 0
def dR (a0:List UInt8):Option (Bool):=
 (fb a0).bind λr1=>
 sel r1.2 (
  some (decide (r1.1<=64))) (
  some false)
def W3 (v31:List A0) (v32 v33:Int):Option ((List A0 × Int × Int) ⊕ (Int)):=
 sel (decide (v33 < v32)) (
  chk (decide (0<=v33/\v33 < v31.length)) <|
  (Q3 (v31.getD v33.toNat H5).1).bind λr3=>
  sel (!r3) (
   some (.inr 10)) (
   sel (decide ((v31.getD v33.toNat H5).2=0)) (
    some (.inr 12)) (
    some (.inl (v31,v32,(A9 (v33 + 1))))))) (
  some (.inr 0))
def bz (v31:List A0) (v32 v33:Int):=
 F8 (λv=>W3 v.1 v.2.1 v.2.2) (v31,v32,v33)
def T5 (a0:C5):Option (Int):=
 (Q3 a0.1).bind λr1=>
 sel (!r1) (
  some 10) (
  sel (decide (a0.2.2.1=0)) (
   some 15) (
   (dR a0.2.2.2.2.1).bind λr2=>
   sel (!r2) (
    some 11) (
    sel (decide (((a0.2.2.2.2.2.length:Nat):Int)=0)) (
     some 3) (
     sel (decide (16 < ((a0.2.2.2.2.2.length:Nat):Int))) (
      some 3) (
      bz a0.2.2.2.2.2 a0.2.2.2.2.2.length 0)))))
def U6 (a0:List A6) (a1:Int) (a2:List UInt8):Option (List A6):=
 sel (decide (a2=[])) (
  some a0) (
  chk (decide (a2.length<=maxLen)) <|
  chk (decide ((a0.length + 1) * 48<=LIM/\a0.length + 1<=LEN)) <|
  some (a0 ++ ([(a1,2,(0:Int),a2)]:List A6)))
def L4 (a0:List A6) (a1 a2:Int):Option (List A6):=
 sel (decide (a2=0)) (
  some a0) (
  chk (decide ((a0.length + 1) * 48<=LIM/\a0.length + 1<=LEN)) <|
  some (a0 ++ ([(a1,0,a2,[])]:List A6)))
def U7 (a0:A6):Option (Bool):=
 sel (decide (a0.1 < 1)) (
  some false) (
  sel (decide (536870911 < a0.1)) (
   some false) (
   sel (decide (a0.2.1=0)) (
    sel (decide (((a0.2.2.2.length:Nat):Int)=0)) (
     some true) (
     sel (decide (a0.2.1=2)) (
      some (decide (a0.2.2.1=0))) (
      some false))) (
    sel (decide (a0.2.1=2)) (
     some (decide (a0.2.2.1=0))) (
     some false))))
def W6 (v1:Int) (l0:List UInt8):Option (List UInt8):=
 chk (decide ((0:Int)<=(wu8 v1)/\(wu8 v1) < 256)) <|
 chk (decide ((l0.length + 1) * 1<=LIM/\l0.length + 1<=LEN)) <|
 some (l0 ++ [(UInt8.ofNat (Int.toNat (wu8 v1)))])
def W7 (v1:Int) (l0:List UInt8):Option ((Int × List UInt8) ⊕ (List UInt8)):=
 sel (decide (128<=v1)) (
  chk (decide ((0:Int)<=(bits .or .u8 (wu8 v1) 128)/\(bits .or .u8 (wu8 v1) 128) < 256)) <|
  chk (decide ((l0.length + 1) * 1<=LIM/\l0.length + 1<=LEN)) <|
  some (.inl ((v1 / 2 ^ 7),(l0 ++ [(UInt8.ofNat (Int.toNat (bits .or .u8 (wu8 v1) 128)))])))) (
  Option.map .inr (
   W6 v1 l0))
def bb (v1:Int) (l0:List UInt8):=
 F8 (λv=>W7 v.1 v.2) (v1,l0)
def H3 (a0:List UInt8) (a1:Int):Option (List UInt8):=
 chk (decide ((0 + a0.length) * 1<=LIM/\0 + a0.length<=LEN)) <|
 bb a1 a0
def ai (a0:List UInt8) (a1:A6):Option (List UInt8 × Int):=
 (U7 a1).bind λr1=>
 sel (!r1) (
  some ([],1)) (
  (H3 a0 (D7 ((D7 ((D7 a1.1) * 8)) + (D7 a1.2.1)))).bind λr2=>
  sel (decide (a1.2.1=0)) (
   (H3 r2 a1.2.2.1).bind λr3=>
   some (r3,0)) (
   (H3 r2 (D7 a1.2.2.2.length)).bind λr4=>
   chk (decide ((r4.length + a1.2.2.2.length) * 1<=LIM/\r4.length + a1.2.2.2.length<=LEN)) <|
   some ((r4 ++ a1.2.2.2),0)))
def O3 (v6:List A6) (v7 v8:Int) (l0:List UInt8):Option ((List A6 × Int × Int × List UInt8) ⊕ (List UInt8)):=
 sel (decide (v8 < v7)) (
  chk (decide (0<=v8/\v8 < v6.length)) <|
  (ai l0 (v6.getD v8.toNat E4)).bind λr1=>
  some (.inl (v6,v7,(A9 (v8 + 1)),r1.1))) (
  some (.inr l0))
def eP (v6:List A6) (v7 v8:Int) (l0:List UInt8):=
 F8 (λv=>O3 v.1 v.2.1 v.2.2.1 v.2.2.2) (v6,v7,v8,l0)
def E5 (a0:List A6):Option (List UInt8):=
 eP a0 a0.length 0 []
def dr (v26:List A0) (v27 v28:Int) (l0:List A6):Option ((List A0 × Int × Int × List A6) ⊕ (List UInt8)):=
 sel (decide (v28 < v27)) (
  chk (decide (0<=v28/\v28 < v26.length)) <|
  (U6 [] 1 (v26.getD v28.toNat H5).1).bind λr6=>
  (L4 r6 2 (v26.getD v28.toNat H5).2).bind λr7=>
  (E5 r7).bind λr8=>
  chk (decide ((l0.length + 1) * 48<=LIM/\l0.length + 1<=LEN)) <|
  some (.inl (v26,v27,(A9 (v28 + 1)),(l0 ++ ([(6,2,(0:Int),r8)]:List A6))))) (
  Option.map .inr (
   (E5 l0).bind λr9=>
   some r9))
def kY (v26:List A0) (v27 v28:Int) (l0:List A6):=
 F8 (λv=>dr v.1 v.2.1 v.2.2.1 v.2.2.2) (v26,v27,v28,l0)
def cS (a0:C5):Option (List UInt8):=
 (U6 [] 1 a0.1).bind λr1=>
 (L4 r1 2 a0.2.1).bind λr2=>
 (L4 r2 3 a0.2.2.1).bind λr3=>
 (L4 r3 4 a0.2.2.2.1).bind λr4=>
 (U6 r4 5 a0.2.2.2.2.1).bind λr5=>
 kY a0.2.2.2.2.2 a0.2.2.2.2.2.length 0 r5
def W8 (a0:C5):Option (List UInt8 × Int):=
 (T5 a0).bind λr1=>
 sel (!decide (r1=0)) (
  some ([],r1)) (
  (cS a0).bind λr2=>
  sel (decide (4096 < ((r2.length:Nat):Int))) (
   some ([],3)) (
   some (r2,0)))
def bc (a0:List UInt8) (a1 a2:Int):Option (List UInt8):=
 (W8 (a0,a1,300,a2,[],[(([98,111,98]:List UInt8),5)])).bind λr1=>
 some r1.1
def fJ (a0:Int):Option (Int):=
 (H3 [] a0).bind λr1=>
 some r1.length
def K0 (a0:Int):Option (Int):=
 sel (decide (a0 < 0)) (
  some 0) (
  (fJ (D7 a0)).bind λr1=>
  some (A9 ((A9 (1 + r1)) + a0)))
def I1 (a0 a1:Int):Option (Int):=
 chk (decide ((0:Int)<=a1)) <|
 chk (decide ((0:Int)<=(A9 (32 - a1)))) <|
 some (bits .or .u32 (a0 / 2 ^ (min a1.toNat 32)) (yt (a0 * 2 ^ (min (Int.toNat (A9 (32 - a1))) 32))))
def kZ:Option (Vector Int 64):=
 some (Vector.push (Vector.push (Vector.push (Vector.push (Vector.push (Vector.push (Vector.push (Vector.push (Vector.push (Vector.push (Vector.push (Vector.push (Vector.push (Vector.push (Vector.push (Vector.push (Vector.push (Vector.push (Vector.push (Vector.push (Vector.push (Vector.push (Vector.push (Vector.push (Vector.push (Vector.push (Vector.push (Vector.push (Vector.push (Vector.push (Vector.push (Vector.push (Vector.push (Vector.push (Vector.push (Vector.push (Vector.push (Vector.push (Vector.push (Vector.push (Vector.push (Vector.push (Vector.push (Vector.push (Vector.push (Vector.push (Vector.push (Vector.push (Vector.push (Vector.push (Vector.push (Vector.push (Vector.push (Vector.push (Vector.push (Vector.push (Vector.push (Vector.push (Vector.push (Vector.push (Vector.push (Vector.push (Vector.push (Vector.push #v[] 1116352408) 1899447441) 3049323471) 3921009573) 961987163) 1508970993) 2453635748) 2870763221) 3624381080) 310598401) 607225278) 1426881987) 1925078388) 2162078206) 2614888103) 3248222580) 3835390401) 4022224774) 264347078) 604807628) 770255983) 1249150122) 1555081692) 1996064986) 2554220882) 2821834349) 2952996808) 3210313671) 3336571891) 3584528711) 113926993) 338241895) 666307205) 773529912) 1294757372) 1396182291) 1695183700) 1986661051) 2177026350) 2456956037) 2730485921) 2820302411) 3259730800) 3345764771) 3516065817) 3600352804) 4094571909) 275423344) 430227734) 506948616) 659060556) 883997877) 958139571) 1322822218) 1537002063) 1747873779) 1955562222) 2024104815) 2227730452) 2361852424) 2428436474) 2756734187) 3204031479) 3329325298)
def ia (v180:Int) (b0 b1 b2:Vector Int 8):Option ((Int × Vector Int 8 × Vector Int 8 × Vector Int 8) ⊕ (Vector Int 8)):=
 sel (decide (v180 < 8)) (
  chk (decide ((0:Int)<=v180/\v180 < 8)) <|
  chk (decide (v180.toNat < 8)) <|
  chk (decide ((0:Int)<=v180/\v180 < 8)) <|
  chk (decide (v180.toNat < 8)) <|
  chk (decide ((0:Int)<=v180/\v180 < 8)) <|
  chk (decide (v180.toNat < 8)) <|
  some (.inl ((A9 (v180 + 1)),(zY b0 v180.toNat (yt ((cQ b0 v180.toNat (0:Int)) + (cQ b2 v180.toNat (0:Int))))),b1,b2))) (
  some (.inr b0))
def gf (v180:Int) (b0 b1 b2:Vector Int 8):=
 F8 (λv=>ia v.1 v.2.1 v.2.2.1 v.2.2.2) (v180,b0,b1,b2)
def lI (b0 b1 b2:Vector Int 8):Option (Vector Int 8):=
 gf 0 b0 b1 b2
def ib (v12:Int) (b0 b1:Vector Int 8) (b2 b3:Vector Int 64) (b4:Vector Int 8):Option ((Int × Vector Int 8 × Vector Int 8 × Vector Int 64 × Vector Int 64 × Vector Int 8) ⊕ (Vector Int 8)):=
 sel (decide (v12 < 64)) (
  (I1 (cQ b4 4 (0:Int)) 6).bind λr2=>
  (I1 (cQ b4 4 (0:Int)) 11).bind λr3=>
  (I1 (cQ b4 4 (0:Int)) 25).bind λr4=>
  chk (decide ((0:Int)<=v12/\v12 < 64)) <|
  chk (decide (v12.toNat < 64)) <|
  chk (decide ((0:Int)<=v12/\v12 < 64)) <|
  chk (decide (v12.toNat < 64)) <|
  (I1 (cQ b4 0 (0:Int)) 2).bind λr5=>
  (I1 (cQ b4 0 (0:Int)) 13).bind λr6=>
  (I1 (cQ b4 0 (0:Int)) 22).bind λr7=>
  some (.inl ((A9 (v12 + 1)),b0,b1,b2,b3,(Vector.push (Vector.push (Vector.push (Vector.push (Vector.push (Vector.push (Vector.push (Vector.push #v[] (yt ((yt ((yt ((yt ((yt ((cQ b4 7 (0:Int)) + (bits .xor .u32 (bits .xor .u32 r2 r3) r4))) + (bits .xor .u32 (bits .and .u32 (cQ b4 4 (0:Int)) (cQ b4 5 (0:Int))) (bits .and .u32 (notI .u32 (cQ b4 4 (0:Int))) (cQ b4 6 (0:Int)))))) + (cQ b3 v12.toNat (0:Int)))) + (cQ b2 v12.toNat (0:Int)))) + (yt ((bits .xor .u32 (bits .xor .u32 r5 r6) r7) + (bits .xor .u32 (bits .xor .u32 (bits .and .u32 (cQ b4 0 (0:Int)) (cQ b4 1 (0:Int))) (bits .and .u32 (cQ b4 0 (0:Int)) (cQ b4 2 (0:Int)))) (bits .and .u32 (cQ b4 1 (0:Int)) (cQ b4 2 (0:Int))))))))) (cQ b4 0 (0:Int))) (cQ b4 1 (0:Int))) (cQ b4 2 (0:Int))) (yt ((cQ b4 3 (0:Int)) + (yt ((yt ((yt ((yt ((cQ b4 7 (0:Int)) + (bits .xor .u32 (bits .xor .u32 r2 r3) r4))) + (bits .xor .u32 (bits .and .u32 (cQ b4 4 (0:Int)) (cQ b4 5 (0:Int))) (bits .and .u32 (notI .u32 (cQ b4 4 (0:Int))) (cQ b4 6 (0:Int)))))) + (cQ b3 v12.toNat (0:Int)))) + (cQ b2 v12.toNat (0:Int))))))) (cQ b4 4 (0:Int))) (cQ b4 5 (0:Int))) (cQ b4 6 (0:Int)))))) (
  Option.map .inr (
   lI b0 b1 b4))
def gg (v12:Int) (b0 b1:Vector Int 8) (b2 b3:Vector Int 64) (b4:Vector Int 8):=
 F8 (λv=>ib v.1 v.2.1 v.2.2.1 v.2.2.2.1 v.2.2.2.2.1 v.2.2.2.2.2) (v12,b0,b1,b2,b3,b4)
def ic (b0 b1:Vector Int 8) (b2:Vector Int 64):Option (Vector Int 8):=
 (kZ).bind λr1=>
 gg 0 b0 b1 b2 r1 b0
def ig (v7:Int) (b0 b1:Vector Int 8) (b2:Vector Int 64):Option ((Int × Vector Int 8 × Vector Int 8 × Vector Int 64) ⊕ (Vector Int 8)):=
 sel (decide (v7 < 64)) (
  chk (decide ((0:Int)<=(A9 (v7 - 15))/\(A9 (v7 - 15)) < 64)) <|
  chk (decide ((Int.toNat (A9 (v7 - 15))) < 64)) <|
  chk (decide ((0:Int)<=(A9 (v7 - 2))/\(A9 (v7 - 2)) < 64)) <|
  chk (decide ((Int.toNat (A9 (v7 - 2))) < 64)) <|
  (I1 (cQ b2 (Int.toNat (A9 (v7 - 2))) (0:Int)) 17).bind λr8=>
  (I1 (cQ b2 (Int.toNat (A9 (v7 - 2))) (0:Int)) 19).bind λr9=>
  chk (decide ((0:Int)<=(A9 (v7 - 7))/\(A9 (v7 - 7)) < 64)) <|
  chk (decide ((Int.toNat (A9 (v7 - 7))) < 64)) <|
  (I1 (cQ b2 (Int.toNat (A9 (v7 - 15))) (0:Int)) 7).bind λr10=>
  (I1 (cQ b2 (Int.toNat (A9 (v7 - 15))) (0:Int)) 18).bind λr11=>
  chk (decide ((0:Int)<=(A9 (v7 - 16))/\(A9 (v7 - 16)) < 64)) <|
  chk (decide ((Int.toNat (A9 (v7 - 16))) < 64)) <|
  chk (decide ((0:Int)<=v7/\v7 < 64)) <|
  chk (decide (v7.toNat < 64)) <|
  some (.inl ((A9 (v7 + 1)),b0,b1,(zY b2 v7.toNat (yt ((yt ((yt ((bits .xor .u32 (bits .xor .u32 r8 r9) ((cQ b2 (Int.toNat (A9 (v7 - 2))) (0:Int)) / 2 ^ 10)) + (cQ b2 (Int.toNat (A9 (v7 - 7))) (0:Int)))) + (bits .xor .u32 (bits .xor .u32 r10 r11) ((cQ b2 (Int.toNat (A9 (v7 - 15))) (0:Int)) / 2 ^ 3)))) + (cQ b2 (Int.toNat (A9 (v7 - 16))) (0:Int)))))))) (
  Option.map .inr (
   ic b0 b1 b2))
def gh (v7:Int) (b0 b1:Vector Int 8) (b2:Vector Int 64):=
 F8 (λv=>ig v.1 v.2.1 v.2.2.1 v.2.2.2) (v7,b0,b1,b2)
def ij (b0 b1:Vector Int 8) (b2:Vector Int 64):Option (Vector Int 8):=
 gh 16 b0 b1 b2
def il (v1:List UInt8) (v6:Int) (b0 b1:Vector Int 8) (b2:Vector Int 64):Option ((List UInt8 × Int × Vector Int 8 × Vector Int 8 × Vector Int 64) ⊕ (Vector Int 8)):=
 sel (decide (v6 < 16)) (
  chk (decide (0<=(A9 (4 * v6))/\(A9 (4 * v6)) < v1.length)) <|
  chk (decide ((0:Int)<=(A9 ((A9 (4 * v6)) + 1))/\(A9 ((A9 (4 * v6)) + 1)) < ((v1.length:Nat):Int))) <|
  chk (decide ((0:Int)<=(A9 ((A9 (4 * v6)) + 2))/\(A9 ((A9 (4 * v6)) + 2)) < ((v1.length:Nat):Int))) <|
  chk (decide ((0:Int)<=(A9 ((A9 (4 * v6)) + 3))/\(A9 ((A9 (4 * v6)) + 3)) < ((v1.length:Nat):Int))) <|
  chk (decide ((0:Int)<=v6/\v6 < 64)) <|
  chk (decide (v6.toNat < 64)) <|
  some (.inl (v1,(A9 (v6 + 1)),b0,b1,(zY b2 v6.toNat (bits .or .u32 (bits .or .u32 (bits .or .u32 (yt ((yt ((UInt8.toNat (v1.getD (Int.toNat (A9 (4 * v6))) (0:UInt8)):Nat):Int)) * 2 ^ 24)) (yt ((yt ((UInt8.toNat (v1.getD (Int.toNat (A9 ((A9 (4 * v6)) + 1))) (0:UInt8)):Nat):Int)) * 2 ^ 16))) (yt ((yt ((UInt8.toNat (v1.getD (Int.toNat (A9 ((A9 (4 * v6)) + 2))) (0:UInt8)):Nat):Int)) * 2 ^ 8))) (yt ((UInt8.toNat (v1.getD (Int.toNat (A9 ((A9 (4 * v6)) + 3))) (0:UInt8)):Nat):Int))))))) (
  Option.map .inr (
   ij b0 b1 b2))
def la (v1:List UInt8) (v6:Int) (b0 b1:Vector Int 8) (b2:Vector Int 64):=
 F8 (λv=>il v.1 v.2.1 v.2.2.1 v.2.2.2.1 v.2.2.2.2) (v1,v6,b0,b1,b2)
def gi (a0:Vector Int 8) (a1:List UInt8):Option (Vector Int 8):=
 la a1 0 a0 (Vector.replicate 8 (0:Int)) (Vector.replicate 64 (0:Int))
def jy (v52:Int) (b0:Vector UInt8 32) (b1:Vector Int 8) (b2:Vector UInt8 32):Option ((Int × Vector UInt8 32 × Vector Int 8 × Vector UInt8 32) ⊕ (Vector UInt8 32)):=
 sel (decide (v52 < 32)) (
  chk (decide ((0:Int)<=(A9 (Int.tdiv v52 4))/\(A9 (Int.tdiv v52 4)) < 8)) <|
  chk (decide ((Int.toNat (A9 (Int.tdiv v52 4))) < 8)) <|
  chk (decide ((0:Int)<=(A9 (24 - (A9 ((Int.tmod v52 4) * 8)))))) <|
  chk (decide ((0:Int)<=v52/\v52 < 32)) <|
  chk (decide (v52.toNat < 32)) <|
  chk (decide ((0:Int)<=(wu8 ((cQ b1 (Int.toNat (A9 (Int.tdiv v52 4))) (0:Int)) / 2 ^ (min (Int.toNat (A9 (24 - (A9 ((Int.tmod v52 4) * 8))))) 32)))/\(wu8 ((cQ b1 (Int.toNat (A9 (Int.tdiv v52 4))) (0:Int)) / 2 ^ (min (Int.toNat (A9 (24 - (A9 ((Int.tmod v52 4) * 8))))) 32))) < 256)) <|
  some (.inl ((A9 (v52 + 1)),b0,b1,(zY b2 v52.toNat (UInt8.ofNat (Int.toNat (wu8 ((cQ b1 (Int.toNat (A9 (Int.tdiv v52 4))) (0:Int)) / 2 ^ (min (Int.toNat (A9 (24 - (A9 ((Int.tmod v52 4) * 8))))) 32))))))))) (
  some (.inr b2))
def mJ (v52:Int) (b0:Vector UInt8 32) (b1:Vector Int 8) (b2:Vector UInt8 32):=
 F8 (λv=>jy v.1 v.2.1 v.2.2.1 v.2.2.2) (v52,b0,b1,b2)
def fc (b0:Vector UInt8 32) (b1:Vector Int 8):Option (Vector UInt8 32):=
 mJ 0 b0 b1 (Vector.replicate 32 (0:UInt8))
def jz (v7:Int) (b0:Vector UInt8 32) (b1:Vector Int 8) (l0:List UInt8):Option ((Int × Vector UInt8 32 × Vector Int 8 × List UInt8) ⊕ (Vector UInt8 32)):=
 sel (decide (v7 < l0.length)) (
  chk (decide ((0:Int)<=v7/\v7<=(A9 (v7 + 64))/\(A9 (v7 + 64))<=((l0.length:Nat):Int))) <|
  (gi b1 (List.drop v7.toNat (List.take (Int.toNat (A9 (v7 + 64))) l0))).bind λr1=>
  some (.inl ((A9 (v7 + 64)),b0,r1,l0))) (
  Option.map .inr (
   fc b0 b1))
def mK (v7:Int) (b0:Vector UInt8 32) (b1:Vector Int 8) (l0:List UInt8):=
 F8 (λv=>jz v.1 v.2.1 v.2.2.1 v.2.2.2) (v7,b0,b1,l0)
def fd (b0:Vector UInt8 32) (l0:List UInt8):Option (Vector UInt8 32):=
 mK 0 b0 (Vector.push (Vector.push (Vector.push (Vector.push (Vector.push (Vector.push (Vector.push (Vector.push #v[] 1779033703) 3144134277) 1013904242) 2773480762) 1359893119) 2600822924) 528734635) 1541459225) l0
def jA (v4 v5:Int) (b0:Vector UInt8 32) (l0:List UInt8):Option ((Int × Int × Vector UInt8 32 × List UInt8) ⊕ (Vector UInt8 32)):=
 sel (decide (0<=v5)) (
  chk (decide ((0:Int)<=(A9 (8 * v5)))) <|
  chk (decide ((0:Int)<=(wu8 (v4 / 2 ^ (min (Int.toNat (A9 (8 * v5))) 64)))/\(wu8 (v4 / 2 ^ (min (Int.toNat (A9 (8 * v5))) 64))) < 256)) <|
  chk (decide ((l0.length + 1) * 1<=LIM/\l0.length + 1<=LEN)) <|
  some (.inl (v4,(A9 (v5 - 1)),b0,(l0 ++ [(UInt8.ofNat (Int.toNat (wu8 (v4 / 2 ^ (min (Int.toNat (A9 (8 * v5))) 64)))))])))) (
  Option.map .inr (
   fd b0 l0))
def iL (v4 v5:Int) (b0:Vector UInt8 32) (l0:List UInt8):=
 F8 (λv=>jA v.1 v.2.1 v.2.2.1 v.2.2.2) (v4,v5,b0,l0)
def jB (v0:List UInt8) (b0:Vector UInt8 32) (l0:List UInt8):Option (Vector UInt8 32):=
 iL (D7 ((D7 v0.length) * 8)) 7 b0 l0
def jC (v0:List UInt8) (b0:Vector UInt8 32) (l0:List UInt8):Option ((List UInt8 × Vector UInt8 32 × List UInt8) ⊕ (Vector UInt8 32)):=
 sel (!decide ((Int.tmod l0.length 64)=56)) (
  chk (decide ((l0.length + 1) * 1<=LIM/\l0.length + 1<=LEN)) <|
  some (.inl (v0,b0,(l0 ++ [(0:UInt8)])))) (
  Option.map .inr (
   jB v0 b0 l0))
def mL (v0:List UInt8) (b0:Vector UInt8 32) (l0:List UInt8):=
 F8 (λv=>jC v.1 v.2.1 v.2.2) (v0,b0,l0)
def H4 (a0:List UInt8):Option (Vector UInt8 32):=
 chk (decide ((0 + a0.length) * 1<=LIM/\0 + a0.length<=LEN)) <|
 chk (decide ((a0.length + 1) * 1<=LIM/\a0.length + 1<=LEN)) <|
 mL a0 (Vector.replicate 32 (0:UInt8)) (a0 ++ [(128:UInt8)])
def fe (v7:List o5) (v8 v9:Int) (b0:Vector UInt8 32):Option ((List o5 × Int × Int × Vector UInt8 32) ⊕ (Int)):=
 sel (decide (v9 < v8)) (
  chk (decide (0<=v9/\v9 < v7.length)) <|
  sel (U.beq (.arr 32 .byte) (v7.getD v9.toNat C0).1 b0) (
   some (.inr v9)) (
   some (.inl (v7,v8,(A9 (v9 + 1)),b0)))) (
  some (.inr (-1)))
def mM (v7:List o5) (v8 v9:Int) (b0:Vector UInt8 32):=
 F8 (λv=>fe v.1 v.2.1 v.2.2.1 v.2.2.2) (v7,v8,v9,b0)
def aj (a0:List o5) (a1:Vector UInt8 32):Option (Int):=
 mM a0 a0.length 0 a1
def T3 (v7:List (Vector UInt8 32)) (v8 v9:Int) (b0:Vector UInt8 32):Option ((List (Vector UInt8 32) × Int × Int × Vector UInt8 32) ⊕ (Int)):=
 sel (decide (v9 < v8)) (
  chk (decide (0<=v9/\v9 < v7.length)) <|
  sel (U.beq (.arr 32 .byte) (v7.getD v9.toNat (Vector.replicate 32 (0:UInt8))) b0) (
   some (.inr v9)) (
   some (.inl (v7,v8,(A9 (v9 + 1)),b0)))) (
  some (.inr (-1)))
def gj (v7:List (Vector UInt8 32)) (v8 v9:Int) (b0:Vector UInt8 32):=
 F8 (λv=>T3 v.1 v.2.1 v.2.2.1 v.2.2.2) (v7,v8,v9,b0)
def Q4 (a0:List (Vector UInt8 32)) (a1:Vector UInt8 32):Option (Int):=
 gj a0 a0.length 0 a1
def V2 (a0:List (Vector UInt8 32)) (a1:Vector UInt8 32):Option (Bool):=
 (Q4 a0 a1).bind λr1=>
 some (decide (0<=r1))
def ix (a0:List (Vector UInt8 32)) (a1:Int) (a2:Vector UInt8 32):Option (List (Vector UInt8 32) × Bool):=
 (Q4 a0 a2).bind λr1=>
 sel (decide (0<=r1)) (
  chk (decide ((0:Int)<=0/\0<=r1/\r1<=((a0.length:Nat):Int))) <|
  chk (decide ((0 + (List.length (a0.take r1.toNat))) * 32<=LIM/\0 + (List.length (a0.take r1.toNat))<=LEN)) <|
  chk (decide ((0:Int)<=(A9 (r1 + 1))/\(A9 (r1 + 1))<=((a0.length:Nat):Int)/\((a0.length:Nat):Int)<=((a0.length:Nat):Int))) <|
  chk (decide (((List.length (a0.take r1.toNat)) + (List.length (List.drop (Int.toNat (A9 (r1 + 1))) (List.take (Int.toNat a0.length) a0)))) * 32<=LIM/\(List.length (a0.take r1.toNat)) + (List.length (List.drop (Int.toNat (A9 (r1 + 1))) (List.take (Int.toNat a0.length) a0)))<=LEN)) <|
  chk (decide (((List.length ((a0.take r1.toNat) ++ (List.drop (Int.toNat (A9 (r1 + 1))) (List.take (Int.toNat a0.length) a0)))) + 1) * 32<=LIM/\(List.length ((a0.take r1.toNat) ++ (List.drop (Int.toNat (A9 (r1 + 1))) (List.take (Int.toNat a0.length) a0)))) + 1<=LEN)) <|
  some ((((a0.take r1.toNat) ++ (List.drop (Int.toNat (A9 (r1 + 1))) (List.take (Int.toNat a0.length) a0))) ++ [a2]),false)) (
  chk (decide ((0 + a0.length) * 32<=LIM/\0 + a0.length<=LEN)) <|
  chk (decide ((a0.length + 1) * 32<=LIM/\a0.length + 1<=LEN)) <|
  sel (decide ((max 0 (min a1 1024)) < (((List.length (a0 ++ [a2])):Nat):Int))) (
   chk (decide ((0:Int)<=1/\1<=(((List.length (a0 ++ [a2])):Nat):Int)/\(((List.length (a0 ++ [a2])):Nat):Int)<=(((List.length (a0 ++ [a2])):Nat):Int))) <|
   some ((List.drop 1 (List.take (Int.toNat (((List.length (a0 ++ [a2])):Nat):Int)) (a0 ++ [a2]))),true)) (
   some ((a0 ++ [a2]),true)))
def ak (a0:A8) (a1:Vector UInt8 32):Option (A8):=
 (ix a0.2.2.2.2.2.2 a0.1.2.2.2.1 a1).bind λr1=>
 some (a0.1,a0.2.1,a0.2.2.1,a0.2.2.2.1,a0.2.2.2.2.1,a0.2.2.2.2.2.1,r1.1)
def aD (a0:Int):Option (Bool):=
 sel (decide (1<=a0)) (
  some (decide (a0<=15))) (
  some false)
def cj (v1:Int) (v7:List Int) (v8 v9:Int):Option ((Int × List Int × Int × Int) ⊕ (Bool)):=
 sel (decide (v9 < v8)) (
  chk (decide (0<=v9/\v9 < v7.length)) <|
  sel (decide ((v7.getD v9.toNat (0:Int))=v1)) (
   some (.inr true)) (
   some (.inl (v1,v7,v8,(A9 (v9 + 1)))))) (
  some (.inr false))
def kA (v1:Int) (v7:List Int) (v8 v9:Int):=
 F8 (λv=>cj v.1 v.2.1 v.2.2.1 v.2.2.2) (v1,v7,v8,v9)
def bJ (a0:List Int) (a1:Int):Option (Bool):=
 kA a1 a0 a0.length 0
def gm (a0:A8) (a1 a2:Int):Option (A8):=
 sel (decide (a1 < 0)) (
  some a0) (
  (aD a2).bind λr1=>
  sel (!r1) (
   some a0) (
   chk (decide (0<=a1/\a1 < a0.2.2.2.2.2.1.length)) <|
   (bJ (a0.2.2.2.2.2.1.getD a1.toNat C0).2.2.2.2.2.2.2.2.2 a2).bind λr2=>
   sel r2 (
    some a0) (
    chk (decide ((0 + a0.2.2.2.2.2.1.length) * 144<=LIM/\0 + a0.2.2.2.2.2.1.length<=LEN)) <|
    chk (decide (0<=a1/\a1 < a0.2.2.2.2.2.1.length)) <|
    chk (decide (a1.toNat < a0.2.2.2.2.2.1.length)) <|
    chk (decide ((0 + (List.length (a0.2.2.2.2.2.1.getD a1.toNat C0).2.2.2.2.2.2.2.2.2)) * 8<=LIM/\0 + (List.length (a0.2.2.2.2.2.1.getD a1.toNat C0).2.2.2.2.2.2.2.2.2)<=LEN)) <|
    chk (decide (((List.length (a0.2.2.2.2.2.1.getD a1.toNat C0).2.2.2.2.2.2.2.2.2) + 1) * 8<=LIM/\(List.length (a0.2.2.2.2.2.1.getD a1.toNat C0).2.2.2.2.2.2.2.2.2) + 1<=LEN)) <|
    chk (decide (0<=a1/\a1 < a0.2.2.2.2.2.1.length)) <|
    chk (decide (a1.toNat < a0.2.2.2.2.2.1.length)) <|
    some (a0.1,a0.2.1,a0.2.2.1,a0.2.2.2.1,a0.2.2.2.2.1,(List.set a0.2.2.2.2.2.1 a1.toNat ((a0.2.2.2.2.2.1.getD a1.toNat C0).1,(a0.2.2.2.2.2.1.getD a1.toNat C0).2.1,(a0.2.2.2.2.2.1.getD a1.toNat C0).2.2.1,(a0.2.2.2.2.2.1.getD a1.toNat C0).2.2.2.1,(a0.2.2.2.2.2.1.getD a1.toNat C0).2.2.2.2.1,(a0.2.2.2.2.2.1.getD a1.toNat C0).2.2.2.2.2.1,(a0.2.2.2.2.2.1.getD a1.toNat C0).2.2.2.2.2.2.1,(a0.2.2.2.2.2.1.getD a1.toNat C0).2.2.2.2.2.2.2.1,(a0.2.2.2.2.2.1.getD a1.toNat C0).2.2.2.2.2.2.2.2.1,((a0.2.2.2.2.2.1.getD a1.toNat C0).2.2.2.2.2.2.2.2.2 ++ [a2]))),a0.2.2.2.2.2.2))))
def Y3 (b0:o8):Option (Int):=
 (bG b0).bind λr1=>
 sel (!r1.2) (
  some 6) (
  some 0)
def K7 (v3:Int) (v12:List o6) (v13 v14:Int) (b0:o8) (b1:o6):Option ((List o6 × Int × Int × o8) ⊕ (Int)):=
 sel (decide (0 < v3)) (
  chk (decide (0<=(A9 (v3 - 1))/\(A9 (v3 - 1)) < b0.1.length)) <|
  sel (!(Op.bytesLess (b0.1.getD (Int.toNat (A9 (v3 - 1))) B0).1 b1.1 || decide ((b0.1.getD (Int.toNat (A9 (v3 - 1))) B0).1=b1.1))) (
   some (.inr 1)) (
   some (.inl (v12,v13,(A9 (v14 + 1)),b0)))) (
  some (.inl (v12,v13,(A9 (v14 + 1)),b0)))
def P6 (v12:List o6) (v13 v14:Int) (b0:o8):Option ((List o6 × Int × Int × o8) ⊕ (Int)):=
 sel (decide (v14 < v13)) (
  chk (decide (0<=v14/\v14 < v12.length)) <|
  (Q3 (v12.getD v14.toNat B0).1).bind λr2=>
  sel (!r2) (
   some (.inr 10)) (
   sel (decide (0 < v14)) (
    chk (decide (0<=(A9 (v14 - 1))/\(A9 (v14 - 1)) < b0.1.length)) <|
    sel (decide ((b0.1.getD (Int.toNat (A9 (v14 - 1))) B0).1=(v12.getD v14.toNat B0).1)) (
     some (.inr 8)) (
     K7 v14 v12 v13 v14 b0 (v12.getD v14.toNat B0))) (
    K7 v14 v12 v13 v14 b0 (v12.getD v14.toNat B0)))) (
  Option.map .inr (
   Y3 b0))
def dS (v12:List o6) (v13 v14:Int) (b0:o8):=
 F8 (λv=>P6 v.1 v.2.1 v.2.2.1 v.2.2.2) (v12,v13,v14,b0)
def T9 (a0:o8):Option (Int):=
 sel (decide (256 < ((a0.1.length:Nat):Int))) (
  some 3) (
  dS a0.1 a0.1.length 0 a0)
def Q5 (v0:List UInt8) (v5 v6:Int):Option ((List UInt8 × Int × Int) ⊕ (Int × Int × Int)):=
 chk (decide (0<=v6/\v6 < v0.length)) <|
 chk (decide ((0:Int)<=(A9 (7 * v6)))) <|
 chk (decide (0<=v6/\v6 < v0.length)) <|
 sel (decide (((UInt8.toNat (v0.getD v6.toNat (0:UInt8)):Nat):Int) < 128)) (
  some (.inr ((bits .or .u64 v5 (D7 ((D7 (bits .and .u8 ((UInt8.toNat (v0.getD v6.toNat (0:UInt8)):Nat):Int) 127)) * 2 ^ (min (Int.toNat (A9 (7 * v6))) 64)))),(A9 (v6 + 1)),0))) (
  some (.inl (v0,(bits .or .u64 v5 (D7 ((D7 (bits .and .u8 ((UInt8.toNat (v0.getD v6.toNat (0:UInt8)):Nat):Int) 127)) * 2 ^ (min (Int.toNat (A9 (7 * v6))) 64)))),(A9 (v6 + 1)))))
def Q6 (v0:List UInt8) (v5 v6:Int) (v14:Bool):Option ((List UInt8 × Int × Int) ⊕ (Int × Int × Int)):=
 sel v14 (
  some (.inr (0,0,6))) (
  sel (decide (0 < v6)) (
   chk (decide (0<=v6/\v6 < v0.length)) <|
   sel (decide (((UInt8.toNat (v0.getD v6.toNat (0:UInt8)):Nat):Int)=0)) (
    some (.inr (0,0,4))) (
    Q5 v0 v5 v6)) (
   Q5 v0 v5 v6))
def aE (v0:List UInt8) (v5 v6:Int):Option ((List UInt8 × Int × Int) ⊕ (Int × Int × Int)):=
 sel (decide (((v0.length:Nat):Int)<=v6)) (
  some (.inr (0,0,5))) (
  sel (decide (v6=9)) (
   chk (decide (0<=v6/\v6 < v0.length)) <|
   Q6 v0 v5 v6 (decide (1 < ((UInt8.toNat (v0.getD v6.toNat (0:UInt8)):Nat):Int)))) (
   Q6 v0 v5 v6 false))
def im (v0:List UInt8) (v5 v6:Int):=
 F8 (λv=>aE v.1 v.2.1 v.2.2) (v0,v5,v6)
def N8 (a0:List UInt8):Option (Int × Int × Int):=
 im a0 0 0
def X9 (v0:List UInt8) (v5 v6 v8:Int) (_b0:A6):Option (A6 × Int × Int):=
 chk (decide ((0:Int)<=v6/\v6<=((v0.length:Nat):Int)/\((v0.length:Nat):Int)<=((v0.length:Nat):Int))) <|
 (N8 (List.drop v6.toNat (List.take (Int.toNat v0.length) v0))).bind λr2=>
 sel (!decide (r2.2.2=0)) (
  some (((0:Int),(0:Int),(0:Int),[]),0,r2.2.2)) (
  sel (decide (v8=0)) (
   some (((A9 (D7 (Int.tdiv v5 8))),v8,r2.1,[]),(A9 (v6 + r2.2.1)),0)) (
   sel (decide ((D7 (A9 ((A9 (((v0.length:Nat):Int) - v6)) - r2.2.1))) < r2.1)) (
    some (((0:Int),(0:Int),(0:Int),[]),0,5)) (
    chk (decide ((0:Int)<=(A9 (v6 + r2.2.1))/\(A9 (v6 + r2.2.1))<=(A9 ((A9 (v6 + r2.2.1)) + (A9 r2.1)))/\(A9 ((A9 (v6 + r2.2.1)) + (A9 r2.1)))<=((v0.length:Nat):Int))) <|
    chk (decide ((0 + (List.length (List.drop (Int.toNat (A9 (v6 + r2.2.1))) (List.take (Int.toNat (A9 ((A9 (v6 + r2.2.1)) + (A9 r2.1)))) v0)))) * 1<=LIM/\0 + (List.length (List.drop (Int.toNat (A9 (v6 + r2.2.1))) (List.take (Int.toNat (A9 ((A9 (v6 + r2.2.1)) + (A9 r2.1)))) v0)))<=LEN)) <|
    some (((A9 (D7 (Int.tdiv v5 8))),v8,(0:Int),(List.drop (Int.toNat (A9 (v6 + r2.2.1))) (List.take (Int.toNat (A9 ((A9 (v6 + r2.2.1)) + (A9 r2.1)))) v0))),(A9 ((A9 (v6 + r2.2.1)) + (A9 r2.1))),0))))
def fK (a0:List UInt8):Option (A6 × Int × Int):=
 (N8 a0).bind λr1=>
 sel (!decide (r1.2.2=0)) (
  some (((0:Int),(0:Int),(0:Int),[]),0,r1.2.2)) (
  sel (decide ((D7 (Int.tdiv r1.1 8)) < 1)) (
   some (((0:Int),(0:Int),(0:Int),[]),0,4)) (
   sel (decide (536870911 < (D7 (Int.tdiv r1.1 8)))) (
    some (((0:Int),(0:Int),(0:Int),[]),0,4)) (
    sel (!decide ((A9 (Int.tmod r1.1 8))=0)) (
     sel (!decide ((A9 (Int.tmod r1.1 8))=2)) (
      some (((0:Int),(0:Int),(0:Int),[]),0,4)) (
      X9 a0 r1.1 r1.2.1 (A9 (Int.tmod r1.1 8)) ((0:Int),(0:Int),(0:Int),[]))) (
     X9 a0 r1.1 r1.2.1 (A9 (Int.tmod r1.1 8)) ((0:Int),(0:Int),(0:Int),[])))))
def cn (l0:List A6):Option (List A6 × Int × Int):=
 some (l0,0,0)
def I5 (v0:List UInt8) (v6:Int) (l0:List A6):Option ((List UInt8 × Int × List A6) ⊕ (List A6 × Int × Int)):=
 sel (decide (v6 < v0.length)) (
  sel (decide (1024<=((l0.length:Nat):Int))) (
   some (.inr ([],v6,3))) (
   chk (decide ((0:Int)<=v6/\v6<=((v0.length:Nat):Int)/\((v0.length:Nat):Int)<=((v0.length:Nat):Int))) <|
   (fK (List.drop v6.toNat (List.take (Int.toNat v0.length) v0))).bind λr1=>
   sel (!decide (r1.2.2=0)) (
    some (.inr ([],v6,r1.2.2))) (
    chk (decide ((l0.length + 1) * 48<=LIM/\l0.length + 1<=LEN)) <|
    some (.inl (v0,(A9 (v6 + r1.2.1)),(l0 ++ ([r1.1]:List A6))))))) (
  Option.map .inr (
   cn l0))
def fL (v0:List UInt8) (v6:Int) (l0:List A6):=
 F8 (λv=>I5 v.1 v.2.1 v.2.2) (v0,v6,l0)
def J2 (a0:List UInt8):Option (List A6 × Int × Int):=
 fL a0 0 []
def G6 (a0 a1:List UInt8):Option (Bool):=
 some (decide (a0=a1))
def dL (v0:List UInt8) (v6:Int) (_b0 b1:A0):Option (A0 × Bool):=
 sel (decide (v6=0)) (
  (U6 [] 1 b1.1).bind λr2=>
  (L4 r2 2 b1.2).bind λr3=>
  (E5 r3).bind λr4=>
  (G6 r4 v0).bind λr5=>
  some (b1,r5)) (
  some (b1,false))
def Y5 (v0:List UInt8) (v6 v17 v18:Int) (v36:Bool) (b0 b1:A0) (b2:A6) (l0:List A6):Option ((List UInt8 × Int × Int × Int × A0 × A0 × List A6) ⊕ (A0 × Bool)):=
 sel v36 (
  some (.inl (v0,v6,v17,(A9 (v18 + 1)),b0,(b1.1,b2.2.2.1),l0))) (
  some (.inr (b1,false)))
def Y6 (v0:List UInt8) (v6 v17 v18:Int) (v23:Bool) (b0 b1:A0) (b2:A6) (l0:List A6):Option ((List UInt8 × Int × Int × Int × A0 × A0 × List A6) ⊕ (A0 × Bool)):=
 sel v23 (
  some (.inl (v0,v6,v17,(A9 (v18 + 1)),b0,(b2.2.2.2,b1.2),l0))) (
  sel (decide (b2.1=2)) (
   Y5 v0 v6 v17 v18 (decide (b2.2.1=0)) b0 b1 b2 l0) (
   Y5 v0 v6 v17 v18 false b0 b1 b2 l0))
def Y7 (v0:List UInt8) (v6 v17 v18:Int) (b0 b1:A0) (l0:List A6):Option ((List UInt8 × Int × Int × Int × A0 × A0 × List A6) ⊕ (A0 × Bool)):=
 sel (decide (v18 < v17)) (
  chk (decide (0<=v18/\v18 < l0.length)) <|
  chk (decide (v18.toNat < l0.length)) <|
  sel (decide ((l0.getD v18.toNat E4).1=1)) (
   Y6 v0 v6 v17 v18 (decide ((l0.getD v18.toNat E4).2.1=2)) b0 b1 (l0.getD v18.toNat E4) l0) (
   Y6 v0 v6 v17 v18 false b0 b1 (l0.getD v18.toNat E4) l0)) (
  Option.map .inr (
   dL v0 v6 b0 b1))
def iM (v0:List UInt8) (v6 v17 v18:Int) (b0 b1:A0) (l0:List A6):=
 F8 (λv=>Y7 v.1 v.2.1 v.2.2.1 v.2.2.2.1 v.2.2.2.2.1 v.2.2.2.2.2.1 v.2.2.2.2.2.2) (v0,v6,v17,v18,b0,b1,l0)
def co (a0:List UInt8):Option (A0 × Bool):=
 (J2 a0).bind λr1=>
 iM a0 r1.2.2 r1.1.length 0 ([],(0:Int)) ([],(0:Int)) r1.1
def Z0 (v9:List A6) (v10 v11:Int) (v78:Bool) (b0_0:List UInt8) (b0_1 b0_2 b0_3:Int) (b0_4 b1_0:List UInt8) (b1_1 b1_2 b1_3:Int) (b1_4:List UInt8) (b2:A6) (l0:List A0):Option ((List A6 × Int × Int × List UInt8 × Int × Int × Int × List UInt8 × List UInt8 × Int × Int × Int × List UInt8 × List A0) ⊕ (C5 × Bool)):=
 sel v78 (
  (co b2.2.2.2).bind λr1=>
  sel (!r1.2) (
   some (.inr ((b1_0,b1_1,b1_2,b1_3,b1_4,l0),false))) (
   chk (decide ((l0.length + 1) * 24<=LIM/\l0.length + 1<=LEN)) <|
   some (.inl (v9,v10,(A9 (v11 + 1)),b0_0,b0_1,b0_2,b0_3,b0_4,b1_0,b1_1,b1_2,b1_3,b1_4,(l0 ++ ([r1.1]:List A0)))))) (
  some (.inr ((b1_0,b1_1,b1_2,b1_3,b1_4,l0),false)))
def Z1 (v9:List A6) (v10 v11:Int) (v65:Bool) (b0_0:List UInt8) (b0_1 b0_2 b0_3:Int) (b0_4 b1_0:List UInt8) (b1_1 b1_2 b1_3:Int) (b1_4:List UInt8) (b2:A6) (l0:List A0):Option ((List A6 × Int × Int × List UInt8 × Int × Int × Int × List UInt8 × List UInt8 × Int × Int × Int × List UInt8 × List A0) ⊕ (C5 × Bool)):=
 sel v65 (
  some (.inl (v9,v10,(A9 (v11 + 1)),b0_0,b0_1,b0_2,b0_3,b0_4,b1_0,b1_1,b1_2,b1_3,b2.2.2.2,l0))) (
  sel (decide (b2.1=6)) (
   Z0 v9 v10 v11 (decide (b2.2.1=2)) b0_0 b0_1 b0_2 b0_3 b0_4 b1_0 b1_1 b1_2 b1_3 b1_4 b2 l0) (
   Z0 v9 v10 v11 false b0_0 b0_1 b0_2 b0_3 b0_4 b1_0 b1_1 b1_2 b1_3 b1_4 b2 l0))
def Z2 (v9:List A6) (v10 v11:Int) (v53:Bool) (b0_0:List UInt8) (b0_1 b0_2 b0_3:Int) (b0_4 b1_0:List UInt8) (b1_1 b1_2 b1_3:Int) (b1_4:List UInt8) (b2:A6) (l0:List A0):Option ((List A6 × Int × Int × List UInt8 × Int × Int × Int × List UInt8 × List UInt8 × Int × Int × Int × List UInt8 × List A0) ⊕ (C5 × Bool)):=
 sel v53 (
  some (.inl (v9,v10,(A9 (v11 + 1)),b0_0,b0_1,b0_2,b0_3,b0_4,b1_0,b1_1,b1_2,b2.2.2.1,b1_4,l0))) (
  sel (decide (b2.1=5)) (
   Z1 v9 v10 v11 (decide (b2.2.1=2)) b0_0 b0_1 b0_2 b0_3 b0_4 b1_0 b1_1 b1_2 b1_3 b1_4 b2 l0) (
   Z1 v9 v10 v11 false b0_0 b0_1 b0_2 b0_3 b0_4 b1_0 b1_1 b1_2 b1_3 b1_4 b2 l0))
def Z3 (v9:List A6) (v10 v11:Int) (v41:Bool) (b0_0:List UInt8) (b0_1 b0_2 b0_3:Int) (b0_4 b1_0:List UInt8) (b1_1 b1_2 b1_3:Int) (b1_4:List UInt8) (b2:A6) (l0:List A0):Option ((List A6 × Int × Int × List UInt8 × Int × Int × Int × List UInt8 × List UInt8 × Int × Int × Int × List UInt8 × List A0) ⊕ (C5 × Bool)):=
 sel v41 (
  some (.inl (v9,v10,(A9 (v11 + 1)),b0_0,b0_1,b0_2,b0_3,b0_4,b1_0,b1_1,b2.2.2.1,b1_3,b1_4,l0))) (
  sel (decide (b2.1=4)) (
   Z2 v9 v10 v11 (decide (b2.2.1=0)) b0_0 b0_1 b0_2 b0_3 b0_4 b1_0 b1_1 b1_2 b1_3 b1_4 b2 l0) (
   Z2 v9 v10 v11 false b0_0 b0_1 b0_2 b0_3 b0_4 b1_0 b1_1 b1_2 b1_3 b1_4 b2 l0))
def Z4 (v9:List A6) (v10 v11:Int) (v29:Bool) (b0_0:List UInt8) (b0_1 b0_2 b0_3:Int) (b0_4 b1_0:List UInt8) (b1_1 b1_2 b1_3:Int) (b1_4:List UInt8) (b2:A6) (l0:List A0):Option ((List A6 × Int × Int × List UInt8 × Int × Int × Int × List UInt8 × List UInt8 × Int × Int × Int × List UInt8 × List A0) ⊕ (C5 × Bool)):=
 sel v29 (
  some (.inl (v9,v10,(A9 (v11 + 1)),b0_0,b0_1,b0_2,b0_3,b0_4,b1_0,b2.2.2.1,b1_2,b1_3,b1_4,l0))) (
  sel (decide (b2.1=3)) (
   Z3 v9 v10 v11 (decide (b2.2.1=0)) b0_0 b0_1 b0_2 b0_3 b0_4 b1_0 b1_1 b1_2 b1_3 b1_4 b2 l0) (
   Z3 v9 v10 v11 false b0_0 b0_1 b0_2 b0_3 b0_4 b1_0 b1_1 b1_2 b1_3 b1_4 b2 l0))
def Z5 (v9:List A6) (v10 v11:Int) (v16:Bool) (b0_0:List UInt8) (b0_1 b0_2 b0_3:Int) (b0_4 b1_0:List UInt8) (b1_1 b1_2 b1_3:Int) (b1_4:List UInt8) (b2:A6) (l0:List A0):Option ((List A6 × Int × Int × List UInt8 × Int × Int × Int × List UInt8 × List UInt8 × Int × Int × Int × List UInt8 × List A0) ⊕ (C5 × Bool)):=
 sel v16 (
  some (.inl (v9,v10,(A9 (v11 + 1)),b0_0,b0_1,b0_2,b0_3,b0_4,b2.2.2.2,b1_1,b1_2,b1_3,b1_4,l0))) (
  sel (decide (b2.1=2)) (
   Z4 v9 v10 v11 (decide (b2.2.1=0)) b0_0 b0_1 b0_2 b0_3 b0_4 b1_0 b1_1 b1_2 b1_3 b1_4 b2 l0) (
   Z4 v9 v10 v11 false b0_0 b0_1 b0_2 b0_3 b0_4 b1_0 b1_1 b1_2 b1_3 b1_4 b2 l0))
def Z6 (v9:List A6) (v10 v11:Int) (b0_0:List UInt8) (b0_1 b0_2 b0_3:Int) (b0_4 b1_0:List UInt8) (b1_1 b1_2 b1_3:Int) (b1_4:List UInt8) (l0:List A0):Option ((List A6 × Int × Int × List UInt8 × Int × Int × Int × List UInt8 × List UInt8 × Int × Int × Int × List UInt8 × List A0) ⊕ (C5 × Bool)):=
 sel (decide (v11 < v10)) (
  chk (decide (0<=v11/\v11 < v9.length)) <|
  sel (decide ((v9.getD v11.toNat E4).1=1)) (
   Z5 v9 v10 v11 (decide ((v9.getD v11.toNat E4).2.1=2)) b0_0 b0_1 b0_2 b0_3 b0_4 b1_0 b1_1 b1_2 b1_3 b1_4 (v9.getD v11.toNat E4) l0) (
   Z5 v9 v10 v11 false b0_0 b0_1 b0_2 b0_3 b0_4 b1_0 b1_1 b1_2 b1_3 b1_4 (v9.getD v11.toNat E4) l0)) (
  some (.inr ((b1_0,b1_1,b1_2,b1_3,b1_4,l0),true)))
def lc (v9:List A6) (v10 v11:Int) (b0_0:List UInt8) (b0_1 b0_2 b0_3:Int) (b0_4 b1_0:List UInt8) (b1_1 b1_2 b1_3:Int) (b1_4:List UInt8) (l0:List A0):=
 F8 (λv=>Z6 v.1 v.2.1 v.2.2.1 v.2.2.2.1 v.2.2.2.2.1 v.2.2.2.2.2.1 v.2.2.2.2.2.2.1 v.2.2.2.2.2.2.2.1 v.2.2.2.2.2.2.2.2.1 v.2.2.2.2.2.2.2.2.2.1 v.2.2.2.2.2.2.2.2.2.2.1 v.2.2.2.2.2.2.2.2.2.2.2.1 v.2.2.2.2.2.2.2.2.2.2.2.2.1 v.2.2.2.2.2.2.2.2.2.2.2.2.2) (v9,v10,v11,b0_0,b0_1,b0_2,b0_3,b0_4,b1_0,b1_1,b1_2,b1_3,b1_4,l0)
def gn (a0:List A6):Option (C5 × Bool):=
 lc a0 a0.length 0 [] (0:Int) (0:Int) (0:Int) [] [] (0:Int) (0:Int) (0:Int) [] []
def R1 (a0:List UInt8):Option (C5 × Int):=
 sel (decide (4096 < ((a0.length:Nat):Int))) (
  some (([],(0:Int),(0:Int),(0:Int),[],[]),3)) (
  (J2 a0).bind λr1=>
  (gn r1.1).bind λr2=>
  sel (!decide (r1.2.2=0)) (
   some (([],(0:Int),(0:Int),(0:Int),[],[]),4)) (
   sel (!r2.2) (
    some (([],(0:Int),(0:Int),(0:Int),[],[]),4)) (
    (cS r2.1).bind λr3=>
    (G6 r3 a0).bind λr4=>
    sel (!r4) (
     some (([],(0:Int),(0:Int),(0:Int),[],[]),4)) (
     (T5 r2.1).bind λr5=>
     sel (!decide (r5=0)) (
      some (([],(0:Int),(0:Int),(0:Int),[],[]),r5)) (
      some (r2.1,0))))))
def dU (a0:o8) (a1:List UInt8):Option (o6 × Bool):=
 (U5 a0.1 a1).bind λr1=>
 sel (decide (0<=r1)) (
  chk (decide (0<=r1/\r1 < a0.1.length)) <|
  some ((a0.1.getD r1.toNat B0),true)) (
  some (([],(0:Int),(0:Int)),false))
def Z7 (a0:Int):Option (Int):=
 some (D7 (max 0 (min a0 1073741824)))
def gp (a0 a1:Int):Option (Int):=
 (Z7 a0).bind λr1=>
 (Z7 a1).bind λr2=>
 some (D7 ((D7 (50 + (D7 (1 * r1)))) + (D7 (20 * r2))))
def jg (a0 a1:Int):Option (Int × Bool):=
 sel (!decide (a0=0)) (
  chk (!decide (a0=0)) <|
  sel (decide ((D7 (Int.tdiv 18446744073709551615 a0)) < a1)) (
   some (0,false)) (
   some ((D7 (a0 * a1)),true))) (
  some ((D7 (a0 * a1)),true))
def gq (a0 a1:Int):Option (Int × Bool):=
 (jg a0 a1).bind λr1=>
 some (r1.1,r1.2)
def ff (v4:Int) (v9:List Int) (v10 v11:Int):Option ((Int × List Int × Int × Int) ⊕ (Int × Bool)):=
 sel (decide (v11 < v10)) (
  chk (decide (0<=v11/\v11 < v9.length)) <|
  (fI v4 (v9.getD v11.toNat (0:Int))).bind λr1=>
  sel (!r1.2) (
   some (.inr (0,false))) (
   some (.inl (r1.1,v9,v10,(A9 (v11 + 1)))))) (
  some (.inr (v4,true)))
def mN (v4:Int) (v9:List Int) (v10 v11:Int):=
 F8 (λv=>ff v.1 v.2.1 v.2.2.1 v.2.2.2) (v4,v9,v10,v11)
def jh (a0:List Int):Option (Int × Bool):=
 mN 0 a0 a0.length 0
def io (l0:List Int):Option (Int × Bool):=
 (jh l0).bind λr1=>
 some (r1.1,r1.2)
def dt (v11:List A0) (v12 v13:Int) (l0:List Int):Option ((List A0 × Int × Int × List Int) ⊕ (Int × Bool)):=
 sel (decide (v13 < v12)) (
  chk (decide (0<=v13/\v13 < v11.length)) <|
  chk (decide ((l0.length + 1) * 8<=LIM/\l0.length + 1<=LEN)) <|
  some (.inl (v11,v12,(A9 (v13 + 1)),(l0 ++ [(v11.getD v13.toNat H5).2])))) (
  Option.map .inr (
   io l0))
def lf (v11:List A0) (v12 v13:Int) (l0:List Int):=
 F8 (λv=>dt v.1 v.2.1 v.2.2.1 v.2.2.2) (v11,v12,v13,l0)
def cT (a0:C5):Option (Int × Bool):=
 lf a0.2.2.2.2.2 a0.2.2.2.2.2.length 0 [a0.2.2.2.1]
def ip (b0:o8) (b1:C5) (_b2:o8) (l0:List o6):Option (o8):=
 some (l0,(D7 (b0.2 + b1.2.2.2.1)))
def Z8 (v35:List A0) (v36 v37:Int) (b0:o8) (b1:C5) (b2:o8) (b3:A0) (b4:o6) (l0:List o6):Option ((List A0 × Int × Int × o8 × C5 × o8 × List o6) ⊕ (o8)):=
 (ba l0 (b4.1,(D7 (b4.2.1 + b3.2)),b4.2.2)).bind λr3=>
 some (.inl (v35,v36,(A9 (v37 + 1)),b0,b1,b2,r3))
def du (v35:List A0) (v36 v37:Int) (b0:o8) (b1:C5) (b2:o8) (l0:List o6):Option ((List A0 × Int × Int × o8 × C5 × o8 × List o6) ⊕ (o8)):=
 sel (decide (v37 < v36)) (
  chk (decide (0<=v37/\v37 < v35.length)) <|
  (U5 l0 (v35.getD v37.toNat H5).1).bind λr4=>
  sel (decide (0<=r4)) (
   chk (decide (0<=r4/\r4 < l0.length)) <|
   chk (decide (r4.toNat < l0.length)) <|
   Z8 v35 v36 v37 b0 b1 b2 (v35.getD v37.toNat H5) (l0.getD r4.toNat B0) l0) (
   Z8 v35 v36 v37 b0 b1 b2 (v35.getD v37.toNat H5) ((v35.getD v37.toNat H5).1,(0:Int),(0:Int)) l0)) (
  Option.map .inr (
   ip b0 b1 b2 l0))
def gr (v35:List A0) (v36 v37:Int) (b0:o8) (b1:C5) (b2:o8) (l0:List o6):=
 F8 (λv=>du v.1 v.2.1 v.2.2.1 v.2.2.2.1 v.2.2.2.2.1 v.2.2.2.2.2.1 v.2.2.2.2.2.2) (v35,v36,v37,b0,b1,b2,l0)
def cU (a0:o8) (a1:C5) (a2:Int):Option (o8):=
 (dU a0 a1.1).bind λr1=>
 (ba a0.1 (r1.1.1,(D7 (r1.1.2.1 - a2)),(D7 (r1.1.2.2 + 1)))).bind λr2=>
 gr a1.2.2.2.2.2 a1.2.2.2.2.2.length 0 a0 a1 ([],(0:Int)) r2
def fh (a0:o8) (a1:Int) (a2:C5) (a3:Int):Option (Int):=
 (dU a0 a2.1).bind λr1=>
 sel (!r1.2) (
  some 13) (
  sel (!decide (r1.1.2.2=a2.2.1)) (
   some 14) (
   sel (decide (a2.2.1=18446744073709551615)) (
    some 6) (
    (gp a3 a2.2.2.2.2.2.length).bind λr2=>
    sel (decide (a2.2.2.1 < r2)) (
     some 15) (
     (gq a2.2.2.1 a1).bind λr3=>
     (cT a2).bind λr4=>
     sel (!r3.2) (
      some 6) (
      sel (decide (a2.2.2.2.1 < r3.1)) (
       some 16) (
       sel (!r4.2) (
        some 6) (
        sel (decide (r1.1.2.1 < r4.1)) (
         some 17) (
         (cU a0 a2 r4.1).bind λr5=>
         sel (decide (256 < ((r5.1.length:Nat):Int))) (
          some 3) (
          some 0)))))))))
def dV (a0 a1:Int):Option (Int × Int):=
 some ((D7 ((D7 ((D7 ((D7 ((a0 / 2 ^ 32) * (a1 / 2 ^ 32))) + ((D7 ((a0 / 2 ^ 32) * (bits .and .u64 a1 4294967295))) / 2 ^ 32))) + ((D7 ((bits .and .u64 a0 4294967295) * (a1 / 2 ^ 32))) / 2 ^ 32))) + ((D7 ((D7 (((D7 ((bits .and .u64 a0 4294967295) * (bits .and .u64 a1 4294967295))) / 2 ^ 32) + (bits .and .u64 (D7 ((a0 / 2 ^ 32) * (bits .and .u64 a1 4294967295))) 4294967295))) + (bits .and .u64 (D7 ((bits .and .u64 a0 4294967295) * (a1 / 2 ^ 32))) 4294967295))) / 2 ^ 32))),(bits .or .u64 (D7 ((D7 ((D7 (((D7 ((bits .and .u64 a0 4294967295) * (bits .and .u64 a1 4294967295))) / 2 ^ 32) + (bits .and .u64 (D7 ((a0 / 2 ^ 32) * (bits .and .u64 a1 4294967295))) 4294967295))) + (bits .and .u64 (D7 ((bits .and .u64 a0 4294967295) * (a1 / 2 ^ 32))) 4294967295))) * 2 ^ 32)) (bits .and .u64 (D7 ((bits .and .u64 a0 4294967295) * (bits .and .u64 a1 4294967295))) 4294967295)))
def R3 (v2 v8 v9 v10 v11:Int) (v47:Bool):Option ((Int × Int × Int × Int × Int) ⊕ (Int × Bool)):=
 sel v47 (
  some (.inl (v2,(D7 (v8 - v2)),v9,(bits .or .u64 v10 1),(A9 (v11 - 1))))) (
  some (.inl (v2,v8,v9,v10,(A9 (v11 - 1)))))
def gt (v2 v8 v9 v10 v11:Int):Option ((Int × Int × Int × Int × Int) ⊕ (Int × Bool)):=
 sel (decide (0<=v11)) (
  chk (decide ((0:Int)<=v11)) <|
  sel (decide ((v8 / 2 ^ 63)=1)) (
   R3 v2 (bits .or .u64 (D7 (v8 * 2 ^ 1)) (bits .and .u64 (v9 / 2 ^ (min v11.toNat 64)) 1)) v9 (D7 (v10 * 2 ^ 1)) v11 true) (
   R3 v2 (bits .or .u64 (D7 (v8 * 2 ^ 1)) (bits .and .u64 (v9 / 2 ^ (min v11.toNat 64)) 1)) v9 (D7 (v10 * 2 ^ 1)) v11 (decide (v2<=(bits .or .u64 (D7 (v8 * 2 ^ 1)) (bits .and .u64 (v9 / 2 ^ (min v11.toNat 64)) 1)))))) (
  some (.inr (v10,true)))
def kB (v2 v8 v9 v10 v11:Int):=
 F8 (λv=>gt v.1 v.2.1 v.2.2.1 v.2.2.2.1 v.2.2.2.2) (v2,v8,v9,v10,v11)
def fj (a0 a1 a2:Int):Option (Int × Bool):=
 (dV a0 a1).bind λr1=>
 sel (decide (a2=0)) (
  some (0,false)) (
  sel (decide (a2<=r1.1)) (
   some (0,false)) (
   kB a2 r1.1 r1.2 0 63))
def W9 (a0 a1:Int):Option (Int):=
 sel (decide (a1=0)) (
  some 0) (
  (fj a0 1000 a1).bind λr1=>
  sel r1.2 (
   some r1.1) (
   some 18446744073709551615))
def L0 (a0:o8) (a1:Int) (a2:List UInt8):Option (o8 × D0):=
 (T9 a0).bind λr1=>
 sel (!decide (r1=0)) (
  some (a0,(1,[],(0:Int),(0:Int),(0:Int)))) (
  (R1 a2).bind λr2=>
  sel (!decide (r2.2=0)) (
   some (a0,(r2.2,[],(0:Int),(0:Int),(0:Int)))) (
   (fh a0 a1 r2.1 a2.length).bind λr3=>
   (W9 r2.1.2.2.2.1 r2.1.2.2.1).bind λr4=>
   sel (!decide (r3=0)) (
    some (a0,(r3,r2.1.1,r2.1.2.1,r2.1.2.2.1,r4))) (
    (cT r2.1).bind λr5=>
    (cU a0 r2.1 r5.1).bind λr6=>
    some (r6,(r3,r2.1.1,r2.1.2.1,r2.1.2.2.1,r4)))))
def bK (a0:J8) (a1:List UInt8):Option (D0):=
 (L0 a0.2.1 a0.2.2.2.2 a1).bind λr1=>
 some r1.2
def iy (a0:List (Vector UInt8 32)) (a1:Vector UInt8 32):Option (List (Vector UInt8 32) × Bool):=
 (Q4 a0 a1).bind λr1=>
 sel (decide (r1 < 0)) (
  some (a0,false)) (
  chk (decide ((0:Int)<=0/\0<=r1/\r1<=((a0.length:Nat):Int))) <|
  chk (decide ((0 + (List.length (a0.take r1.toNat))) * 32<=LIM/\0 + (List.length (a0.take r1.toNat))<=LEN)) <|
  chk (decide ((0:Int)<=(A9 (r1 + 1))/\(A9 (r1 + 1))<=((a0.length:Nat):Int)/\((a0.length:Nat):Int)<=((a0.length:Nat):Int))) <|
  chk (decide (((List.length (a0.take r1.toNat)) + (List.length (List.drop (Int.toNat (A9 (r1 + 1))) (List.take (Int.toNat a0.length) a0)))) * 32<=LIM/\(List.length (a0.take r1.toNat)) + (List.length (List.drop (Int.toNat (A9 (r1 + 1))) (List.take (Int.toNat a0.length) a0)))<=LEN)) <|
  some (((a0.take r1.toNat) ++ (List.drop (Int.toNat (A9 (r1 + 1))) (List.take (Int.toNat a0.length) a0))),true))
def U8 (a0:A8) (a1:Vector UInt8 32):Option (A8):=
 (iy a0.2.2.2.2.2.2 a1).bind λr1=>
 some (a0.1,a0.2.1,a0.2.2.1,a0.2.2.2.1,a0.2.2.2.2.1,a0.2.2.2.2.2.1,r1.1)
def L5 (a0:A8) (a1:Vector UInt8 32):Option (A8):=
 sel a0.1.2.2.2.2.2.2.1 (
  some a0) (
  (U8 a0 a1).bind λr1=>
  some r1)
def bM (a0:A8) (a1:Int):Option (Bool):=
 sel (decide (0<=a0.1.2.2.2.2.2.2.2.2.1)) (
  some (decide ((D7 a0.1.2.2.2.2.2.2.2.2.1) < a1))) (
  some false)
def cr (v3:Int) (v6:List o5) (v7 v8:Int):Option ((Int × List o5 × Int × Int) ⊕ (Int)):=
 sel (decide (v8 < v7)) (
  chk (decide (0<=v8/\v8 < v6.length)) <|
  some (.inl ((A9 (v3 + (((List.length (v6.getD v8.toNat C0).2.1):Nat):Int))),v6,v7,(A9 (v8 + 1))))) (
  some (.inr v3))
def kC (v3:Int) (v6:List o5) (v7 v8:Int):=
 F8 (λv=>cr v.1 v.2.1 v.2.2.1 v.2.2.2) (v3,v6,v7,v8)
def fk (a0:List o5):Option (Int):=
 kC 0 a0 a0.length 0
def L7 (v6:Int) (v7:List o5) (v8 v9:Int) (b0:o5) (l0:List o5):Option ((List o5 × Int × Int × List o5) ⊕ (List o5)):=
 chk (decide ((0:Int)<=0/\0<=v6/\v6<=((l0.length:Nat):Int))) <|
 chk (decide ((0 + (List.length (l0.take v6.toNat))) * 144<=LIM/\0 + (List.length (l0.take v6.toNat))<=LEN)) <|
 chk (decide (((List.length (l0.take v6.toNat)) + 1) * 144<=LIM/\(List.length (l0.take v6.toNat)) + 1<=LEN)) <|
 chk (decide ((0:Int)<=v6/\v6<=((l0.length:Nat):Int)/\((l0.length:Nat):Int)<=((l0.length:Nat):Int))) <|
 chk (decide (((List.length ((l0.take v6.toNat) ++ ([b0]:List o5))) + (List.length (List.drop v6.toNat (List.take (Int.toNat l0.length) l0)))) * 144<=LIM/\(List.length ((l0.take v6.toNat) ++ ([b0]:List o5))) + (List.length (List.drop v6.toNat (List.take (Int.toNat l0.length) l0)))<=LEN)) <|
 some (.inl (v7,v8,(A9 (v9 + 1)),(((l0.take v6.toNat) ++ ([b0]:List o5)) ++ (List.drop v6.toNat (List.take (Int.toNat l0.length) l0)))))
def gu (v6:Int) (v7:List o5) (v8 v9:Int) (b0:o5) (l0:List o5):Option ((Int × List o5 × Int × Int × o5 × List o5) ⊕ ((List o5 × Int × Int × List o5) ⊕ (List o5))):=
 sel (decide (v6 < l0.length)) (
  chk (decide (0<=v6/\v6 < l0.length)) <|
  chk (decide (v6.toNat < l0.length)) <|
  sel (decide ((l0.getD v6.toNat C0).2.2.2.2.2.1 < b0.2.2.2.2.2.1)) (
   some (.inl ((A9 (v6 + 1)),v7,v8,v9,b0,l0))) (
   chk (decide (0<=v6/\v6 < l0.length)) <|
   chk (decide (v6.toNat < l0.length)) <|
   sel (decide ((l0.getD v6.toNat C0).2.2.2.2.2.1=b0.2.2.2.2.2.1)) (
    chk (decide (0<=v6/\v6 < l0.length)) <|
    chk (decide (v6.toNat < l0.length)) <|
    sel (decide (b0.2.2.2.2.2.2.2.2.1 < (l0.getD v6.toNat C0).2.2.2.2.2.2.2.2.1)) (
     some (.inl ((A9 (v6 + 1)),v7,v8,v9,b0,l0))) (
     Option.map .inr (
      L7 v6 v7 v8 v9 b0 l0))) (
    Option.map .inr (
     L7 v6 v7 v8 v9 b0 l0)))) (
  Option.map .inr (
   L7 v6 v7 v8 v9 b0 l0))
def fM (v6:Int) (v7:List o5) (v8 v9:Int) (b0:o5) (l0:List o5):=
 F8 (λv=>gu v.1 v.2.1 v.2.2.1 v.2.2.2.1 v.2.2.2.2.1 v.2.2.2.2.2) (v6,v7,v8,v9,b0,l0)
def ct (v7:List o5) (v8 v9:Int) (l0:List o5):Option ((List o5 × Int × Int × List o5) ⊕ (List o5)):=
 sel (decide (v9 < v8)) (
  chk (decide (0<=v9/\v9 < v7.length)) <|
  fM 0 v7 v8 v9 (v7.getD v9.toNat C0) l0) (
  some (.inr l0))
def kD (v7:List o5) (v8 v9:Int) (l0:List o5):=
 F8 (λv=>ct v.1 v.2.1 v.2.2.1 v.2.2.2) (v7,v8,v9,l0)
def fm (a0:List o5):Option (List o5):=
 kD a0 a0.length 0 []
def cV (a0 a1 a2:Int):Option (Bool):=
 sel (decide (a0<=a2)) (
  some (decide (a1<=(A9 (a2 - a0))))) (
  some false)
def bd (v2 v3 v4 v12 v13:Int) (l0:List (Vector UInt8 32)):Option (List (Vector UInt8 32) × Bool):=
 sel (decide (v12<=v3)) (
  (cV v13 v2 v4).bind λr2=>
  sel r2 (
   some (l0,true)) (
   some ([],false))) (
  some ([],false))
def V3 (v1 v2 v3 v4 v12 v13:Int) (v25:List o5) (v26 v27:Int) (b0:o5) (l0:List (Vector UInt8 32)):Option ((Int × Int × Int × Int × Int × Int × List o5 × Int × Int × List (Vector UInt8 32)) ⊕ (List (Vector UInt8 32) × Bool)):=
 sel (decide (v1<=b0.2.2.2.2.2.1)) (
  some (.inr ([],false))) (
  chk (decide ((l0.length + 1) * 32<=LIM/\l0.length + 1<=LEN)) <|
  some (.inl (v1,v2,v3,v4,(A9 (v12 - 1)),(A9 (v13 - ((b0.2.1.length:Nat):Int))),v25,v26,(A9 (v27 + 1)),(l0 ++ [b0.1]))))
def be (v1 v2 v3 v4 v12 v13:Int) (v25:List o5) (v26 v27:Int) (l0:List (Vector UInt8 32)):Option ((Int × Int × Int × Int × Int × Int × List o5 × Int × Int × List (Vector UInt8 32)) ⊕ (List (Vector UInt8 32) × Bool)):=
 sel (decide (v27 < v26)) (
  chk (decide (0<=v27/\v27 < v25.length)) <|
  sel (decide (v12<=v3)) (
   (cV v13 v2 v4).bind λr4=>
   sel r4 (
    some (.inr (l0,true))) (
    V3 v1 v2 v3 v4 v12 v13 v25 v26 v27 (v25.getD v27.toNat C0) l0)) (
   V3 v1 v2 v3 v4 v12 v13 v25 v26 v27 (v25.getD v27.toNat C0) l0)) (
  Option.map .inr (
   bd v2 v3 v4 v12 v13 l0))
def jL (v1 v2 v3 v4 v12 v13:Int) (v25:List o5) (v26 v27:Int) (l0:List (Vector UInt8 32)):=
 F8 (λv=>be v.1 v.2.1 v.2.2.1 v.2.2.2.1 v.2.2.2.2.1 v.2.2.2.2.2.1 v.2.2.2.2.2.2.1 v.2.2.2.2.2.2.2.1 v.2.2.2.2.2.2.2.2.1 v.2.2.2.2.2.2.2.2.2) (v1,v2,v3,v4,v12,v13,v25,v26,v27,l0)
def dW (a0:List o5) (a1 a2 a3 a4:Int):Option (List (Vector UInt8 32) × Bool):=
 (fk a0).bind λr1=>
 (fm a0).bind λr3=>
 jL a1 (max a2 0) a3 a4 (A9 (((a0.length:Nat):Int) + 1)) r1 r3 r3.length 0 []
def dv (a0:List o5) (a1:Int):Option (List o5):=
 chk (decide ((0:Int)<=0/\0<=a1/\a1<=((a0.length:Nat):Int))) <|
 chk (decide ((0 + (List.length (a0.take a1.toNat))) * 144<=LIM/\0 + (List.length (a0.take a1.toNat))<=LEN)) <|
 chk (decide ((0:Int)<=(A9 (a1 + 1))/\(A9 (a1 + 1))<=((a0.length:Nat):Int)/\((a0.length:Nat):Int)<=((a0.length:Nat):Int))) <|
 chk (decide (((List.length (a0.take a1.toNat)) + (List.length (List.drop (Int.toNat (A9 (a1 + 1))) (List.take (Int.toNat a0.length) a0)))) * 144<=LIM/\(List.length (a0.take a1.toNat)) + (List.length (List.drop (Int.toNat (A9 (a1 + 1))) (List.take (Int.toNat a0.length) a0)))<=LEN)) <|
 some ((a0.take a1.toNat) ++ (List.drop (Int.toNat (A9 (a1 + 1))) (List.take (Int.toNat a0.length) a0)))
def S0 (a0:A8) (a1:Vector UInt8 32):Option (A8 × Bool):=
 (aj a0.2.2.2.2.2.1 a1).bind λr1=>
 sel (decide (r1 < 0)) (
  some (a0,false)) (
  (dv a0.2.2.2.2.2.1 r1).bind λr2=>
  some ((a0.1,a0.2.1,a0.2.2.1,a0.2.2.2.1,a0.2.2.2.2.1,r2,a0.2.2.2.2.2.2),true))
def V4 (a0:J8) (a1:List UInt8):Option (J8):=
 (L0 a0.2.1 a0.2.2.2.2 a1).bind λr1=>
 some (a0.1,r1.1,a0.2.2)
def X0 (b0 _b1:A8) (_b2:E7) (b3:Vector UInt8 32) (b4:D0) (b5_0:Vector UInt8 32) (b5_2:List UInt8) (b5_3 b5_4 b5_5 b5_6 b5_7 b5_8:Int) (l0:List (Vector UInt8 32)) (l1:List UInt8) (l2:List Int):Option (A8 × E7):=
 chk (decide ((0 + b0.2.2.2.2.2.1.length) * 144<=LIM/\0 + b0.2.2.2.2.2.1.length<=LEN)) <|
 chk (decide ((b0.2.2.2.2.2.1.length + 1) * 144<=LIM/\b0.2.2.2.2.2.1.length + 1<=LEN)) <|
 some ((b0.1,b0.2.1,b0.2.2.1,b0.2.2.2.1,(A9 (b0.2.2.2.2.1 + 1)),(b0.2.2.2.2.2.1 ++ ([(b5_0,l1,b5_2,b5_3,b5_4,b5_5,b5_6,b5_7,b5_8,l2)]:List o5)),b0.2.2.2.2.2.2),((0:Int),b3,b4.2.2.2.2,l0,[],[],[],[],[],(0:Int),(Vector.replicate 32 (0:UInt8))))
def cu (v1:List UInt8) (v2:Int) (b0 b1:A8) (b2:E7) (b3:Vector UInt8 32) (b4:D0) (l0:List (Vector UInt8 32)):Option (A8 × E7):=
 (V4 b0.2.1 v1).bind λr13=>
 chk (decide ((0 + v1.length) * 1<=LIM/\0 + v1.length<=LEN)) <|
 (aD v2).bind λr14=>
 sel r14 (
  X0 (b0.1,r13,b0.2.2) b1 b2 b3 b4 b3 b4.2.1 b4.2.2.1 b4.2.2.2.1 b4.2.2.2.2 b0.2.2.1 b0.2.2.2.1 b0.2.2.2.2.1 l0 v1 [v2]) (
  X0 (b0.1,r13,b0.2.2) b1 b2 b3 b4 b3 b4.2.1 b4.2.2.1 b4.2.2.2.1 b4.2.2.2.2 b0.2.2.1 b0.2.2.2.1 b0.2.2.2.2.1 l0 v1 [])
def cw (v1:List UInt8) (v2 v101 v102:Int) (b0 b1:A8) (b2:E7) (b3:Vector UInt8 32) (b4:D0) (l0:List (Vector UInt8 32)):Option ((List UInt8 × Int × Int × Int × A8 × A8 × E7 × Vector UInt8 32 × D0 × List (Vector UInt8 32)) ⊕ (A8 × E7)):=
 sel (decide (v102 < v101)) (
  chk (decide (0<=v102/\v102 < l0.length)) <|
  chk (decide (v102.toNat < l0.length)) <|
  (S0 b0 (l0.getD v102.toNat (Vector.replicate 32 (0:UInt8)))).bind λr15=>
  (U8 r15.1 (l0.getD v102.toNat (Vector.replicate 32 (0:UInt8)))).bind λr16=>
  some (.inl (v1,v2,v101,(A9 (v102 + 1)),r16,b1,b2,b3,b4,l0))) (
  Option.map .inr (
   cu v1 v2 b0 b1 b2 b3 b4 l0))
def fN (v1:List UInt8) (v2 v101 v102:Int) (b0 b1:A8) (b2:E7) (b3:Vector UInt8 32) (b4:D0) (l0:List (Vector UInt8 32)):=
 F8 (λv=>cw v.1 v.2.1 v.2.2.1 v.2.2.2.1 v.2.2.2.2.1 v.2.2.2.2.2.1 v.2.2.2.2.2.2.1 v.2.2.2.2.2.2.2.1 v.2.2.2.2.2.2.2.2.1 v.2.2.2.2.2.2.2.2.2) (v1,v2,v101,v102,b0,b1,b2,b3,b4,l0)
def X1 (v1:List UInt8) (v2 v9:Int) (v46:Bool) (b0 b1:A8) (b2:E7) (b3:Vector UInt8 32):Option (A8 × E7):=
 sel v46 (
  (ak b0 b3).bind λr4=>
  (gm r4 v9 v2).bind λr5=>
  some (r5,(23,(Vector.replicate 32 (0:UInt8)),(0:Int),[],[],[],[],[],[],(0:Int),(Vector.replicate 32 (0:UInt8))))) (
  (ak b0 b3).bind λr6=>
  (bK r6.2.1 v1).bind λr7=>
  sel (!decide (r7.1=0)) (
   (L5 r6 b3).bind λr8=>
   some (r8,(r7.1,(Vector.replicate 32 (0:UInt8)),(0:Int),[],[],[],[],[],[],(0:Int),(Vector.replicate 32 (0:UInt8))))) (
   (bM r6 r7.2.2.2.1).bind λr9=>
   sel r9 (
    (L5 r6 b3).bind λr10=>
    some (r10,(22,(Vector.replicate 32 (0:UInt8)),(0:Int),[],[],[],[],[],[],(0:Int),(Vector.replicate 32 (0:UInt8))))) (
    (dW r6.2.2.2.2.2.1 r7.2.2.2.2 v1.length r6.1.1 r6.1.2.1).bind λr11=>
    sel (!r11.2) (
     (U8 r6 b3).bind λr12=>
     some (r12,(24,(Vector.replicate 32 (0:UInt8)),(0:Int),[],[],[],[],[],[],(0:Int),(Vector.replicate 32 (0:UInt8))))) (
     fN v1 v2 r11.1.length 0 r6 b1 b2 b3 r7 r11.1))))
def K9 (a0:A8) (a1:List UInt8) (a2:Int):Option (A8 × E7):=
 sel (decide (a0.1.2.2.1 < a1.length)) (
  some (a0,(20,(Vector.replicate 32 (0:UInt8)),(0:Int),[],[],[],[],[],[],(0:Int),(Vector.replicate 32 (0:UInt8))))) (
  (K0 a1.length).bind λr1=>
  sel (decide (a0.1.2.2.2.2.2.2.2.1 < r1)) (
   some (a0,(21,(Vector.replicate 32 (0:UInt8)),(0:Int),[],[],[],[],[],[],(0:Int),(Vector.replicate 32 (0:UInt8))))) (
   (H4 a1).bind λr2=>
   (aj a0.2.2.2.2.2.1 r2).bind λr3=>
   sel (decide (0<=r3)) (
    X1 a1 a2 r3 true a0 (((0:Int),(0:Int),(0:Int),(0:Int),(0:Int),(0:Int),false,(0:Int),(0:Int),(0:Int),(0:Int),(0:Int)),(([],(0:Int)),([],(0:Int)),([],(0:Int)),false,(0:Int)),(0:Int),(0:Int),(0:Int),[],[]) ((0:Int),(Vector.replicate 32 (0:UInt8)),(0:Int),[],[],[],[],[],[],(0:Int),(Vector.replicate 32 (0:UInt8))) r2) (
    (V2 a0.2.2.2.2.2.2 r2).bind λr17=>
    X1 a1 a2 r3 r17 a0 (((0:Int),(0:Int),(0:Int),(0:Int),(0:Int),(0:Int),false,(0:Int),(0:Int),(0:Int),(0:Int),(0:Int)),(([],(0:Int)),([],(0:Int)),([],(0:Int)),false,(0:Int)),(0:Int),(0:Int),(0:Int),[],[]) ((0:Int),(Vector.replicate 32 (0:UInt8)),(0:Int),[],[],[],[],[],[],(0:Int),(Vector.replicate 32 (0:UInt8))) r2)))
def K6 (a0:List o6):Option (List o6):=wt (u:=C7) 32 a0
def gU (a0:o8):Option (o8):=
 (K6 a0.1).bind λr1=>
 some (r1,a0.2)
def kE (a0:List UInt8):Option (List UInt8):=wt (u:= .byte) 1 a0
def lJ (a0:List Int):Option (List Int):=wt (u:=(.int .i64)) 8 a0
def nW (a0:o5):Option (o5):=
 (kE a0.2.1).bind λr1=>
 (lJ a0.2.2.2.2.2.2.2.2.2).bind λr2=>
 some (a0.1,r1,a0.2.2.1,a0.2.2.2.1,a0.2.2.2.2.1,a0.2.2.2.2.2.1,a0.2.2.2.2.2.2.1,a0.2.2.2.2.2.2.2.1,a0.2.2.2.2.2.2.2.2.1,r2)
def ka (v6:List o5) (v7 v8:Int) (l0:List o5):Option ((List o5 × Int × Int × List o5) ⊕ (List o5)):=
 sel (decide (v8 < v7)) (
  chk (decide (0<=v8/\v8 < v6.length)) <|
  (nW (v6.getD v8.toNat C0)).bind λr1=>
  chk (decide ((l0.length + 1) * 144<=LIM/\l0.length + 1<=LEN)) <|
  some (.inl (v6,v7,(A9 (v8 + 1)),(l0 ++ ([r1]:List o5))))) (
  some (.inr l0))
def pu (v6:List o5) (v7 v8:Int) (l0:List o5):=
 F8 (λv=>ka v.1 v.2.1 v.2.2.1 v.2.2.2) (v6,v7,v8,l0)
def nH (a0:List o5):Option (List o5):=
 pu a0 a0.length 0 []
def iz (a0:Int):Option (Bool):=
 some (!decide (a0=a0))
def fo (a0 a1:Int):Option (Int):=
 (iz a0).bind λr1=>
 (iz a1).bind λr2=>
 sel r1 (
  sel r2 (
   some 0) (
   some (-1))) (
  sel r2 (
   some 1) (
   sel (decide (a0 < a1)) (
    some (-1)) (
    sel (decide (a1 < a0)) (
     some 1) (
     some 0))))
def lg (a0:Int):Option (Bool):=
 some (!decide (a0=a0))
def ji (a0 a1:Int):Option (Int):=
 (lg a0).bind λr1=>
 (lg a1).bind λr2=>
 sel r1 (
  sel r2 (
   some 0) (
   some (-1))) (
  sel r2 (
   some 1) (
   sel (decide (a0 < a1)) (
    some (-1)) (
    sel (decide (a1 < a0)) (
     some 1) (
     some 0))))
def lh (v3:Int) (v6:List Int) (v7 v8:Int):Option ((Int × List Int × Int × Int) ⊕ (Int)):=
 sel (decide (v8 < v7)) (
  chk (decide (0<=v8/\v8 < v6.length)) <|
  sel (!decide ((v6.getD v8.toNat (0:Int))=v3)) (
   some (.inr (v6.getD v8.toNat (0:Int)))) (
   some (.inl (v3,v6,v7,(A9 (v8 + 1)))))) (
  some (.inr v3))
def qL (v3:Int) (v6:List Int) (v7 v8:Int):=
 F8 (λv=>lh v.1 v.2.1 v.2.2.1 v.2.2.2) (v3,v6,v7,v8)
def ow (a0:List Int):Option (Int):=
 qL 0 a0 a0.length 0
def aF (a0 a1:o5):Option (Int):=
 (fo a1.2.2.2.2.2.1 a0.2.2.2.2.2.1).bind λr1=>
 (ji a0.2.2.2.2.2.2.2.2.1 a1.2.2.2.2.2.2.2.2.1).bind λr2=>
 (ow [r1,r2]).bind λr3=>
 some r3
def L1 (v1 v2 v8 v9:Int) (l0:List o5):Option ((Int × Int × Int × Int × List o5) ⊕ ((Int × Int × Int × List o5) ⊕ (List o5))):=
 sel (decide (v1 < v9)) (
  chk (decide (0<=v9/\v9 < l0.length)) <|
  chk (decide (v9.toNat < l0.length)) <|
  chk (decide (0<=(A9 (v9 - 1))/\(A9 (v9 - 1)) < l0.length)) <|
  chk (decide ((Int.toNat (A9 (v9 - 1))) < l0.length)) <|
  (aF (l0.getD v9.toNat C0) (l0.getD (Int.toNat (A9 (v9 - 1))) C0)).bind λr1=>
  sel (decide (r1 < 0)) (
   chk (decide (0<=(A9 (v9 - 1))/\(A9 (v9 - 1)) < l0.length)) <|
   chk (decide ((Int.toNat (A9 (v9 - 1))) < l0.length)) <|
   chk (decide (0<=v9/\v9 < l0.length)) <|
   chk (decide (v9.toNat < l0.length)) <|
   chk (decide (0<=v9/\v9 < l0.length)) <|
   chk (decide (v9.toNat < l0.length)) <|
   chk (decide ((0:Int)<=(A9 (v9 - 1))/\(A9 (v9 - 1)) < (((List.length (List.set l0 v9.toNat (l0.getD (Int.toNat (A9 (v9 - 1))) C0))):Nat):Int))) <|
   chk (decide ((Int.toNat (A9 (v9 - 1))) < (List.length (List.set l0 v9.toNat (l0.getD (Int.toNat (A9 (v9 - 1))) C0))))) <|
   some (.inl (v1,v2,v8,(A9 (v9 - 1)),(List.set (List.set l0 v9.toNat (l0.getD (Int.toNat (A9 (v9 - 1))) C0)) (Int.toNat (A9 (v9 - 1))) (l0.getD v9.toNat C0))))) (
   some (.inr (.inl (v1,v2,(A9 (v8 + 1)),l0))))) (
  some (.inr (.inl (v1,v2,(A9 (v8 + 1)),l0))))
def Z9 (v1 v2 v8 v9:Int) (l0:List o5):=
 F8 (λv=>L1 v.1 v.2.1 v.2.2.1 v.2.2.2.1 v.2.2.2.2) (v1,v2,v8,v9,l0)
def L2 (v1 v2 v8:Int) (l0:List o5):Option ((Int × Int × Int × List o5) ⊕ (List o5)):=
 sel (decide (v8 < v2)) (
  Z9 v1 v2 v8 v8 l0) (
  some (.inr l0))
def aa (v1 v2 v8:Int) (l0:List o5):=
 F8 (λv=>L2 v.1 v.2.1 v.2.2.1 v.2.2.2) (v1,v2,v8,l0)
def I0 (a0:List o5) (a1 a2:Int):Option (List o5):=
 aa a1 a2 (A9 (a1 + 1)) a0
def M0 (v1 v2 v3 v10:Int) (l0:List o5):Option ((Int × Int × Int × Int × List o5) ⊕ (List o5)):=
 sel (decide (v10 < v3)) (
  chk (decide (0<=(A9 (v2 + v10))/\(A9 (v2 + v10)) < l0.length)) <|
  chk (decide ((Int.toNat (A9 (v2 + v10))) < l0.length)) <|
  chk (decide (0<=(A9 (v1 + v10))/\(A9 (v1 + v10)) < l0.length)) <|
  chk (decide ((Int.toNat (A9 (v1 + v10))) < l0.length)) <|
  chk (decide (0<=(A9 (v1 + v10))/\(A9 (v1 + v10)) < l0.length)) <|
  chk (decide ((Int.toNat (A9 (v1 + v10))) < l0.length)) <|
  chk (decide ((0:Int)<=(A9 (v2 + v10))/\(A9 (v2 + v10)) < (((List.length (List.set l0 (Int.toNat (A9 (v1 + v10))) (l0.getD (Int.toNat (A9 (v2 + v10))) C0))):Nat):Int))) <|
  chk (decide ((Int.toNat (A9 (v2 + v10))) < (List.length (List.set l0 (Int.toNat (A9 (v1 + v10))) (l0.getD (Int.toNat (A9 (v2 + v10))) C0))))) <|
  some (.inl (v1,v2,v3,(A9 (v10 + 1)),(List.set (List.set l0 (Int.toNat (A9 (v1 + v10))) (l0.getD (Int.toNat (A9 (v2 + v10))) C0)) (Int.toNat (A9 (v2 + v10))) (l0.getD (Int.toNat (A9 (v1 + v10))) C0))))) (
  some (.inr l0))
def aV (v1 v2 v3 v10:Int) (l0:List o5):=
 F8 (λv=>M0 v.1 v.2.1 v.2.2.1 v.2.2.2.1 v.2.2.2.2) (v1,v2,v3,v10,l0)
def H0 (a0:List o5) (a1 a2 a3:Int):Option (List o5):=
 aV a1 a2 a3 0 a0
def O4 (v2 v10:Int) (l0:List o5):Option (List o5):=
 (H0 l0 (A9 (v2 - v10)) v2 v10).bind λr1=>
 some r1
def O5 (v2 v10 v11:Int) (l0:List o5):Option ((Int × Int × Int × List o5) ⊕ (List o5)):=
 sel (!decide (v10=v11)) (
  sel (decide (v11 < v10)) (
   (H0 l0 (A9 (v2 - v10)) v2 v11).bind λr2=>
   some (.inl (v2,(A9 (v10 - v11)),v11,r2))) (
   (H0 l0 (A9 (v2 - v10)) (A9 ((A9 (v2 + v11)) - v10)) v10).bind λr3=>
   some (.inl (v2,v10,(A9 (v11 - v10)),r3)))) (
  Option.map .inr (
   O4 v2 v10 l0))
def cx (v2 v10 v11:Int) (l0:List o5):=
 F8 (λv=>O5 v.1 v.2.1 v.2.2.1 v.2.2.2) (v2,v10,v11,l0)
def R7 (a0:List o5) (a1 a2 a3:Int):Option (List o5):=
 cx a2 (A9 (a2 - a1)) (A9 (a3 - a2)) a0
def G7 (rec:List o5->Int->Int->Int->Option (List o5)) (v3 v18 v24:Int) (l0:List o5):Option (List o5):=
 sel (decide (v18 < v24)) (
  sel (decide (v24 < v3)) (
   (rec l0 v18 v24 v3).bind λr1=>
   some r1) (
   some l0)) (
  some l0)
def G8 (rec:List o5->Int->Int->Int->Option (List o5)) (v1 v3 v18 v20 v24:Int) (l0:List o5):Option (List o5):=
 sel (decide (v1 < v20)) (
  sel (decide (v20 < v18)) (
   (rec l0 v1 v20 v18).bind λr2=>
   G7 rec v3 v18 v24 r2) (
   G7 rec v3 v18 v24 l0)) (
  G7 rec v3 v18 v24 l0)
def M8 (rec:List o5->Int->Int->Int->Option (List o5)) (v1 v2 v3 v18 v19 v20:Int) (l0:List o5):Option (List o5):=
 sel (decide (v20 < v2)) (
  sel (decide (v2 < (A9 (v19 - v20)))) (
   (R7 l0 v20 v2 (A9 (v19 - v20))).bind λr3=>
   G8 rec v1 v3 v18 v20 (A9 (v19 - v20)) r3) (
   G8 rec v1 v3 v18 v20 (A9 (v19 - v20)) l0)) (
  G8 rec v1 v3 v18 v20 (A9 (v19 - v20)) l0)
def M9 (rec:List o5->Int->Int->Int->Option (List o5)) (v1 v2 v3 v18 v19 v20 v21 v22:Int) (l0:List o5):Option ((Int × Int × Int × Int × Int × Int × Int × Int × List o5) ⊕ (List o5)):=
 sel (decide (v20 < v21)) (
  chk (decide ((0:Int)<=(A9 (v22 - (A9 ((D7 (A9 (v20 + v21))) / 2 ^ 1))))/\(A9 (v22 - (A9 ((D7 (A9 (v20 + v21))) / 2 ^ 1)))) < ((l0.length:Nat):Int))) <|
  chk (decide ((Int.toNat (A9 (v22 - (A9 ((D7 (A9 (v20 + v21))) / 2 ^ 1))))) < l0.length)) <|
  chk (decide ((0:Int)<=(A9 ((D7 (A9 (v20 + v21))) / 2 ^ 1))/\(A9 ((D7 (A9 (v20 + v21))) / 2 ^ 1)) < ((l0.length:Nat):Int))) <|
  chk (decide ((Int.toNat (A9 ((D7 (A9 (v20 + v21))) / 2 ^ 1))) < l0.length)) <|
  (aF (l0.getD (Int.toNat (A9 (v22 - (A9 ((D7 (A9 (v20 + v21))) / 2 ^ 1))))) C0) (l0.getD (Int.toNat (A9 ((D7 (A9 (v20 + v21))) / 2 ^ 1))) C0)).bind λr4=>
  sel (!(decide (r4 < 0))) (
   some (.inl (v1,v2,v3,v18,v19,(A9 ((A9 ((D7 (A9 (v20 + v21))) / 2 ^ 1)) + 1)),v21,v22,l0))) (
   some (.inl (v1,v2,v3,v18,v19,v20,(A9 ((D7 (A9 (v20 + v21))) / 2 ^ 1)),v22,l0)))) (
  Option.map .inr (
   M8 rec v1 v2 v3 v18 v19 v20 l0))
def bA (rec:List o5->Int->Int->Int->Option (List o5)) (v1 v2 v3 v18 v19 v20 v21 v22:Int) (l0:List o5):=
 F8 (λv=>M9 rec v.1 v.2.1 v.2.2.1 v.2.2.2.1 v.2.2.2.2.1 v.2.2.2.2.2.1 v.2.2.2.2.2.2.1 v.2.2.2.2.2.2.2.1 v.2.2.2.2.2.2.2.2) (v1,v2,v3,v18,v19,v20,v21,v22,l0)
def I3 (rec:List o5->Int->Int->Int->Option (List o5)) (v1 v2 v3 v18 v19 v20 v21:Int) (l0:List o5):Option (List o5):=
 bA rec v1 v2 v3 v18 v19 v20 v21 (A9 (v19 - 1)) l0
def N0 (rec:List o5->Int->Int->Int->Option (List o5)) (v1 v2 v3:Int) (l0:List o5):Option (List o5):=
 sel (decide ((A9 ((D7 (A9 (v1 + v3))) / 2 ^ 1)) < v2)) (
  I3 rec v1 v2 v3 (A9 ((D7 (A9 (v1 + v3))) / 2 ^ 1)) (A9 ((A9 ((D7 (A9 (v1 + v3))) / 2 ^ 1)) + v2)) (A9 ((A9 ((A9 ((D7 (A9 (v1 + v3))) / 2 ^ 1)) + v2)) - v3)) (A9 ((D7 (A9 (v1 + v3))) / 2 ^ 1)) l0) (
  I3 rec v1 v2 v3 (A9 ((D7 (A9 (v1 + v3))) / 2 ^ 1)) (A9 ((A9 ((D7 (A9 (v1 + v3))) / 2 ^ 1)) + v2)) v1 v2 l0)
def N1 (_rec:List o5->Int->Int->Int->Option (List o5)) (v14 v17:Int) (l0:List o5):Option ((Int × Int × List o5) ⊕ (List o5)):=
 sel (decide (v14 < v17)) (
  chk (decide (0<=(A9 (v17 - 1))/\(A9 (v17 - 1)) < l0.length)) <|
  chk (decide ((Int.toNat (A9 (v17 - 1))) < l0.length)) <|
  chk (decide (0<=v17/\v17 < l0.length)) <|
  chk (decide (v17.toNat < l0.length)) <|
  chk (decide (0<=v17/\v17 < l0.length)) <|
  chk (decide (v17.toNat < l0.length)) <|
  chk (decide ((0:Int)<=(A9 (v17 - 1))/\(A9 (v17 - 1)) < (((List.length (List.set l0 v17.toNat (l0.getD (Int.toNat (A9 (v17 - 1))) C0))):Nat):Int))) <|
  chk (decide ((Int.toNat (A9 (v17 - 1))) < (List.length (List.set l0 v17.toNat (l0.getD (Int.toNat (A9 (v17 - 1))) C0))))) <|
  some (.inl (v14,(A9 (v17 - 1)),(List.set (List.set l0 v17.toNat (l0.getD (Int.toNat (A9 (v17 - 1))) C0)) (Int.toNat (A9 (v17 - 1))) (l0.getD v17.toNat C0))))) (
  some (.inr l0))
def bB (rec:List o5->Int->Int->Int->Option (List o5)) (v14 v17:Int) (l0:List o5):=
 F8 (λv=>N1 rec v.1 v.2.1 v.2.2) (v14,v17,l0)
def N2 (rec:List o5->Int->Int->Int->Option (List o5)) (v2 v14:Int) (l0:List o5):Option (List o5):=
 bB rec v14 v2 l0
def M1 (rec:List o5->Int->Int->Int->Option (List o5)) (v2 v14 v15:Int) (l0:List o5):Option ((Int × Int × Int × List o5) ⊕ (List o5)):=
 sel (decide (v14 < v15)) (
  chk (decide (0<=v2/\v2 < l0.length)) <|
  chk (decide (v2.toNat < l0.length)) <|
  chk (decide ((0:Int)<=(A9 ((D7 (A9 (v14 + v15))) / 2 ^ 1))/\(A9 ((D7 (A9 (v14 + v15))) / 2 ^ 1)) < ((l0.length:Nat):Int))) <|
  chk (decide ((Int.toNat (A9 ((D7 (A9 (v14 + v15))) / 2 ^ 1))) < l0.length)) <|
  (aF (l0.getD v2.toNat C0) (l0.getD (Int.toNat (A9 ((D7 (A9 (v14 + v15))) / 2 ^ 1))) C0)).bind λr5=>
  sel (!(decide (r5 < 0))) (
   some (.inl (v2,(A9 ((A9 ((D7 (A9 (v14 + v15))) / 2 ^ 1)) + 1)),v15,l0))) (
   some (.inl (v2,v14,(A9 ((D7 (A9 (v14 + v15))) / 2 ^ 1)),l0)))) (
  Option.map .inr (
   N2 rec v2 v14 l0))
def aW (rec:List o5->Int->Int->Int->Option (List o5)) (v2 v14 v15:Int) (l0:List o5):=
 F8 (λv=>M1 rec v.1 v.2.1 v.2.2.1 v.2.2.2) (v2,v14,v15,l0)
def N3 (rec:List o5->Int->Int->Int->Option (List o5)) (v1 v2 v3:Int) (l0:List o5):Option (List o5):=
 sel (decide ((A9 (v3 - v2))=1)) (
  aW rec v2 v1 v2 l0) (
  N0 rec v1 v2 v3 l0)
def M2 (_rec:List o5->Int->Int->Int->Option (List o5)) (v10 v13:Int) (l0:List o5):Option ((Int × Int × List o5) ⊕ (List o5)):=
 sel (decide (v13 < (A9 (v10 - 1)))) (
  chk (decide (0<=(A9 (v13 + 1))/\(A9 (v13 + 1)) < l0.length)) <|
  chk (decide ((Int.toNat (A9 (v13 + 1))) < l0.length)) <|
  chk (decide (0<=v13/\v13 < l0.length)) <|
  chk (decide (v13.toNat < l0.length)) <|
  chk (decide (0<=v13/\v13 < l0.length)) <|
  chk (decide (v13.toNat < l0.length)) <|
  chk (decide ((0:Int)<=(A9 (v13 + 1))/\(A9 (v13 + 1)) < (((List.length (List.set l0 v13.toNat (l0.getD (Int.toNat (A9 (v13 + 1))) C0))):Nat):Int))) <|
  chk (decide ((Int.toNat (A9 (v13 + 1))) < (List.length (List.set l0 v13.toNat (l0.getD (Int.toNat (A9 (v13 + 1))) C0))))) <|
  some (.inl (v10,(A9 (v13 + 1)),(List.set (List.set l0 v13.toNat (l0.getD (Int.toNat (A9 (v13 + 1))) C0)) (Int.toNat (A9 (v13 + 1))) (l0.getD v13.toNat C0))))) (
  some (.inr l0))
def aX (rec:List o5->Int->Int->Int->Option (List o5)) (v10 v13:Int) (l0:List o5):=
 F8 (λv=>M2 rec v.1 v.2.1 v.2.2) (v10,v13,l0)
def M3 (rec:List o5->Int->Int->Int->Option (List o5)) (v1 v10:Int) (l0:List o5):Option (List o5):=
 aX rec v10 v1 l0
def M4 (rec:List o5->Int->Int->Int->Option (List o5)) (v1 v10 v11:Int) (l0:List o5):Option ((Int × Int × Int × List o5) ⊕ (List o5)):=
 sel (decide (v10 < v11)) (
  chk (decide ((0:Int)<=(A9 ((D7 (A9 (v10 + v11))) / 2 ^ 1))/\(A9 ((D7 (A9 (v10 + v11))) / 2 ^ 1)) < ((l0.length:Nat):Int))) <|
  chk (decide ((Int.toNat (A9 ((D7 (A9 (v10 + v11))) / 2 ^ 1))) < l0.length)) <|
  chk (decide (0<=v1/\v1 < l0.length)) <|
  chk (decide (v1.toNat < l0.length)) <|
  (aF (l0.getD (Int.toNat (A9 ((D7 (A9 (v10 + v11))) / 2 ^ 1))) C0) (l0.getD v1.toNat C0)).bind λr6=>
  sel (decide (r6 < 0)) (
   some (.inl (v1,(A9 ((A9 ((D7 (A9 (v10 + v11))) / 2 ^ 1)) + 1)),v11,l0))) (
   some (.inl (v1,v10,(A9 ((D7 (A9 (v10 + v11))) / 2 ^ 1)),l0)))) (
  Option.map .inr (
   M3 rec v1 v10 l0))
def aY (rec:List o5->Int->Int->Int->Option (List o5)) (v1 v10 v11:Int) (l0:List o5):=
 F8 (λv=>M4 rec v.1 v.2.1 v.2.2.1 v.2.2.2) (v1,v10,v11,l0)
def aZ (rec:List o5->Int->Int->Int->Option (List o5)) (a0:List o5) (a1 a2 a3:Int):Option (List o5):=
 sel (decide ((A9 (a2 - a1))=1)) (
  aY rec a1 a2 a3 a0) (
  N3 rec a1 a2 a3 a0)
def B7 (n:Nat):List o5->Int->Int->Int->Option (List o5):=Nat.rec (motive:=λ_=>List o5->Int->Int->Int->Option (List o5)) (λ_ _ _ _=>none) (λ_ ih=>aZ ih) n
def O6 (v1 v6 v7:Int) (l0:List o5):Option ((Int × Int × List o5) ⊕ (List o5)):=
 sel (decide ((A9 (v7 + v6)) < v1)) (
  (B7 Fu.n l0 v7 (A9 (v7 + v6)) v1).bind λr2=>
  some (.inl (v1,(A9 (v6 * 2)),r2))) (
  some (.inl (v1,(A9 (v6 * 2)),l0)))
def O7 (v1 v6 v7 v8:Int) (l0:List o5):Option ((Int × Int × Int × Int × List o5) ⊕ ((Int × Int × List o5) ⊕ (List o5))):=
 sel (decide (v8<=v1)) (
  (B7 Fu.n l0 v7 (A9 (v7 + v6)) v8).bind λr3=>
  some (.inl (v1,v6,v8,(A9 (v8 + (A9 (2 * v6)))),r3))) (
  Option.map .inr (
   O6 v1 v6 v7 l0))
def cy (v1 v6 v7 v8:Int) (l0:List o5):=
 F8 (λv=>O7 v.1 v.2.1 v.2.2.1 v.2.2.2.1 v.2.2.2.2) (v1,v6,v7,v8,l0)
def O8 (v1 v6:Int) (l0:List o5):Option ((Int × Int × List o5) ⊕ (List o5)):=
 sel (decide (v6 < v1)) (
  cy v1 v6 0 (A9 (2 * v6)) l0) (
  some (.inr l0))
def cz (v1 v6:Int) (l0:List o5):=
 F8 (λv=>O8 v.1 v.2.1 v.2.2) (v1,v6,l0)
def O9 (v1 v6 v7:Int) (l0:List o5):Option (List o5):=
 (I0 l0 v7 v1).bind λr1=>
 cz v1 v6 r1
def P0 (v1 v6 v7 v8:Int) (l0:List o5):Option ((Int × Int × Int × Int × List o5) ⊕ (List o5)):=
 sel (decide (v8<=v1)) (
  (I0 l0 v7 v8).bind λr4=>
  some (.inl (v1,v6,v8,(A9 (v8 + v6)),r4))) (
  Option.map .inr (
   O9 v1 v6 v7 l0))
def cA (v1 v6 v7 v8:Int) (l0:List o5):=
 F8 (λv=>P0 v.1 v.2.1 v.2.2.1 v.2.2.2.1 v.2.2.2.2) (v1,v6,v7,v8,l0)
def R8 (a0:List o5) (a1:Int):Option (List o5):=
 cA a1 20 0 20 a0
def H6 (a0:List o5):Option (List o5):=
 (R8 a0 a0.length).bind λr1=>
 some r1
def nI (a0:List o5):Option (List o5):=
 (nH a0).bind λr1=>
 (H6 r1).bind λr2=>
 some r2
def nk (v0 v3:Int):Option ((Int × Int) ⊕ (Int)):=
 sel (decide (128<=v0)) (
  some (.inl ((v0 / 2 ^ 7),(A9 (v3 + 1))))) (
  some (.inr v3))
def pw (v0 v3:Int):=
 F8 (λv=>nk v.1 v.2) (v0,v3)
def nJ (a0:Int):Option (Int):=
 pw a0 1
def gV (a0:Int):Option (Int):=
 sel (decide (a0 < 0)) (
  some 0) (
  (nJ (D7 a0)).bind λr1=>
  some (A9 ((A9 (1 + r1)) + a0)))
def ox (a0:o8):Option (List o6 × Int):=
 (K6 a0.1).bind λr1=>
 some (r1,a0.2)
def oR (v0:List UInt8):Option (Bool):=
 sel (decide (1<=((v0.length:Nat):Int))) (
  some (decide (((v0.length:Nat):Int)<=20))) (
  some false)
def jM (v0:List UInt8) (v6 v7:Int):Option ((List UInt8 × Int × Int) ⊕ (Bool)):=
 sel (decide (v7 < v6)) (
  chk (decide (0<=v7/\v7 < v0.length)) <|
  sel (decide (((UInt8.toNat (v0.getD v7.toNat (0:UInt8)):Nat):Int) < 97)) (
   sel (decide (((UInt8.toNat (v0.getD v7.toNat (0:UInt8)):Nat):Int) < 48)) (
    sel (!decide (((UInt8.toNat (v0.getD v7.toNat (0:UInt8)):Nat):Int)=45)) (
     some (.inr false)) (
     some (.inl (v0,v6,(A9 (v7 + 1)))))) (
    sel (decide (57 < ((UInt8.toNat (v0.getD v7.toNat (0:UInt8)):Nat):Int))) (
     sel (!decide (((UInt8.toNat (v0.getD v7.toNat (0:UInt8)):Nat):Int)=45)) (
      some (.inr false)) (
      some (.inl (v0,v6,(A9 (v7 + 1)))))) (
     some (.inl (v0,v6,(A9 (v7 + 1))))))) (
   sel (decide (122 < ((UInt8.toNat (v0.getD v7.toNat (0:UInt8)):Nat):Int))) (
    sel (decide (((UInt8.toNat (v0.getD v7.toNat (0:UInt8)):Nat):Int) < 48)) (
     sel (!decide (((UInt8.toNat (v0.getD v7.toNat (0:UInt8)):Nat):Int)=45)) (
      some (.inr false)) (
      some (.inl (v0,v6,(A9 (v7 + 1)))))) (
     sel (decide (57 < ((UInt8.toNat (v0.getD v7.toNat (0:UInt8)):Nat):Int))) (
      sel (!decide (((UInt8.toNat (v0.getD v7.toNat (0:UInt8)):Nat):Int)=45)) (
       some (.inr false)) (
       some (.inl (v0,v6,(A9 (v7 + 1)))))) (
      some (.inl (v0,v6,(A9 (v7 + 1))))))) (
    some (.inl (v0,v6,(A9 (v7 + 1))))))) (
  Option.map .inr (
   oR v0))
def rA (v0:List UInt8) (v6 v7:Int):=
 F8 (λv=>jM v.1 v.2.1 v.2.2) (v0,v6,v7)
def ma (a0:List UInt8):Option (Bool):=
 rA a0 a0.length 0
def mu (v4:Int) (v9:List Int) (v10 v11:Int):Option ((Int × List Int × Int × Int) ⊕ (Int × Bool)):=
 sel (decide (v11 < v10)) (
  chk (decide (0<=v11/\v11 < v9.length)) <|
  (lZ v4 (v9.getD v11.toNat (0:Int))).bind λr1=>
  sel (!r1.2) (
   some (.inr (0,false))) (
   some (.inl (r1.1,v9,v10,(A9 (v11 + 1)))))) (
  some (.inr (v4,true)))
def rB (v4:Int) (v9:List Int) (v10 v11:Int):=
 F8 (λv=>mu v.1 v.2.1 v.2.2.1 v.2.2.2) (v4,v9,v10,v11)
def mc (a0:List Int):Option (Int × Bool):=
 rB 0 a0 a0.length 0
def mf (l0:List Int):Option (Int × Bool):=
 (mc l0).bind λr1=>
 some (r1.1,r1.2)
def jj (v11:List o6) (v12 v13:Int) (l0:List Int):Option ((List o6 × Int × Int × List Int) ⊕ (Int × Bool)):=
 sel (decide (v13 < v12)) (
  chk (decide (0<=v13/\v13 < v11.length)) <|
  chk (decide ((l0.length + 1) * 8<=LIM/\l0.length + 1<=LEN)) <|
  some (.inl (v11,v12,(A9 (v13 + 1)),(l0 ++ [(v11.getD v13.toNat B0).2.1])))) (
  Option.map .inr (
   mf l0))
def oy (v11:List o6) (v12 v13:Int) (l0:List Int):=
 F8 (λv=>jj v.1 v.2.1 v.2.2.1 v.2.2.2) (v11,v12,v13,l0)
def mv (a0:o8):Option (Int × Bool):=
 oy a0.1 a0.1.length 0 [a0.2]
def jD (b0:o8):Option (Int):=
 (mv b0).bind λr1=>
 sel (!r1.2) (
  some 6) (
  some 0)
def bN (v3:Int) (v12:List o6) (v13 v14:Int) (v24:Bool) (b0:o8) (b1:o6):Option ((List o6 × Int × Int × o8) ⊕ (Int)):=
 sel v24 (
  some (.inr 8)) (
  sel (decide (0 < v3)) (
   chk (decide (0<=(A9 (v3 - 1))/\(A9 (v3 - 1)) < b0.1.length)) <|
   sel (!(Op.bytesLess (b0.1.getD (Int.toNat (A9 (v3 - 1))) B0).1 b1.1 || decide ((b0.1.getD (Int.toNat (A9 (v3 - 1))) B0).1=b1.1))) (
    some (.inr 1)) (
    some (.inl (v12,v13,(A9 (v14 + 1)),b0)))) (
   some (.inl (v12,v13,(A9 (v14 + 1)),b0))))
def fp (v12:List o6) (v13 v14:Int) (b0:o8):Option ((List o6 × Int × Int × o8) ⊕ (Int)):=
 sel (decide (v14 < v13)) (
  chk (decide (0<=v14/\v14 < v12.length)) <|
  (ma (v12.getD v14.toNat B0).1).bind λr2=>
  sel (!r2) (
   some (.inr 10)) (
   sel (decide (0 < v14)) (
    chk (decide (0<=(A9 (v14 - 1))/\(A9 (v14 - 1)) < b0.1.length)) <|
    bN v14 v12 v13 v14 (decide ((b0.1.getD (Int.toNat (A9 (v14 - 1))) B0).1=(v12.getD v14.toNat B0).1)) b0 (v12.getD v14.toNat B0)) (
    bN v14 v12 v13 v14 false b0 (v12.getD v14.toNat B0)))) (
  Option.map .inr (
   jD b0))
def mO (v12:List o6) (v13 v14:Int) (b0:o8):=
 F8 (λv=>fp v.1 v.2.1 v.2.2.1 v.2.2.2) (v12,v13,v14,b0)
def jk (a0:o8):Option (Int):=
 sel (decide (256 < ((a0.1.length:Nat):Int))) (
  some 3) (
  mO a0.1 a0.1.length 0 a0)
def nl (v0:List UInt8) (v2 v5:Int):Option ((List UInt8 × Int × Int) ⊕ (Int × Int × Int)):=
 chk (decide (0<=v5/\v5 < v0.length)) <|
 chk (decide ((0:Int)<=(A9 (7 * v5)))) <|
 chk (decide (0<=v5/\v5 < v0.length)) <|
 sel (decide (((UInt8.toNat (v0.getD v5.toNat (0:UInt8)):Nat):Int) < 128)) (
  some (.inr ((bits .or .u64 v2 (D7 ((D7 (bits .and .u8 ((UInt8.toNat (v0.getD v5.toNat (0:UInt8)):Nat):Int) 127)) * 2 ^ (min (Int.toNat (A9 (7 * v5))) 64)))),(A9 (v5 + 1)),0))) (
  some (.inl (v0,(bits .or .u64 v2 (D7 ((D7 (bits .and .u8 ((UInt8.toNat (v0.getD v5.toNat (0:UInt8)):Nat):Int) 127)) * 2 ^ (min (Int.toNat (A9 (7 * v5))) 64)))),(A9 (v5 + 1)))))
def nm (v0:List UInt8) (v2 v5:Int) (v13:Bool):Option ((List UInt8 × Int × Int) ⊕ (Int × Int × Int)):=
 sel v13 (
  some (.inr (0,0,6))) (
  sel (decide (0 < v5)) (
   chk (decide (0<=v5/\v5 < v0.length)) <|
   sel (decide (((UInt8.toNat (v0.getD v5.toNat (0:UInt8)):Nat):Int)=0)) (
    some (.inr (0,0,4))) (
    nl v0 v2 v5)) (
   nl v0 v2 v5))
def qM (v0:List UInt8) (v2 v5:Int):Option ((List UInt8 × Int × Int) ⊕ (Int × Int × Int)):=
 sel (decide (((v0.length:Nat):Int)<=v5)) (
  some (.inr (0,0,5))) (
  sel (decide (v5=9)) (
   chk (decide (0<=v5/\v5 < v0.length)) <|
   nm v0 v2 v5 (decide (1 < ((UInt8.toNat (v0.getD v5.toNat (0:UInt8)):Nat):Int)))) (
   nm v0 v2 v5 false))
def vO (v0:List UInt8) (v2 v5:Int):=
 F8 (λv=>qM v.1 v.2.1 v.2.2) (v0,v2,v5)
def jl (a0:List UInt8):Option (Int × Int × Int):=
 vO a0 0 0
def eQ (v0:List UInt8) (v3 v6 v7:Int) (_b0:A6):Option (A6 × Int × Int):=
 chk (decide ((0:Int)<=v3/\v3<=((v0.length:Nat):Int)/\((v0.length:Nat):Int)<=((v0.length:Nat):Int))) <|
 (jl (List.drop v3.toNat (List.take (Int.toNat v0.length) v0))).bind λr2=>
 sel (!decide (r2.2.2=0)) (
  some (((0:Int),(0:Int),(0:Int),[]),0,r2.2.2)) (
  sel (decide (v6=0)) (
   some (((A9 v7),v6,r2.1,[]),(A9 (v3 + r2.2.1)),0)) (
   chk (decide ((0:Int)<=(A9 (v3 + r2.2.1))/\(A9 (v3 + r2.2.1))<=((v0.length:Nat):Int)/\((v0.length:Nat):Int)<=((v0.length:Nat):Int))) <|
   sel (decide ((D7 (((List.length (List.drop (Int.toNat (A9 (v3 + r2.2.1))) (List.take (Int.toNat v0.length) v0))):Nat):Int)) < r2.1)) (
    some (((0:Int),(0:Int),(0:Int),[]),0,5)) (
    chk (decide ((0:Int)<=0/\0<=r2.1/\r2.1<=(((List.length (List.drop (Int.toNat (A9 (v3 + r2.2.1))) (List.take (Int.toNat v0.length) v0))):Nat):Int))) <|
    chk (decide ((List.length (List.take r2.1.toNat (List.drop (Int.toNat (A9 (v3 + r2.2.1))) (List.take (Int.toNat v0.length) v0)))) * 1<=LIM/\(List.length (List.take r2.1.toNat (List.drop (Int.toNat (A9 (v3 + r2.2.1))) (List.take (Int.toNat v0.length) v0))))<=LEN)) <|
    some (((A9 v7),v6,(0:Int),(List.take r2.1.toNat (List.drop (Int.toNat (A9 (v3 + r2.2.1))) (List.take (Int.toNat v0.length) v0)))),(A9 ((A9 (v3 + r2.2.1)) + (A9 r2.1))),0))))
def mh (a0:List UInt8):Option (A6 × Int × Int):=
 (jl a0).bind λr1=>
 sel (!decide (r1.2.2=0)) (
  some (((0:Int),(0:Int),(0:Int),[]),0,r1.2.2)) (
  sel (decide ((r1.1 / 2 ^ 3) < 1)) (
   some (((0:Int),(0:Int),(0:Int),[]),0,4)) (
   sel (decide (536870911 < (r1.1 / 2 ^ 3))) (
    some (((0:Int),(0:Int),(0:Int),[]),0,4)) (
    sel (!decide ((A9 (bits .and .u64 r1.1 7))=0)) (
     sel (!decide ((A9 (bits .and .u64 r1.1 7))=2)) (
      some (((0:Int),(0:Int),(0:Int),[]),0,4)) (
      eQ a0 r1.2.1 (A9 (bits .and .u64 r1.1 7)) (r1.1 / 2 ^ 3) ((0:Int),(0:Int),(0:Int),[]))) (
     eQ a0 r1.2.1 (A9 (bits .and .u64 r1.1 7)) (r1.1 / 2 ^ 3) ((0:Int),(0:Int),(0:Int),[])))))
def nn (l0:List A6):Option (List A6 × Int × Int):=
 some (l0,0,0)
def bC (v0:List UInt8) (v3:Int) (l0:List A6):Option ((List UInt8 × Int × List A6) ⊕ (List A6 × Int × Int)):=
 sel (decide (v3 < v0.length)) (
  sel (decide (((l0.length:Nat):Int)=1024)) (
   some (.inr ([],v3,3))) (
   chk (decide ((0:Int)<=v3/\v3<=((v0.length:Nat):Int)/\((v0.length:Nat):Int)<=((v0.length:Nat):Int))) <|
   (mh (List.drop v3.toNat (List.take (Int.toNat v0.length) v0))).bind λr1=>
   sel (!decide (r1.2.2=0)) (
    some (.inr ([],v3,r1.2.2))) (
    chk (decide ((l0.length + 1) * 48<=LIM/\l0.length + 1<=LEN)) <|
    some (.inl (v0,(A9 (v3 + r1.2.1)),(l0 ++ ([r1.1]:List A6))))))) (
  Option.map .inr (
   nn l0))
def mi (v0:List UInt8) (v3:Int) (l0:List A6):=
 F8 (λv=>bC v.1 v.2.1 v.2.2) (v0,v3,l0)
def gw (a0:List UInt8):Option (List A6 × Int × Int):=
 mi a0 0 []
def kb (v16 v17:Int) (b0 b1:A0) (l0:List A6):Option ((Int × Int × A0 × A0 × List A6) ⊕ (A0)):=
 sel (decide (v17 < v16)) (
  chk (decide (0<=v17/\v17 < l0.length)) <|
  chk (decide (v17.toNat < l0.length)) <|
  sel (decide ((l0.getD v17.toNat E4).1=1)) (
   some (.inl (v16,(A9 (v17 + 1)),b0,((l0.getD v17.toNat E4).2.2.2,b1.2),l0))) (
   sel (decide ((l0.getD v17.toNat E4).1=2)) (
    some (.inl (v16,(A9 (v17 + 1)),b0,(b1.1,(l0.getD v17.toNat E4).2.2.1),l0))) (
    some (.inl (v16,(A9 (v17 + 1)),b0,b1,l0))))) (
  some (.inr b1))
def px (v16 v17:Int) (b0 b1:A0) (l0:List A6):=
 F8 (λv=>kb v.1 v.2.1 v.2.2.1 v.2.2.2.1 v.2.2.2.2) (v16,v17,b0,b1,l0)
def li (a0:List UInt8):Option (A0):=
 (gw a0).bind λr1=>
 px r1.1.length 0 ([],(0:Int)) ([],(0:Int)) r1.1
def oz (v6:List A6) (v7 v8:Int) (b0_0:List UInt8) (b0_1 b0_2 b0_3:Int) (b0_4 b1_0:List UInt8) (b1_1 b1_2 b1_3:Int) (b1_4:List UInt8) (l0:List A0):Option ((List A6 × Int × Int × List UInt8 × Int × Int × Int × List UInt8 × List UInt8 × Int × Int × Int × List UInt8 × List A0) ⊕ (C5)):=
 sel (decide (v8 < v7)) (
  chk (decide (0<=v8/\v8 < v6.length)) <|
  sel (decide ((v6.getD v8.toNat E4).1=1)) (
   some (.inl (v6,v7,(A9 (v8 + 1)),b0_0,b0_1,b0_2,b0_3,b0_4,(v6.getD v8.toNat E4).2.2.2,b1_1,b1_2,b1_3,b1_4,l0))) (
   sel (decide ((v6.getD v8.toNat E4).1=2)) (
    some (.inl (v6,v7,(A9 (v8 + 1)),b0_0,b0_1,b0_2,b0_3,b0_4,b1_0,(v6.getD v8.toNat E4).2.2.1,b1_2,b1_3,b1_4,l0))) (
    sel (decide ((v6.getD v8.toNat E4).1=3)) (
     some (.inl (v6,v7,(A9 (v8 + 1)),b0_0,b0_1,b0_2,b0_3,b0_4,b1_0,b1_1,(v6.getD v8.toNat E4).2.2.1,b1_3,b1_4,l0))) (
     sel (decide ((v6.getD v8.toNat E4).1=4)) (
      some (.inl (v6,v7,(A9 (v8 + 1)),b0_0,b0_1,b0_2,b0_3,b0_4,b1_0,b1_1,b1_2,(v6.getD v8.toNat E4).2.2.1,b1_4,l0))) (
      sel (decide ((v6.getD v8.toNat E4).1=5)) (
       some (.inl (v6,v7,(A9 (v8 + 1)),b0_0,b0_1,b0_2,b0_3,b0_4,b1_0,b1_1,b1_2,b1_3,(v6.getD v8.toNat E4).2.2.2,l0))) (
       sel (decide ((v6.getD v8.toNat E4).1=6)) (
        (li (v6.getD v8.toNat E4).2.2.2).bind λr1=>
        chk (decide ((l0.length + 1) * 24<=LIM/\l0.length + 1<=LEN)) <|
        some (.inl (v6,v7,(A9 (v8 + 1)),b0_0,b0_1,b0_2,b0_3,b0_4,b1_0,b1_1,b1_2,b1_3,b1_4,(l0 ++ ([r1]:List A0))))) (
        some (.inl (v6,v7,(A9 (v8 + 1)),b0_0,b0_1,b0_2,b0_3,b0_4,b1_0,b1_1,b1_2,b1_3,b1_4,l0))))))))) (
  some (.inr (b1_0,b1_1,b1_2,b1_3,b1_4,l0)))
def vd (v6:List A6) (v7 v8:Int) (b0_0:List UInt8) (b0_1 b0_2 b0_3:Int) (b0_4 b1_0:List UInt8) (b1_1 b1_2 b1_3:Int) (b1_4:List UInt8) (l0:List A0):=
 F8 (λv=>oz v.1 v.2.1 v.2.2.1 v.2.2.2.1 v.2.2.2.2.1 v.2.2.2.2.2.1 v.2.2.2.2.2.2.1 v.2.2.2.2.2.2.2.1 v.2.2.2.2.2.2.2.2.1 v.2.2.2.2.2.2.2.2.2.1 v.2.2.2.2.2.2.2.2.2.2.1 v.2.2.2.2.2.2.2.2.2.2.2.1 v.2.2.2.2.2.2.2.2.2.2.2.2.1 v.2.2.2.2.2.2.2.2.2.2.2.2.2) (v6,v7,v8,b0_0,b0_1,b0_2,b0_3,b0_4,b1_0,b1_1,b1_2,b1_3,b1_4,l0)
def ve (a0:List A6):Option (C5):=
 vd a0 a0.length 0 [] (0:Int) (0:Int) (0:Int) [] [] (0:Int) (0:Int) (0:Int) [] []
def mP (a0:A6):Option (Bool):=
 sel (decide (a0.1 < 1)) (
  some false) (
  sel (decide (536870911 < a0.1)) (
   some false) (
   sel (decide (a0.2.1=0)) (
    sel (decide (((a0.2.2.2.length:Nat):Int)=0)) (
     some true) (
     sel (decide (a0.2.1=2)) (
      some (decide (a0.2.2.1=0))) (
      some false))) (
    sel (decide (a0.2.1=2)) (
     some (decide (a0.2.2.1=0))) (
     some false))))
def sC (a0:A6):Option (Int):=
 some (D7 (A9 ((A9 (8 * a0.1)) + a0.2.1)))
def oA (v1:Int) (l0:List UInt8):Option (List UInt8):=
 chk (decide ((0:Int)<=(wu8 v1)/\(wu8 v1) < 256)) <|
 chk (decide ((l0.length + 1) * 1<=LIM/\l0.length + 1<=LEN)) <|
 some (l0 ++ [(UInt8.ofNat (Int.toNat (wu8 v1)))])
def oB (v1:Int) (l0:List UInt8):Option ((Int × List UInt8) ⊕ (List UInt8)):=
 sel (decide (128<=v1)) (
  chk (decide ((0:Int)<=(bits .or .u8 (wu8 v1) 128)/\(bits .or .u8 (wu8 v1) 128) < 256)) <|
  chk (decide ((l0.length + 1) * 1<=LIM/\l0.length + 1<=LEN)) <|
  some (.inl ((v1 / 2 ^ 7),(l0 ++ [(UInt8.ofNat (Int.toNat (bits .or .u8 (wu8 v1) 128)))])))) (
  Option.map .inr (
   oA v1 l0))
def tZ (v1:Int) (l0:List UInt8):=
 F8 (λv=>oB v.1 v.2) (v1,l0)
def fO (a0:List UInt8) (a1:Int):Option (List UInt8):=
 chk (decide (a0.length * 1<=LIM/\a0.length<=LEN)) <|
 tZ a1 a0
def cB (a0:List UInt8) (a1:A6):Option (List UInt8 × Int):=
 (mP a1).bind λr1=>
 sel (!r1) (
  some ([],1)) (
  (sC a1).bind λr2=>
  (fO a0 r2).bind λr3=>
  sel (decide (a1.2.1=0)) (
   (fO r3 a1.2.2.1).bind λr4=>
   some (r4,0)) (
   (fO r3 (D7 a1.2.2.2.length)).bind λr5=>
   chk (decide ((r5.length + a1.2.2.2.length) * 1<=LIM/\r5.length + a1.2.2.2.length<=LEN)) <|
   some ((r5 ++ a1.2.2.2),0)))
def R4 (a0:List UInt8) (a1:Int) (a2:List UInt8):Option (List UInt8):=
 sel (decide (a2=[])) (
  some a0) (
  chk (decide (a2.length<=maxLen)) <|
  (cB [] (a1,2,(0:Int),a2)).bind λr1=>
  chk (decide ((a0.length + r1.1.length) * 1<=LIM/\a0.length + r1.1.length<=LEN)) <|
  some (a0 ++ r1.1))
def L8 (a0:List UInt8) (a1 a2:Int):Option (List UInt8):=
 sel (decide (a2=0)) (
  some a0) (
  (cB [] (a1,0,a2,[])).bind λr1=>
  chk (decide ((a0.length + r1.1.length) * 1<=LIM/\a0.length + r1.1.length<=LEN)) <|
  some (a0 ++ r1.1))
def bf (a0:List UInt8) (a1:Int) (a2:List UInt8):Option (List UInt8):=
 (cB [] (a1,2,(0:Int),a2)).bind λr1=>
 chk (decide ((a0.length + r1.1.length) * 1<=LIM/\a0.length + r1.1.length<=LEN)) <|
 some (a0 ++ r1.1)
def lj (v28:List A0) (v29 v30:Int) (l0:List UInt8):Option ((List A0 × Int × Int × List UInt8) ⊕ (List UInt8)):=
 sel (decide (v30 < v29)) (
  chk (decide (0<=v30/\v30 < v28.length)) <|
  (R4 [] 1 (v28.getD v30.toNat H5).1).bind λr6=>
  (L8 r6 2 (v28.getD v30.toNat H5).2).bind λr7=>
  (bf l0 6 r7).bind λr8=>
  some (.inl (v28,v29,(A9 (v30 + 1)),r8))) (
  some (.inr l0))
def qN (v28:List A0) (v29 v30:Int) (l0:List UInt8):=
 F8 (λv=>lj v.1 v.2.1 v.2.2.1 v.2.2.2) (v28,v29,v30,l0)
def oC (a0:C5):Option (List UInt8):=
 (R4 [] 1 a0.1).bind λr1=>
 (L8 r1 2 a0.2.1).bind λr2=>
 (L8 r2 3 a0.2.2.1).bind λr3=>
 (L8 r3 4 a0.2.2.2.1).bind λr4=>
 (R4 r4 5 a0.2.2.2.2.1).bind λr5=>
 qN a0.2.2.2.2.2 a0.2.2.2.2.2.length 0 r5
def qj (a0 a1:List UInt8):Option (Bool):=
 some (decide (a0=a1))
def oS (v0:List UInt8) (v3:Int) (l0:List (List UInt8 × Int)):Option ((List UInt8 × Int × List (List UInt8 × Int)) ⊕ (Bool)):=
 chk (Nat.beq l0.length 1) <|
 sel (decide (Int.toNat (gT l0).2 < List.length (gT l0).1)) (
  chk ((decide (Int.toNat (gT l0).2 < List.length (gT l0).1))) <|
  chk ((decide (Int.toNat (gT l0).2 < List.length (gT l0).1))) <|
  chk (decide ((0:Int)<=(gT l0).2/\(gT l0).2<=((v0.length:Nat):Int)/\((v0.length:Nat):Int)<=((v0.length:Nat):Int))) <|
  (N7 (List.drop (Int.toNat (gT l0).2) (List.take (Int.toNat v0.length) v0))).bind λr1=>
  sel (decide ((MT (gT l0).1 (gT l0).2)=65533)) (
   sel (decide (r1.2=1)) (
    some (.inr false)) (
    some (.inl (v0,(A9 (v3 + 1)),[((gT l0).1,(FI (gT l0).1 (gT l0).2))])))) (
   some (.inl (v0,(A9 (v3 + 1)),[((gT l0).1,(FI (gT l0).1 (gT l0).2))])))) (
  some (.inr (decide (v3<=64))))
def rC (v0:List UInt8) (v3:Int) (l0:List (List UInt8 × Int)):=
 F8 (λv=>oS v.1 v.2.1 v.2.2) (v0,v3,l0)
def ql (a0:List UInt8):Option (Bool):=
 rC a0 0 [(a0,(0:Int))]
def kc (v31:List A0) (v32 v33:Int):Option ((List A0 × Int × Int) ⊕ (Int)):=
 sel (decide (v33 < v32)) (
  chk (decide (0<=v33/\v33 < v31.length)) <|
  (ma (v31.getD v33.toNat H5).1).bind λr3=>
  sel (!r3) (
   some (.inr 10)) (
   sel (decide ((v31.getD v33.toNat H5).2=0)) (
    some (.inr 12)) (
    some (.inl (v31,v32,(A9 (v33 + 1))))))) (
  some (.inr 0))
def mj (v31:List A0) (v32 v33:Int):=
 F8 (λv=>kc v.1 v.2.1 v.2.2) (v31,v32,v33)
def nK (a0:C5):Option (Int):=
 (ma a0.1).bind λr1=>
 sel (!r1) (
  some 10) (
  sel (decide (a0.2.2.1=0)) (
   some 15) (
   (ql a0.2.2.2.2.1).bind λr2=>
   sel (!r2) (
    some 11) (
    sel (decide (((a0.2.2.2.2.2.length:Nat):Int)=0)) (
     some 3) (
     sel (decide (16 < ((a0.2.2.2.2.2.length:Nat):Int))) (
      some 3) (
      mj a0.2.2.2.2.2 a0.2.2.2.2.2.length 0)))))
def ml (a0:List UInt8):Option (C5 × Int):=
 sel (decide (4096 < ((a0.length:Nat):Int))) (
  some (([],(0:Int),(0:Int),(0:Int),[],[]),3)) (
  (gw a0).bind λr1=>
  (ve r1.1).bind λr2=>
  sel (!decide (r1.2.2=0)) (
   some (([],(0:Int),(0:Int),(0:Int),[],[]),4)) (
   (oC r2).bind λr3=>
   (qj r3 a0).bind λr4=>
   sel (!r4) (
    some (([],(0:Int),(0:Int),(0:Int),[],[]),4)) (
    (nK r2).bind λr5=>
    sel (!decide (r5=0)) (
     some (([],(0:Int),(0:Int),(0:Int),[],[]),r5)) (
     some (r2,0)))))
def dX (a0:List UInt8):Option (Bool):=
 some (!decide (a0=a0))
def fq (a0 a1:List UInt8):Option (Int):=
 (dX a0).bind λr1=>
 (dX a1).bind λr2=>
 sel r1 (
  sel r2 (
   some 0) (
   some (-1))) (
  sel r2 (
   some 1) (
   sel (Op.bytesLess a0 a1) (
    some (-1)) (
    sel (!(Op.bytesLess a0 a1 || decide (a0=a1))) (
     some 1) (
     some 0))))
def iN (a0:o6) (a1:List UInt8):Option (Int):=
 (fq a0.1 a1).bind λr1=>
 some r1
def E9 (v0:List o6) (v1:List UInt8) (v8 v9:Int):Option (Int × Bool):=
 sel (decide (v9 < v8)) (
  chk (decide (0<=v9/\v9 < v0.length)) <|
  (iN (v0.getD v9.toNat B0) v1).bind λr1=>
  some (v9,(decide (r1=0)))) (
  some (v9,false))
def F0 (v0:List o6) (v1:List UInt8) (v8 v9 v10:Int):Option ((List o6 × List UInt8 × Int × Int × Int) ⊕ (Int × Bool)):=
 sel (decide (v9 < v10)) (
  chk (decide ((0:Int)<=(A9 ((D7 (A9 (v9 + v10))) / 2 ^ 1))/\(A9 ((D7 (A9 (v9 + v10))) / 2 ^ 1)) < ((v0.length:Nat):Int))) <|
  (iN (v0.getD (Int.toNat (A9 ((D7 (A9 (v9 + v10))) / 2 ^ 1))) B0) v1).bind λr2=>
  sel (decide (r2 < 0)) (
   some (.inl (v0,v1,v8,(A9 ((A9 ((D7 (A9 (v9 + v10))) / 2 ^ 1)) + 1)),v10))) (
   some (.inl (v0,v1,v8,v9,(A9 ((D7 (A9 (v9 + v10))) / 2 ^ 1)))))) (
  Option.map .inr (
   E9 v0 v1 v8 v9))
def H8 (v0:List o6) (v1:List UInt8) (v8 v9 v10:Int):=
 F8 (λv=>F0 v.1 v.2.1 v.2.2.1 v.2.2.2.1 v.2.2.2.2) (v0,v1,v8,v9,v10)
def E2 (a0:List o6) (a1:List UInt8):Option (Int × Bool):=
 H8 a0 a1 a0.length 0 a0.length
def gz (a0:o8) (a1:List UInt8):Option (Int × Bool):=
 (E2 a0.1 a1).bind λr1=>
 some (r1.1,r1.2)
def qm (a0:Int):Option (Int):=
 some (D7 (min (max a0 0) 1073741824))
def vP (a0 a1:Int):Option (Int):=
 (qm a0).bind λr1=>
 (qm a1).bind λr2=>
 some (D7 ((D7 (50 + (D7 (1 * r1)))) + (D7 (20 * r2))))
def fP (a0 a1:Int):Option (Int × Int):=
 some ((D7 ((D7 ((D7 ((a0 / 2 ^ 32) * (a1 / 2 ^ 32))) + ((D7 ((D7 ((a0 / 2 ^ 32) * (bits .and .u64 a1 4294967295))) + ((D7 ((bits .and .u64 a0 4294967295) * (bits .and .u64 a1 4294967295))) / 2 ^ 32))) / 2 ^ 32))) + ((D7 ((bits .and .u64 (D7 ((D7 ((a0 / 2 ^ 32) * (bits .and .u64 a1 4294967295))) + ((D7 ((bits .and .u64 a0 4294967295) * (bits .and .u64 a1 4294967295))) / 2 ^ 32))) 4294967295) + (D7 ((bits .and .u64 a0 4294967295) * (a1 / 2 ^ 32))))) / 2 ^ 32))),(D7 (a0 * a1)))
def rD (a0:Int) (a1:Bool):Option (Int × Bool):=
 sel (!a1) (
  some (0,false)) (
  some (a0,true))
def qo (a0 a1:Int):Option (Int × Bool):=
 (fP a0 a1).bind λr1=>
 (rD r1.2 (decide (r1.1=0))).bind λr2=>
 some (r2.1,r2.2)
def sD (a0 a1:Int):Option (Int × Bool):=
 (qo a0 a1).bind λr1=>
 some (r1.1,r1.2)
def nX (l0:List Int):Option (Int × Bool):=
 (mc l0).bind λr1=>
 some (r1.1,r1.2)
def lk (v11:List A0) (v12 v13:Int) (l0:List Int):Option ((List A0 × Int × Int × List Int) ⊕ (Int × Bool)):=
 sel (decide (v13 < v12)) (
  chk (decide (0<=v13/\v13 < v11.length)) <|
  chk (decide ((l0.length + 1) * 8<=LIM/\l0.length + 1<=LEN)) <|
  some (.inl (v11,v12,(A9 (v13 + 1)),(l0 ++ [(v11.getD v13.toNat H5).2])))) (
  Option.map .inr (
   nX l0))
def qO (v11:List A0) (v12 v13:Int) (l0:List Int):=
 F8 (λv=>lk v.1 v.2.1 v.2.2.1 v.2.2.2) (v11,v12,v13,l0)
def mQ (a0:C5):Option (Int × Bool):=
 qO a0.2.2.2.2.2 a0.2.2.2.2.2.length 0 [a0.2.2.2.1]
def ke (v12:List A0) (v13 v14:Int) (b0:o8) (l0:List (List UInt8 × Vector UInt8 0)):Option ((List A0 × Int × Int × o8 × List (List UInt8 × Vector UInt8 0)) ⊕ (Int)):=
 sel (decide (v14 < v13)) (
  chk (decide (0<=v14/\v14 < v12.length)) <|
  (gz b0 (v12.getD v14.toNat H5).1).bind λr1=>
  sel (!r1.2) (
   some (.inl (v12,v13,(A9 (v14 + 1)),b0,(TJ zf (v12.getD v14.toNat H5).1 (Vector.replicate 0 (0:UInt8)) l0)))) (
   some (.inl (v12,v13,(A9 (v14 + 1)),b0,l0)))) (
  some (.inr l0.length))
def py (v12:List A0) (v13 v14:Int) (b0:o8) (l0:List (List UInt8 × Vector UInt8 0)):=
 F8 (λv=>ke v.1 v.2.1 v.2.2.1 v.2.2.2.1 v.2.2.2.2) (v12,v13,v14,b0,l0)
def nL (a0:o8) (a1:C5):Option (Int):=
 py a1.2.2.2.2.2 a1.2.2.2.2.2.length 0 a0 []
def nM (a0:o8) (a1:Int) (a2:C5) (a3:Int):Option (Int):=
 (gz a0 a2.1).bind λr1=>
 sel (!r1.2) (
  some 13) (
  chk (decide (0<=r1.1/\r1.1 < a0.1.length)) <|
  sel (!decide ((a0.1.getD r1.1.toNat B0).2.2=a2.2.1)) (
   some 14) (
   sel (decide ((a0.1.getD r1.1.toNat B0).2.2=18446744073709551615)) (
    some 6) (
    (vP a3 a2.2.2.2.2.2.length).bind λr2=>
    sel (decide (a2.2.2.1 < r2)) (
     some 15) (
     (sD a2.2.2.1 a1).bind λr3=>
     sel (!r3.2) (
      some 6) (
      sel (decide (a2.2.2.2.1 < r3.1)) (
       some 16) (
       (mQ a2).bind λr4=>
       sel (!r4.2) (
        some 6) (
        sel (decide ((a0.1.getD r1.1.toNat B0).2.1 < r4.1)) (
         some 17) (
         (nL a0 a2).bind λr5=>
         sel (decide (256 < (A9 (((a0.1.length:Nat):Int) + r5)))) (
          some 3) (
          some 0)))))))))
def bO (v0 v2:Int):Option (Int):=
 chk (decide ((0:Int)<=(wu8 v0)/\(wu8 v0) < 256)) <|
 some (A9 (v2 + (A9 ((UInt8.toNat (List.getD ([0,1,2,2,3,3,3,3,4,4,4,4,4,4,4,4,5,5,5,5,5,5,5,5,5,5,5,5,5,5,5,5,6,6,6,6,6,6,6,6,6,6,6,6,6,6,6,6,6,6,6,6,6,6,6,6,6,6,6,6,6,6,6,6,7,7,7,7,7,7,7,7,7,7,7,7,7,7,7,7,7,7,7,7,7,7,7,7,7,7,7,7,7,7,7,7,7,7,7,7,7,7,7,7,7,7,7,7,7,7,7,7,7,7,7,7,7,7,7,7,7,7,7,7,7,7,7,7,8,8,8,8,8,8,8,8,8,8,8,8,8,8,8,8,8,8,8,8,8,8,8,8,8,8,8,8,8,8,8,8,8,8,8,8,8,8,8,8,8,8,8,8,8,8,8,8,8,8,8,8,8,8,8,8,8,8,8,8,8,8,8,8,8,8,8,8,8,8,8,8,8,8,8,8,8,8,8,8,8,8,8,8,8,8,8,8,8,8,8,8,8,8,8,8,8,8,8,8,8,8,8,8,8,8,8,8,8,8,8,8,8,8,8,8,8,8,8,8,8,8,8,8,8,8,8,8]:List UInt8) (Int.toNat (wu8 v0)) (0:UInt8)):Nat):Int))))
def bP (v0 v2:Int):Option (Int):=
 sel (decide (256<=v0)) (
  bO (v0 / 2 ^ 8) (A9 (v2 + 8))) (
  bO v0 v2)
def bQ (v0 v2:Int):Option (Int):=
 sel (decide (65536<=v0)) (
  bP (v0 / 2 ^ 16) (A9 (v2 + 16))) (
  bP v0 v2)
def jm (a0:Int):Option (Int):=
 sel (decide (4294967296<=a0)) (
  bQ (a0 / 2 ^ 32) 32) (
  bQ a0 0)
def Y8 (a0:Int):Option (Int):=
 (jm a0).bind λr1=>
 some (A9 (64 - r1))
def bR (v2 v8 v14 v15 v17 v18:Int):Option (Int × Int):=
 chk (decide ((0:Int)<=v8)) <|
 some ((D7 ((D7 (v15 * 4294967296)) + v18)),((D7 ((D7 ((D7 (v17 * 4294967296)) + v14)) - (D7 (v18 * v2)))) / 2 ^ (min v8.toNat 64)))
def bS (v2 v8 v9 v10 v14 v15 v16 v17 v18:Int):Option ((Int × Int × Int × Int × Int × Int × Int × Int × Int) ⊕ (Int × Int)):=
 sel (decide (4294967296<=(D7 (v16 + v9)))) (
  Option.map .inr (
   bR v2 v8 v14 v15 v17 (D7 (v18 - 1)))) (
  some (.inl (v2,v8,v9,v10,v14,v15,(D7 (v16 + v9)),v17,(D7 (v18 - 1)))))
def jE (v2 v8 v9 v10 v14 v15 v16 v17 v18:Int):Option ((Int × Int × Int × Int × Int × Int × Int × Int × Int) ⊕ (Int × Int)):=
 sel (decide (4294967296<=v18)) (
  bS v2 v8 v9 v10 v14 v15 v16 v17 v18) (
  sel (decide ((D7 ((D7 (4294967296 * v16)) + v14)) < (D7 (v18 * v10)))) (
   bS v2 v8 v9 v10 v14 v15 v16 v17 v18) (
   Option.map .inr (
    bR v2 v8 v14 v15 v17 v18)))
def iO (v2 v8 v9 v10 v14 v15 v16 v17 v18:Int):=
 F8 (λv=>jE v.1 v.2.1 v.2.2.1 v.2.2.2.1 v.2.2.2.2.1 v.2.2.2.2.2.1 v.2.2.2.2.2.2.1 v.2.2.2.2.2.2.2.1 v.2.2.2.2.2.2.2.2) (v2,v8,v9,v10,v14,v15,v16,v17,v18)
def S3 (v2 v8 v9 v10 v11 v13 v14 v15:Int):Option (Int × Int):=
 chk (!decide (v9=0)) <|
 iO v2 v8 v9 v10 v14 v15 (D7 ((D7 ((D7 ((D7 (v11 * 4294967296)) + v13)) - (D7 (v15 * v2)))) - (D7 ((D7 (Int.tdiv (D7 ((D7 ((D7 (v11 * 4294967296)) + v13)) - (D7 (v15 * v2)))) v9)) * v9)))) (D7 ((D7 ((D7 (v11 * 4294967296)) + v13)) - (D7 (v15 * v2)))) (D7 (Int.tdiv (D7 ((D7 ((D7 (v11 * 4294967296)) + v13)) - (D7 (v15 * v2)))) v9))
def bT (v2 v8 v9 v10 v11 v13 v14 v15 v16:Int):Option ((Int × Int × Int × Int × Int × Int × Int × Int × Int) ⊕ (Int × Int)):=
 sel (decide (4294967296<=(D7 (v16 + v9)))) (
  Option.map .inr (
   S3 v2 v8 v9 v10 v11 v13 v14 (D7 (v15 - 1)))) (
  some (.inl (v2,v8,v9,v10,v11,v13,v14,(D7 (v15 - 1)),(D7 (v16 + v9)))))
def jF (v2 v8 v9 v10 v11 v13 v14 v15 v16:Int):Option ((Int × Int × Int × Int × Int × Int × Int × Int × Int) ⊕ (Int × Int)):=
 sel (decide (4294967296<=v15)) (
  bT v2 v8 v9 v10 v11 v13 v14 v15 v16) (
  sel (decide ((D7 ((D7 (4294967296 * v16)) + v13)) < (D7 (v15 * v10)))) (
   bT v2 v8 v9 v10 v11 v13 v14 v15 v16) (
   Option.map .inr (
    S3 v2 v8 v9 v10 v11 v13 v14 v15)))
def iP (v2 v8 v9 v10 v11 v13 v14 v15 v16:Int):=
 F8 (λv=>jF v.1 v.2.1 v.2.2.1 v.2.2.2.1 v.2.2.2.2.1 v.2.2.2.2.2.1 v.2.2.2.2.2.2.1 v.2.2.2.2.2.2.2.1 v.2.2.2.2.2.2.2.2) (v2,v8,v9,v10,v11,v13,v14,v15,v16)
def jn (a0 a1 a2:Int):Option (Int × Int):=
 sel (decide (a2=0)) (
  none) (
  sel (decide (a2<=a0)) (
   none) (
   sel (decide (a0=0)) (
    chk (!decide (a2=0)) <|
    chk (!decide (a2=0)) <|
    some ((D7 (Int.tdiv a1 a2)),(Int.tmod a1 a2))) (
    (Y8 a2).bind λr1=>
    chk (decide ((0:Int)<=(D7 r1))) <|
    chk (decide ((0:Int)<=(D7 r1))) <|
    chk (decide ((0:Int)<=(D7 (64 - (D7 r1))))) <|
    chk (decide ((0:Int)<=(D7 r1))) <|
    chk (!decide (((D7 (a2 * 2 ^ (min (Int.toNat (D7 r1)) 64))) / 2 ^ 32)=0)) <|
    iP (D7 (a2 * 2 ^ (min (Int.toNat (D7 r1)) 64))) (D7 r1) ((D7 (a2 * 2 ^ (min (Int.toNat (D7 r1)) 64))) / 2 ^ 32) (bits .and .u64 (D7 (a2 * 2 ^ (min (Int.toNat (D7 r1)) 64))) 4294967295) (bits .or .u64 (D7 (a0 * 2 ^ (min (Int.toNat (D7 r1)) 64))) (a1 / 2 ^ (min (Int.toNat (D7 (64 - (D7 r1)))) 64))) ((D7 (a1 * 2 ^ (min (Int.toNat (D7 r1)) 64))) / 2 ^ 32) (bits .and .u64 (D7 (a1 * 2 ^ (min (Int.toNat (D7 r1)) 64))) 4294967295) (D7 (Int.tdiv (bits .or .u64 (D7 (a0 * 2 ^ (min (Int.toNat (D7 r1)) 64))) (a1 / 2 ^ (min (Int.toNat (D7 (64 - (D7 r1)))) 64))) ((D7 (a2 * 2 ^ (min (Int.toNat (D7 r1)) 64))) / 2 ^ 32))) (D7 ((bits .or .u64 (D7 (a0 * 2 ^ (min (Int.toNat (D7 r1)) 64))) (a1 / 2 ^ (min (Int.toNat (D7 (64 - (D7 r1)))) 64))) - (D7 ((D7 (Int.tdiv (bits .or .u64 (D7 (a0 * 2 ^ (min (Int.toNat (D7 r1)) 64))) (a1 / 2 ^ (min (Int.toNat (D7 (64 - (D7 r1)))) 64))) ((D7 (a2 * 2 ^ (min (Int.toNat (D7 r1)) 64))) / 2 ^ 32))) * ((D7 (a2 * 2 ^ (min (Int.toNat (D7 r1)) 64))) / 2 ^ 32))))))))
def mw (a0 a1 a2:Int):Option (Int × Bool):=
 (fP a0 a1).bind λr1=>
 sel (decide (a2<=r1.1)) (
  some (0,false)) (
  (jn r1.1 r1.2 a2).bind λr2=>
  some (r2.1,true))
def jN (a0 a1:Int):Option (Int):=
 sel (decide (a1=0)) (
  some 0) (
  (mw 1000 a0 a1).bind λr1=>
  sel (!r1.2) (
   some 18446744073709551615) (
   some r1.1))
def Q7 (a0:List o6) (a1:Int) (a2:List o6):Option (List o6):=YS a0 a1 a2
def np (b0_1:Int) (b1:C5) (_b2_1:Int) (l0:List o6):Option (List o6 × Int):=
 some (l0,(D7 (b0_1 + b1.2.2.2.1)))
def gW (v11:Int) (v45:List A0) (v46 v47 b0_1:Int) (b1:C5) (b2_1:Int) (b3:A0) (l0:List o6):Option ((List A0 × Int × Int × Int × C5 × Int × List o6) ⊕ (List o6 × Int)):=
 chk (decide (0<=v11/\v11 < l0.length)) <|
 chk (decide (v11.toNat < l0.length)) <|
 chk (decide (0<=v11/\v11 < l0.length)) <|
 chk (decide (v11.toNat < l0.length)) <|
 some (.inl (v45,v46,(A9 (v47 + 1)),b0_1,b1,b2_1,(List.set l0 v11.toNat ((l0.getD v11.toNat B0).1,(D7 ((l0.getD v11.toNat B0).2.1 + b3.2)),(l0.getD v11.toNat B0).2.2))))
def kf (v45:List A0) (v46 v47 b0_1:Int) (b1:C5) (b2_1:Int) (l0:List o6):Option ((List A0 × Int × Int × Int × C5 × Int × List o6) ⊕ (List o6 × Int)):=
 sel (decide (v47 < v46)) (
  chk (decide (0<=v47/\v47 < v45.length)) <|
  (gz (l0,b0_1) (v45.getD v47.toNat H5).1).bind λr3=>
  sel (!r3.2) (
   (Q7 l0 r3.1 [((v45.getD v47.toNat H5).1,(0:Int),(0:Int))]).bind λr4=>
   gW r3.1 v45 v46 v47 b0_1 b1 b2_1 (v45.getD v47.toNat H5) r4) (
   gW r3.1 v45 v46 v47 b0_1 b1 b2_1 (v45.getD v47.toNat H5) l0)) (
  Option.map .inr (
   np b0_1 b1 b2_1 l0))
def pz (v45:List A0) (v46 v47 b0_1:Int) (b1:C5) (b2_1:Int) (l0:List o6):=
 F8 (λv=>kf v.1 v.2.1 v.2.2.1 v.2.2.2.1 v.2.2.2.2.1 v.2.2.2.2.2.1 v.2.2.2.2.2.2) (v45,v46,v47,b0_1,b1,b2_1,l0)
def nN (a0_0:List o6) (a0_1:Int) (a1:C5):Option (List o6 × Int):=
 (mQ a1).bind λr1=>
 (gz (a0_0,a0_1) a1.1).bind λr2=>
 chk (decide ((0:Int)<=r2.1/\r2.1 < (((List.length a0_0):Nat):Int))) <|
 chk (decide (r2.1.toNat < (List.length a0_0))) <|
 chk (decide ((0:Int)<=r2.1/\r2.1 < (((List.length a0_0):Nat):Int))) <|
 chk (decide (r2.1.toNat < (List.length a0_0))) <|
 chk (decide ((0:Int)<=r2.1/\r2.1 < (((List.length (List.set a0_0 r2.1.toNat ((List.getD a0_0 r2.1.toNat B0).1,(D7 ((List.getD a0_0 r2.1.toNat B0).2.1 - r1.1)),(List.getD a0_0 r2.1.toNat B0).2.2))):Nat):Int))) <|
 chk (decide (r2.1.toNat < (List.length (List.set a0_0 r2.1.toNat ((List.getD a0_0 r2.1.toNat B0).1,(D7 ((List.getD a0_0 r2.1.toNat B0).2.1 - r1.1)),(List.getD a0_0 r2.1.toNat B0).2.2))))) <|
 chk (decide ((0:Int)<=r2.1/\r2.1 < (((List.length (List.set a0_0 r2.1.toNat ((List.getD a0_0 r2.1.toNat B0).1,(D7 ((List.getD a0_0 r2.1.toNat B0).2.1 - r1.1)),(List.getD a0_0 r2.1.toNat B0).2.2))):Nat):Int))) <|
 chk (decide (r2.1.toNat < (List.length (List.set a0_0 r2.1.toNat ((List.getD a0_0 r2.1.toNat B0).1,(D7 ((List.getD a0_0 r2.1.toNat B0).2.1 - r1.1)),(List.getD a0_0 r2.1.toNat B0).2.2))))) <|
 pz a1.2.2.2.2.2 a1.2.2.2.2.2.length 0 a0_1 a1 (0:Int) (List.set (List.set a0_0 r2.1.toNat ((List.getD a0_0 r2.1.toNat B0).1,(D7 ((List.getD a0_0 r2.1.toNat B0).2.1 - r1.1)),(List.getD a0_0 r2.1.toNat B0).2.2)) r2.1.toNat ((List.getD (List.set a0_0 r2.1.toNat ((List.getD a0_0 r2.1.toNat B0).1,(D7 ((List.getD a0_0 r2.1.toNat B0).2.1 - r1.1)),(List.getD a0_0 r2.1.toNat B0).2.2)) r2.1.toNat B0).1,(List.getD (List.set a0_0 r2.1.toNat ((List.getD a0_0 r2.1.toNat B0).1,(D7 ((List.getD a0_0 r2.1.toNat B0).2.1 - r1.1)),(List.getD a0_0 r2.1.toNat B0).2.2)) r2.1.toNat B0).2.1,(D7 ((List.getD (List.set a0_0 r2.1.toNat ((List.getD a0_0 r2.1.toNat B0).1,(D7 ((List.getD a0_0 r2.1.toNat B0).2.1 - r1.1)),(List.getD a0_0 r2.1.toNat B0).2.2)) r2.1.toNat B0).2.2 + 1))))
def pA (a0:o8) (a1:Int) (a2:List UInt8):Option (o8 × D0):=
 (ox a0).bind λr1=>
 (jk a0).bind λr2=>
 sel (!decide (r2=0)) (
  some (r1,(1,[],(0:Int),(0:Int),(0:Int)))) (
  (ml a2).bind λr3=>
  sel (!decide (r3.2=0)) (
   some (r1,(r3.2,[],(0:Int),(0:Int),(0:Int)))) (
   (nM a0 a1 r3.1 a2.length).bind λr4=>
   (jN r3.1.2.2.2.1 r3.1.2.2.1).bind λr5=>
   sel (decide (r4=0)) (
    (nN r1.1 r1.2 r3.1).bind λr6=>
    some (r6,(r4,r3.1.1,r3.1.2.1,r3.1.2.2.1,r5))) (
    some (r1,(r4,r3.1.1,r3.1.2.1,r3.1.2.2.1,r5)))))
def cW (v1 v2 v8 v12 v31 v32 _v47:Int) (_v48 _v49 _v54:Bool) (b0:A8) (b1:o8) (b2:o5) (l0:List (List UInt8)) (l1:List o5):Option ((Int × Int × Int × Int × Int × A8 × o8 × List (List UInt8) × List o5) ⊕ (List (List UInt8))):=
 (pA b1 b0.2.1.2.2.2.2 b2.2.1).bind λr4=>
 sel (!decide (r4.2.1=0)) (
  some (.inl (v1,v2,v8,v31,(A9 (v32 + 1)),b0,b1,l0,l1))) (
  sel (decide (0<=v2)) (
   chk (decide ((l0.length + 1) * 24<=LIM/\l0.length + 1<=LEN)) <|
   some (.inl ((A9 (v1 - v12)),v2,(D7 (v8 - b2.2.2.2.2.1)),v31,(A9 (v32 + 1)),b0,r4.1,(l0 ++ [b2.2.1]),l1))) (
   chk (decide ((l0.length + 1) * 24<=LIM/\l0.length + 1<=LEN)) <|
   some (.inl ((A9 (v1 - v12)),v2,v8,v31,(A9 (v32 + 1)),b0,r4.1,(l0 ++ [b2.2.1]),l1))))
def gC (v1 v2 v8 v31 v32:Int) (b0:A8) (b1:o8) (l0:List (List UInt8)) (l1:List o5):Option ((Int × Int × Int × Int × Int × A8 × o8 × List (List UInt8) × List o5) ⊕ (List (List UInt8))):=
 sel (decide (v32 < v31)) (
  chk (decide (0<=v32/\v32 < l1.length)) <|
  chk (decide (v32.toNat < l1.length)) <|
  sel (decide (((l0.length:Nat):Int)=512)) (
   some (.inr l0)) (
   (gV (((List.length (l1.getD v32.toNat C0).2.1):Nat):Int)).bind λr3=>
   sel (decide (v1 < r3)) (
    some (.inl (v1,v2,v8,v31,(A9 (v32 + 1)),b0,b1,l0,l1))) (
    sel (decide (0<=v2)) (
     sel (decide (v8 < (l1.getD v32.toNat C0).2.2.2.2.1)) (
      some (.inl (v1,v2,v8,v31,(A9 (v32 + 1)),b0,b1,l0,l1))) (
      cW v1 v2 v8 r3 v31 v32 v2 (decide (0<=v2)) true (decide (v8 < (l1.getD v32.toNat C0).2.2.2.2.1)) b0 b1 (l1.getD v32.toNat C0) l0 l1)) (
     cW v1 v2 v8 r3 v31 v32 v2 (decide (0<=v2)) false false b0 b1 (l1.getD v32.toNat C0) l0 l1)))) (
  some (.inr l0))
def nv (v1 v2 v8 v31 v32:Int) (b0:A8) (b1:o8) (l0:List (List UInt8)) (l1:List o5):=
 F8 (λv=>gC v.1 v.2.1 v.2.2.1 v.2.2.2.1 v.2.2.2.2.1 v.2.2.2.2.2.1 v.2.2.2.2.2.2.1 v.2.2.2.2.2.2.2.1 v.2.2.2.2.2.2.2.2) (v1,v2,v8,v31,v32,b0,b1,l0,l1)
def U0 (a0:A8) (a1 a2:Int):Option (List (List UInt8)):=
 sel (decide (a1 < 0)) (
  some []) (
  sel (decide (a2 < (-1))) (
   some []) (
   (gU a0.2.1.1).bind λr1=>
   (nI a0.2.2.2.2.2.1).bind λr2=>
   nv a1 a2 (D7 (max a2 0)) r2.length 0 a0 r1 [] r2))
def Y9 (v0 v1:List (List UInt8)) (v12 v13:Int):Option ((List (List UInt8) × List (List UInt8) × Int × Int) ⊕ (Bool)):=
 sel (decide (v13 < v12)) (
  chk (decide (0<=v13/\v13 < v0.length)) <|
  chk (decide (0<=v13/\v13 < v1.length)) <|
  (G6 (v0.getD v13.toNat []) (v1.getD v13.toNat [])).bind λr1=>
  sel (!r1) (
   some (.inr false)) (
   some (.inl (v0,v1,v12,(A9 (v13 + 1)))))) (
  some (.inr true))
def iQ (v0 v1:List (List UInt8)) (v12 v13:Int):=
 F8 (λv=>Y9 v.1 v.2.1 v.2.2.1 v.2.2.2) (v0,v1,v12,v13)
def X2 (a0 a1:List (List UInt8)):Option (Bool):=
 sel (!decide (((a0.length:Nat):Int)=((a1.length:Nat):Int))) (
  some false) (
  iQ a0 a1 a0.length 0)
def mz (v3:Int) (v6:List (List UInt8)) (v7 v8:Int):Option ((Int × List (List UInt8) × Int × Int) ⊕ (Int)):=
 sel (decide (v8 < v7)) (
  chk (decide (0<=v8/\v8 < v6.length)) <|
  (gV (((List.length (v6.getD v8.toNat [])):Nat):Int)).bind λr1=>
  some (.inl ((A9 (v3 + r1)),v6,v7,(A9 (v8 + 1))))) (
  some (.inr v3))
def rE (v3:Int) (v6:List (List UInt8)) (v7 v8:Int):=
 F8 (λv=>mz v.1 v.2.1 v.2.2.1 v.2.2.2) (v3,v6,v7,v8)
def qp (a0:List (List UInt8)):Option (Int):=
 rE 0 a0 a0.length 0
def nq (b0:o8):Option (o8 × Int × Int):=
 some (b0,0,0)
def kg (v1:Int) (v14:List (List UInt8)) (v15 v16:Int) (b0:o8):Option ((Int × List (List UInt8) × Int × Int × o8) ⊕ (o8 × Int × Int)):=
 sel (decide (v16 < v15)) (
  chk (decide (0<=v16/\v16 < v14.length)) <|
  (pA b0 v1 (v14.getD v16.toNat [])).bind λr2=>
  sel (!decide (r2.2.1=0)) (
   some (.inr (([],(0:Int)),v16,r2.2.1))) (
   some (.inl (v1,v14,v15,(A9 (v16 + 1)),r2.1)))) (
  Option.map .inr (
   nq b0))
def pB (v1:Int) (v14:List (List UInt8)) (v15 v16:Int) (b0:o8):=
 F8 (λv=>kg v.1 v.2.1 v.2.2.1 v.2.2.2.1 v.2.2.2.2) (v1,v14,v15,v16,b0)
def nO (a0:o8) (a1:Int) (a2:List (List UInt8)):Option (o8 × Int × Int):=
 (gU a0).bind λr1=>
 pB a1 a2 a2.length 0 r1
def mm (l0:List Int):Option (Int × Bool):=
 (mc l0).bind λr1=>
 some (r1.1,r1.2)
def jo (v9:List (List UInt8)) (v10 v11:Int) (l0:List Int):Option ((List (List UInt8) × Int × Int × List Int) ⊕ (Int × Bool)):=
 sel (decide (v11 < v10)) (
  chk (decide (0<=v11/\v11 < v9.length)) <|
  (ml (v9.getD v11.toNat [])).bind λr2=>
  chk (decide ((l0.length + 1) * 8<=LIM/\l0.length + 1<=LEN)) <|
  some (.inl (v9,v10,(A9 (v11 + 1)),(l0 ++ [r2.1.2.2.1])))) (
  Option.map .inr (
   mm l0))
def oD (v9:List (List UInt8)) (v10 v11:Int) (l0:List Int):=
 F8 (λv=>jo v.1 v.2.1 v.2.2.1 v.2.2.2) (v9,v10,v11,l0)
def mA (a0:List (List UInt8)):Option (Int × Bool):=
 oD a0 a0.length 0 []
def gD (v1:List (List UInt8)) (v2 v3:Int) (v14:Bool) (b0:A8):Option (Int):=
 sel v14 (
  some 1) (
  sel (decide (512 < ((v1.length:Nat):Int))) (
   some 3) (
   (qp v1).bind λr1=>
   sel (decide (v2 < r1)) (
    some 3) (
    (nO b0.2.1.1 b0.2.1.2.2.2.2 v1).bind λr2=>
    sel (!decide (r2.2.2=0)) (
     some r2.2.2) (
     (mA v1).bind λr3=>
     sel (decide (0<=v3)) (
      sel (!r3.2) (
       some 3) (
       sel (decide ((D7 v3) < r3.1)) (
        some 3) (
        some 0))) (
      some 0)))))
def Y1 (a0:A8) (a1:List (List UInt8)) (a2 a3:Int):Option (Int):=
 sel (decide (a2 < 0)) (
  gD a1 a2 a3 true a0) (
  gD a1 a2 a3 (decide (a3 < (-1))) a0)
def F9:Option (Bool):=
 (bH (5,500,100,5,(0:Int),(0:Int),false,200,(-1),(0:Int),(0:Int),1) [(([97,110,110]:List UInt8),1000,(0:Int)),(([98,111,98]:List UInt8),1000,(0:Int))]).bind λr1=>
 (bc ([97,110,110]:List UInt8) 0 1).bind λr2=>
 (K9 r1.1 r2 0).bind λr3=>
 (bc ([97,110,110]:List UInt8) 1 9).bind λr4=>
 (K9 r3.1 r4 0).bind λr5=>
 (bc ([98,111,98]:List UInt8) 0 5).bind λr6=>
 (K9 r5.1 r6 0).bind λr7=>
 (U0 r7.1 500 700).bind λr8=>
 (bc ([98,111,98]:List UInt8) 0 5).bind λr9=>
 (bc ([97,110,110]:List UInt8) 0 1).bind λr10=>
 (X2 r8 [r9,r10]).bind λr11=>
 sel r11 (
  (Y1 r7.1 r8 500 600).bind λr12=>
  sel (decide (r12=0)) (
   (Y1 r7.1 r8 500 599).bind λr13=>
   sel (decide (r13=3)) (
    chk (decide ((r8.length + r8.length) * 24<=LIM/\r8.length + r8.length<=LEN)) <|
    (Y1 r7.1 (r8 ++ r8) 500 (-1)).bind λr14=>
    sel (decide (r14=14)) (
     (U0 r7.1 500 0).bind λr15=>
     some (decide (((r15.length:Nat):Int)=0))) (
     some false)) (
    some false)) (
   some false)) (
  some false)
def ll (a0:List Int):Option (o7):=
 some (a0,(0:Int))
def gE (a0 a1:Int):Option (Int):=
 chk (!decide (a1=0)) <|
 sel (decide ((Int.tmod a0 a1) < 0)) (
  some (A9 ((Int.tmod a0 a1) + a1))) (
  some (Int.tmod a0 a1))
def M5 (v1 v5:Int) (b0:o7):Option (o7 × Int):=
 (gE v5 v1).bind λr1=>
 some ((b0.1,(A9 (b0.2 + 1))),r1)
def o9 (a0:o7) (a1:Int):Option (o7 × Int):=
 sel (decide (a0.2 < a0.1.length)) (
  chk (decide (0<=a0.2/\a0.2 < a0.1.length)) <|
  M5 a1 (a0.1.getD a0.2.toNat (0:Int)) a0) (
  M5 a1 0 a0)
def X3 (b0:o7) (_b1 b2:D9):Option (o7 × D9):=
 (o9 b0 6).bind λr11=>
 sel (decide (r11.2=0)) (
  (o9 r11.1 40).bind λr12=>
  some (r12.1,(b2.1,b2.2.1,(A9 (40 + r12.2)),b2.2.2.2))) (
  some (r11.1,b2))
def fu (a0:o7):Option (o7 × D9):=
 (o9 a0 7).bind λr1=>
 (o9 r1.1 400).bind λr2=>
 (o9 r2.1 140).bind λr3=>
 (o9 r3.1 12).bind λr4=>
 (o9 r4.1 4).bind λr5=>
 (o9 r5.1 3).bind λr6=>
 (o9 r6.1 20).bind λr7=>
 (o9 r7.1 3).bind λr8=>
 (o9 r8.1 400).bind λr9=>
 (o9 r9.1 3).bind λr10=>
 (o9 r10.1 3).bind λr13=>
 sel (decide (r13.2=0)) (
  (o9 r13.1 900).bind λr14=>
  X3 r14.1 ((0:Int),(0:Int),(0:Int),(0:Int),(0:Int),(0:Int),false,(0:Int),(0:Int),(0:Int),(0:Int),(0:Int)) ((A9 (1 + r1.2)),(A9 (250 + r2.2)),(A9 (60 + r3.2)),r4.2,r5.2,(A9 (r6.2 * r7.2)),(decide (r8.2=0)),(A9 (100 + r9.2)),(A9 (200 + r14.2)),(D7 r10.2),(0:Int),1)) (
  X3 r13.1 ((0:Int),(0:Int),(0:Int),(0:Int),(0:Int),(0:Int),false,(0:Int),(0:Int),(0:Int),(0:Int),(0:Int)) ((A9 (1 + r1.2)),(A9 (250 + r2.2)),(A9 (60 + r3.2)),r4.2,r5.2,(A9 (r6.2 * r7.2)),(decide (r8.2=0)),(A9 (100 + r9.2)),(-1),(D7 r10.2),(0:Int),1))
def eS (v4:Int) (b0:o7) (l0:List o6):Option ((Int × o7 × List o6) ⊕ (o7 × List o6)):=
 sel (decide (0<=v4)) (
  chk (decide ((0:Int)<=v4/\v4 < 4)) <|
  chk (decide (v4.toNat < 4)) <|
  (o9 b0 5).bind λr2=>
  chk (decide ((0:Int)<=r2.2/\r2.2 < 5)) <|
  chk (decide (r2.2.toNat < 5)) <|
  (o9 r2.1 6).bind λr3=>
  sel (decide (r3.2=0)) (
   (o9 r3.1 3).bind λr4=>
   chk (decide ((0:Int)<=r4.2/\r4.2 < 3)) <|
   chk (decide (r4.2.toNat < 3)) <|
   chk (decide ((l0.length + 1) * 32<=LIM/\l0.length + 1<=LEN)) <|
   some (.inl ((A9 (v4 - 1)),r4.1,(l0 ++ ([((List.getD [([97,110,110]:List UInt8),([98,111,98]:List UInt8),([101,118,101]:List UInt8),([122,111,101]:List UInt8)] v4.toNat []),(List.getD [100000,5000,700,0,1099511627776] r2.2.toNat (0:Int)),(List.getD [5,18446744073709551615,18446744073709551614] r4.2.toNat (0:Int)))]:List o6))))) (
   chk (decide ((l0.length + 1) * 32<=LIM/\l0.length + 1<=LEN)) <|
   some (.inl ((A9 (v4 - 1)),r3.1,(l0 ++ ([((List.getD [([97,110,110]:List UInt8),([98,111,98]:List UInt8),([101,118,101]:List UInt8),([122,111,101]:List UInt8)] v4.toNat []),(List.getD [100000,5000,700,0,1099511627776] r2.2.toNat (0:Int)),(0:Int))]:List o6)))))) (
  some (.inr (b0,l0)))
def jt (v4:Int) (b0:o7) (l0:List o6):=
 F8 (λv=>eS v.1 v.2.1 v.2.2) (v4,b0,l0)
def dw (a0:o7):Option (o7 × List o6):=
 (o9 a0 4).bind λr1=>
 jt r1.2 r1.1 []
def iA (a0:List UInt8):Option (Vector UInt8 32):=
 chk (decide ((1 + a0.length) * 1<=LIM/\1 + a0.length<=LEN)) <|
 (H4 ([(0:UInt8)] ++ a0)).bind λr1=>
 some r1
def iR (v0 v3:Int):Option ((Int × Int) ⊕ (Int)):=
 sel (decide (v3 < (A9 (v0 - v3)))) (
  some (.inl (v0,(A9 (v3 * 2))))) (
  some (.inr v3))
def lK (v0 v3:Int):=
 F8 (λv=>iR v.1 v.2) (v0,v3)
def dY (a0:Int):Option (Int):=
 lK a0 1
def gF (a0 a1:Vector UInt8 32):Option (Vector UInt8 32):=
 chk (decide ((1 + (List.length (Vector.toList a0))) * 1<=LIM/\1 + (List.length (Vector.toList a0))<=LEN)) <|
 chk (decide (((List.length ([(1:UInt8)] ++ (Vector.toList a0))) + (List.length (Vector.toList a1))) * 1<=LIM/\(List.length ([(1:UInt8)] ++ (Vector.toList a0))) + (List.length (Vector.toList a1))<=LEN)) <|
 (H4 (([(1:UInt8)] ++ (Vector.toList a0)) ++ (Vector.toList a1))).bind λr1=>
 some r1
def gG (rec:List (List UInt8)->Option (Vector UInt8 32)) (a0:List (List UInt8)):Option (Vector UInt8 32):=
 sel (decide (((a0.length:Nat):Int)=0)) (
  (H4 []).bind λr1=>
  some r1) (
  sel (decide (((a0.length:Nat):Int)=1)) (
   chk (decide ((0:Int)<=0/\0 < ((a0.length:Nat):Int))) <|
   (iA (a0.getD 0 [])).bind λr2=>
   some r2) (
   (dY a0.length).bind λr3=>
   chk (decide ((0:Int)<=0/\0<=r3/\r3<=((a0.length:Nat):Int))) <|
   (rec (a0.take r3.toNat)).bind λr4=>
   chk (decide ((0:Int)<=r3/\r3<=((a0.length:Nat):Int)/\((a0.length:Nat):Int)<=((a0.length:Nat):Int))) <|
   (rec (List.drop r3.toNat (List.take (Int.toNat a0.length) a0))).bind λr5=>
   (gF r4 r5).bind λr6=>
   some r6))
def S4 (n:Nat):List (List UInt8)->Option (Vector UInt8 32):=Nat.rec (motive:=λ_=>List (List UInt8)->Option (Vector UInt8 32)) (λ_=>none) (λ_ ih=>gG ih) n
def aG (b0:o8) (_b1:Vector UInt8 32) (l0:List (List UInt8)):Option (Vector UInt8 32):=
 (E5 [(4,(0:Int),b0.2,[])]).bind λr1=>
 chk (decide ((l0.length + 1) * 24<=LIM/\l0.length + 1<=LEN)) <|
 (S4 Fu.n (l0 ++ [r1])).bind λr2=>
 some r2
def S5 (v7:List o6) (v8 v9:Int) (b0:o8) (b1:Vector UInt8 32) (l0:List (List UInt8)):Option ((List o6 × Int × Int × o8 × Vector UInt8 32 × List (List UInt8)) ⊕ (Vector UInt8 32)):=
 sel (decide (v9 < v8)) (
  chk (decide (0<=v9/\v9 < v7.length)) <|
  chk (decide ((List.length (v7.getD v9.toNat B0).1)<=maxLen)) <|
  (E5 [(1,2,(0:Int),(v7.getD v9.toNat B0).1),(2,(0:Int),(v7.getD v9.toNat B0).2.1,[]),(3,(0:Int),(v7.getD v9.toNat B0).2.2,[])]).bind λr3=>
  chk (decide ((l0.length + 1) * 24<=LIM/\l0.length + 1<=LEN)) <|
  some (.inl (v7,v8,(A9 (v9 + 1)),b0,b1,(l0 ++ [r3])))) (
  Option.map .inr (
   aG b0 b1 l0))
def fQ (v7:List o6) (v8 v9:Int) (b0:o8) (b1:Vector UInt8 32) (l0:List (List UInt8)):=
 F8 (λv=>S5 v.1 v.2.1 v.2.2.1 v.2.2.2.1 v.2.2.2.2.1 v.2.2.2.2.2) (v7,v8,v9,b0,b1,l0)
def Q8 (a0:o8):Option (Vector UInt8 32):=
 fQ a0.1 a0.1.length 0 a0 (Vector.replicate 32 (0:UInt8)) []
def bg (v6:List D0) (v7 v8:Int) (b0:Vector UInt8 32) (l0:List (List UInt8)):Option ((List D0 × Int × Int × Vector UInt8 32 × List (List UInt8)) ⊕ (Vector UInt8 32)):=
 sel (decide (v8 < v7)) (
  chk (decide (0<=v8/\v8 < v6.length)) <|
  (E5 [(1,(0:Int),(D7 (v6.getD v8.toNat kx).1),[]),(2,(0:Int),(v6.getD v8.toNat kx).2.2.2.1,[])]).bind λr1=>
  chk (decide ((l0.length + 1) * 24<=LIM/\l0.length + 1<=LEN)) <|
  some (.inl (v6,v7,(A9 (v8 + 1)),b0,(l0 ++ [r1])))) (
  Option.map .inr (
   (S4 Fu.n l0).bind λr2=>
   some r2))
def jO (v6:List D0) (v7 v8:Int) (b0:Vector UInt8 32) (l0:List (List UInt8)):=
 F8 (λv=>bg v.1 v.2.1 v.2.2.1 v.2.2.2.1 v.2.2.2.2) (v6,v7,v8,b0,l0)
def aH (a0:List D0):Option (Vector UInt8 32):=
 jO a0 a0.length 0 (Vector.replicate 32 (0:UInt8)) []
def dx (a0:o8):Option (dN):=
 (Q8 a0).bind λr1=>
 (H4 (Vector.toList r1)).bind λr2=>
 (aH []).bind λr3=>
 some ((0:Int),(0:Int),r2,r1,r3)
def iB (a0:D9) (a1:List o6):Option (B6 × Int):=
 (bH a0 a1).bind λr1=>
 sel (!decide (r1.2=0)) (
  some (((((0:Int),(0:Int),(0:Int),(0:Int),(0:Int),(0:Int),false,(0:Int),(0:Int),(0:Int),(0:Int),(0:Int)),(([],(0:Int)),([],(0:Int)),([],(0:Int)),false,(0:Int)),(0:Int),(0:Int),(0:Int),[],[]),((0:Int),(0:Int),(Vector.replicate 32 (0:UInt8)),(Vector.replicate 32 (0:UInt8)),(Vector.replicate 32 (0:UInt8))),[],[],false,(((0:Int),(0:Int),(0:Int),(Vector.replicate 32 (0:UInt8)),(Vector.replicate 32 (0:UInt8)),(Vector.replicate 32 (0:UInt8)),(Vector.replicate 32 (0:UInt8))),[]),[]),r1.2)) (
  (dx r1.1.2.1.1).bind λr2=>
  some ((r1.1,r2,[],(List.replicate 15 []),false,(((0:Int),(0:Int),(0:Int),(Vector.replicate 32 (0:UInt8)),(Vector.replicate 32 (0:UInt8)),(Vector.replicate 32 (0:UInt8)),(Vector.replicate 32 (0:UInt8))),[]),[]),0))
def dZ (a0:o7):Option (o7 × List UInt8):=
 (o9 a0 6).bind λr1=>
 chk (decide ((0:Int)<=r1.2/\r1.2 < 6)) <|
 chk (decide (r1.2.toNat < 6)) <|
 some (r1.1,(List.getD [([97,110,110]:List UInt8),([98,111,98]:List UInt8),([101,118,101]:List UInt8),([122,111,101]:List UInt8),([110,101,119]:List UInt8),([120,45,49]:List UInt8)] r1.2.toNat []))
def iC (a0:o7):Option (o7 × List UInt8):=
 (o9 a0 7).bind λr1=>
 chk (decide ((0:Int)<=r1.2/\r1.2 < 7)) <|
 chk (decide (r1.2.toNat < 7)) <|
 some (r1.1,(List.getD [[],[],[],([114,101,110,116]:List UInt8),([195,169,228,184,150]:List UInt8),([97,10,98]:List UInt8),([116,104,97,110,107,115,32,102,111,114,32,97,108,108,32,116,104,101,32,102,105,115,104,44,32,97,110,100,32,102,111,114,32,116,104,101,32,99,104,105,112,115]:List UInt8)] r1.2.toNat []))
def cX (v10:Int) (b0:o7) (b1_0:List UInt8) (b1_1 b1_2 b1_3:Int) (b1_4 b2_0:List UInt8) (b2_1 b2_2 b2_3:Int) (b2_4:List UInt8) (b3:A0) (l0:List A0):Option ((Int × o7 × List UInt8 × Int × Int × Int × List UInt8 × List UInt8 × Int × Int × Int × List UInt8 × List A0) ⊕ (o7 × C5)):=
 chk (decide ((l0.length + 1) * 24<=LIM/\l0.length + 1<=LEN)) <|
 some (.inl ((A9 (v10 - 1)),b0,b1_0,b1_1,b1_2,b1_3,b1_4,b2_0,b2_1,b2_2,b2_3,b2_4,(l0 ++ ([b3]:List A0))))
def kn (v10:Int) (b0:o7) (b1_0:List UInt8) (b1_1 b1_2 b1_3:Int) (b1_4 b2_0:List UInt8) (b2_1 b2_2 b2_3:Int) (b2_4:List UInt8) (l0:List A0):Option ((Int × o7 × List UInt8 × Int × Int × Int × List UInt8 × List UInt8 × Int × Int × Int × List UInt8 × List A0) ⊕ (o7 × C5)):=
 sel (decide (0<=v10)) (
  (dZ b0).bind λr6=>
  (o9 r6.1 60).bind λr7=>
  (o9 r7.1 12).bind λr8=>
  sel (decide (r8.2=0)) (
   cX v10 r8.1 b1_0 b1_1 b1_2 b1_3 b1_4 b2_0 b2_1 b2_2 b2_3 b2_4 (r6.2,9223372036854775808) l0) (
   cX v10 r8.1 b1_0 b1_1 b1_2 b1_3 b1_4 b2_0 b2_1 b2_2 b2_3 b2_4 (r6.2,(D7 (1 + (D7 r7.2)))) l0)) (
  some (.inr (b0,(b2_0,b2_1,b2_2,b2_3,b2_4,l0))))
def nw (v10:Int) (b0:o7) (b1_0:List UInt8) (b1_1 b1_2 b1_3:Int) (b1_4 b2_0:List UInt8) (b2_1 b2_2 b2_3:Int) (b2_4:List UInt8) (l0:List A0):=
 F8 (λv=>kn v.1 v.2.1 v.2.2.1 v.2.2.2.1 v.2.2.2.2.1 v.2.2.2.2.2.1 v.2.2.2.2.2.2.1 v.2.2.2.2.2.2.2.1 v.2.2.2.2.2.2.2.2.1 v.2.2.2.2.2.2.2.2.2.1 v.2.2.2.2.2.2.2.2.2.2.1 v.2.2.2.2.2.2.2.2.2.2.2.1 v.2.2.2.2.2.2.2.2.2.2.2.2) (v10,b0,b1_0,b1_1,b1_2,b1_3,b1_4,b2_0,b2_1,b2_2,b2_3,b2_4,l0)
def cY (b0:o7) (b1_0:List UInt8) (b1_1 b1_2 b1_3:Int) (b1_4 b2_0:List UInt8) (b2_1 b2_2 b2_3:Int) (b2_4:List UInt8):Option (o7 × C5):=
 (o9 b0 3).bind λr5=>
 nw r5.2 r5.1 b1_0 b1_1 b1_2 b1_3 b1_4 b2_0 b2_1 b2_2 b2_3 b2_4 []
def cZ (v2:Int) (b0:o7) (b1_0:List UInt8) (b1_1 b1_2 b1_3:Int) (b1_4 b2_0:List UInt8) (b2_1 b2_2 _b2_3:Int) (b2_4:List UInt8):Option (o7 × C5):=
 (o9 b0 5).bind λr4=>
 (o9 r4.1 9).bind λr9=>
 sel (decide (r9.2=0)) (
  (o9 r9.1 200).bind λr10=>
  cY r10.1 b1_0 b1_1 b1_2 b1_3 b1_4 b2_0 b2_1 b2_2 (D7 r10.2) b2_4) (
  cY r9.1 b1_0 b1_1 b1_2 b1_3 b1_4 b2_0 b2_1 b2_2 (D7 ((D7 (b2_2 * v2)) * (D7 (A9 (1 + r4.2))))) b2_4)
def da (v2:Int) (b0:o7) (b1_0:List UInt8) (b1_1 b1_2 b1_3:Int) (b1_4 b2_0:List UInt8) (b2_1 b2_2 b2_3:Int) (b2_4:List UInt8):Option (o7 × C5):=
 (o9 b0 6).bind λr11=>
 sel (decide (r11.2=0)) (
  (o9 r11.1 3).bind λr12=>
  cZ v2 r12.1 b1_0 b1_1 b1_2 b1_3 b1_4 b2_0 (D7 (b2_1 + (D7 r12.2))) b2_2 b2_3 b2_4) (
  cZ v2 r11.1 b1_0 b1_1 b1_2 b1_3 b1_4 b2_0 b2_1 b2_2 b2_3 b2_4)
def db (v2 v8:Int) (v31:Bool) (b0:o7) (b1:o8) (b2_0:List UInt8) (b2_1 b2_2 b2_3:Int) (b2_4 b3_0:List UInt8) (b3_1 b3_2 b3_3:Int) (b3_4:List UInt8):Option (o7 × C5):=
 sel v31 (
  (o9 b0 v8).bind λr13=>
  chk (decide (0<=r13.2/\r13.2 < b1.1.length)) <|
  da v2 r13.1 b2_0 b2_1 b2_2 b2_3 b2_4 (b1.1.getD r13.2.toNat B0).1 (b1.1.getD r13.2.toNat B0).2.2 b3_2 b3_3 b3_4) (
  da v2 b0 b2_0 b2_1 b2_2 b2_3 b2_4 b3_0 b3_1 b3_2 b3_3 b3_4)
def kh (a0:o7) (a1:o8) (a2:Int):Option (o7 × C5):=
 (dZ a0).bind λr1=>
 (o9 r1.1 6).bind λr2=>
 (iC r2.1).bind λr3=>
 sel (decide (0 < ((a1.1.length:Nat):Int))) (
  (o9 r3.1 8).bind λr14=>
  db a2 a1.1.length (decide (0 < r14.2)) r14.1 a1 [] (0:Int) (0:Int) (0:Int) [] r1.2 (0:Int) (D7 (150 + (D7 ((D7 r2.2) * 40)))) (0:Int) r3.2) (
  db a2 a1.1.length false r3.1 a1 [] (0:Int) (0:Int) (0:Int) [] r1.2 (0:Int) (D7 (150 + (D7 ((D7 r2.2) * 40)))) (0:Int) r3.2)
def bU (v25:Bool) (b0:o7) (l0:List UInt8):Option (o7 × List UInt8):=
 sel v25 (
  (o9 b0 l0.length).bind λr3=>
  (o9 r3.1 2).bind λr4=>
  sel (decide (r4.2=0)) (
   chk (decide ((0:Int)<=0/\0<=r3.2/\r3.2<=((l0.length:Nat):Int))) <|
   some (r4.1,(l0.take r3.2.toNat))) (
   chk (decide ((0 + l0.length) * 1<=LIM/\0 + l0.length<=LEN)) <|
   (o9 r4.1 256).bind λr5=>
   chk (decide (0<=r3.2/\r3.2 < l0.length)) <|
   chk (decide ((0:Int)<=(wu8 r5.2)/\(wu8 r5.2) < 256)) <|
   chk (decide (r3.2.toNat < l0.length)) <|
   some (r5.1,(List.set l0 r3.2.toNat (UInt8.ofNat (Int.toNat (wu8 r5.2))))))) (
  some (b0,l0))
def fR (a0:o7) (a1:o8) (a2:Int):Option (o7 × List UInt8):=
 (kh a0 a1 a2).bind λr1=>
 (W8 r1.2).bind λr2=>
 sel (decide (0 < ((r2.1.length:Nat):Int))) (
  (o9 r1.1 12).bind λr6=>
  bU (decide (r6.2=0)) r6.1 r2.1) (
  bU false r1.1 r2.1)
def gH (a0:o8) (a1:Int) (a2:List UInt8):Option (o8):=
 (L0 a0 a1 a2).bind λr1=>
 some r1.1
def aI (v9:Int) (v10:List UInt8) (b0:o7) (b1:J8) (b2:o8) (l0:List (List UInt8)):Option ((Int × o7 × J8 × o8 × List (List UInt8)) ⊕ (o7 × List (List UInt8))):=
 chk (decide ((l0.length + 1) * 24<=LIM/\l0.length + 1<=LEN)) <|
 (gH b2 b1.2.2.2.2 v10).bind λr3=>
 some (.inl ((A9 (v9 - 1)),b0,b1,r3,(l0 ++ [v10])))
def aJ (v9:Int) (v10:List UInt8) (v33:Bool) (b0:o7) (b1:J8) (b2:o8) (l0:List (List UInt8)):Option ((Int × o7 × J8 × o8 × List (List UInt8)) ⊕ (o7 × List (List UInt8))):=
 sel v33 (
  (o9 b0 l0.length).bind λr4=>
  chk (decide (0<=r4.2/\r4.2 < l0.length)) <|
  chk (decide (r4.2.toNat < l0.length)) <|
  aI v9 (l0.getD r4.2.toNat []) r4.1 b1 b2 l0) (
  aI v9 v10 b0 b1 b2 l0)
def iS (v9:Int) (b0:o7) (b1:J8) (b2:o8) (l0:List (List UInt8)):Option ((Int × o7 × J8 × o8 × List (List UInt8)) ⊕ (o7 × List (List UInt8))):=
 sel (decide (0 < v9)) (
  (fR b0 b2 b1.2.2.2.2).bind λr2=>
  sel (decide (0 < ((l0.length:Nat):Int))) (
   (o9 r2.1 9).bind λr5=>
   aJ v9 r2.2 (decide (r5.2=0)) r5.1 b1 b2 l0) (
   aJ v9 r2.2 false r2.1 b1 b2 l0)) (
  some (.inr (b0,l0)))
def lL (v9:Int) (b0:o7) (b1:J8) (b2:o8) (l0:List (List UInt8)):=
 F8 (λv=>iS v.1 v.2.1 v.2.2.1 v.2.2.2.1 v.2.2.2.2) (v9,b0,b1,b2,l0)
def ea (a0:o7) (a1:J8) (a2:Int):Option (o7 × List (List UInt8)):=
 (o9 a0 (A9 (a2 + 1))).bind λr1=>
 lL r1.2 r1.1 a1 a1.1 []
def dy (v3:Int) (v6:List (List UInt8)) (v7 v8:Int):Option ((Int × List (List UInt8) × Int × Int) ⊕ (Int)):=
 sel (decide (v8 < v7)) (
  chk (decide (0<=v8/\v8 < v6.length)) <|
  some (.inl ((A9 (v3 + (A9 ((((List.length (v6.getD v8.toNat [])):Nat):Int) + 3)))),v6,v7,(A9 (v8 + 1))))) (
  some (.inr v3))
def lm (v3:Int) (v6:List (List UInt8)) (v7 v8:Int):=
 F8 (λv=>dy v.1 v.2.1 v.2.2.1 v.2.2.2) (v3,v6,v7,v8)
def gI (a0:List (List UInt8)):Option (Int):=
 lm 0 a0 a0.length 0
def dz (v31:List (List UInt8)) (v32 v33 b0_0 b0_1 b0_2:Int) (b0_3 b0_4 b0_5 b0_6:Vector UInt8 32) (b1_0 b1_1 b1_2:Int) (b1_3 b1_4 b1_5 b1_6:Vector UInt8 32) (l0:List (List UInt8)):Option ((List (List UInt8) × Int × Int × Int × Int × Int × Vector UInt8 32 × Vector UInt8 32 × Vector UInt8 32 × Vector UInt8 32 × Int × Int × Int × Vector UInt8 32 × Vector UInt8 32 × Vector UInt8 32 × Vector UInt8 32 × List (List UInt8)) ⊕ (G9)):=
 sel (decide (v33 < v32)) (
  chk (decide (0<=v33/\v33 < v31.length)) <|
  chk (decide ((0 + (List.length (v31.getD v33.toNat []))) * 1<=LIM/\0 + (List.length (v31.getD v33.toNat []))<=LEN)) <|
  chk (decide ((l0.length + 1) * 24<=LIM/\l0.length + 1<=LEN)) <|
  some (.inl (v31,v32,(A9 (v33 + 1)),b0_0,b0_1,b0_2,b0_3,b0_4,b0_5,b0_6,b1_0,b1_1,b1_2,b1_3,b1_4,b1_5,b1_6,(l0 ++ [(v31.getD v33.toNat [])])))) (
  some (.inr ((b1_0,b1_1,b1_2,b1_3,b1_4,b1_5,b1_6),l0)))
def ln (v31:List (List UInt8)) (v32 v33 b0_0 b0_1 b0_2:Int) (b0_3 b0_4 b0_5 b0_6:Vector UInt8 32) (b1_0 b1_1 b1_2:Int) (b1_3 b1_4 b1_5 b1_6:Vector UInt8 32) (l0:List (List UInt8)):=
 F8 (λv=>dz v.1 v.2.1 v.2.2.1 v.2.2.2.1 v.2.2.2.2.1 v.2.2.2.2.2.1 v.2.2.2.2.2.2.1 v.2.2.2.2.2.2.2.1 v.2.2.2.2.2.2.2.2.1 v.2.2.2.2.2.2.2.2.2.1 v.2.2.2.2.2.2.2.2.2.2.1 v.2.2.2.2.2.2.2.2.2.2.2.1 v.2.2.2.2.2.2.2.2.2.2.2.2.1 v.2.2.2.2.2.2.2.2.2.2.2.2.2.1 v.2.2.2.2.2.2.2.2.2.2.2.2.2.2.1 v.2.2.2.2.2.2.2.2.2.2.2.2.2.2.2.1 v.2.2.2.2.2.2.2.2.2.2.2.2.2.2.2.2.1 v.2.2.2.2.2.2.2.2.2.2.2.2.2.2.2.2.2) (v31,v32,v33,b0_0,b0_1,b0_2,b0_3,b0_4,b0_5,b0_6,b1_0,b1_1,b1_2,b1_3,b1_4,b1_5,b1_6,l0)
def de (a0:dN) (a1 a2:Int) (a3:List (List UInt8)):Option (G9):=
 (S4 Fu.n a3).bind λr1=>
 ln a3 a3.length 0 (0:Int) (0:Int) (0:Int) (Vector.replicate 32 (0:UInt8)) (Vector.replicate 32 (0:UInt8)) (Vector.replicate 32 (0:UInt8)) (Vector.replicate 32 (0:UInt8)) (A9 (a0.1 + 1)) (max a1 (A9 (a0.2.1 + 1))) a2 a0.2.2.1 r1 a0.2.2.2.1 a0.2.2.2.2 []
def bh (v40 v41:Int) (l0:List A6) (l1:List (Vector UInt8 32)):Option ((Int × Int × List A6 × List (Vector UInt8 32)) ⊕ (List UInt8)):=
 sel (decide (v41 < v40)) (
  chk (decide (0<=v41/\v41 < l1.length)) <|
  chk (decide (v41.toNat < l1.length)) <|
  chk (decide ((0 + (List.length (Vector.toList (l1.getD v41.toNat (Vector.replicate 32 (0:UInt8)))))) * 1<=LIM/\0 + (List.length (Vector.toList (l1.getD v41.toNat (Vector.replicate 32 (0:UInt8)))))<=LEN)) <|
  chk (decide ((l0.length + 1) * 48<=LIM/\l0.length + 1<=LEN)) <|
  some (.inl (v40,(A9 (v41 + 1)),(l0 ++ ([((A9 (v41 + 4)),2,(0:Int),(Vector.toList (l1.getD v41.toNat (Vector.replicate 32 (0:UInt8)))))]:List A6)),l1))) (
  Option.map .inr (
   (E5 l0).bind λr1=>
   some r1))
def eT (v40 v41:Int) (l0:List A6) (l1:List (Vector UInt8 32)):=
 F8 (λv=>bh v.1 v.2.1 v.2.2.1 v.2.2.2) (v40,v41,l0,l1)
def fS (b0:D5) (l0:List A6):Option (List UInt8):=
 eT 4 0 l0 [b0.2.2.2.1,b0.2.2.2.2.1,b0.2.2.2.2.2.1,b0.2.2.2.2.2.2]
def bi (v15 v16:Int) (b0:D5) (l0:List A6) (l1:List Int):Option ((Int × Int × D5 × List A6 × List Int) ⊕ (List UInt8)):=
 sel (decide (v16 < v15)) (
  chk (decide (0<=v16/\v16 < l1.length)) <|
  chk (decide (v16.toNat < l1.length)) <|
  chk (decide ((l0.length + 1) * 48<=LIM/\l0.length + 1<=LEN)) <|
  some (.inl (v15,(A9 (v16 + 1)),b0,(l0 ++ ([((A9 (v16 + 1)),(0:Int),(D7 (max (l1.getD v16.toNat (0:Int)) 0)),[])]:List A6)),l1))) (
  Option.map .inr (
   fS b0 l0))
def jP (v15 v16:Int) (b0:D5) (l0:List A6) (l1:List Int):=
 F8 (λv=>bi v.1 v.2.1 v.2.2.1 v.2.2.2.1 v.2.2.2.2) (v15,v16,b0,l0,l1)
def V5 (a0:D5):Option (List UInt8):=
 jP 3 0 a0 [] [a0.1,a0.2.1,a0.2.2.1]
def dA (v12:List (List UInt8)) (v13 v14:Int) (l0:List A6):Option ((List (List UInt8) × Int × Int × List A6) ⊕ (List UInt8)):=
 sel (decide (v14 < v13)) (
  chk (decide (0<=v14/\v14 < v12.length)) <|
  chk (decide ((l0.length + 1) * 48<=LIM/\l0.length + 1<=LEN)) <|
  some (.inl (v12,v13,(A9 (v14 + 1)),(l0 ++ ([(2,2,(0:Int),(v12.getD v14.toNat []))]:List A6))))) (
  Option.map .inr (
   (E5 l0).bind λr2=>
   some r2))
def lp (v12:List (List UInt8)) (v13 v14:Int) (l0:List A6):=
 F8 (λv=>dA v.1 v.2.1 v.2.2.1 v.2.2.2) (v12,v13,v14,l0)
def H1 (a0:G9):Option (List UInt8):=
 (V5 a0.1).bind λr1=>
 lp a0.2 a0.2.length 0 [(1,2,(0:Int),r1)]
def L3 (v6:List (List UInt8)) (b0:o7) (b1:B6) (b2:D9):Option (o7 × List UInt8):=
 (o9 b0 5).bind λr1=>
 chk (!decide ((max b2.2.2.2.2.2.2.2.2.2.2.2 1)=0)) <|
 (de b1.2.1 (A9 (b1.1.2.2.2.1 + r1.2)) (Int.tmod (A9 (b1.2.1.1 + 1)) (max b2.2.2.2.2.2.2.2.2.2.2.2 1)) v6).bind λr2=>
 (o9 r1.1 14).bind λr3=>
 sel (decide (r3.2=0)) (
  (o9 r3.1 3).bind λr4=>
  (H1 (((A9 (r2.1.1 + (A9 (r4.2 - 1)))),r2.1.2),r2.2)).bind λr5=>
  some (r4.1,r5)) (
  sel (decide (r3.2=1)) (
   (o9 r3.1 32).bind λr6=>
   chk (decide ((0:Int)<=r6.2/\r6.2 < 32)) <|
   chk (decide (r6.2.toNat < 32)) <|
   chk (decide ((0:Int)<=r6.2/\r6.2 < 32)) <|
   chk (decide (r6.2.toNat < 32)) <|
   chk (decide ((0:Int)<=(wu8 (((UInt8.toNat (cQ r2.1.2.2.2.1 r6.2.toNat (0:UInt8)):Nat):Int) + 1))/\(wu8 (((UInt8.toNat (cQ r2.1.2.2.2.1 r6.2.toNat (0:UInt8)):Nat):Int) + 1)) < 256)) <|
   (H1 ((r2.1.1,r2.1.2.1,r2.1.2.2.1,(zY r2.1.2.2.2.1 r6.2.toNat (UInt8.ofNat (Int.toNat (wu8 (((UInt8.toNat (cQ r2.1.2.2.2.1 r6.2.toNat (0:UInt8)):Nat):Int) + 1))))),r2.1.2.2.2.2),r2.2)).bind λr7=>
   some (r6.1,r7)) (
   sel (decide (r3.2=2)) (
    chk (decide ((0:Int)<=(wu8 (((UInt8.toNat (cQ r2.1.2.2.2.2.2.1 0 (0:UInt8)):Nat):Int) + 1))/\(wu8 (((UInt8.toNat (cQ r2.1.2.2.2.2.2.1 0 (0:UInt8)):Nat):Int) + 1)) < 256)) <|
    (H1 ((r2.1.1,r2.1.2.1,r2.1.2.2.1,r2.1.2.2.2.1,r2.1.2.2.2.2.1,(zY r2.1.2.2.2.2.2.1 0 (UInt8.ofNat (Int.toNat (wu8 (((UInt8.toNat (cQ r2.1.2.2.2.2.2.1 0 (0:UInt8)):Nat):Int) + 1))))),r2.1.2.2.2.2.2.2),r2.2)).bind λr8=>
    some (r3.1,r8)) (
    sel (decide (r3.2=3)) (
     chk (decide ((0:Int)<=(wu8 (((UInt8.toNat (cQ r2.1.2.2.2.2.2.2 0 (0:UInt8)):Nat):Int) + 1))/\(wu8 (((UInt8.toNat (cQ r2.1.2.2.2.2.2.2 0 (0:UInt8)):Nat):Int) + 1)) < 256)) <|
     (H1 ((r2.1.1,r2.1.2.1,r2.1.2.2.1,r2.1.2.2.2.1,r2.1.2.2.2.2.1,r2.1.2.2.2.2.2.1,(zY r2.1.2.2.2.2.2.2 0 (UInt8.ofNat (Int.toNat (wu8 (((UInt8.toNat (cQ r2.1.2.2.2.2.2.2 0 (0:UInt8)):Nat):Int) + 1)))))),r2.2)).bind λr9=>
     some (r3.1,r9)) (
     sel (decide (r3.2=4)) (
      chk (decide ((0:Int)<=(wu8 (((UInt8.toNat (cQ r2.1.2.2.2.2.1 0 (0:UInt8)):Nat):Int) + 1))/\(wu8 (((UInt8.toNat (cQ r2.1.2.2.2.2.1 0 (0:UInt8)):Nat):Int) + 1)) < 256)) <|
      (H1 ((r2.1.1,r2.1.2.1,r2.1.2.2.1,r2.1.2.2.2.1,(zY r2.1.2.2.2.2.1 0 (UInt8.ofNat (Int.toNat (wu8 (((UInt8.toNat (cQ r2.1.2.2.2.2.1 0 (0:UInt8)):Nat):Int) + 1))))),r2.1.2.2.2.2.2),r2.2)).bind λr10=>
      some (r3.1,r10)) (
      sel (decide (r3.2=5)) (
       (o9 r3.1 2).bind λr11=>
       (H1 ((r2.1.1,(A9 (b1.2.1.2.1 + r11.2)),r2.1.2.2),r2.2)).bind λr12=>
       some (r11.1,r12)) (
       sel (decide (r3.2=6)) (
        (o9 r3.1 3).bind λr13=>
        (H1 ((r2.1.1,r2.1.2.1,r13.2,r2.1.2.2.2),r2.2)).bind λr14=>
        some (r13.1,r14)) (
        (H1 r2).bind λr15=>
        some (r3.1,r15))))))))
def fT (v6:List (List UInt8)) (b0:o7) (b1:B6) (b2:D9):Option ((List (List UInt8) × o7 × B6 × D9) ⊕ (o7 × List UInt8)):=
 sel (decide (0 < ((v6.length:Nat):Int))) (
  (o9 b0 8).bind λr16=>
  sel (decide (0 < r16.2)) (
   (gI v6).bind λr17=>
   sel (decide (b2.2.2.2.2.2.2.2.1 < r17)) (
    chk (decide ((0:Int)<=0/\0<=(A9 (((v6.length:Nat):Int) - 1))/\(A9 (((v6.length:Nat):Int) - 1))<=((v6.length:Nat):Int))) <|
    some (.inl ((List.take (Int.toNat (A9 (((v6.length:Nat):Int) - 1))) v6),r16.1,b1,b2))) (
    Option.map .inr (
     L3 v6 r16.1 b1 b2))) (
   Option.map .inr (
    L3 v6 r16.1 b1 b2))) (
  Option.map .inr (
   L3 v6 b0 b1 b2))
def eU (v6:List (List UInt8)) (b0:o7) (b1:B6) (b2:D9):=
 F8 (λv=>fT v.1 v.2.1 v.2.2.1 v.2.2.2) (v6,b0,b1,b2)
def bj (b0:o7) (b1:B6) (b2:D9) (l0:List (List UInt8)):Option (o7 × List UInt8):=
 eU l0 b0 b1 b2
def fU (b0:o7) (b1:B6) (b2:D9) (l0:List (List UInt8)):Option (o7 × List UInt8):=
 (o9 b0 2).bind λr18=>
 sel (decide (r18.2=0)) (
  (ea r18.1 b1.1.2.1 3).bind λr19=>
  chk (decide ((l0.length + r19.2.length) * 24<=LIM/\l0.length + r19.2.length<=LEN)) <|
  bj r19.1 b1 b2 (l0 ++ r19.2)) (
  bj r18.1 b1 b2 l0)
def bk (v15:List o5) (v16 v17:Int) (b0:o7) (b1:B6) (b2:D9) (l0:List (List UInt8)):Option ((List o5 × Int × Int × o7 × B6 × D9 × List (List UInt8)) ⊕ (o7 × List UInt8)):=
 sel (decide (v17 < v16)) (
  chk (decide (0<=v17/\v17 < v15.length)) <|
  (o9 b0 2).bind λr20=>
  sel (decide (r20.2=0)) (
   chk (decide ((l0.length + 1) * 24<=LIM/\l0.length + 1<=LEN)) <|
   some (.inl (v15,v16,(A9 (v17 + 1)),r20.1,b1,b2,(l0 ++ [(v15.getD v17.toNat C0).2.1])))) (
   some (.inl (v15,v16,(A9 (v17 + 1)),r20.1,b1,b2,l0)))) (
  Option.map .inr (
   fU b0 b1 b2 l0))
def jQ (v15:List o5) (v16 v17:Int) (b0:o7) (b1:B6) (b2:D9) (l0:List (List UInt8)):=
 F8 (λv=>bk v.1 v.2.1 v.2.2.1 v.2.2.2.1 v.2.2.2.2.1 v.2.2.2.2.2.1 v.2.2.2.2.2.2) (v15,v16,v17,b0,b1,b2,l0)
def ee (a0:o7) (a1:B6):Option (o7 × List UInt8):=
 jQ a1.1.2.2.2.2.2.1 a1.1.2.2.2.2.2.1.length 0 a0 a1 a1.1.1 []
def dg (v7:Int) (v43:Bool) (b0:o7) (b1:B6) (_b2 b3:P4):Option (o7 × P4):=
 sel v43 (
  (o9 b0 v7).bind λr3=>
  chk (decide (0<=r3.2/\r3.2 < b1.1.2.2.2.2.2.1.length)) <|
  (o9 r3.1 3).bind λr4=>
  some (r4.1,(b3.1,(A9 (1 + r4.2)),b3.2.2.1,b3.2.2.2.1,(b1.1.2.2.2.2.2.1.getD r3.2.toNat C0).2.1))) (
  (o9 b0 3).bind λr5=>
  some (r5.1,(b3.1,(A9 (1 + r5.2)),b3.2.2)))
def dh (v18:Int) (v78:Bool) (b0:o7) (b1:B6) (_b2 b3:P4):Option (o7 × P4):=
 sel v78 (
  (ee b0 b1).bind λr11=>
  some (r11.1,(b3.1,b3.2.1,b3.2.2.1,b3.2.2.2.1,r11.2))) (
  sel (decide (v18=9)) (
   (o9 b0 3).bind λr12=>
   some (r12.1,(b3.1,(A9 (1 + r12.2)),b3.2.2))) (
   some (b0,b3)))
def di (v18:Int) (v19:Bool) (b0:o7) (b1:B6) (b2 b3:P4):Option (o7 × P4):=
 sel v19 (
  (fR b0 b1.1.2.1.2.1 b1.1.1.2.2.2.2.2.2.2.2.2.1).bind λr2=>
  sel (decide (0 < ((b1.1.2.2.2.2.2.1.length:Nat):Int))) (
   (o9 r2.1 6).bind λr6=>
   dg b1.1.2.2.2.2.2.1.length (decide (r6.2=0)) r6.1 b1 b2 (b3.1,b3.2.1,b3.2.2.1,b3.2.2.2.1,r2.2)) (
   dg b1.1.2.2.2.2.2.1.length false r2.1 b1 b2 (b3.1,b3.2.1,b3.2.2.1,b3.2.2.2.1,r2.2))) (
  sel (decide (v18=3)) (
   (o9 b0 9).bind λr7=>
   some (r7.1,(b3.1,(A9 (1 + r7.2)),b3.2.2))) (
   sel (decide (v18=4)) (
    (o9 b0 700).bind λr8=>
    (o9 r8.1 1500).bind λr9=>
    (o9 r9.1 2).bind λr10=>
    sel (decide (r10.2=0)) (
     some (r10.1,(b3.1,b3.2.1,1048576,(-1),b3.2.2.2.2))) (
     some (r10.1,(b3.1,b3.2.1,r8.2,(A9 (r9.2 - 1)),b3.2.2.2.2)))) (
    sel (decide (v18=6)) (
     dh v18 (decide (v18=6)) b0 b1 b2 b3) (
     dh v18 (decide (v18=7)) b0 b1 b2 b3))))
def ki (a0:o7) (a1:B6):Option (o7 × P4):=
 (o9 a0 15).bind λr1=>
 chk (decide ((0:Int)<=r1.2/\r1.2 < 15)) <|
 chk (decide (r1.2.toNat < 15)) <|
 sel (decide ((List.getD [1,1,1,2,2,3,4,4,5,5,6,7,8,9,9] r1.2.toNat (0:Int))=1)) (
  di (List.getD [1,1,1,2,2,3,4,4,5,5,6,7,8,9,9] r1.2.toNat (0:Int)) (decide ((List.getD [1,1,1,2,2,3,4,4,5,5,6,7,8,9,9] r1.2.toNat (0:Int))=1)) r1.1 a1 ((0:Int),(0:Int),(0:Int),(0:Int),[]) ((List.getD [1,1,1,2,2,3,4,4,5,5,6,7,8,9,9] r1.2.toNat (0:Int)),(0:Int),(0:Int),(0:Int),[])) (
  di (List.getD [1,1,1,2,2,3,4,4,5,5,6,7,8,9,9] r1.2.toNat (0:Int)) (decide ((List.getD [1,1,1,2,2,3,4,4,5,5,6,7,8,9,9] r1.2.toNat (0:Int))=2)) r1.1 a1 ((0:Int),(0:Int),(0:Int),(0:Int),[]) ((List.getD [1,1,1,2,2,3,4,4,5,5,6,7,8,9,9] r1.2.toNat (0:Int)),(0:Int),(0:Int),(0:Int),[]))
def D6 (a0:B6) (a1:Int):Option (B6 × E7):=
 some (a0,(a1,(Vector.replicate 32 (0:UInt8)),(0:Int),[],[],[],[],[],[],(0:Int),(Vector.replicate 32 (0:UInt8))))
def V6 (v1 v2:Int) (b0:D9):Option (Int × Int):=
 some ((min v1 b0.2.2.2.2.2.2.2.1),v2)
def eh (a0:D9) (a1 a2:Int):Option (Int × Int):=
 sel (decide (a0.2.2.2.2.2.2.2.2.1 < 0)) (
  V6 a1 a2 a0) (
  sel (decide (a2 < 0)) (
   V6 a1 a0.2.2.2.2.2.2.2.2.1 a0) (
   V6 a1 (min a2 a0.2.2.2.2.2.2.2.2.1) a0))
def aK (a0 a1:Int):Option (E6 × Bool):=
 sel (decide (a0 < 0)) (
  some (((0:Int),(0:Int),false),false)) (
  sel (decide (a1 < (-1))) (
   some (((0:Int),(0:Int),false),false)) (
   some ((a0,(D7 (max a1 0)),(decide (a1 < 0))),true)))
def P1 (v6:Int) (v7:List o5) (v8 v9:Int) (b0:o5) (l0:List o5):Option ((List o5 × Int × Int × List o5) ⊕ (List o5)):=
 chk (decide ((0:Int)<=0/\0<=v6/\v6<=((l0.length:Nat):Int))) <|
 chk (decide ((0 + (List.length (l0.take v6.toNat))) * 144<=LIM/\0 + (List.length (l0.take v6.toNat))<=LEN)) <|
 chk (decide (((List.length (l0.take v6.toNat)) + 1) * 144<=LIM/\(List.length (l0.take v6.toNat)) + 1<=LEN)) <|
 chk (decide ((0:Int)<=v6/\v6<=((l0.length:Nat):Int)/\((l0.length:Nat):Int)<=((l0.length:Nat):Int))) <|
 chk (decide (((List.length ((l0.take v6.toNat) ++ ([b0]:List o5))) + (List.length (List.drop v6.toNat (List.take (Int.toNat l0.length) l0)))) * 144<=LIM/\(List.length ((l0.take v6.toNat) ++ ([b0]:List o5))) + (List.length (List.drop v6.toNat (List.take (Int.toNat l0.length) l0)))<=LEN)) <|
 some (.inl (v7,v8,(A9 (v9 + 1)),(((l0.take v6.toNat) ++ ([b0]:List o5)) ++ (List.drop v6.toNat (List.take (Int.toNat l0.length) l0)))))
def bl (v6:Int) (v7:List o5) (v8 v9:Int) (b0:o5) (l0:List o5):Option ((Int × List o5 × Int × Int × o5 × List o5) ⊕ ((List o5 × Int × Int × List o5) ⊕ (List o5))):=
 sel (decide (0 < v6)) (
  chk (decide (0<=(A9 (v6 - 1))/\(A9 (v6 - 1)) < l0.length)) <|
  chk (decide ((Int.toNat (A9 (v6 - 1))) < l0.length)) <|
  sel (decide ((l0.getD (Int.toNat (A9 (v6 - 1))) C0).2.2.2.2.2.1 < b0.2.2.2.2.2.1)) (
   some (.inl ((A9 (v6 - 1)),v7,v8,v9,b0,l0))) (
   chk (decide (0<=(A9 (v6 - 1))/\(A9 (v6 - 1)) < l0.length)) <|
   chk (decide ((Int.toNat (A9 (v6 - 1))) < l0.length)) <|
   sel (decide ((l0.getD (Int.toNat (A9 (v6 - 1))) C0).2.2.2.2.2.1=b0.2.2.2.2.2.1)) (
    chk (decide (0<=(A9 (v6 - 1))/\(A9 (v6 - 1)) < l0.length)) <|
    chk (decide ((Int.toNat (A9 (v6 - 1))) < l0.length)) <|
    sel (decide (b0.2.2.2.2.2.2.2.2.1 < (l0.getD (Int.toNat (A9 (v6 - 1))) C0).2.2.2.2.2.2.2.2.1)) (
     some (.inl ((A9 (v6 - 1)),v7,v8,v9,b0,l0))) (
     Option.map .inr (
      P1 v6 v7 v8 v9 b0 l0))) (
    Option.map .inr (
     P1 v6 v7 v8 v9 b0 l0)))) (
  Option.map .inr (
   P1 v6 v7 v8 v9 b0 l0))
def eV (v6:Int) (v7:List o5) (v8 v9:Int) (b0:o5) (l0:List o5):=
 F8 (λv=>bl v.1 v.2.1 v.2.2.1 v.2.2.2.1 v.2.2.2.2.1 v.2.2.2.2.2) (v6,v7,v8,v9,b0,l0)
def bm (v7:List o5) (v8 v9:Int) (l0:List o5):Option ((List o5 × Int × Int × List o5) ⊕ (List o5)):=
 sel (decide (v9 < v8)) (
  chk (decide (0<=v9/\v9 < v7.length)) <|
  eV l0.length v7 v8 v9 (v7.getD v9.toNat C0) l0) (
  some (.inr l0))
def jR (v7:List o5) (v8 v9:Int) (l0:List o5):=
 F8 (λv=>bm v.1 v.2.1 v.2.2.1 v.2.2.2) (v7,v8,v9,l0)
def aL (a0:List o5):Option (List o5):=
 jR a0 a0.length 0 []
def ab (v6:Int) (b0:E6) (b1:o5) (_b2:E6):Option (E6 × Bool):=
 sel (!b0.2.2) (
  some (((A9 (b0.1 - v6)),(D7 (b0.2.1 - b1.2.2.2.2.1)),b0.2.2),true)) (
  some (((A9 (b0.1 - v6)),b0.2),true))
def al (a0:E6) (a1:o5):Option (E6 × Bool):=
 (K0 a1.2.1.length).bind λr1=>
 sel (decide (a0.1 < r1)) (
  some (a0,false)) (
  sel (!a0.2.2) (
   sel (decide (a0.2.1 < a1.2.2.2.2.1)) (
    some (a0,false)) (
    ab r1 a0 a1 ((0:Int),(0:Int),false))) (
   ab r1 a0 a1 ((0:Int),(0:Int),false)))
def R5 (v30:List o5) (v31 v32:Int) (v62:Bool) (b0:A8) (b1:E6) (b2:o8) (b3:o5) (b4:E6) (b5:o8) (l0:List (List UInt8)):Option ((List o5 × Int × Int × A8 × E6 × o8 × List (List UInt8)) ⊕ (List (List UInt8))):=
 sel v62 (
  chk (decide ((0 + b3.2.1.length) * 1<=LIM/\0 + b3.2.1.length<=LEN)) <|
  chk (decide ((l0.length + 1) * 24<=LIM/\l0.length + 1<=LEN)) <|
  some (.inl (v30,v31,(A9 (v32 + 1)),b0,b4,b5,(l0 ++ [b3.2.1])))) (
  some (.inl (v30,v31,(A9 (v32 + 1)),b0,b1,b2,l0)))
def cC (v30:List o5) (v31 v32:Int) (b0:A8) (b1:E6) (b2:o8) (l0:List (List UInt8)):Option ((List o5 × Int × Int × A8 × E6 × o8 × List (List UInt8)) ⊕ (List (List UInt8))):=
 sel (decide (v32 < v31)) (
  chk (decide (0<=v32/\v32 < v30.length)) <|
  (al b1 (v30.getD v32.toNat C0)).bind λr3=>
  (L0 b2 b0.2.1.2.2.2.2 (v30.getD v32.toNat C0).2.1).bind λr4=>
  sel r3.2 (
   sel (decide (r4.2.1=0)) (
    R5 v30 v31 v32 (decide (((l0.length:Nat):Int) < 512)) b0 b1 b2 (v30.getD v32.toNat C0) r3.1 r4.1 l0) (
    R5 v30 v31 v32 false b0 b1 b2 (v30.getD v32.toNat C0) r3.1 r4.1 l0)) (
   R5 v30 v31 v32 false b0 b1 b2 (v30.getD v32.toNat C0) r3.1 r4.1 l0)) (
  some (.inr l0))
def kF (v30:List o5) (v31 v32:Int) (b0:A8) (b1:E6) (b2:o8) (l0:List (List UInt8)):=
 F8 (λv=>cC v.1 v.2.1 v.2.2.1 v.2.2.2.1 v.2.2.2.2.1 v.2.2.2.2.2.1 v.2.2.2.2.2.2) (v30,v31,v32,b0,b1,b2,l0)
def Y0 (a0:A8) (a1 a2:Int):Option (List (List UInt8)):=
 (aK a1 a2).bind λr1=>
 sel (!r1.2) (
  some []) (
  (aL a0.2.2.2.2.2.1).bind λr2=>
  kF r2 r2.length 0 a0 r1.1 a0.2.1.1 [])
def U9 (a0:D5):Option (Vector UInt8 32):=
 (V5 a0).bind λr1=>
 (H4 r1).bind λr2=>
 some r2
def dB (a0:B6) (a1:P4):Option (B6 × E7):=
 sel (decide (a1.2.2.1 < 0)) (
  (D6 a0 1).bind λr1=>
  some (r1.1,r1.2)) (
  sel (decide (a1.2.2.2.1 < (-1))) (
   (D6 a0 1).bind λr2=>
   some (r2.1,r2.2)) (
   chk (!decide (a0.1.1.2.2.2.2.2.2.2.2.2.2.2=0)) <|
   sel (!decide (a0.1.1.2.2.2.2.2.2.2.2.2.2.1=(Int.tmod (A9 (a0.2.1.1 + 1)) a0.1.1.2.2.2.2.2.2.2.2.2.2.2))) (
    (D6 a0 36).bind λr3=>
    some (r3.1,r3.2)) (
    sel (decide (1073741824<=a0.2.1.1)) (
     (D6 a0 3).bind λr4=>
     some (r4.1,r4.2)) (
     sel (decide (1099511627776 < (max a0.1.2.2.2.1 (A9 (a0.2.1.2.1 + 1))))) (
      (D6 a0 3).bind λr5=>
      some (r5.1,r5.2)) (
      (eh a0.1.1 a1.2.2.1 a1.2.2.2.1).bind λr6=>
      (Y0 a0.1 r6.1 r6.2).bind λr7=>
      (de a0.2.1 a0.1.2.2.2.1 a0.1.1.2.2.2.2.2.2.2.2.2.2.1 r7).bind λr8=>
      (U9 r8.1).bind λr9=>
      some ((a0.1,a0.2.1,a0.2.2.1,a0.2.2.2.1,true,r8,a0.2.2.2.2.2.2),((0:Int),(Vector.replicate 32 (0:UInt8)),(0:Int),[],[],[],[],[],r8.2,r8.1.1,r9)))))))
def aM (a0:G9):Option (List UInt8 × Int):=
 sel (decide (a0.1.1 < 1)) (
  some ([],1)) (
  sel (decide (1073741824 < a0.1.1)) (
   some ([],1)) (
   sel (decide (a0.1.2.1 < 1)) (
    some ([],1)) (
    sel (decide (1099511627776 < a0.1.2.1)) (
     some ([],1)) (
     sel (decide (a0.1.2.2.1 < 0)) (
      some ([],1)) (
      sel (decide (8<=a0.1.2.2.1)) (
       some ([],1)) (
       sel (decide (512 < ((a0.2.length:Nat):Int))) (
        some ([],3)) (
        (H1 a0).bind λr1=>
        sel (decide (2097152 < ((r1.length:Nat):Int))) (
         some ([],3)) (
         some (r1,0)))))))))
def bn (a0 a1:List UInt8):Option (List UInt8 × Int):=
 sel (decide (2097152 < ((a1.length:Nat):Int))) (
  some ([],3)) (
  sel (decide (16777216 < (A9 ((A9 (((a0.length:Nat):Int) + 8)) + ((a1.length:Nat):Int))))) (
   some ([],3)) (
   (H4 a1).bind λr1=>
   chk (decide ((0 + a0.length) * 1<=LIM/\0 + a0.length<=LEN)) <|
   chk (decide ((0:Int)<=(wu8 (((a1.length:Nat):Int) / 2 ^ 24))/\(wu8 (((a1.length:Nat):Int) / 2 ^ 24)) < 256)) <|
   chk (decide ((0:Int)<=(wu8 (((a1.length:Nat):Int) / 2 ^ 16))/\(wu8 (((a1.length:Nat):Int) / 2 ^ 16)) < 256)) <|
   chk (decide ((0:Int)<=(wu8 (((a1.length:Nat):Int) / 2 ^ 8))/\(wu8 (((a1.length:Nat):Int) / 2 ^ 8)) < 256)) <|
   chk (decide ((0:Int)<=(wu8 a1.length)/\(wu8 a1.length) < 256)) <|
   chk (decide ((a0.length + 4) * 1<=LIM/\a0.length + 4<=LEN)) <|
   chk (decide (((List.length (a0 ++ [(UInt8.ofNat (Int.toNat (wu8 (((a1.length:Nat):Int) / 2 ^ 24)))),(UInt8.ofNat (Int.toNat (wu8 (((a1.length:Nat):Int) / 2 ^ 16)))),(UInt8.ofNat (Int.toNat (wu8 (((a1.length:Nat):Int) / 2 ^ 8)))),(UInt8.ofNat (Int.toNat (wu8 a1.length)))])) + (List.length (List.take 4 (Vector.toList r1)))) * 1<=LIM/\(List.length (a0 ++ [(UInt8.ofNat (Int.toNat (wu8 (((a1.length:Nat):Int) / 2 ^ 24)))),(UInt8.ofNat (Int.toNat (wu8 (((a1.length:Nat):Int) / 2 ^ 16)))),(UInt8.ofNat (Int.toNat (wu8 (((a1.length:Nat):Int) / 2 ^ 8)))),(UInt8.ofNat (Int.toNat (wu8 a1.length)))])) + (List.length (List.take 4 (Vector.toList r1)))<=LEN)) <|
   chk (decide (((List.length ((a0 ++ [(UInt8.ofNat (Int.toNat (wu8 (((a1.length:Nat):Int) / 2 ^ 24)))),(UInt8.ofNat (Int.toNat (wu8 (((a1.length:Nat):Int) / 2 ^ 16)))),(UInt8.ofNat (Int.toNat (wu8 (((a1.length:Nat):Int) / 2 ^ 8)))),(UInt8.ofNat (Int.toNat (wu8 a1.length)))]) ++ (List.take 4 (Vector.toList r1)))) + a1.length) * 1<=LIM/\(List.length ((a0 ++ [(UInt8.ofNat (Int.toNat (wu8 (((a1.length:Nat):Int) / 2 ^ 24)))),(UInt8.ofNat (Int.toNat (wu8 (((a1.length:Nat):Int) / 2 ^ 16)))),(UInt8.ofNat (Int.toNat (wu8 (((a1.length:Nat):Int) / 2 ^ 8)))),(UInt8.ofNat (Int.toNat (wu8 a1.length)))]) ++ (List.take 4 (Vector.toList r1)))) + a1.length<=LEN)) <|
   some ((((a0 ++ [(UInt8.ofNat (Int.toNat (wu8 (((a1.length:Nat):Int) / 2 ^ 24)))),(UInt8.ofNat (Int.toNat (wu8 (((a1.length:Nat):Int) / 2 ^ 16)))),(UInt8.ofNat (Int.toNat (wu8 (((a1.length:Nat):Int) / 2 ^ 8)))),(UInt8.ofNat (Int.toNat (wu8 a1.length)))]) ++ (List.take 4 (Vector.toList r1))) ++ a1),0)))
def iT (b0 _b1:o8) (l0:List D0):Option (o8 × List D0):=
 some (b0,l0)
def ei (v1:Int) (v13:List (List UInt8)) (v14 v15:Int) (b0 b1:o8) (l0:List D0):Option ((Int × List (List UInt8) × Int × Int × o8 × o8 × List D0) ⊕ (o8 × List D0)):=
 sel (decide (v15 < v14)) (
  chk (decide (0<=v15/\v15 < v13.length)) <|
  (L0 b0 v1 (v13.getD v15.toNat [])).bind λr1=>
  chk (decide ((l0.length + 1) * 48<=LIM/\l0.length + 1<=LEN)) <|
  some (.inl (v1,v13,v14,(A9 (v15 + 1)),r1.1,b1,(l0 ++ ([r1.2]:List D0))))) (
  Option.map .inr (
   iT b0 b1 l0))
def lM (v1:Int) (v13:List (List UInt8)) (v14 v15:Int) (b0 b1:o8) (l0:List D0):=
 F8 (λv=>ei v.1 v.2.1 v.2.2.1 v.2.2.2.1 v.2.2.2.2.1 v.2.2.2.2.2.1 v.2.2.2.2.2.2) (v1,v13,v14,v15,b0,b1,l0)
def ek (a0:o8) (a1:Int) (a2:List (List UInt8)):Option (o8 × List D0):=
 lM a1 a2 a2.length 0 a0 ([],(0:Int)) []
def cD (a0:J8) (a1:List (List UInt8)):Option (J8 × List D0 × Int):=
 sel a0.2.2.2.1 (
  some ((([],(0:Int)),([],(0:Int)),([],(0:Int)),false,(0:Int)),[],9)) (
  sel (decide (512 < ((a1.length:Nat):Int))) (
   some ((([],(0:Int)),([],(0:Int)),([],(0:Int)),false,(0:Int)),[],3)) (
   (ek a0.1 a0.2.2.2.2 a1).bind λr1=>
   some ((a0.1,a0.2.1,r1.1,true,a0.2.2.2.2),r1.2,0)))
def eo (a0:J8):Option (J8 × Int):=
 sel (!a0.2.2.2.1) (
  some ((([],(0:Int)),([],(0:Int)),([],(0:Int)),false,(0:Int)),9)) (
  some ((a0.2.2.1,a0.2.2.1,([],(0:Int)),false,a0.2.2.2.2),0))
def dC (a0:G9) (a1:o8) (a2:List D0):Option (dN):=
 (U9 a0.1).bind λr1=>
 (Q8 a1).bind λr2=>
 (aH a2).bind λr3=>
 some (a0.1.1,a0.1.2.1,r1,r2,r3)
def bo (b0 _b1:A8) (l0:List (Vector UInt8 32)):Option (A8 × List (Vector UInt8 32)):=
 some (b0,l0)
def V7 (v1:List (List UInt8)) (v2:List D0) (v9 _v18:Int) (_v19:List D0) (_v20:Int) (_v21:Bool) (b0 b1:A8) (b2:Vector UInt8 32) (l0:List (Vector UInt8 32)):Option ((List (List UInt8) × List D0 × Int × A8 × A8 × List (Vector UInt8 32)) ⊕ (A8 × List (Vector UInt8 32))):=
 (S0 b0 b2).bind λr2=>
 sel r2.2 (
  chk (decide ((l0.length + 1) * 32<=LIM/\l0.length + 1<=LEN)) <|
  some (.inl (v1,v2,(A9 (v9 + 1)),r2.1,b1,(l0 ++ [b2])))) (
  some (.inl (v1,v2,(A9 (v9 + 1)),r2.1,b1,l0)))
def fV (v1:List (List UInt8)) (v2:List D0) (v9:Int) (b0 b1:A8) (l0:List (Vector UInt8 32)):Option ((List (List UInt8) × List D0 × Int × A8 × A8 × List (Vector UInt8 32)) ⊕ (A8 × List (Vector UInt8 32))):=
 sel (decide (v9 < v1.length)) (
  sel (decide (v9 < v2.length)) (
   chk (decide (0<=v9/\v9 < v1.length)) <|
   (H4 (v1.getD v9.toNat [])).bind λr1=>
   chk (decide (0<=v9/\v9 < v2.length)) <|
   sel (decide ((v2.getD v9.toNat kx).1=0)) (
    (ak b0 r1).bind λr3=>
    V7 v1 v2 v9 v9 v2 v2.length (decide (v9 < v2.length)) r3 b1 r1 l0) (
    (L5 b0 r1).bind λr4=>
    V7 v1 v2 v9 v9 v2 v2.length (decide (v9 < v2.length)) r4 b1 r1 l0)) (
   Option.map .inr (
    bo b0 b1 l0))) (
  Option.map .inr (
   bo b0 b1 l0))
def jS (v1:List (List UInt8)) (v2:List D0) (v9:Int) (b0 b1:A8) (l0:List (Vector UInt8 32)):=
 F8 (λv=>fV v.1 v.2.1 v.2.2.1 v.2.2.2.1 v.2.2.2.2.1 v.2.2.2.2.2) (v1,v2,v9,b0,b1,l0)
def eA (a0:A8) (a1:List (List UInt8)) (a2:List D0):Option (A8 × List (Vector UInt8 32)):=
 jS a1 a2 0 a0 (((0:Int),(0:Int),(0:Int),(0:Int),(0:Int),(0:Int),false,(0:Int),(0:Int),(0:Int),(0:Int),(0:Int)),(([],(0:Int)),([],(0:Int)),([],(0:Int)),false,(0:Int)),(0:Int),(0:Int),(0:Int),[],[]) []
def dk (a0 a1 a2:Int):Option (Bool):=
 sel (decide (0 < a2)) (
  sel (decide (a1 < a0)) (
   some (decide ((D7 a2) < (D7 ((D7 a0) - (D7 a1)))))) (
   some false)) (
  some false)
def dD (v2 v3:Int) (v12:List o5) (v13 v14:Int) (b0:D9) (l0:List (Vector UInt8 32)):Option ((Int × Int × List o5 × Int × Int × D9 × List (Vector UInt8 32)) ⊕ (List (Vector UInt8 32))):=
 sel (decide (v14 < v13)) (
  chk (decide (0<=v14/\v14 < v12.length)) <|
  (dk v2 (v12.getD v14.toNat C0).2.2.2.2.2.2.1 b0.2.2.2.2.1).bind λr1=>
  sel r1 (
   chk (decide ((l0.length + 1) * 32<=LIM/\l0.length + 1<=LEN)) <|
   some (.inl (v2,v3,v12,v13,(A9 (v14 + 1)),b0,(l0 ++ [(v12.getD v14.toNat C0).1])))) (
   (dk v3 (v12.getD v14.toNat C0).2.2.2.2.2.2.2.1 b0.2.2.2.2.2.1).bind λr2=>
   sel r2 (
    chk (decide ((l0.length + 1) * 32<=LIM/\l0.length + 1<=LEN)) <|
    some (.inl (v2,v3,v12,v13,(A9 (v14 + 1)),b0,(l0 ++ [(v12.getD v14.toNat C0).1])))) (
    some (.inl (v2,v3,v12,v13,(A9 (v14 + 1)),b0,l0))))) (
  some (.inr l0))
def lr (v2 v3:Int) (v12:List o5) (v13 v14:Int) (b0:D9) (l0:List (Vector UInt8 32)):=
 F8 (λv=>dD v.1 v.2.1 v.2.2.1 v.2.2.2.1 v.2.2.2.2.1 v.2.2.2.2.2.1 v.2.2.2.2.2.2) (v2,v3,v12,v13,v14,b0,l0)
def gJ (a0:D9) (a1:List o5) (a2 a3:Int):Option (List (Vector UInt8 32)):=
 lr a2 a3 a1 a1.length 0 a0 []
def gK (b0 _b1:A8) (l0:List (Vector UInt8 32)):Option (A8 × List (Vector UInt8 32)):=
 some (b0,l0)
def cF (v17 v18:Int) (b0 b1:A8) (l0:List (Vector UInt8 32)):Option ((Int × Int × A8 × A8 × List (Vector UInt8 32)) ⊕ (A8 × List (Vector UInt8 32))):=
 sel (decide (v18 < v17)) (
  chk (decide (0<=v18/\v18 < l0.length)) <|
  chk (decide (v18.toNat < l0.length)) <|
  (S0 b0 (l0.getD v18.toNat (Vector.replicate 32 (0:UInt8)))).bind λr2=>
  (U8 r2.1 (l0.getD v18.toNat (Vector.replicate 32 (0:UInt8)))).bind λr3=>
  some (.inl (v17,(A9 (v18 + 1)),r3,b1,l0))) (
  Option.map .inr (
   gK b0 b1 l0))
def kG (v17 v18:Int) (b0 b1:A8) (l0:List (Vector UInt8 32)):=
 F8 (λv=>cF v.1 v.2.1 v.2.2.1 v.2.2.2.1 v.2.2.2.2) (v17,v18,b0,b1,l0)
def fv (a0:A8):Option (A8 × List (Vector UInt8 32)):=
 (gJ a0.1 a0.2.2.2.2.2.1 a0.2.2.1 a0.2.2.2.1).bind λr1=>
 kG r1.length 0 a0 (((0:Int),(0:Int),(0:Int),(0:Int),(0:Int),(0:Int),false,(0:Int),(0:Int),(0:Int),(0:Int),(0:Int)),(([],(0:Int)),([],(0:Int)),([],(0:Int)),false,(0:Int)),(0:Int),(0:Int),(0:Int),[],[]) r1
def fw (a0:J8):Option (J8):=
 some (a0.1,a0.1,a0.2.2)
def eW (b0 _b1:A8) (l0:List (Vector UInt8 32)):Option (A8 × List (Vector UInt8 32)):=
 some (b0,l0)
def au (v49 v50:Int) (b0 b1:A8) (l0:List (Vector UInt8 32)):Option ((Int × Int × A8 × A8 × List (Vector UInt8 32)) ⊕ (A8 × List (Vector UInt8 32))):=
 sel (decide (v50 < v49)) (
  chk (decide (0<=v50/\v50 < l0.length)) <|
  chk (decide (v50.toNat < l0.length)) <|
  (S0 b0 (l0.getD v50.toNat (Vector.replicate 32 (0:UInt8)))).bind λr2=>
  (L5 r2.1 (l0.getD v50.toNat (Vector.replicate 32 (0:UInt8)))).bind λr3=>
  some (.inl (v49,(A9 (v50 + 1)),r3,b1,l0))) (
  Option.map .inr (
   eW b0 b1 l0))
def ju (v49 v50:Int) (b0 b1:A8) (l0:List (Vector UInt8 32)):=
 F8 (λv=>au v.1 v.2.1 v.2.2.1 v.2.2.2.1 v.2.2.2.2) (v49,v50,b0,b1,l0)
def aw (b0 b1:A8) (l0:List (Vector UInt8 32)):Option (A8 × List (Vector UInt8 32)):=
 ju l0.length 0 b0 b1 l0
def T6 (v15:List o5) (v16 v17:Int) (v35:Bool) (b0 b1:A8) (b2:o5) (l0:List (Vector UInt8 32)):Option ((List o5 × Int × Int × A8 × A8 × List (Vector UInt8 32)) ⊕ (A8 × List (Vector UInt8 32))):=
 sel v35 (
  (V4 b0.2.1 b2.2.1).bind λr5=>
  some (.inl (v15,v16,(A9 (v17 + 1)),(b0.1,r5,b0.2.2),b1,l0))) (
  chk (decide ((l0.length + 1) * 32<=LIM/\l0.length + 1<=LEN)) <|
  some (.inl (v15,v16,(A9 (v17 + 1)),b0,b1,(l0 ++ [b2.1]))))
def ay (v15:List o5) (v16 v17:Int) (b0 b1:A8) (l0:List (Vector UInt8 32)):Option ((List o5 × Int × Int × A8 × A8 × List (Vector UInt8 32)) ⊕ (A8 × List (Vector UInt8 32))):=
 sel (decide (v17 < v16)) (
  chk (decide (0<=v17/\v17 < v15.length)) <|
  (bK b0.2.1 (v15.getD v17.toNat C0).2.1).bind λr4=>
  sel (decide (r4.1=0)) (
   (bM b0 r4.2.2.2.1).bind λr6=>
   T6 v15 v16 v17 (!r6) b0 b1 (v15.getD v17.toNat C0) l0) (
   T6 v15 v16 v17 false b0 b1 (v15.getD v17.toNat C0) l0)) (
  Option.map .inr (
   aw b0 b1 l0))
def jv (v15:List o5) (v16 v17:Int) (b0 b1:A8) (l0:List (Vector UInt8 32)):=
 F8 (λv=>ay v.1 v.2.1 v.2.2.1 v.2.2.2.1 v.2.2.2.2.1 v.2.2.2.2.2) (v15,v16,v17,b0,b1,l0)
def dE (a0:A8):Option (A8 × List (Vector UInt8 32)):=
 (fw a0.2.1).bind λr1=>
 jv a0.2.2.2.2.2.1 a0.2.2.2.2.2.1.length 0 (a0.1,r1,a0.2.2) (((0:Int),(0:Int),(0:Int),(0:Int),(0:Int),(0:Int),false,(0:Int),(0:Int),(0:Int),(0:Int),(0:Int)),(([],(0:Int)),([],(0:Int)),([],(0:Int)),false,(0:Int)),(0:Int),(0:Int),(0:Int),[],[]) []
def eC (a0:A8) (a1:List (List UInt8)) (a2:List D0) (a3 a4:Int):Option (A8 × E7):=
 (eA (a0.1,a0.2.1,a3,(max a0.2.2.2.1 a4),a0.2.2.2.2) a1 a2).bind λr1=>
 (fv r1.1).bind λr2=>
 (dE r2.1).bind λr3=>
 some (r3.1,((0:Int),(Vector.replicate 32 (0:UInt8)),(0:Int),[],r2.2,r3.2,r1.2,[],[],a3,(Vector.replicate 32 (0:UInt8))))
def cG (v1:List o5) (v8:List (Vector UInt8 32)) (v9 v10:Int) (l0:List (Vector UInt8 32)):Option ((List o5 × List (Vector UInt8 32) × Int × Int × List (Vector UInt8 32)) ⊕ (List (Vector UInt8 32))):=
 sel (decide (v10 < v9)) (
  chk (decide (0<=v10/\v10 < v8.length)) <|
  (aj v1 (v8.getD v10.toNat (Vector.replicate 32 (0:UInt8)))).bind λr1=>
  sel (decide (0<=r1)) (
   chk (decide ((l0.length + 1) * 32<=LIM/\l0.length + 1<=LEN)) <|
   some (.inl (v1,v8,v9,(A9 (v10 + 1)),(l0 ++ [(v8.getD v10.toNat (Vector.replicate 32 (0:UInt8)))])))) (
   some (.inl (v1,v8,v9,(A9 (v10 + 1)),l0)))) (
  some (.inr l0))
def kH (v1:List o5) (v8:List (Vector UInt8 32)) (v9 v10:Int) (l0:List (Vector UInt8 32)):=
 F8 (λv=>cG v.1 v.2.1 v.2.2.1 v.2.2.2.1 v.2.2.2.2) (v1,v8,v9,v10,l0)
def fA (a0:List (Vector UInt8 32)) (a1:List o5):Option (List (Vector UInt8 32)):=
 kH a1 a0 a0.length 0 []
def fW (b0:G9) (_b1_0 _b1_1 _b1_2 _b1_3 _b1_4 _b1_5:Int) (_b1_6:Bool) (_b1_7 _b1_8 _b1_9 _b1_10 _b1_11 _b1_13 _b1_15 _b1_17:Int) (_b1_18:Bool) (_b1_19 _b1_20 _b1_21 _b1_22 _b1_25 _b1_26:Int) (_b1_27 _b1_28 _b1_29:Vector UInt8 32) (_b1_32:Bool) (_b1_33 _b1_34 _b1_35:Int) (_b1_36 _b1_37 _b1_38 _b1_39:Vector UInt8 32) (_b2_0:Int) (_b2_1:Vector UInt8 32) (_b2_2 _b2_9:Int) (_b2_10:Vector UInt8 32) (b3_0:A8) (b3_1:dN) (b3_4:Bool) (b3_5 b3_6 b3_7:Int) (b3_8 b3_9 b3_10 b3_11:Vector UInt8 32) (b4:E7) (l0:List G9) (l1:List (List (Vector UInt8 32))) (l2:List UInt8):Option (B6 × E7):=
 (U9 b0.1).bind λr10=>
 some ((b3_0,b3_1,l0,l1,b3_4,((b3_5,b3_6,b3_7,b3_8,b3_9,b3_10,b3_11),[]),l2),(b4.1,b4.2.1,b4.2.2.1,b4.2.2.2.1,b4.2.2.2.2.1,b4.2.2.2.2.2.1,b4.2.2.2.2.2.2.1,b4.2.2.2.2.2.2.2.1,b4.2.2.2.2.2.2.2.2.1,b4.2.2.2.2.2.2.2.2.2.1,r10))
def bp (v103:List (List (Vector UInt8 32))) (v104 v105:Int) (b0:G9) (b1_0 b1_1 b1_2 b1_3 b1_4 b1_5:Int) (b1_6:Bool) (b1_7 b1_8 b1_9 b1_10 b1_11 b1_13 b1_15 b1_17:Int) (b1_18:Bool) (b1_19 b1_20 b1_21 b1_22 b1_25 b1_26:Int) (b1_27 b1_28 b1_29:Vector UInt8 32) (b1_32:Bool) (b1_33 b1_34 b1_35:Int) (b1_36 b1_37 b1_38 b1_39:Vector UInt8 32) (b2_0:Int) (b2_1:Vector UInt8 32) (b2_2 b2_9:Int) (b2_10:Vector UInt8 32) (b3_0:A8) (b3_1:dN) (b3_4:Bool) (b3_5 b3_6 b3_7:Int) (b3_8 b3_9 b3_10 b3_11:Vector UInt8 32) (b4:A8) (b5:E7) (l0:List G9) (l1:List (List (Vector UInt8 32))) (l2:List UInt8):Option ((List (List (Vector UInt8 32)) × Int × Int × G9 × Int × Int × Int × Int × Int × Int × Bool × Int × Int × Int × Int × Int × Int × Int × Int × Bool × Int × Int × Int × Int × Int × Int × Vector UInt8 32 × Vector UInt8 32 × Vector UInt8 32 × Bool × Int × Int × Int × Vector UInt8 32 × Vector UInt8 32 × Vector UInt8 32 × Vector UInt8 32 × Int × Vector UInt8 32 × Int × Int × Vector UInt8 32 × A8 × dN × Bool × Int × Int × Int × Vector UInt8 32 × Vector UInt8 32 × Vector UInt8 32 × Vector UInt8 32 × A8 × E7 × List G9 × List (List (Vector UInt8 32)) × List UInt8) ⊕ (B6 × E7)):=
 sel (decide (v105 < v104)) (
  chk (decide (0<=v105/\v105 < v103.length)) <|
  (fA (v103.getD v105.toNat []) b4.2.2.2.2.2.1).bind λr11=>
  chk (decide ((l1.length + 1) * 24<=LIM/\l1.length + 1<=LEN)) <|
  some (.inl (v103,v104,(A9 (v105 + 1)),b0,b1_0,b1_1,b1_2,b1_3,b1_4,b1_5,b1_6,b1_7,b1_8,b1_9,b1_10,b1_11,b1_13,b1_15,b1_17,b1_18,b1_19,b1_20,b1_21,b1_22,b1_25,b1_26,b1_27,b1_28,b1_29,b1_32,b1_33,b1_34,b1_35,b1_36,b1_37,b1_38,b1_39,b2_0,b2_1,b2_2,b2_9,b2_10,b3_0,b3_1,b3_4,b3_5,b3_6,b3_7,b3_8,b3_9,b3_10,b3_11,b4,b5,l0,(l1 ++ [r11]),l2))) (
  Option.map .inr (
   fW b0 b1_0 b1_1 b1_2 b1_3 b1_4 b1_5 b1_6 b1_7 b1_8 b1_9 b1_10 b1_11 b1_13 b1_15 b1_17 b1_18 b1_19 b1_20 b1_21 b1_22 b1_25 b1_26 b1_27 b1_28 b1_29 b1_32 b1_33 b1_34 b1_35 b1_36 b1_37 b1_38 b1_39 b2_0 b2_1 b2_2 b2_9 b2_10 b3_0 b3_1 b3_4 b3_5 b3_6 b3_7 b3_8 b3_9 b3_10 b3_11 b5 l0 l1 l2))
def jT (v103:List (List (Vector UInt8 32))) (v104 v105:Int) (b0:G9) (b1_0 b1_1 b1_2 b1_3 b1_4 b1_5:Int) (b1_6:Bool) (b1_7 b1_8 b1_9 b1_10 b1_11 b1_13 b1_15 b1_17:Int) (b1_18:Bool) (b1_19 b1_20 b1_21 b1_22 b1_25 b1_26:Int) (b1_27 b1_28 b1_29:Vector UInt8 32) (b1_32:Bool) (b1_33 b1_34 b1_35:Int) (b1_36 b1_37 b1_38 b1_39:Vector UInt8 32) (b2_0:Int) (b2_1:Vector UInt8 32) (b2_2 b2_9:Int) (b2_10:Vector UInt8 32) (b3_0:A8) (b3_1:dN) (b3_4:Bool) (b3_5 b3_6 b3_7:Int) (b3_8 b3_9 b3_10 b3_11:Vector UInt8 32) (b4:A8) (b5:E7) (l0:List G9) (l1:List (List (Vector UInt8 32))) (l2:List UInt8):=
 F8 (λv=>bp v.1 v.2.1 v.2.2.1 v.2.2.2.1 v.2.2.2.2.1 v.2.2.2.2.2.1 v.2.2.2.2.2.2.1 v.2.2.2.2.2.2.2.1 v.2.2.2.2.2.2.2.2.1 v.2.2.2.2.2.2.2.2.2.1 v.2.2.2.2.2.2.2.2.2.2.1 v.2.2.2.2.2.2.2.2.2.2.2.1 v.2.2.2.2.2.2.2.2.2.2.2.2.1 v.2.2.2.2.2.2.2.2.2.2.2.2.2.1 v.2.2.2.2.2.2.2.2.2.2.2.2.2.2.1 v.2.2.2.2.2.2.2.2.2.2.2.2.2.2.2.1 v.2.2.2.2.2.2.2.2.2.2.2.2.2.2.2.2.1 v.2.2.2.2.2.2.2.2.2.2.2.2.2.2.2.2.2.1 v.2.2.2.2.2.2.2.2.2.2.2.2.2.2.2.2.2.2.1 v.2.2.2.2.2.2.2.2.2.2.2.2.2.2.2.2.2.2.2.1 v.2.2.2.2.2.2.2.2.2.2.2.2.2.2.2.2.2.2.2.2.1 v.2.2.2.2.2.2.2.2.2.2.2.2.2.2.2.2.2.2.2.2.2.1 v.2.2.2.2.2.2.2.2.2.2.2.2.2.2.2.2.2.2.2.2.2.2.1 v.2.2.2.2.2.2.2.2.2.2.2.2.2.2.2.2.2.2.2.2.2.2.2.1 v.2.2.2.2.2.2.2.2.2.2.2.2.2.2.2.2.2.2.2.2.2.2.2.2.1 v.2.2.2.2.2.2.2.2.2.2.2.2.2.2.2.2.2.2.2.2.2.2.2.2.2.1 v.2.2.2.2.2.2.2.2.2.2.2.2.2.2.2.2.2.2.2.2.2.2.2.2.2.2.1 v.2.2.2.2.2.2.2.2.2.2.2.2.2.2.2.2.2.2.2.2.2.2.2.2.2.2.2.1 v.2.2.2.2.2.2.2.2.2.2.2.2.2.2.2.2.2.2.2.2.2.2.2.2.2.2.2.2.1 v.2.2.2.2.2.2.2.2.2.2.2.2.2.2.2.2.2.2.2.2.2.2.2.2.2.2.2.2.2.1 v.2.2.2.2.2.2.2.2.2.2.2.2.2.2.2.2.2.2.2.2.2.2.2.2.2.2.2.2.2.2.1 v.2.2.2.2.2.2.2.2.2.2.2.2.2.2.2.2.2.2.2.2.2.2.2.2.2.2.2.2.2.2.2.1 v.2.2.2.2.2.2.2.2.2.2.2.2.2.2.2.2.2.2.2.2.2.2.2.2.2.2.2.2.2.2.2.2.1 v.2.2.2.2.2.2.2.2.2.2.2.2.2.2.2.2.2.2.2.2.2.2.2.2.2.2.2.2.2.2.2.2.2.1 v.2.2.2.2.2.2.2.2.2.2.2.2.2.2.2.2.2.2.2.2.2.2.2.2.2.2.2.2.2.2.2.2.2.2.1 v.2.2.2.2.2.2.2.2.2.2.2.2.2.2.2.2.2.2.2.2.2.2.2.2.2.2.2.2.2.2.2.2.2.2.2.1 v.2.2.2.2.2.2.2.2.2.2.2.2.2.2.2.2.2.2.2.2.2.2.2.2.2.2.2.2.2.2.2.2.2.2.2.2.1 v.2.2.2.2.2.2.2.2.2.2.2.2.2.2.2.2.2.2.2.2.2.2.2.2.2.2.2.2.2.2.2.2.2.2.2.2.2.1 v.2.2.2.2.2.2.2.2.2.2.2.2.2.2.2.2.2.2.2.2.2.2.2.2.2.2.2.2.2.2.2.2.2.2.2.2.2.2.1 v.2.2.2.2.2.2.2.2.2.2.2.2.2.2.2.2.2.2.2.2.2.2.2.2.2.2.2.2.2.2.2.2.2.2.2.2.2.2.2.1 v.2.2.2.2.2.2.2.2.2.2.2.2.2.2.2.2.2.2.2.2.2.2.2.2.2.2.2.2.2.2.2.2.2.2.2.2.2.2.2.2.1 v.2.2.2.2.2.2.2.2.2.2.2.2.2.2.2.2.2.2.2.2.2.2.2.2.2.2.2.2.2.2.2.2.2.2.2.2.2.2.2.2.2.1 v.2.2.2.2.2.2.2.2.2.2.2.2.2.2.2.2.2.2.2.2.2.2.2.2.2.2.2.2.2.2.2.2.2.2.2.2.2.2.2.2.2.2.1 v.2.2.2.2.2.2.2.2.2.2.2.2.2.2.2.2.2.2.2.2.2.2.2.2.2.2.2.2.2.2.2.2.2.2.2.2.2.2.2.2.2.2.2.1 v.2.2.2.2.2.2.2.2.2.2.2.2.2.2.2.2.2.2.2.2.2.2.2.2.2.2.2.2.2.2.2.2.2.2.2.2.2.2.2.2.2.2.2.2.1 v.2.2.2.2.2.2.2.2.2.2.2.2.2.2.2.2.2.2.2.2.2.2.2.2.2.2.2.2.2.2.2.2.2.2.2.2.2.2.2.2.2.2.2.2.2.1 v.2.2.2.2.2.2.2.2.2.2.2.2.2.2.2.2.2.2.2.2.2.2.2.2.2.2.2.2.2.2.2.2.2.2.2.2.2.2.2.2.2.2.2.2.2.2.1 v.2.2.2.2.2.2.2.2.2.2.2.2.2.2.2.2.2.2.2.2.2.2.2.2.2.2.2.2.2.2.2.2.2.2.2.2.2.2.2.2.2.2.2.2.2.2.2.1 v.2.2.2.2.2.2.2.2.2.2.2.2.2.2.2.2.2.2.2.2.2.2.2.2.2.2.2.2.2.2.2.2.2.2.2.2.2.2.2.2.2.2.2.2.2.2.2.2.1 v.2.2.2.2.2.2.2.2.2.2.2.2.2.2.2.2.2.2.2.2.2.2.2.2.2.2.2.2.2.2.2.2.2.2.2.2.2.2.2.2.2.2.2.2.2.2.2.2.2.1 v.2.2.2.2.2.2.2.2.2.2.2.2.2.2.2.2.2.2.2.2.2.2.2.2.2.2.2.2.2.2.2.2.2.2.2.2.2.2.2.2.2.2.2.2.2.2.2.2.2.2.1 v.2.2.2.2.2.2.2.2.2.2.2.2.2.2.2.2.2.2.2.2.2.2.2.2.2.2.2.2.2.2.2.2.2.2.2.2.2.2.2.2.2.2.2.2.2.2.2.2.2.2.2.1 v.2.2.2.2.2.2.2.2.2.2.2.2.2.2.2.2.2.2.2.2.2.2.2.2.2.2.2.2.2.2.2.2.2.2.2.2.2.2.2.2.2.2.2.2.2.2.2.2.2.2.2.2.1 v.2.2.2.2.2.2.2.2.2.2.2.2.2.2.2.2.2.2.2.2.2.2.2.2.2.2.2.2.2.2.2.2.2.2.2.2.2.2.2.2.2.2.2.2.2.2.2.2.2.2.2.2.2.1 v.2.2.2.2.2.2.2.2.2.2.2.2.2.2.2.2.2.2.2.2.2.2.2.2.2.2.2.2.2.2.2.2.2.2.2.2.2.2.2.2.2.2.2.2.2.2.2.2.2.2.2.2.2.2.1 v.2.2.2.2.2.2.2.2.2.2.2.2.2.2.2.2.2.2.2.2.2.2.2.2.2.2.2.2.2.2.2.2.2.2.2.2.2.2.2.2.2.2.2.2.2.2.2.2.2.2.2.2.2.2.2.1 v.2.2.2.2.2.2.2.2.2.2.2.2.2.2.2.2.2.2.2.2.2.2.2.2.2.2.2.2.2.2.2.2.2.2.2.2.2.2.2.2.2.2.2.2.2.2.2.2.2.2.2.2.2.2.2.2) (v103,v104,v105,b0,b1_0,b1_1,b1_2,b1_3,b1_4,b1_5,b1_6,b1_7,b1_8,b1_9,b1_10,b1_11,b1_13,b1_15,b1_17,b1_18,b1_19,b1_20,b1_21,b1_22,b1_25,b1_26,b1_27,b1_28,b1_29,b1_32,b1_33,b1_34,b1_35,b1_36,b1_37,b1_38,b1_39,b2_0,b2_1,b2_2,b2_9,b2_10,b3_0,b3_1,b3_4,b3_5,b3_6,b3_7,b3_8,b3_9,b3_10,b3_11,b4,b5,l0,l1,l2)
def aN (a0:B6) (a1:G9):Option (B6 × E7):=
 (aM a1).bind λr1=>
 sel (!decide (r1.2=0)) (
  (D6 a0 r1.2).bind λr2=>
  some (r2.1,r2.2)) (
  (bn a0.2.2.2.2.2.2 r1.1).bind λr3=>
  sel (!decide (r3.2=0)) (
   (D6 a0 r3.2).bind λr4=>
   some (r4.1,r4.2)) (
   (cD a0.1.2.1 a1.2).bind λr5=>
   sel (!decide (r5.2.2=0)) (
    (D6 a0 r5.2.2).bind λr6=>
    some (r6.1,r6.2)) (
    chk (decide ((0 + a0.2.2.1.length) * 176<=LIM/\0 + a0.2.2.1.length<=LEN)) <|
    chk (decide ((a0.2.2.1.length + 1) * 176<=LIM/\a0.2.2.1.length + 1<=LEN)) <|
    (eo r5.1).bind λr7=>
    (dC a1 r7.1.1 r5.2.1).bind λr8=>
    (eC (a0.1.1,r7.1,a0.1.2.2) a1.2 r5.2.1 a1.1.1 a1.1.2.1).bind λr9=>
    jT a0.2.2.2.1 a0.2.2.2.1.length 0 a1 (0:Int) (0:Int) (0:Int) (0:Int) (0:Int) (0:Int) false (0:Int) (0:Int) (0:Int) (0:Int) (0:Int) (0:Int) (0:Int) (0:Int) false (0:Int) (0:Int) (0:Int) (0:Int) (0:Int) (0:Int) (Vector.replicate 32 (0:UInt8)) (Vector.replicate 32 (0:UInt8)) (Vector.replicate 32 (0:UInt8)) false (0:Int) (0:Int) (0:Int) (Vector.replicate 32 (0:UInt8)) (Vector.replicate 32 (0:UInt8)) (Vector.replicate 32 (0:UInt8)) (Vector.replicate 32 (0:UInt8)) (0:Int) (Vector.replicate 32 (0:UInt8)) (0:Int) (0:Int) (Vector.replicate 32 (0:UInt8)) r9.1 r8 false (0:Int) (0:Int) (0:Int) (Vector.replicate 32 (0:UInt8)) (Vector.replicate 32 (0:UInt8)) (Vector.replicate 32 (0:UInt8)) (Vector.replicate 32 (0:UInt8)) r9.1 r9.2 (a0.2.2.1 ++ ([a1]:List G9)) [] r3.1)))
def cH (v0:List UInt8) (_b0 b1:D5) (b2:Vector (Vector UInt8 32) 4):Option (D5 × Bool):=
 (V5 (b1.1,b1.2.1,b1.2.2.1,(cQ b2 0 (Vector.replicate 32 (0:UInt8))),(cQ b2 1 (Vector.replicate 32 (0:UInt8))),(cQ b2 2 (Vector.replicate 32 (0:UInt8))),(cQ b2 3 (Vector.replicate 32 (0:UInt8))))).bind λr2=>
 (G6 r2 v0).bind λr3=>
 some ((b1.1,b1.2.1,b1.2.2.1,(cQ b2 0 (Vector.replicate 32 (0:UInt8))),(cQ b2 1 (Vector.replicate 32 (0:UInt8))),(cQ b2 2 (Vector.replicate 32 (0:UInt8))),(cQ b2 3 (Vector.replicate 32 (0:UInt8)))),r3)
def cI (v0:List UInt8) (v10 v55 v67:Int) (b0 b1:D5) (b2:Vector (Vector UInt8 32) 4) (l0:List A6):Option ((List UInt8 × Int × Int × Int × D5 × D5 × Vector (Vector UInt8 32) 4 × List A6) ⊕ ((List UInt8 × Int × D5 × D5 × Vector (Vector UInt8 32) 4 × List A6) ⊕ (D5 × Bool))):=
 sel (decide (v67 < 32)) (
  chk (decide (0<=(A9 (v10 + 3))/\(A9 (v10 + 3)) < l0.length)) <|
  chk (decide ((Int.toNat (A9 (v10 + 3))) < l0.length)) <|
  chk (decide ((0:Int)<=v67/\v67 < (((List.length (l0.getD (Int.toNat (A9 (v10 + 3))) E4).2.2.2):Nat):Int))) <|
  chk (decide ((0:Int)<=v10/\v10 < 4)) <|
  chk (decide ((0:Int)<=v67/\v67 < 32)) <|
  chk (decide (v10.toNat < 4/\v67.toNat < 32)) <|
  some (.inl (v0,v10,v55,(A9 (v67 + 1)),b0,b1,(zY b2 v10.toNat (zY (cQ b2 v10.toNat (Vector.replicate 32 (0:UInt8))) v67.toNat (List.getD (l0.getD (Int.toNat (A9 (v10 + 3))) E4).2.2.2 v67.toNat (0:UInt8)))),l0))) (
  some (.inr (.inl (v0,(A9 (v55 + 1)),b0,b1,b2,l0))))
def bD (v0:List UInt8) (v10 v55 v67:Int) (b0 b1:D5) (b2:Vector (Vector UInt8 32) 4) (l0:List A6):=
 F8 (λv=>cI v.1 v.2.1 v.2.2.1 v.2.2.2.1 v.2.2.2.2.1 v.2.2.2.2.2.1 v.2.2.2.2.2.2.1 v.2.2.2.2.2.2.2) (v0,v10,v55,v67,b0,b1,b2,l0)
def cJ (v0:List UInt8) (v55:Int) (b0 b1:D5) (b2:Vector (Vector UInt8 32) 4) (l0:List A6):Option ((List UInt8 × Int × D5 × D5 × Vector (Vector UInt8 32) 4 × List A6) ⊕ (D5 × Bool)):=
 sel (decide (v55 < 4)) (
  chk (decide (0<=(A9 (v55 + 3))/\(A9 (v55 + 3)) < l0.length)) <|
  chk (decide ((Int.toNat (A9 (v55 + 3))) < l0.length)) <|
  sel (!decide ((((List.length (l0.getD (Int.toNat (A9 (v55 + 3))) E4).2.2.2):Nat):Int)=32)) (
   some (.inr (b1,false))) (
   bD v0 v55 v55 0 b0 b1 b2 l0)) (
  Option.map .inr (
   cH v0 b0 b1 b2))
def bE (v0:List UInt8) (v55:Int) (b0 b1:D5) (b2:Vector (Vector UInt8 32) 4) (l0:List A6):=
 F8 (λv=>cJ v.1 v.2.1 v.2.2.1 v.2.2.2.1 v.2.2.2.2.1 v.2.2.2.2.2) (v0,v55,b0,b1,b2,l0)
def cK (v0:List UInt8) (b0 b1:D5) (l0:List A6):Option (D5 × Bool):=
 chk (decide ((0:Int)<=0/\0 < ((l0.length:Nat):Int))) <|
 chk (decide (0 < l0.length)) <|
 chk (decide ((0:Int)<=1/\1 < ((l0.length:Nat):Int))) <|
 chk (decide (1 < l0.length)) <|
 chk (decide ((0:Int)<=2/\2 < ((l0.length:Nat):Int))) <|
 chk (decide (2 < l0.length)) <|
 bE v0 0 b0 ((A9 (l0.getD 0 E4).2.2.1),(A9 (l0.getD 1 E4).2.2.1),(A9 (l0.getD 2 E4).2.2.1),b1.2.2.2) (Vector.replicate 4 (Vector.replicate 32 (0:UInt8))) l0
def cL (v0:List UInt8) (v8:Int) (b0 b1:D5) (l0:List A6):Option ((List UInt8 × Int × D5 × D5 × List A6) ⊕ (D5 × Bool)):=
 sel (decide (v8 < 3)) (
  chk (decide (0<=v8/\v8 < l0.length)) <|
  chk (decide (v8.toNat < l0.length)) <|
  sel (decide (9223372036854775807 < (l0.getD v8.toNat E4).2.2.1)) (
   some (.inr (b1,false))) (
   some (.inl (v0,(A9 (v8 + 1)),b0,b1,l0)))) (
  Option.map .inr (
   cK v0 b0 b1 l0))
def gX (v0:List UInt8) (v8:Int) (b0 b1:D5) (l0:List A6):=
 F8 (λv=>cL v.1 v.2.1 v.2.2.1 v.2.2.2.1 v.2.2.2.2) (v0,v8,b0,b1,l0)
def az (a0:List UInt8):Option (D5 × Bool):=
 (J2 a0).bind λr1=>
 sel (!decide (r1.2.2=0)) (
  some (((0:Int),(0:Int),(0:Int),(Vector.replicate 32 (0:UInt8)),(Vector.replicate 32 (0:UInt8)),(Vector.replicate 32 (0:UInt8)),(Vector.replicate 32 (0:UInt8))),false)) (
  sel (!decide (((r1.1.length:Nat):Int)=7)) (
   some (((0:Int),(0:Int),(0:Int),(Vector.replicate 32 (0:UInt8)),(Vector.replicate 32 (0:UInt8)),(Vector.replicate 32 (0:UInt8)),(Vector.replicate 32 (0:UInt8))),false)) (
   gX a0 0 ((0:Int),(0:Int),(0:Int),(Vector.replicate 32 (0:UInt8)),(Vector.replicate 32 (0:UInt8)),(Vector.replicate 32 (0:UInt8)),(Vector.replicate 32 (0:UInt8))) ((0:Int),(0:Int),(0:Int),(Vector.replicate 32 (0:UInt8)),(Vector.replicate 32 (0:UInt8)),(Vector.replicate 32 (0:UInt8)),(Vector.replicate 32 (0:UInt8))) r1.1))
def bq (v0:List UInt8) (_b0_0 _b0_1 _b0_2:Int) (_b0_3 _b0_4 _b0_5 _b0_6:Vector UInt8 32) (b1_0:D5) (l0:List (List UInt8)):Option (G9 × Int):=
 (H1 (b1_0,l0)).bind λr3=>
 (G6 r3 v0).bind λr4=>
 sel (!r4) (
  some ((((0:Int),(0:Int),(0:Int),(Vector.replicate 32 (0:UInt8)),(Vector.replicate 32 (0:UInt8)),(Vector.replicate 32 (0:UInt8)),(Vector.replicate 32 (0:UInt8))),[]),4)) (
  (aM (b1_0,l0)).bind λr5=>
  sel (!decide (r5.2=0)) (
   some ((((0:Int),(0:Int),(0:Int),(Vector.replicate 32 (0:UInt8)),(Vector.replicate 32 (0:UInt8)),(Vector.replicate 32 (0:UInt8)),(Vector.replicate 32 (0:UInt8))),[]),r5.2)) (
   some ((b1_0,l0),0)))
def bt (v0:List UInt8) (v46:List A6) (v47 v48 b0_0 b0_1 b0_2:Int) (b0_3 b0_4 b0_5 b0_6:Vector UInt8 32) (b1_0:D5) (l0:List (List UInt8)):Option ((List UInt8 × List A6 × Int × Int × Int × Int × Int × Vector UInt8 32 × Vector UInt8 32 × Vector UInt8 32 × Vector UInt8 32 × D5 × List (List UInt8)) ⊕ (G9 × Int)):=
 sel (decide (v48 < v47)) (
  chk (decide (0<=v48/\v48 < v46.length)) <|
  chk (decide ((l0.length + 1) * 24<=LIM/\l0.length + 1<=LEN)) <|
  some (.inl (v0,v46,v47,(A9 (v48 + 1)),b0_0,b0_1,b0_2,b0_3,b0_4,b0_5,b0_6,b1_0,(l0 ++ [(v46.getD v48.toNat E4).2.2.2])))) (
  Option.map .inr (
   bq v0 b0_0 b0_1 b0_2 b0_3 b0_4 b0_5 b0_6 b1_0 l0))
def jU (v0:List UInt8) (v46:List A6) (v47 v48 b0_0 b0_1 b0_2:Int) (b0_3 b0_4 b0_5 b0_6:Vector UInt8 32) (b1_0:D5) (l0:List (List UInt8)):=
 F8 (λv=>bt v.1 v.2.1 v.2.2.1 v.2.2.2.1 v.2.2.2.2.1 v.2.2.2.2.2.1 v.2.2.2.2.2.2.1 v.2.2.2.2.2.2.2.1 v.2.2.2.2.2.2.2.2.1 v.2.2.2.2.2.2.2.2.2.1 v.2.2.2.2.2.2.2.2.2.2.1 v.2.2.2.2.2.2.2.2.2.2.2.1 v.2.2.2.2.2.2.2.2.2.2.2.2) (v0,v46,v47,v48,b0_0,b0_1,b0_2,b0_3,b0_4,b0_5,b0_6,b1_0,l0)
def eD (a0:List UInt8):Option (G9 × Int):=
 sel (decide (2097152 < ((a0.length:Nat):Int))) (
  some ((((0:Int),(0:Int),(0:Int),(Vector.replicate 32 (0:UInt8)),(Vector.replicate 32 (0:UInt8)),(Vector.replicate 32 (0:UInt8)),(Vector.replicate 32 (0:UInt8))),[]),3)) (
  (J2 a0).bind λr1=>
  sel (!decide (r1.2.2=0)) (
   some ((((0:Int),(0:Int),(0:Int),(Vector.replicate 32 (0:UInt8)),(Vector.replicate 32 (0:UInt8)),(Vector.replicate 32 (0:UInt8)),(Vector.replicate 32 (0:UInt8))),[]),4)) (
   sel (decide (((r1.1.length:Nat):Int)=0)) (
    some ((((0:Int),(0:Int),(0:Int),(Vector.replicate 32 (0:UInt8)),(Vector.replicate 32 (0:UInt8)),(Vector.replicate 32 (0:UInt8)),(Vector.replicate 32 (0:UInt8))),[]),4)) (
    chk (decide ((0:Int)<=0/\0 < ((r1.1.length:Nat):Int))) <|
    chk (decide (0 < r1.1.length)) <|
    (az (r1.1.getD 0 E4).2.2.2).bind λr2=>
    sel (!r2.2) (
     some ((((0:Int),(0:Int),(0:Int),(Vector.replicate 32 (0:UInt8)),(Vector.replicate 32 (0:UInt8)),(Vector.replicate 32 (0:UInt8)),(Vector.replicate 32 (0:UInt8))),[]),4)) (
     chk (decide ((0:Int)<=1/\1<=((r1.1.length:Nat):Int)/\((r1.1.length:Nat):Int)<=((r1.1.length:Nat):Int))) <|
     jU a0 (List.drop 1 (List.take (Int.toNat r1.1.length) r1.1)) (((List.length (List.drop 1 (List.take (Int.toNat r1.1.length) r1.1))):Nat):Int) 0 (0:Int) (0:Int) (0:Int) (Vector.replicate 32 (0:UInt8)) (Vector.replicate 32 (0:UInt8)) (Vector.replicate 32 (0:UInt8)) (Vector.replicate 32 (0:UInt8)) r2.1 []))))
def eE (v3:Int) (v6:List (List UInt8)) (v7 v8:Int):Option ((Int × List (List UInt8) × Int × Int) ⊕ (Int)):=
 sel (decide (v8 < v7)) (
  chk (decide (0<=v8/\v8 < v6.length)) <|
  (K0 (((List.length (v6.getD v8.toNat [])):Nat):Int)).bind λr1=>
  some (.inl ((A9 (v3 + r1)),v6,v7,(A9 (v8 + 1))))) (
  some (.inr v3))
def lN (v3:Int) (v6:List (List UInt8)) (v7 v8:Int):=
 F8 (λv=>eE v.1 v.2.1 v.2.2.1 v.2.2.2) (v3,v6,v7,v8)
def S6 (a0:List (List UInt8)):Option (Int):=
 lN 0 a0 a0.length 0
def N9 (v3:Int) (v49:Bool) (b0:dN) (b1:G9) (b2:D5):Option (Int):=
 sel v49 (
  some 31) (
  sel (!(U.beq (.arr 32 .byte) b2.2.2.2.1 b0.2.2.1)) (
   some 32) (
   sel (!(U.beq (.arr 32 .byte) b2.2.2.2.2.2.1 b0.2.2.2.1)) (
    some 33) (
    sel (!(U.beq (.arr 32 .byte) b2.2.2.2.2.2.2 b0.2.2.2.2)) (
     some 34) (
     (S4 Fu.n b1.2).bind λr1=>
     sel (!(U.beq (.arr 32 .byte) b2.2.2.2.2.1 r1)) (
      some 35) (
      sel (decide (512 < ((b1.2.length:Nat):Int))) (
       some 3) (
       (S6 b1.2).bind λr2=>
       sel (decide (v3 < r2)) (
        some 3) (
        some 0)))))))
def O0 (v2 v3:Int) (v29:Bool) (b0:dN) (b1:G9) (b2:D5):Option (Int):=
 sel v29 (
  some 30) (
  chk (!decide (v2=0)) <|
  sel (!decide (b2.2.2.1=(Int.tmod b2.1 v2))) (
   some 36) (
   sel (decide (b2.2.1<=b0.2.1)) (
    N9 v3 true b0 b1 b2) (
    N9 v3 (decide (1099511627776 < b2.2.1)) b0 b1 b2)))
def I6 (v2 v3:Int) (v12:Bool) (b0:dN) (b1:G9) (b2:D5):Option (Int):=
 sel v12 (
  some 1) (
  sel (!decide (b2.1=(A9 (b0.1 + 1)))) (
   O0 v2 v3 true b0 b1 b2) (
   O0 v2 v3 (decide (1073741824 < b2.1)) b0 b1 b2))
def aA (a0:dN) (a1:G9) (a2 a3:Int):Option (Int):=
 sel (decide (a2 < 1)) (
  I6 a2 a3 true a0 a1 a1.1) (
  sel (decide (8 < a2)) (
   I6 a2 a3 true a0 a1 a1.1) (
   sel (decide (a0.1 < 0)) (
    I6 a2 a3 true a0 a1 a1.1) (
    I6 a2 a3 (decide (1073741824 < a0.1)) a0 a1 a1.1)))
def ae (a0:B6) (a1:List UInt8):Option (G9 × Int):=
 (eD a1).bind λr1=>
 sel (!decide (r1.2=0)) (
  some (r1.1,r1.2)) (
  (aA a0.2.1 r1.1 a0.1.1.2.2.2.2.2.2.2.2.2.2.2 a0.1.1.2.2.2.2.2.2.2.1).bind λr2=>
  some (r1.1,r2))
def fX (b0 _b1:o8):Option (o8 × Int × Int):=
 some (b0,0,0)
def bu (v1:Int) (v13:List (List UInt8)) (v14 v15:Int) (b0 b1:o8):Option ((Int × List (List UInt8) × Int × Int × o8 × o8) ⊕ (o8 × Int × Int)):=
 sel (decide (v15 < v14)) (
  chk (decide (0<=v15/\v15 < v13.length)) <|
  (L0 b0 v1 (v13.getD v15.toNat [])).bind λr1=>
  sel (!decide (r1.2.1=0)) (
   some (.inr (([],(0:Int)),v15,r1.2.1))) (
   some (.inl (v1,v13,v14,(A9 (v15 + 1)),r1.1,b1)))) (
  Option.map .inr (
   fX b0 b1))
def jV (v1:Int) (v13:List (List UInt8)) (v14 v15:Int) (b0 b1:o8):=
 F8 (λv=>bu v.1 v.2.1 v.2.2.1 v.2.2.2.1 v.2.2.2.2.1 v.2.2.2.2.2) (v1,v13,v14,v15,b0,b1)
def eG (a0:o8) (a1:Int) (a2:List (List UInt8)):Option (o8 × Int × Int):=
 jV a1 a2 a2.length 0 a0 ([],(0:Int))
def cM (v52:List (List UInt8)) (v53 v54:Int) (b0:E6):Option ((List (List UInt8) × Int × Int × E6) ⊕ (Int)):=
 sel (decide (v54 < v53)) (
  chk (decide (0<=v54/\v54 < v52.length)) <|
  (R1 (v52.getD v54.toNat [])).bind λr4=>
  (al b0 ((Vector.replicate 32 (0:UInt8)),(v52.getD v54.toNat []),[],(0:Int),r4.1.2.2.1,(0:Int),(0:Int),(0:Int),(0:Int),[])).bind λr5=>
  sel (!r5.2) (
   some (.inr 3)) (
   some (.inl (v52,v53,(A9 (v54 + 1)),r5.1)))) (
  some (.inr 0))
def kI (v52:List (List UInt8)) (v53 v54:Int) (b0:E6):=
 F8 (λv=>cM v.1 v.2.1 v.2.2.1 v.2.2.2) (v52,v53,v54,b0)
def bV (a0:A8) (a1:List (List UInt8)) (a2 a3:Int):Option (Int):=
 (aK a2 a3).bind λr1=>
 sel (!r1.2) (
  some 1) (
  sel (decide (512 < ((a1.length:Nat):Int))) (
   some 3) (
   (S6 a1).bind λr2=>
   sel (decide (a2 < r2)) (
    some 3) (
    (eG a0.2.1.1 a0.2.1.2.2.2.2 a1).bind λr3=>
    sel (!decide (r3.2.2=0)) (
     some r3.2.2) (
     kI a1 a1.length 0 r1.1))))
def cN (a0:B6) (a1:List UInt8):Option (B6 × E7):=
 (ae a0 a1).bind λr1=>
 sel (!decide (r1.2=0)) (
  (D6 a0 r1.2).bind λr2=>
  some (r2.1,r2.2)) (
  (bV a0.1 r1.1.2 a0.1.1.2.2.2.2.2.2.2.1 a0.1.1.2.2.2.2.2.2.2.2.1).bind λr3=>
  sel (!decide (r3=0)) (
   (D6 a0 r3).bind λr4=>
   some (r4.1,r4.2)) (
   (U9 r1.1.1).bind λr5=>
   some (a0,((0:Int),(Vector.replicate 32 (0:UInt8)),(0:Int),[],[],[],[],[],[],r1.1.1.1,r5))))
def gL (b0:B6) (_b1_0 _b1_1 _b1_2 _b1_3 _b1_4 _b1_5:Int) (_b1_6:Bool) (_b1_7 _b1_8 _b1_9 _b1_10 _b1_11 _b1_13 _b1_15 _b1_17:Int) (_b1_18:Bool) (_b1_19 _b1_20 _b1_21 _b1_22 _b1_25 _b1_26:Int) (_b1_27 _b1_28 _b1_29:Vector UInt8 32) (_b1_32:Bool) (_b1_33 _b1_34 _b1_35:Int) (_b1_36 _b1_37 _b1_38 _b1_39:Vector UInt8 32) (_b2_0:Int) (_b2_1:Vector UInt8 32) (_b2_2 _b2_9:Int) (_b2_10:Vector UInt8 32) (b3_0:Int) (b3_1:Vector UInt8 32) (b3_2 b3_9:Int) (b3_10:Vector UInt8 32) (l0:List (Vector UInt8 32)):Option (B6 × E7):=
 (fw b0.1.2.1).bind λr1=>
 some (((b0.1.1,r1,b0.1.2.2.1,b0.1.2.2.2.1,b0.1.2.2.2.2.1,[],[]),b0.2.1,b0.2.2.1,(List.replicate 15 []),b0.2.2.2.2),(b3_0,b3_1,b3_2,[],[],[],[],l0,[],b3_9,b3_10))
def cO (v9:List o5) (v10 v11:Int) (b0:B6) (b1_0 b1_1 b1_2 b1_3 b1_4 b1_5:Int) (b1_6:Bool) (b1_7 b1_8 b1_9 b1_10 b1_11 b1_13 b1_15 b1_17:Int) (b1_18:Bool) (b1_19 b1_20 b1_21 b1_22 b1_25 b1_26:Int) (b1_27 b1_28 b1_29:Vector UInt8 32) (b1_32:Bool) (b1_33 b1_34 b1_35:Int) (b1_36 b1_37 b1_38 b1_39:Vector UInt8 32) (b2_0:Int) (b2_1:Vector UInt8 32) (b2_2 b2_9:Int) (b2_10:Vector UInt8 32) (b3_0:Int) (b3_1:Vector UInt8 32) (b3_2 b3_9:Int) (b3_10:Vector UInt8 32) (l0:List (Vector UInt8 32)):Option ((List o5 × Int × Int × B6 × Int × Int × Int × Int × Int × Int × Bool × Int × Int × Int × Int × Int × Int × Int × Int × Bool × Int × Int × Int × Int × Int × Int × Vector UInt8 32 × Vector UInt8 32 × Vector UInt8 32 × Bool × Int × Int × Int × Vector UInt8 32 × Vector UInt8 32 × Vector UInt8 32 × Vector UInt8 32 × Int × Vector UInt8 32 × Int × Int × Vector UInt8 32 × Int × Vector UInt8 32 × Int × Int × Vector UInt8 32 × List (Vector UInt8 32)) ⊕ (B6 × E7)):=
 sel (decide (v11 < v10)) (
  chk (decide (0<=v11/\v11 < v9.length)) <|
  chk (decide ((l0.length + 1) * 32<=LIM/\l0.length + 1<=LEN)) <|
  some (.inl (v9,v10,(A9 (v11 + 1)),b0,b1_0,b1_1,b1_2,b1_3,b1_4,b1_5,b1_6,b1_7,b1_8,b1_9,b1_10,b1_11,b1_13,b1_15,b1_17,b1_18,b1_19,b1_20,b1_21,b1_22,b1_25,b1_26,b1_27,b1_28,b1_29,b1_32,b1_33,b1_34,b1_35,b1_36,b1_37,b1_38,b1_39,b2_0,b2_1,b2_2,b2_9,b2_10,b3_0,b3_1,b3_2,b3_9,b3_10,(l0 ++ [(v9.getD v11.toNat C0).1])))) (
  Option.map .inr (
   gL b0 b1_0 b1_1 b1_2 b1_3 b1_4 b1_5 b1_6 b1_7 b1_8 b1_9 b1_10 b1_11 b1_13 b1_15 b1_17 b1_18 b1_19 b1_20 b1_21 b1_22 b1_25 b1_26 b1_27 b1_28 b1_29 b1_32 b1_33 b1_34 b1_35 b1_36 b1_37 b1_38 b1_39 b2_0 b2_1 b2_2 b2_9 b2_10 b3_0 b3_1 b3_2 b3_9 b3_10 l0))
def kJ (v9:List o5) (v10 v11:Int) (b0:B6) (b1_0 b1_1 b1_2 b1_3 b1_4 b1_5:Int) (b1_6:Bool) (b1_7 b1_8 b1_9 b1_10 b1_11 b1_13 b1_15 b1_17:Int) (b1_18:Bool) (b1_19 b1_20 b1_21 b1_22 b1_25 b1_26:Int) (b1_27 b1_28 b1_29:Vector UInt8 32) (b1_32:Bool) (b1_33 b1_34 b1_35:Int) (b1_36 b1_37 b1_38 b1_39:Vector UInt8 32) (b2_0:Int) (b2_1:Vector UInt8 32) (b2_2 b2_9:Int) (b2_10:Vector UInt8 32) (b3_0:Int) (b3_1:Vector UInt8 32) (b3_2 b3_9:Int) (b3_10:Vector UInt8 32) (l0:List (Vector UInt8 32)):=
 F8 (λv=>cO v.1 v.2.1 v.2.2.1 v.2.2.2.1 v.2.2.2.2.1 v.2.2.2.2.2.1 v.2.2.2.2.2.2.1 v.2.2.2.2.2.2.2.1 v.2.2.2.2.2.2.2.2.1 v.2.2.2.2.2.2.2.2.2.1 v.2.2.2.2.2.2.2.2.2.2.1 v.2.2.2.2.2.2.2.2.2.2.2.1 v.2.2.2.2.2.2.2.2.2.2.2.2.1 v.2.2.2.2.2.2.2.2.2.2.2.2.2.1 v.2.2.2.2.2.2.2.2.2.2.2.2.2.2.1 v.2.2.2.2.2.2.2.2.2.2.2.2.2.2.2.1 v.2.2.2.2.2.2.2.2.2.2.2.2.2.2.2.2.1 v.2.2.2.2.2.2.2.2.2.2.2.2.2.2.2.2.2.1 v.2.2.2.2.2.2.2.2.2.2.2.2.2.2.2.2.2.2.1 v.2.2.2.2.2.2.2.2.2.2.2.2.2.2.2.2.2.2.2.1 v.2.2.2.2.2.2.2.2.2.2.2.2.2.2.2.2.2.2.2.2.1 v.2.2.2.2.2.2.2.2.2.2.2.2.2.2.2.2.2.2.2.2.2.1 v.2.2.2.2.2.2.2.2.2.2.2.2.2.2.2.2.2.2.2.2.2.2.1 v.2.2.2.2.2.2.2.2.2.2.2.2.2.2.2.2.2.2.2.2.2.2.2.1 v.2.2.2.2.2.2.2.2.2.2.2.2.2.2.2.2.2.2.2.2.2.2.2.2.1 v.2.2.2.2.2.2.2.2.2.2.2.2.2.2.2.2.2.2.2.2.2.2.2.2.2.1 v.2.2.2.2.2.2.2.2.2.2.2.2.2.2.2.2.2.2.2.2.2.2.2.2.2.2.1 v.2.2.2.2.2.2.2.2.2.2.2.2.2.2.2.2.2.2.2.2.2.2.2.2.2.2.2.1 v.2.2.2.2.2.2.2.2.2.2.2.2.2.2.2.2.2.2.2.2.2.2.2.2.2.2.2.2.1 v.2.2.2.2.2.2.2.2.2.2.2.2.2.2.2.2.2.2.2.2.2.2.2.2.2.2.2.2.2.1 v.2.2.2.2.2.2.2.2.2.2.2.2.2.2.2.2.2.2.2.2.2.2.2.2.2.2.2.2.2.2.1 v.2.2.2.2.2.2.2.2.2.2.2.2.2.2.2.2.2.2.2.2.2.2.2.2.2.2.2.2.2.2.2.1 v.2.2.2.2.2.2.2.2.2.2.2.2.2.2.2.2.2.2.2.2.2.2.2.2.2.2.2.2.2.2.2.2.1 v.2.2.2.2.2.2.2.2.2.2.2.2.2.2.2.2.2.2.2.2.2.2.2.2.2.2.2.2.2.2.2.2.2.1 v.2.2.2.2.2.2.2.2.2.2.2.2.2.2.2.2.2.2.2.2.2.2.2.2.2.2.2.2.2.2.2.2.2.2.1 v.2.2.2.2.2.2.2.2.2.2.2.2.2.2.2.2.2.2.2.2.2.2.2.2.2.2.2.2.2.2.2.2.2.2.2.1 v.2.2.2.2.2.2.2.2.2.2.2.2.2.2.2.2.2.2.2.2.2.2.2.2.2.2.2.2.2.2.2.2.2.2.2.2.1 v.2.2.2.2.2.2.2.2.2.2.2.2.2.2.2.2.2.2.2.2.2.2.2.2.2.2.2.2.2.2.2.2.2.2.2.2.2.1 v.2.2.2.2.2.2.2.2.2.2.2.2.2.2.2.2.2.2.2.2.2.2.2.2.2.2.2.2.2.2.2.2.2.2.2.2.2.2.1 v.2.2.2.2.2.2.2.2.2.2.2.2.2.2.2.2.2.2.2.2.2.2.2.2.2.2.2.2.2.2.2.2.2.2.2.2.2.2.2.1 v.2.2.2.2.2.2.2.2.2.2.2.2.2.2.2.2.2.2.2.2.2.2.2.2.2.2.2.2.2.2.2.2.2.2.2.2.2.2.2.2.1 v.2.2.2.2.2.2.2.2.2.2.2.2.2.2.2.2.2.2.2.2.2.2.2.2.2.2.2.2.2.2.2.2.2.2.2.2.2.2.2.2.2.1 v.2.2.2.2.2.2.2.2.2.2.2.2.2.2.2.2.2.2.2.2.2.2.2.2.2.2.2.2.2.2.2.2.2.2.2.2.2.2.2.2.2.2.1 v.2.2.2.2.2.2.2.2.2.2.2.2.2.2.2.2.2.2.2.2.2.2.2.2.2.2.2.2.2.2.2.2.2.2.2.2.2.2.2.2.2.2.2.1 v.2.2.2.2.2.2.2.2.2.2.2.2.2.2.2.2.2.2.2.2.2.2.2.2.2.2.2.2.2.2.2.2.2.2.2.2.2.2.2.2.2.2.2.2.1 v.2.2.2.2.2.2.2.2.2.2.2.2.2.2.2.2.2.2.2.2.2.2.2.2.2.2.2.2.2.2.2.2.2.2.2.2.2.2.2.2.2.2.2.2.2.1 v.2.2.2.2.2.2.2.2.2.2.2.2.2.2.2.2.2.2.2.2.2.2.2.2.2.2.2.2.2.2.2.2.2.2.2.2.2.2.2.2.2.2.2.2.2.2.1 v.2.2.2.2.2.2.2.2.2.2.2.2.2.2.2.2.2.2.2.2.2.2.2.2.2.2.2.2.2.2.2.2.2.2.2.2.2.2.2.2.2.2.2.2.2.2.2) (v9,v10,v11,b0,b1_0,b1_1,b1_2,b1_3,b1_4,b1_5,b1_6,b1_7,b1_8,b1_9,b1_10,b1_11,b1_13,b1_15,b1_17,b1_18,b1_19,b1_20,b1_21,b1_22,b1_25,b1_26,b1_27,b1_28,b1_29,b1_32,b1_33,b1_34,b1_35,b1_36,b1_37,b1_38,b1_39,b2_0,b2_1,b2_2,b2_9,b2_10,b3_0,b3_1,b3_2,b3_9,b3_10,l0)
def fB (a0:B6):Option (B6 × E7):=
 kJ a0.1.2.2.2.2.2.1 a0.1.2.2.2.2.2.1.length 0 a0 (0:Int) (0:Int) (0:Int) (0:Int) (0:Int) (0:Int) false (0:Int) (0:Int) (0:Int) (0:Int) (0:Int) (0:Int) (0:Int) (0:Int) false (0:Int) (0:Int) (0:Int) (0:Int) (0:Int) (0:Int) (Vector.replicate 32 (0:UInt8)) (Vector.replicate 32 (0:UInt8)) (Vector.replicate 32 (0:UInt8)) false (0:Int) (0:Int) (0:Int) (Vector.replicate 32 (0:UInt8)) (Vector.replicate 32 (0:UInt8)) (Vector.replicate 32 (0:UInt8)) (Vector.replicate 32 (0:UInt8)) (0:Int) (Vector.replicate 32 (0:UInt8)) (0:Int) (0:Int) (Vector.replicate 32 (0:UInt8)) (0:Int) (Vector.replicate 32 (0:UInt8)) (0:Int) (0:Int) (Vector.replicate 32 (0:UInt8)) []
def dF (v1:Int) (v2:List (Vector UInt8 32)) (v10:List o5) (v11 v12:Int):Option ((Int × List (Vector UInt8 32) × List o5 × Int × Int) ⊕ (List UInt8 × Bool)):=
 sel (decide (v12 < v11)) (
  chk (decide (0<=v12/\v12 < v10.length)) <|
  (bJ (v10.getD v12.toNat C0).2.2.2.2.2.2.2.2.2 v1).bind λr1=>
  sel (!r1) (
   (V2 v2 (v10.getD v12.toNat C0).1).bind λr2=>
   sel (!r2) (
    chk (decide ((0 + (List.length (v10.getD v12.toNat C0).2.1)) * 1<=LIM/\0 + (List.length (v10.getD v12.toNat C0).2.1)<=LEN)) <|
    some (.inr ((v10.getD v12.toNat C0).2.1,true))) (
    some (.inl (v1,v2,v10,v11,(A9 (v12 + 1)))))) (
   some (.inl (v1,v2,v10,v11,(A9 (v12 + 1)))))) (
  some (.inr ([],false)))
def ls (v1:Int) (v2:List (Vector UInt8 32)) (v10:List o5) (v11 v12:Int):=
 F8 (λv=>dF v.1 v.2.1 v.2.2.1 v.2.2.2.1 v.2.2.2.2) (v1,v2,v10,v11,v12)
def gM (a0:List o5) (a1:Int) (a2:List (Vector UInt8 32)):Option (List UInt8 × Bool):=
 ls a1 a2 a0 a0.length 0
def gN (a0:B6) (a1:Int):Option (B6 × E7):=
 chk (decide (0<=(A9 (a1 - 1))/\(A9 (a1 - 1)) < a0.2.2.2.1.length)) <|
 (gM a0.1.2.2.2.2.2.1 a1 (a0.2.2.2.1.getD (Int.toNat (A9 (a1 - 1))) [])).bind λr1=>
 sel (!r1.2) (
  (D6 a0 7).bind λr2=>
  some (r2.1,r2.2)) (
  (H4 r1.1).bind λr3=>
  chk (decide ((0 + a0.2.2.2.1.length) * 24<=LIM/\0 + a0.2.2.2.1.length<=LEN)) <|
  chk (decide (0<=(A9 (a1 - 1))/\(A9 (a1 - 1)) < a0.2.2.2.1.length)) <|
  chk (decide ((Int.toNat (A9 (a1 - 1))) < a0.2.2.2.1.length)) <|
  chk (decide ((0 + (List.length (a0.2.2.2.1.getD (Int.toNat (A9 (a1 - 1))) []))) * 32<=LIM/\0 + (List.length (a0.2.2.2.1.getD (Int.toNat (A9 (a1 - 1))) []))<=LEN)) <|
  chk (decide (((List.length (a0.2.2.2.1.getD (Int.toNat (A9 (a1 - 1))) [])) + 1) * 32<=LIM/\(List.length (a0.2.2.2.1.getD (Int.toNat (A9 (a1 - 1))) [])) + 1<=LEN)) <|
  chk (decide (0<=(A9 (a1 - 1))/\(A9 (a1 - 1)) < a0.2.2.2.1.length)) <|
  chk (decide ((Int.toNat (A9 (a1 - 1))) < a0.2.2.2.1.length)) <|
  some ((a0.1,a0.2.1,a0.2.2.1,(List.set a0.2.2.2.1 (Int.toNat (A9 (a1 - 1))) ((a0.2.2.2.1.getD (Int.toNat (A9 (a1 - 1))) []) ++ [r3])),a0.2.2.2.2),((0:Int),r3,(0:Int),[],[],[],[],[],[r1.1],(0:Int),(Vector.replicate 32 (0:UInt8)))))
def bW (v6:Bool) (b0:B6) (b1:P4) (_b2:B6) (_b3:E7):Option (B6 × E7):=
 sel (decide (b1.1=1)) (
  (K9 b0.1 b1.2.2.2.2 0).bind λr1=>
  some ((r1.1,b0.2),r1.2)) (
  sel (decide (b1.1=2)) (
   sel (!v6) (
    (D6 b0 1).bind λr2=>
    some (r2.1,r2.2)) (
    (K9 b0.1 b1.2.2.2.2 b1.2.1).bind λr3=>
    some ((r3.1,b0.2),r3.2))) (
   sel (decide (b1.1=3)) (
    sel (decide (b1.2.1 < 1)) (
     (D6 b0 1).bind λr4=>
     some (r4.1,r4.2)) (
     sel (decide ((A9 (1099511627776 - b0.1.2.2.2.1)) < b1.2.1)) (
      (D6 b0 1).bind λr5=>
      some (r5.1,r5.2)) (
      some (((b0.1.1,b0.1.2.1,b0.1.2.2.1,(A9 (b0.1.2.2.2.1 + b1.2.1)),b0.1.2.2.2.2),b0.2),((0:Int),(Vector.replicate 32 (0:UInt8)),(0:Int),[],[],[],[],[],[],(0:Int),(Vector.replicate 32 (0:UInt8))))))) (
    sel (decide (b1.1=4)) (
     (dB b0 b1).bind λr6=>
     some (r6.1,r6.2)) (
     sel (decide (b1.1=5)) (
      sel (!b0.2.2.2.2.1) (
       (D6 b0 9).bind λr7=>
       some (r7.1,r7.2)) (
       (aN b0 b0.2.2.2.2.2.1).bind λr8=>
       some (r8.1,r8.2))) (
      sel (decide (b1.1=6)) (
       (cN b0 b1.2.2.2.2).bind λr9=>
       some (r9.1,r9.2)) (
       sel (decide (b1.1=7)) (
        (ae b0 b1.2.2.2.2).bind λr10=>
        sel (!decide (r10.2=0)) (
         (D6 b0 r10.2).bind λr11=>
         some (r11.1,r11.2)) (
         (aN b0 r10.1).bind λr12=>
         some (r12.1,r12.2))) (
        sel (decide (b1.1=8)) (
         (fB b0).bind λr13=>
         some (r13.1,r13.2)) (
         sel (decide (b1.1=9)) (
          sel (!v6) (
           (D6 b0 1).bind λr14=>
           some (r14.1,r14.2)) (
           (gN b0 b1.2.1).bind λr15=>
           some (r15.1,r15.2))) (
          (D6 b0 1).bind λr16=>
          some (r16.1,r16.2))))))))))
def jp (a0:B6) (a1:P4):Option (B6 × E7):=
 sel (decide (1<=a1.2.1)) (
  bW (decide (a1.2.1<=15)) a0 a1 ((((0:Int),(0:Int),(0:Int),(0:Int),(0:Int),(0:Int),false,(0:Int),(0:Int),(0:Int),(0:Int),(0:Int)),(([],(0:Int)),([],(0:Int)),([],(0:Int)),false,(0:Int)),(0:Int),(0:Int),(0:Int),[],[]),((0:Int),(0:Int),(Vector.replicate 32 (0:UInt8)),(Vector.replicate 32 (0:UInt8)),(Vector.replicate 32 (0:UInt8))),[],[],false,(((0:Int),(0:Int),(0:Int),(Vector.replicate 32 (0:UInt8)),(Vector.replicate 32 (0:UInt8)),(Vector.replicate 32 (0:UInt8)),(Vector.replicate 32 (0:UInt8))),[]),[]) ((0:Int),(Vector.replicate 32 (0:UInt8)),(0:Int),[],[],[],[],[],[],(0:Int),(Vector.replicate 32 (0:UInt8)))) (
  bW false a0 a1 ((((0:Int),(0:Int),(0:Int),(0:Int),(0:Int),(0:Int),false,(0:Int),(0:Int),(0:Int),(0:Int),(0:Int)),(([],(0:Int)),([],(0:Int)),([],(0:Int)),false,(0:Int)),(0:Int),(0:Int),(0:Int),[],[]),((0:Int),(0:Int),(Vector.replicate 32 (0:UInt8)),(Vector.replicate 32 (0:UInt8)),(Vector.replicate 32 (0:UInt8))),[],[],false,(((0:Int),(0:Int),(0:Int),(Vector.replicate 32 (0:UInt8)),(Vector.replicate 32 (0:UInt8)),(Vector.replicate 32 (0:UInt8)),(Vector.replicate 32 (0:UInt8))),[]),[]) ((0:Int),(Vector.replicate 32 (0:UInt8)),(0:Int),[],[],[],[],[],[],(0:Int),(Vector.replicate 32 (0:UInt8))))
def lu (_b0 b1:B6) (b2:o7) (l0:List o6) (l1:List P4):Option (o7 × B6 × List o6 × List P4):=
 some (b2,b1,l0,l1)
def gO (v12:Int) (b0:o7) (b1 b2:B6) (l0:List o6) (l1:List P4):Option ((Int × o7 × B6 × B6 × List o6 × List P4) ⊕ (o7 × B6 × List o6 × List P4)):=
 sel (decide (0 < v12)) (
  (ki b0 b2).bind λr5=>
  chk (decide ((l1.length + 1) * 56<=LIM/\l1.length + 1<=LEN)) <|
  (jp b2 r5.2).bind λr6=>
  some (.inl ((A9 (v12 - 1)),r5.1,b1,r6.1,l0,(l1 ++ ([r5.2]:List P4))))) (
  Option.map .inr (
   lu b1 b2 b0 l0 l1))
def kK (v12:Int) (b0:o7) (b1 b2:B6) (l0:List o6) (l1:List P4):=
 F8 (λv=>gO v.1 v.2.1 v.2.2.1 v.2.2.2.1 v.2.2.2.2.1 v.2.2.2.2.2) (v12,b0,b1,b2,l0,l1)
def fC (a0:o7) (a1:Int):Option (o7 × B6 × List o6 × List P4):=
 (fu a0).bind λr1=>
 (dw r1.1).bind λr2=>
 (iB r1.2 r2.2).bind λr3=>
 sel (!decide (r3.2=0)) (
  some (r2.1,r3.1,r2.2,[])) (
  (o9 r2.1 (A9 (a1 + 1))).bind λr4=>
  kK r4.2 r4.1 ((((0:Int),(0:Int),(0:Int),(0:Int),(0:Int),(0:Int),false,(0:Int),(0:Int),(0:Int),(0:Int),(0:Int)),(([],(0:Int)),([],(0:Int)),([],(0:Int)),false,(0:Int)),(0:Int),(0:Int),(0:Int),[],[]),((0:Int),(0:Int),(Vector.replicate 32 (0:UInt8)),(Vector.replicate 32 (0:UInt8)),(Vector.replicate 32 (0:UInt8))),[],[],false,(((0:Int),(0:Int),(0:Int),(Vector.replicate 32 (0:UInt8)),(Vector.replicate 32 (0:UInt8)),(Vector.replicate 32 (0:UInt8)),(Vector.replicate 32 (0:UInt8))),[]),[]) r3.1 r2.2 [])
def N4 (a0:List Int):Option (A8 × Int × Int × o7):=
 (ll a0).bind λr1=>
 (fC r1 12).bind λr2=>
 (o9 r2.1 500).bind λr3=>
 (o9 r3.1 1800).bind λr4=>
 some (r2.2.1.1,r3.2,(A9 (r4.2 - 1)),r4.1)
def P7 (v38 v39:Int) (b0:A8) (l0:List (Vector Int 2)):Option ((Int × Int × A8 × List (Vector Int 2)) ⊕ (Bool)):=
 sel (decide (v39 < v38)) (
  chk (decide (0<=v39/\v39 < l0.length)) <|
  chk (decide (v39.toNat < l0.length)) <|
  (U0 b0 (cQ (l0.getD v39.toNat (Vector.replicate 2 (0:Int))) 0 (0:Int)) (cQ (l0.getD v39.toNat (Vector.replicate 2 (0:Int))) 1 (0:Int))).bind λr4=>
  (Y0 b0 (cQ (l0.getD v39.toNat (Vector.replicate 2 (0:Int))) 0 (0:Int)) (cQ (l0.getD v39.toNat (Vector.replicate 2 (0:Int))) 1 (0:Int))).bind λr5=>
  (X2 r4 r5).bind λr6=>
  sel (!r6) (
   some (.inr false)) (
   some (.inl (v38,(A9 (v39 + 1)),b0,l0)))) (
  Option.map .inr (
   (F9).bind λr7=>
   some r7))
def X4 (v38 v39:Int) (b0:A8) (l0:List (Vector Int 2)):=
 F8 (λv=>P7 v.1 v.2.1 v.2.2.1 v.2.2.2) (v38,v39,b0,l0)
def U1 (a0:List Int) (a1 a2:Int):Option (Bool):=
 (Q0 [a0]).bind λr1=>
 sel r1 (
  (F9).bind λr2=>
  some r2) (
  (N4 a0).bind λr3=>
  X4 6 0 r3.1 [(Vector.push (Vector.push #v[] r3.2.1) r3.2.2.1),(Vector.push (Vector.push #v[] a1) a2),(Vector.push (Vector.push #v[] r3.2.1) (-1)),(Vector.push (Vector.push #v[] 1048576) r3.2.2.1),(Vector.push (Vector.push #v[] (-1)) (-1)),(Vector.push (Vector.push #v[] r3.2.1) (-2))])
def P8 (v2 v3 v10 v11:Int) (v15:List (List UInt8)) (v50 v51 v70 v71:Int) (b0:A8) (l0:List (List (List UInt8))) (l1:List (Vector Int 2)):Option ((Int × Int × Int × Int × List (List UInt8) × Int × Int × Int × Int × A8 × List (List (List UInt8)) × List (Vector Int 2)) ⊕ ((Int × Int × Int × Int × Int × Int × A8 × List (List (List UInt8))) ⊕ (Bool))):=
 sel (decide (v71 < v70)) (
  chk (decide (0<=v71/\v71 < l1.length)) <|
  chk (decide (v71.toNat < l1.length)) <|
  (Y1 b0 v15 (cQ (l1.getD v71.toNat (Vector.replicate 2 (0:Int))) 0 (0:Int)) (cQ (l1.getD v71.toNat (Vector.replicate 2 (0:Int))) 1 (0:Int))).bind λr9=>
  (bV b0 v15 (cQ (l1.getD v71.toNat (Vector.replicate 2 (0:Int))) 0 (0:Int)) (cQ (l1.getD v71.toNat (Vector.replicate 2 (0:Int))) 1 (0:Int))).bind λr10=>
  sel (!decide (r9=r10)) (
   some (.inr (.inr false))) (
   some (.inl (v2,v3,v10,v11,v15,v50,v51,v70,(A9 (v71 + 1)),b0,l0,l1)))) (
  some (.inr (.inl (v2,v3,v10,v11,v50,(A9 (v51 + 1)),b0,l0))))
def X5 (v2 v3 v10 v11:Int) (v15:List (List UInt8)) (v50 v51 v70 v71:Int) (b0:A8) (l0:List (List (List UInt8))) (l1:List (Vector Int 2)):=
 F8 (λv=>P8 v.1 v.2.1 v.2.2.1 v.2.2.2.1 v.2.2.2.2.1 v.2.2.2.2.2.1 v.2.2.2.2.2.2.1 v.2.2.2.2.2.2.2.1 v.2.2.2.2.2.2.2.2.1 v.2.2.2.2.2.2.2.2.2.1 v.2.2.2.2.2.2.2.2.2.2.1 v.2.2.2.2.2.2.2.2.2.2.2) (v2,v3,v10,v11,v15,v50,v51,v70,v71,b0,l0,l1)
def P9 (v2 v3 v10 v11 v50 v51:Int) (b0:A8) (l0:List (List (List UInt8))):Option ((Int × Int × Int × Int × Int × Int × A8 × List (List (List UInt8))) ⊕ (Bool)):=
 sel (decide (v51 < v50)) (
  chk (decide (0<=v51/\v51 < l0.length)) <|
  chk (decide (v51.toNat < l0.length)) <|
  (S6 (l0.getD v51.toNat [])).bind λr7=>
  (S6 (l0.getD v51.toNat [])).bind λr8=>
  X5 v2 v3 v10 v11 (l0.getD v51.toNat []) v50 v51 5 0 b0 l0 [(Vector.push (Vector.push #v[] v10) v11),(Vector.push (Vector.push #v[] v2) v3),(Vector.push (Vector.push #v[] 1048576) (-1)),(Vector.push (Vector.push #v[] r7) 600),(Vector.push (Vector.push #v[] (A9 (r8 - 1))) (-1))]) (
  Option.map .inr (
   (F9).bind λr11=>
   some r11))
def X6 (v2 v3 v10 v11 v50 v51:Int) (b0:A8) (l0:List (List (List UInt8))):=
 F8 (λv=>P9 v.1 v.2.1 v.2.2.1 v.2.2.2.1 v.2.2.2.2.1 v.2.2.2.2.2.1 v.2.2.2.2.2.2.1 v.2.2.2.2.2.2.2) (v2,v3,v10,v11,v50,v51,b0,l0)
def U2 (a0:List Int) (a1:List (List UInt8)) (a2 a3:Int):Option (Bool):=
 (Q0 [a0]).bind λr1=>
 sel r1 (
  (F9).bind λr2=>
  some r2) (
  sel (decide (10 < ((a1.length:Nat):Int))) (
   (F9).bind λr3=>
   some r3) (
   (N4 a0).bind λr4=>
   (ea r4.2.2.2 r4.1.2.1 5).bind λr5=>
   (Y0 r4.1 r4.2.1 r4.2.2.1).bind λr6=>
   chk (decide ((0 + r5.2.length) * 24<=LIM/\0 + r5.2.length<=LEN)) <|
   chk (decide ((r5.2.length + a1.length) * 24<=LIM/\r5.2.length + a1.length<=LEN)) <|
   X6 a2 a3 r4.2.1 r4.2.2.1 4 0 r4.1 [a1,r5.2,r6,(r5.2 ++ a1)]))
def eH (v6:List (List UInt8)) (v7 v8:Int) (l0:List (Vector UInt8 32)):Option ((List (List UInt8) × Int × Int × List (Vector UInt8 32)) ⊕ (List (Vector UInt8 32))):=
 sel (decide (v8 < v7)) (
  chk (decide (0<=v8/\v8 < v6.length)) <|
  (H4 (v6.getD v8.toNat [])).bind λr1=>
  chk (decide ((l0.length + 1) * 32<=LIM/\l0.length + 1<=LEN)) <|
  some (.inl (v6,v7,(A9 (v8 + 1)),(l0 ++ [r1])))) (
  some (.inr l0))
def lO (v6:List (List UInt8)) (v7 v8:Int) (l0:List (Vector UInt8 32)):=
 F8 (λv=>eH v.1 v.2.1 v.2.2.1 v.2.2.2) (v6,v7,v8,l0)
def iD (a0:List (List UInt8)):Option (List (Vector UInt8 32)):=
 lO a0 a0.length 0 []
def aB (v0 v5:List (Vector UInt8 32)) (v6 v7:Int):Option ((List (Vector UInt8 32) × List (Vector UInt8 32) × Int × Int) ⊕ (Bool)):=
 sel (decide (v7 < v6)) (
  chk (decide (0<=v7/\v7 < v5.length)) <|
  chk (decide ((0:Int)<=0/\0<=v7/\v7<=((v0.length:Nat):Int))) <|
  (V2 (v0.take v7.toNat) (v5.getD v7.toNat (Vector.replicate 32 (0:UInt8)))).bind λr1=>
  sel r1 (
   some (.inr false)) (
   some (.inl (v0,v5,v6,(A9 (v7 + 1)))))) (
  some (.inr true))
def jw (v0 v5:List (Vector UInt8 32)) (v6 v7:Int):=
 F8 (λv=>aB v.1 v.2.1 v.2.2.1 v.2.2.2) (v0,v5,v6,v7)
def dG (a0:List (Vector UInt8 32)):Option (Bool):=
 jw a0 a0 a0.length 0
def M6 (v5 v8:Int):Option (Bool):=
 sel (decide (v5 < 0)) (
  (F9).bind λr10=>
  some r10) (
  sel (decide (v8<=(D7 v5))) (
   (F9).bind λr11=>
   some r11) (
   some false))
def M7 (v5 v8 v58 v59:Int) (b0:A8) (l0:List D0) (l1:List (List UInt8)):Option ((Int × Int × Int × Int × A8 × List D0 × List (List UInt8)) ⊕ (Bool)):=
 sel (decide (v59 < v58)) (
  chk (decide (0<=v59/\v59 < l1.length)) <|
  chk (decide (v59.toNat < l1.length)) <|
  (H4 (l1.getD v59.toNat [])).bind λr12=>
  (aj b0.2.2.2.2.2.1 r12).bind λr13=>
  sel (decide (r13 < 0)) (
   some (.inr false)) (
   chk (decide (0<=v59/\v59 < l0.length)) <|
   chk (decide (v59.toNat < l0.length)) <|
   sel (!decide ((l0.getD v59.toNat kx).1=0)) (
    some (.inr false)) (
    chk (decide (0<=v59/\v59 < l0.length)) <|
    chk (decide (v59.toNat < l0.length)) <|
    some (.inl (v5,(D7 (v8 + (l0.getD v59.toNat kx).2.2.2.1)),v58,(A9 (v59 + 1)),b0,l0,l1))))) (
  Option.map .inr (
   M6 v5 v8))
def V0 (v5 v8 v58 v59:Int) (b0:A8) (l0:List D0) (l1:List (List UInt8)):=
 F8 (λv=>M7 v.1 v.2.1 v.2.2.1 v.2.2.2.1 v.2.2.2.2.1 v.2.2.2.2.2.1 v.2.2.2.2.2.2) (v5,v8,v58,v59,b0,l0,l1)
def R6 (a0:List Int):Option (Bool):=
 (Q0 [a0]).bind λr1=>
 sel r1 (
  (F9).bind λr2=>
  some r2) (
  (N4 a0).bind λr3=>
  (U0 r3.1 r3.2.1 r3.2.2.1).bind λr4=>
  (Y1 r3.1 r4 r3.2.1 r3.2.2.1).bind λr5=>
  sel (!decide (r5=0)) (
   some false) (
   (iD r4).bind λr6=>
   (dG r6).bind λr7=>
   sel (!r7) (
    some false) (
    (S6 r4).bind λr8=>
    sel (decide (r3.2.1 < r8)) (
     some false) (
     (ek r3.1.2.1.1 r3.1.2.1.2.2.2.2 r4).bind λr9=>
     V0 r3.2.2.1 0 r4.length 0 r3.1 r9.2 r4))))
def O1 (v9:Int) (l0:List (List UInt8)):Option (Bool):=
 sel (decide (v9=((l0.length:Nat):Int))) (
  (F9).bind λr5=>
  some r5) (
  some false)
def K3 (v5 v9 v10 v11 v14:Int) (v41:List o5) (v42 v43 _v65:Int) (_v66 _v67 _v72:Bool) (_v76:Int) (_v77:Bool) (b0:A8) (_b1:o8) (b2:o5) (b3:o8) (_b4:D0) (l0:List (List UInt8)):Option ((Int × Int × Int × Int × List o5 × Int × Int × A8 × o8 × List (List UInt8)) ⊕ (Bool)):=
 sel (decide (((l0.length:Nat):Int)<=v9)) (
  some (.inr false)) (
  chk (decide (0<=v9/\v9 < l0.length)) <|
  chk (decide (v9.toNat < l0.length)) <|
  (G6 (l0.getD v9.toNat []) b2.2.1).bind λr9=>
  sel (!r9) (
   some (.inr false)) (
   sel (decide (0<=v5)) (
    some (.inl (v5,(A9 (v9 + 1)),(A9 (v10 - v14)),(D7 (v11 - b2.2.2.2.2.1)),v41,v42,(A9 (v43 + 1)),b0,b3,l0))) (
    some (.inl (v5,(A9 (v9 + 1)),(A9 (v10 - v14)),v11,v41,v42,(A9 (v43 + 1)),b0,b3,l0)))))
def O2 (v5 v9 v10 v11:Int) (v41:List o5) (v42 v43:Int) (b0:A8) (b1:o8) (l0:List (List UInt8)):Option ((Int × Int × Int × Int × List o5 × Int × Int × A8 × o8 × List (List UInt8)) ⊕ (Bool)):=
 sel (decide (v43 < v42)) (
  chk (decide (0<=v43/\v43 < v41.length)) <|
  (K0 (((List.length (v41.getD v43.toNat C0).2.1):Nat):Int)).bind λr7=>
  (L0 b1 b0.2.1.2.2.2.2 (v41.getD v43.toNat C0).2.1).bind λr8=>
  sel (decide (v10 < r7)) (
   some (.inl (v5,v9,v10,v11,v41,v42,(A9 (v43 + 1)),b0,b1,l0))) (
   sel (decide (0<=v5)) (
    sel (decide (v11 < (v41.getD v43.toNat C0).2.2.2.2.1)) (
     some (.inl (v5,v9,v10,v11,v41,v42,(A9 (v43 + 1)),b0,b1,l0))) (
     sel (!decide (r8.2.1=0)) (
      some (.inl (v5,v9,v10,v11,v41,v42,(A9 (v43 + 1)),b0,b1,l0))) (
      K3 v5 v9 v10 v11 r7 v41 v42 v43 v5 (decide (0<=v5)) true (decide (v11 < (v41.getD v43.toNat C0).2.2.2.2.1)) r8.2.1 (!decide (r8.2.1=0)) b0 b1 (v41.getD v43.toNat C0) r8.1 r8.2 l0))) (
    sel (!decide (r8.2.1=0)) (
     some (.inl (v5,v9,v10,v11,v41,v42,(A9 (v43 + 1)),b0,b1,l0))) (
     K3 v5 v9 v10 v11 r7 v41 v42 v43 v5 (decide (0<=v5)) false false r8.2.1 (!decide (r8.2.1=0)) b0 b1 (v41.getD v43.toNat C0) r8.1 r8.2 l0)))) (
  Option.map .inr (
   O1 v9 l0))
def W4 (v5 v9 v10 v11:Int) (v41:List o5) (v42 v43:Int) (b0:A8) (b1:o8) (l0:List (List UInt8)):=
 F8 (λv=>O2 v.1 v.2.1 v.2.2.1 v.2.2.2.1 v.2.2.2.2.1 v.2.2.2.2.2.1 v.2.2.2.2.2.2.1 v.2.2.2.2.2.2.2.1 v.2.2.2.2.2.2.2.2.1 v.2.2.2.2.2.2.2.2.2) (v5,v9,v10,v11,v41,v42,v43,b0,b1,l0)
def S7 (a0:List Int):Option (Bool):=
 (Q0 [a0]).bind λr1=>
 sel r1 (
  (F9).bind λr2=>
  some r2) (
  (N4 a0).bind λr3=>
  (U0 r3.1 r3.2.1 r3.2.2.1).bind λr4=>
  (aL r3.1.2.2.2.2.2.1).bind λr6=>
  W4 r3.2.2.1 0 r3.2.1 (D7 (max r3.2.2.1 0)) r6 r6.length 0 r3.1 r3.1.2.1.1 r4)
def S8 (v4 v5:Int) (v7:Bool) (b0:A8):Option (Bool):=
 (U0 b0 v4 v5).bind λr4=>
 sel (Xw (decide (0 < ((r4.length:Nat):Int))) v7) (
  (F9).bind λr5=>
  some r5) (
  some false)
def S9 (v4 v5:Int) (v7:Bool) (v24:List o5) (v25 v26:Int) (b0:A8):Option ((Int × Int × Bool × List o5 × Int × Int × A8) ⊕ (Bool)):=
 sel (decide (v26 < v25)) (
  chk (decide (0<=v26/\v26 < v24.length)) <|
  (L0 b0.2.1.1 b0.2.1.2.2.2.2 (v24.getD v26.toNat C0).2.1).bind λr6=>
  sel v7 (
   some (.inl (v4,v5,true,v24,v25,(A9 (v26 + 1)),b0))) (
   sel (decide (r6.2.1=0)) (
    (K0 (((List.length (v24.getD v26.toNat C0).2.1):Nat):Int)).bind λr7=>
    sel (decide (r7<=v4)) (
     sel (decide (v5 < 0)) (
      some (.inl (v4,v5,true,v24,v25,(A9 (v26 + 1)),b0))) (
      some (.inl (v4,v5,(decide ((v24.getD v26.toNat C0).2.2.2.2.1<=(D7 v5))),v24,v25,(A9 (v26 + 1)),b0)))) (
     some (.inl (v4,v5,false,v24,v25,(A9 (v26 + 1)),b0)))) (
    some (.inl (v4,v5,false,v24,v25,(A9 (v26 + 1)),b0))))) (
  Option.map .inr (
   S8 v4 v5 v7 b0))
def am (v4 v5:Int) (v7:Bool) (v24:List o5) (v25 v26:Int) (b0:A8):=
 F8 (λv=>S9 v.1 v.2.1 v.2.2.1 v.2.2.2.1 v.2.2.2.2.1 v.2.2.2.2.2.1 v.2.2.2.2.2.2) (v4,v5,v7,v24,v25,v26,b0)
def X7 (a0:List Int):Option (Bool):=
 (Q0 [a0]).bind λr1=>
 sel r1 (
  (F9).bind λr2=>
  some r2) (
  (N4 a0).bind λr3=>
  am r3.2.1 r3.2.2.1 false r3.1.2.2.2.2.2.1 r3.1.2.2.2.2.2.1.length 0 r3.1)
end
end Go.Proofs.YtjbgdpjgfjnkbaaGreatDoor.Am
