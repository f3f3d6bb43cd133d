/- What functions of the program compute on plain data. No conditions. -/
import Derived.Test.YtbipjlehhlkghaaDoorQAC
import Derived.Test.YtbipjlehhlkghaaDoorQAD
import Derived.Test.YtbipjlehhlkghaaDoorQAE
import Derived.Test.YtbipjlehhlkghaaDoorKD
namespace Go.Proofs.YtbipjlehhlkghaaDoor.Am
open Go
def A3:U:=(.pr .str (.int .u64))
abbrev o4:Type:=List UInt8 × Int
def A4:o4:=([],(0:Int))
def A1:U:=(.pr .str (.pr (.int .u64) (.int .u64)))
abbrev o3:Type:=List UInt8 × Int × Int
def o5:o3:=([],(0:Int),(0:Int))
def B3:U:=(.pr (.sl (.pr .str (.pr (.int .u64) (.int .u64)))) (.int .u64))
abbrev o7:Type:=List o3 × Int
def A9:U:=(.pr (.int .i64) (.pr (.int .i64) (.pr (.int .u64) (.sl .byte))))
abbrev o6:Type:=Int × Int × Int × List UInt8
def A5:o6:=((0:Int),(0:Int),(0:Int),[])
def a1u:U:=(.pr (.int .i64) (.pr .str (.pr (.int .u64) (.pr (.int .u64) (.int .u64)))))
abbrev U0:Type:=Int × List UInt8 × Int × Int × Int
def J6:U:=(.pr .str (.pr (.int .u64) (.pr (.int .u64) (.pr (.int .u64) (.pr .str (.sl (.pr .str (.int .u64))))))))
abbrev o8:Type:=List UInt8 × Int × Int × Int × List UInt8 × List o4
def O7 (a0:Int) (a1:Int):Option (Int):=
 chk (!decide (a1=0)) <|
 sel (decide ((Int.tmod a0 a1) < 0)) (
  some (B0 ((Int.tmod a0 a1) + a1))) (
  some (Int.tmod a0 a1))
def T4 (v0:List UInt8):Option (Bool):=
 sel (decide (1<=(((List.length v0):Nat):Int))) (
  some (decide ((((List.length v0):Nat):Int)<=20))) (
  some false)
def I2 (v0:List UInt8) (v3:Int):Option ((List UInt8 × Int) ⊕ (Bool)):=
 sel (decide (v3 < (((List.length v0):Nat):Int))) (
  chk (decide ((0:Int)<=v3/\v3 < (((List.length v0):Nat):Int))) <|
  sel (decide (97<=((UInt8.toNat (List.getD v0 (Int.toNat v3) (0:UInt8)):Nat):Int))) (
   sel (decide (((UInt8.toNat (List.getD v0 (Int.toNat v3) (0:UInt8)):Nat):Int)<=122)) (
    some (.inl (v0,(B0 (v3 + 1))))) (
    sel (decide (48<=((UInt8.toNat (List.getD v0 (Int.toNat v3) (0:UInt8)):Nat):Int))) (
     sel (decide (((UInt8.toNat (List.getD v0 (Int.toNat v3) (0:UInt8)):Nat):Int)<=57)) (
      some (.inl (v0,(B0 (v3 + 1))))) (
      sel (!(decide (((UInt8.toNat (List.getD v0 (Int.toNat v3) (0:UInt8)):Nat):Int)=45))) (
       some (.inr false)) (
       some (.inl (v0,(B0 (v3 + 1))))))) (
     sel (!(decide (((UInt8.toNat (List.getD v0 (Int.toNat v3) (0:UInt8)):Nat):Int)=45))) (
      some (.inr false)) (
      some (.inl (v0,(B0 (v3 + 1)))))))) (
   sel (decide (48<=((UInt8.toNat (List.getD v0 (Int.toNat v3) (0:UInt8)):Nat):Int))) (
    sel (decide (((UInt8.toNat (List.getD v0 (Int.toNat v3) (0:UInt8)):Nat):Int)<=57)) (
     some (.inl (v0,(B0 (v3 + 1))))) (
     sel (!(decide (((UInt8.toNat (List.getD v0 (Int.toNat v3) (0:UInt8)):Nat):Int)=45))) (
      some (.inr false)) (
      some (.inl (v0,(B0 (v3 + 1))))))) (
    sel (!(decide (((UInt8.toNat (List.getD v0 (Int.toNat v3) (0:UInt8)):Nat):Int)=45))) (
     some (.inr false)) (
     some (.inl (v0,(B0 (v3 + 1)))))))) (
  Option.map .inr (
   T4 v0))
def a0k (v0:List UInt8) (v3:Int):Option (Bool):=
 N0 (fun v=>I2 v.1 v.2) (v0,v3)
def I3 (a0:List UInt8):Option (Bool):=
 a0k a0 0
def D1 (a0:List UInt8) (a1:Int):Option (Bool):=
 sel (decide (a1 < (((List.length a0):Nat):Int))) (
  chk (decide ((0:Int)<=a1/\a1 < (((List.length a0):Nat):Int))) <|
  sel (decide (128<=((UInt8.toNat (List.getD a0 (Int.toNat a1) (0:UInt8)):Nat):Int))) (
   chk (decide ((0:Int)<=a1/\a1 < (((List.length a0):Nat):Int))) <|
   some (decide (((UInt8.toNat (List.getD a0 (Int.toNat a1) (0:UInt8)):Nat):Int) < 192))) (
   some false)) (
  some false)
def C7 (v0:List UInt8) (v1:Int) (v5:UInt8) (v64:Bool):Option (Int):=
 sel v64 (
  sel (decide (((UInt8.toNat v5:Nat):Int)=240)) (
   chk (decide ((0:Int)<=(B0 (v1 + 1))/\(B0 (v1 + 1)) < (((List.length v0):Nat):Int))) <|
   sel (decide (((UInt8.toNat (List.getD v0 (Int.toNat (B0 (v1 + 1))) (0:UInt8)):Nat):Int) < 144)) (
    some 0) (
    sel (decide (((UInt8.toNat v5:Nat):Int)=244)) (
     chk (decide ((0:Int)<=(B0 (v1 + 1))/\(B0 (v1 + 1)) < (((List.length v0):Nat):Int))) <|
     sel (decide (144<=((UInt8.toNat (List.getD v0 (Int.toNat (B0 (v1 + 1))) (0:UInt8)):Nat):Int))) (
      some 0) (
      some 4)) (
     some 4))) (
   sel (decide (((UInt8.toNat v5:Nat):Int)=244)) (
    chk (decide ((0:Int)<=(B0 (v1 + 1))/\(B0 (v1 + 1)) < (((List.length v0):Nat):Int))) <|
    sel (decide (144<=((UInt8.toNat (List.getD v0 (Int.toNat (B0 (v1 + 1))) (0:UInt8)):Nat):Int))) (
     some 0) (
     some 4)) (
    some 4))) (
  some 0)
def D5 (v0:List UInt8) (v1:Int) (v5:UInt8) (v25:Bool):Option (Int):=
 sel v25 (
  sel (decide (((UInt8.toNat v5:Nat):Int)=224)) (
   chk (decide ((0:Int)<=(B0 (v1 + 1))/\(B0 (v1 + 1)) < (((List.length v0):Nat):Int))) <|
   sel (decide (((UInt8.toNat (List.getD v0 (Int.toNat (B0 (v1 + 1))) (0:UInt8)):Nat):Int) < 160)) (
    some 0) (
    sel (decide (((UInt8.toNat v5:Nat):Int)=237)) (
     chk (decide ((0:Int)<=(B0 (v1 + 1))/\(B0 (v1 + 1)) < (((List.length v0):Nat):Int))) <|
     sel (decide (160<=((UInt8.toNat (List.getD v0 (Int.toNat (B0 (v1 + 1))) (0:UInt8)):Nat):Int))) (
      some 0) (
      some 3)) (
     some 3))) (
   sel (decide (((UInt8.toNat v5:Nat):Int)=237)) (
    chk (decide ((0:Int)<=(B0 (v1 + 1))/\(B0 (v1 + 1)) < (((List.length v0):Nat):Int))) <|
    sel (decide (160<=((UInt8.toNat (List.getD v0 (Int.toNat (B0 (v1 + 1))) (0:UInt8)):Nat):Int))) (
     some 0) (
     some 3)) (
    some 3))) (
  sel (decide (240<=((UInt8.toNat v5:Nat):Int))) (
   sel (decide (((UInt8.toNat v5:Nat):Int) < 245)) (
    (D1 v0 (B0 (v1 + 1))).bind fun r1=>
    sel r1 (
     (D1 v0 (B0 (v1 + 2))).bind fun r2=>
     sel r2 (
      (D1 v0 (B0 (v1 + 3))).bind fun r3=>
      C7 v0 v1 v5 r3) (
      C7 v0 v1 v5 false)) (
     C7 v0 v1 v5 false)) (
    C7 v0 v1 v5 false)) (
   C7 v0 v1 v5 false))
def E3 (v0:List UInt8) (v1:Int) (v5:UInt8) (v12:Bool):Option (Int):=
 sel v12 (
  some 2) (
  sel (decide (224<=((UInt8.toNat v5:Nat):Int))) (
   sel (decide (((UInt8.toNat v5:Nat):Int) < 240)) (
    (D1 v0 (B0 (v1 + 1))).bind fun r4=>
    sel r4 (
     (D1 v0 (B0 (v1 + 2))).bind fun r5=>
     D5 v0 v1 v5 r5) (
     D5 v0 v1 v5 false)) (
    D5 v0 v1 v5 false)) (
   D5 v0 v1 v5 false))
def U3 (a0:List UInt8) (a1:Int):Option (Int):=
 chk (decide ((0:Int)<=a1/\a1 < (((List.length a0):Nat):Int))) <|
 sel (decide (((UInt8.toNat (List.getD a0 (Int.toNat a1) (0:UInt8)):Nat):Int) < 128)) (
  some 1) (
  sel (decide (194<=((UInt8.toNat (List.getD a0 (Int.toNat a1) (0:UInt8)):Nat):Int))) (
   sel (decide (((UInt8.toNat (List.getD a0 (Int.toNat a1) (0:UInt8)):Nat):Int) < 224)) (
    (D1 a0 (B0 (a1 + 1))).bind fun r6=>
    E3 a0 a1 (List.getD a0 (Int.toNat a1) (0:UInt8)) r6) (
    E3 a0 a1 (List.getD a0 (Int.toNat a1) (0:UInt8)) false)) (
   E3 a0 a1 (List.getD a0 (Int.toNat a1) (0:UInt8)) false))
def U4 (v0:List UInt8) (v4:Int) (v5:Int):Option ((List UInt8 × Int × Int) ⊕ (Int × Bool)):=
 sel (decide (v5 < (((List.length v0):Nat):Int))) (
  (U3 v0 v5).bind fun r1=>
  sel (decide (r1=0)) (
   some (.inr (0,false))) (
   some (.inl (v0,(B0 (v4 + 1)),(B0 (v5 + r1)))))) (
  some (.inr (v4,true)))
def a0E (v0:List UInt8) (v4:Int) (v5:Int):Option (Int × Bool):=
 N0 (fun v=>U4 v.1 v.2.1 v.2.2) (v0,v4,v5)
def S3 (a0:List UInt8):Option (Int × Bool):=
 a0E a0 0 0
def Q5 (a0:List UInt8):Option (Bool):=
 (S3 a0).bind fun r1=>
 sel r1.2 (
  some (decide (r1.1<=64))) (
  some false)
def I6 (v31:List o4) (v32:Int) (v33:Int):Option ((List o4 × Int × Int) ⊕ (Int)):=
 sel (decide (v33 < v32)) (
  chk (decide ((0:Int)<=v33/\v33 < (((List.length v31):Nat):Int))) <|
  (I3 (List.getD v31 (Int.toNat v33) A4).1).bind fun r3=>
  sel (!r3) (
   some (.inr 10)) (
   sel (decide ((List.getD v31 (Int.toNat v33) A4).2=0)) (
    some (.inr 12)) (
    some (.inl (v31,v32,(B0 (v33 + 1))))))) (
  some (.inr 0))
def M5 (v31:List o4) (v32:Int) (v33:Int):Option (Int):=
 N0 (fun v=>I6 v.1 v.2.1 v.2.2) (v31,v32,v33)
def H4 (a0:o8):Option (Int):=
 (I3 a0.1).bind fun r1=>
 sel (!r1) (
  some 10) (
  sel (decide (a0.2.2.1=0)) (
   some 15) (
   (Q5 a0.2.2.2.2.1).bind fun r2=>
   sel (!r2) (
    some 11) (
    sel (decide ((((List.length a0.2.2.2.2.2):Nat):Int)=0)) (
     some 3) (
     sel (decide (16 < (((List.length a0.2.2.2.2.2):Nat):Int))) (
      some 3) (
      M5 a0.2.2.2.2.2 (((List.length a0.2.2.2.2.2):Nat):Int) 0)))))
def I0 (a0:List o6) (a1:Int) (a2:List UInt8):Option (List o6):=
 sel (decide (a2=[])) (
  some a0) (
  chk (decide ((List.length a2)<=maxLen)) <|
  chk (decide (((List.length a0) + 1) * 48<=LIM/\(List.length a0) + 1<=LEN)) <|
  some (a0 ++ ([(a1,2,(0:Int),a2)]:List o6)))
def D7 (a0:List o6) (a1:Int) (a2:Int):Option (List o6):=
 sel (decide (a2=0)) (
  some a0) (
  chk (decide (((List.length a0) + 1) * 48<=LIM/\(List.length a0) + 1<=LEN)) <|
  some (a0 ++ ([(a1,0,a2,[])]:List o6)))
def O8 (a0:o6):Option (Bool):=
 sel (decide (a0.1 < 1)) (
  some false) (
  sel (decide (536870911 < a0.1)) (
   some false) (
   sel (decide (a0.2.1=0)) (
    sel (decide ((((List.length a0.2.2.2):Nat):Int)=0)) (
     some true) (
     sel (decide (a0.2.1=2)) (
      some (decide (a0.2.2.1=0))) (
      some false))) (
    sel (decide (a0.2.1=2)) (
     some (decide (a0.2.2.1=0))) (
     some false))))
def U5 (v1:Int) (l0:List UInt8):Option (List UInt8):=
 chk (decide ((0:Int)<=(wu8 v1)/\(wu8 v1) < 256)) <|
 chk (decide (((List.length l0) + 1) * 1<=LIM/\(List.length l0) + 1<=LEN)) <|
 some (l0 ++ [(UInt8.ofNat (Int.toNat (wu8 v1)))])
def U6 (v1:Int) (l0:List UInt8):Option ((Int × List UInt8) ⊕ (List UInt8)):=
 sel (decide (128<=v1)) (
  chk (decide ((0:Int)<=(bits .or .u8 (wu8 v1) 128)/\(bits .or .u8 (wu8 v1) 128) < 256)) <|
  chk (decide (((List.length l0) + 1) * 1<=LIM/\(List.length l0) + 1<=LEN)) <|
  some (.inl ((v1 / 2 ^ 7),(l0 ++ [(UInt8.ofNat (Int.toNat (bits .or .u8 (wu8 v1) 128)))])))) (
  Option.map .inr (
   U5 v1 l0))
def a0F (v1:Int) (l0:List UInt8):Option (List UInt8):=
 N0 (fun v=>U6 v.1 v.2) (v1,l0)
def E2 (a0:List UInt8) (a1:Int):Option (List UInt8):=
 chk (decide ((0 + (List.length a0)) * 1<=LIM/\0 + (List.length a0)<=LEN)) <|
 a0F a1 a0
def U7 (a0:List UInt8) (a1:o6):Option (List UInt8 × Int):=
 (O8 a1).bind fun r1=>
 sel (!r1) (
  some ([],1)) (
  (E2 a0 (A7 ((A7 ((A7 a1.1) * 8)) + (A7 a1.2.1)))).bind fun r2=>
  sel (decide (a1.2.1=0)) (
   (E2 r2 a1.2.2.1).bind fun r3=>
   some (r3,0)) (
   (E2 r2 (A7 (((List.length a1.2.2.2):Nat):Int))).bind fun r4=>
   chk (decide (((List.length r4) + (List.length a1.2.2.2)) * 1<=LIM/\(List.length r4) + (List.length a1.2.2.2)<=LEN)) <|
   some ((r4 ++ a1.2.2.2),0)))
def M0 (v6:List o6) (v7:Int) (v8:Int) (l0:List UInt8):Option ((List o6 × Int × Int × List UInt8) ⊕ (List UInt8)):=
 sel (decide (v8 < v7)) (
  chk (decide ((0:Int)<=v8/\v8 < (((List.length v6):Nat):Int))) <|
  (U7 l0 (List.getD v6 (Int.toNat v8) A5)).bind fun r1=>
  some (.inl (v6,v7,(B0 (v8 + 1)),r1.1))) (
  some (.inr l0))
def a0l (v6:List o6) (v7:Int) (v8:Int) (l0:List UInt8):Option (List UInt8):=
 N0 (fun v=>M0 v.1 v.2.1 v.2.2.1 v.2.2.2) (v6,v7,v8,l0)
def D2 (a0:List o6):Option (List UInt8):=
 a0l a0 (((List.length a0):Nat):Int) 0 []
def P2 (v26:List o4) (v27:Int) (v28:Int) (l0:List o6):Option ((List o4 × Int × Int × List o6) ⊕ (List UInt8)):=
 sel (decide (v28 < v27)) (
  chk (decide ((0:Int)<=v28/\v28 < (((List.length v26):Nat):Int))) <|
  (I0 [] 1 (List.getD v26 (Int.toNat v28) A4).1).bind fun r6=>
  (D7 r6 2 (List.getD v26 (Int.toNat v28) A4).2).bind fun r7=>
  (D2 r7).bind fun r8=>
  chk (decide (((List.length l0) + 1) * 48<=LIM/\(List.length l0) + 1<=LEN)) <|
  some (.inl (v26,v27,(B0 (v28 + 1)),(l0 ++ ([(6,2,(0:Int),r8)]:List o6))))) (
  Option.map .inr (
   (D2 l0).bind fun r9=>
   some r9))
def a0O (v26:List o4) (v27:Int) (v28:Int) (l0:List o6):Option (List UInt8):=
 N0 (fun v=>P2 v.1 v.2.1 v.2.2.1 v.2.2.2) (v26,v27,v28,l0)
def O9 (a0:o8):Option (List UInt8):=
 (I0 [] 1 a0.1).bind fun r1=>
 (D7 r1 2 a0.2.1).bind fun r2=>
 (D7 r2 3 a0.2.2.1).bind fun r3=>
 (D7 r3 4 a0.2.2.2.1).bind fun r4=>
 (I0 r4 5 a0.2.2.2.2.1).bind fun r5=>
 a0O a0.2.2.2.2.2 (((List.length a0.2.2.2.2.2):Nat):Int) 0 r5
def J0 (a0:o8):Option (List UInt8 × Int):=
 (H4 a0).bind fun r1=>
 sel (!decide (r1=0)) (
  some ([],r1)) (
  (O9 a0).bind fun r2=>
  sel (decide (4096 < (((List.length r2):Nat):Int))) (
   some ([],3)) (
   some (r2,0)))
def G7 (a0:List o3):Option (List o3):=b2Z (u:=A1) 32 a0
def a2T (a0:o7):Option (List o3 × Int):=
 (G7 a0.1).bind fun r1=>
 some (r1,a0.2)
def a28 (v0:List UInt8):Option (Bool):=
 sel (decide (1<=(((List.length v0):Nat):Int))) (
  some (decide ((((List.length v0):Nat):Int)<=20))) (
  some false)
def a0m (v0:List UInt8) (v6:Int) (v7:Int):Option ((List UInt8 × Int × Int) ⊕ (Bool)):=
 sel (decide (v7 < v6)) (
  chk (decide ((0:Int)<=v7/\v7 < (((List.length v0):Nat):Int))) <|
  sel (decide (((UInt8.toNat (List.getD v0 (Int.toNat v7) (0:UInt8)):Nat):Int) < 97)) (
   sel (decide (((UInt8.toNat (List.getD v0 (Int.toNat v7) (0:UInt8)):Nat):Int) < 48)) (
    sel (!decide (((UInt8.toNat (List.getD v0 (Int.toNat v7) (0:UInt8)):Nat):Int)=45)) (
     some (.inr false)) (
     some (.inl (v0,v6,(B0 (v7 + 1)))))) (
    sel (decide (57 < ((UInt8.toNat (List.getD v0 (Int.toNat v7) (0:UInt8)):Nat):Int))) (
     sel (!decide (((UInt8.toNat (List.getD v0 (Int.toNat v7) (0:UInt8)):Nat):Int)=45)) (
      some (.inr false)) (
      some (.inl (v0,v6,(B0 (v7 + 1)))))) (
     some (.inl (v0,v6,(B0 (v7 + 1))))))) (
   sel (decide (122 < ((UInt8.toNat (List.getD v0 (Int.toNat v7) (0:UInt8)):Nat):Int))) (
    sel (decide (((UInt8.toNat (List.getD v0 (Int.toNat v7) (0:UInt8)):Nat):Int) < 48)) (
     sel (!decide (((UInt8.toNat (List.getD v0 (Int.toNat v7) (0:UInt8)):Nat):Int)=45)) (
      some (.inr false)) (
      some (.inl (v0,v6,(B0 (v7 + 1)))))) (
     sel (decide (57 < ((UInt8.toNat (List.getD v0 (Int.toNat v7) (0:UInt8)):Nat):Int))) (
      sel (!decide (((UInt8.toNat (List.getD v0 (Int.toNat v7) (0:UInt8)):Nat):Int)=45)) (
       some (.inr false)) (
       some (.inl (v0,v6,(B0 (v7 + 1)))))) (
      some (.inl (v0,v6,(B0 (v7 + 1))))))) (
    some (.inl (v0,v6,(B0 (v7 + 1))))))) (
  Option.map .inr (
   a28 v0))
def a4E (v0:List UInt8) (v6:Int) (v7:Int):Option (Bool):=
 N0 (fun v=>a0m v.1 v.2.1 v.2.2) (v0,v6,v7)
def a1e (a0:List UInt8):Option (Bool):=
 a4E a0 (((List.length a0):Nat):Int) 0
def a1n (v4:Int) (v9:List Int) (v10:Int) (v11:Int):Option ((Int × List Int × Int × Int) ⊕ (Int × Bool)):=
 sel (decide (v11 < v10)) (
  chk (decide ((0:Int)<=v11/\v11 < (((List.length v9):Nat):Int))) <|
  (a0x v4 (List.getD v9 (Int.toNat v11) (0:Int))).bind fun r1=>
  sel (!r1.2) (
   some (.inr (0,false))) (
   some (.inl (r1.1,v9,v10,(B0 (v11 + 1)))))) (
  some (.inr (v4,true)))
def a4F (v4:Int) (v9:List Int) (v10:Int) (v11:Int):Option (Int × Bool):=
 N0 (fun v=>a1n v.1 v.2.1 v.2.2.1 v.2.2.2) (v4,v9,v10,v11)
def a2z (a0:List Int):Option (Int × Bool):=
 a4F 0 a0 (((List.length a0):Nat):Int) 0
def a1f (l0:List Int):Option (Int × Bool):=
 (a2z l0).bind fun r1=>
 some (r1.1,r1.2)
def Z0 (v11:List o3) (v12:Int) (v13:Int) (l0:List Int):Option ((List o3 × Int × Int × List Int) ⊕ (Int × Bool)):=
 sel (decide (v13 < v12)) (
  chk (decide ((0:Int)<=v13/\v13 < (((List.length v11):Nat):Int))) <|
  chk (decide (((List.length l0) + 1) * 8<=LIM/\(List.length l0) + 1<=LEN)) <|
  some (.inl (v11,v12,(B0 (v13 + 1)),(l0 ++ [(List.getD v11 (Int.toNat v13) o5).2.1])))) (
  Option.map .inr (
   a1f l0))
def a2U (v11:List o3) (v12:Int) (v13:Int) (l0:List Int):Option (Int × Bool):=
 N0 (fun v=>Z0 v.1 v.2.1 v.2.2.1 v.2.2.2) (v11,v12,v13,l0)
def a1o (a0:o7):Option (Int × Bool):=
 a2U a0.1 (((List.length a0.1):Nat):Int) 0 [a0.2]
def a0d (b0:o7):Option (Int):=
 (a1o b0).bind fun r1=>
 sel (!r1.2) (
  some 6) (
  some 0)
def N1 (v3:Int) (v12:List o3) (v13:Int) (v14:Int) (v24:Bool) (b0:o7) (b1:o3):Option ((List o3 × Int × Int × o7) ⊕ (Int)):=
 sel v24 (
  some (.inr 8)) (
  sel (decide (0 < v3)) (
   chk (decide ((0:Int)<=(B0 (v3 - 1))/\(B0 (v3 - 1)) < (((List.length b0.1):Nat):Int))) <|
   sel (!(Op.bytesLess (List.getD b0.1 (Int.toNat (B0 (v3 - 1))) o5).1 b1.1 || decide ((List.getD b0.1 (Int.toNat (B0 (v3 - 1))) o5).1=b1.1))) (
    some (.inr 1)) (
    some (.inl (v12,v13,(B0 (v14 + 1)),b0)))) (
   some (.inl (v12,v13,(B0 (v14 + 1)),b0))))
def S4 (v12:List o3) (v13:Int) (v14:Int) (b0:o7):Option ((List o3 × Int × Int × o7) ⊕ (Int)):=
 sel (decide (v14 < v13)) (
  chk (decide ((0:Int)<=v14/\v14 < (((List.length v12):Nat):Int))) <|
  (a1e (List.getD v12 (Int.toNat v14) o5).1).bind fun r2=>
  sel (!r2) (
   some (.inr 10)) (
   sel (decide (0 < v14)) (
    chk (decide ((0:Int)<=(B0 (v14 - 1))/\(B0 (v14 - 1)) < (((List.length b0.1):Nat):Int))) <|
    N1 v14 v12 v13 v14 (decide ((List.getD b0.1 (Int.toNat (B0 (v14 - 1))) o5).1=(List.getD v12 (Int.toNat v14) o5).1)) b0 (List.getD v12 (Int.toNat v14) o5)) (
    N1 v14 v12 v13 v14 false b0 (List.getD v12 (Int.toNat v14) o5)))) (
  Option.map .inr (
   a0d b0))
def a1v (v12:List o3) (v13:Int) (v14:Int) (b0:o7):Option (Int):=
 N0 (fun v=>S4 v.1 v.2.1 v.2.2.1 v.2.2.2) (v12,v13,v14,b0)
def Z1 (a0:o7):Option (Int):=
 sel (decide (256 < (((List.length a0.1):Nat):Int))) (
  some 3) (
  a1v a0.1 (((List.length a0.1):Nat):Int) 0 a0)
def a1N (v0:List UInt8) (v2:Int) (v5:Int):Option ((List UInt8 × Int × Int) ⊕ (Int × Int × Int)):=
 chk (decide ((0:Int)<=v5/\v5 < (((List.length v0):Nat):Int))) <|
 chk (decide ((0:Int)<=(B0 (7 * v5)))) <|
 chk (decide ((0:Int)<=v5/\v5 < (((List.length v0):Nat):Int))) <|
 sel (decide (((UInt8.toNat (List.getD v0 (Int.toNat v5) (0:UInt8)):Nat):Int) < 128)) (
  some (.inr ((bits .or .u64 v2 (A7 ((A7 (bits .and .u8 ((UInt8.toNat (List.getD v0 (Int.toNat v5) (0:UInt8)):Nat):Int) 127)) * 2 ^ (min (Int.toNat (B0 (7 * v5))) 64)))),(B0 (v5 + 1)),0))) (
  some (.inl (v0,(bits .or .u64 v2 (A7 ((A7 (bits .and .u8 ((UInt8.toNat (List.getD v0 (Int.toNat v5) (0:UInt8)):Nat):Int) 127)) * 2 ^ (min (Int.toNat (B0 (7 * v5))) 64)))),(B0 (v5 + 1)))))
def a1O (v0:List UInt8) (v2:Int) (v5:Int) (v13:Bool):Option ((List UInt8 × Int × Int) ⊕ (Int × Int × Int)):=
 sel v13 (
  some (.inr (0,0,6))) (
  sel (decide (0 < v5)) (
   chk (decide ((0:Int)<=v5/\v5 < (((List.length v0):Nat):Int))) <|
   sel (decide (((UInt8.toNat (List.getD v0 (Int.toNat v5) (0:UInt8)):Nat):Int)=0)) (
    some (.inr (0,0,4))) (
    a1N v0 v2 v5)) (
   a1N v0 v2 v5))
def a4g (v0:List UInt8) (v2:Int) (v5:Int):Option ((List UInt8 × Int × Int) ⊕ (Int × Int × Int)):=
 sel (decide ((((List.length v0):Nat):Int)<=v5)) (
  some (.inr (0,0,5))) (
  sel (decide (v5=9)) (
   chk (decide ((0:Int)<=v5/\v5 < (((List.length v0):Nat):Int))) <|
   a1O v0 v2 v5 (decide (1 < ((UInt8.toNat (List.getD v0 (Int.toNat v5) (0:UInt8)):Nat):Int)))) (
   a1O v0 v2 v5 false))
def a7p (v0:List UInt8) (v2:Int) (v5:Int):Option (Int × Int × Int):=
 N0 (fun v=>a4g v.1 v.2.1 v.2.2) (v0,v2,v5)
def Z2 (a0:List UInt8):Option (Int × Int × Int):=
 a7p a0 0 0
def R8 (v0:List UInt8) (v3:Int) (v6:Int) (v7:Int) (_b0:o6):Option (o6 × Int × Int):=
 chk (decide ((0:Int)<=v3/\v3<=(((List.length v0):Nat):Int)/\(((List.length v0):Nat):Int)<=(((List.length v0):Nat):Int))) <|
 (Z2 (List.drop (Int.toNat v3) (List.take (Int.toNat (((List.length v0):Nat):Int)) v0))).bind fun r2=>
 sel (!decide (r2.2.2=0)) (
  some (((0:Int),(0:Int),(0:Int),[]),0,r2.2.2)) (
  sel (decide (v6=0)) (
   some (((B0 v7),v6,r2.1,[]),(B0 (v3 + r2.2.1)),0)) (
   chk (decide ((0:Int)<=(B0 (v3 + r2.2.1))/\(B0 (v3 + r2.2.1))<=(((List.length v0):Nat):Int)/\(((List.length v0):Nat):Int)<=(((List.length v0):Nat):Int))) <|
   sel (decide ((A7 (((List.length (List.drop (Int.toNat (B0 (v3 + r2.2.1))) (List.take (Int.toNat (((List.length v0):Nat):Int)) v0))):Nat):Int)) < r2.1)) (
    some (((0:Int),(0:Int),(0:Int),[]),0,5)) (
    chk (decide ((0:Int)<=0/\0<=r2.1/\r2.1<=(((List.length (List.drop (Int.toNat (B0 (v3 + r2.2.1))) (List.take (Int.toNat (((List.length v0):Nat):Int)) v0))):Nat):Int))) <|
    chk (decide ((List.length (List.take (Int.toNat r2.1) (List.drop (Int.toNat (B0 (v3 + r2.2.1))) (List.take (Int.toNat (((List.length v0):Nat):Int)) v0)))) * 1<=LIM/\(List.length (List.take (Int.toNat r2.1) (List.drop (Int.toNat (B0 (v3 + r2.2.1))) (List.take (Int.toNat (((List.length v0):Nat):Int)) v0))))<=LEN)) <|
    some (((B0 v7),v6,(0:Int),(List.take (Int.toNat r2.1) (List.drop (Int.toNat (B0 (v3 + r2.2.1))) (List.take (Int.toNat (((List.length v0):Nat):Int)) v0)))),(B0 ((B0 (v3 + r2.2.1)) + (B0 r2.1))),0))))
def a1g (a0:List UInt8):Option (o6 × Int × Int):=
 (Z2 a0).bind fun r1=>
 sel (!decide (r1.2.2=0)) (
  some (((0:Int),(0:Int),(0:Int),[]),0,r1.2.2)) (
  sel (decide ((r1.1 / 2 ^ 3) < 1)) (
   some (((0:Int),(0:Int),(0:Int),[]),0,4)) (
   sel (decide (536870911 < (r1.1 / 2 ^ 3))) (
    some (((0:Int),(0:Int),(0:Int),[]),0,4)) (
    sel (!decide ((B0 (bits .and .u64 r1.1 7))=0)) (
     sel (!decide ((B0 (bits .and .u64 r1.1 7))=2)) (
      some (((0:Int),(0:Int),(0:Int),[]),0,4)) (
      R8 a0 r1.2.1 (B0 (bits .and .u64 r1.1 7)) (r1.1 / 2 ^ 3) ((0:Int),(0:Int),(0:Int),[]))) (
     R8 a0 r1.2.1 (B0 (bits .and .u64 r1.1 7)) (r1.1 / 2 ^ 3) ((0:Int),(0:Int),(0:Int),[])))))
def a1P (l0:List o6):Option (List o6 × Int × Int):=
 some (l0,0,0)
def M6 (v0:List UInt8) (v3:Int) (l0:List o6):Option ((List UInt8 × Int × List o6) ⊕ (List o6 × Int × Int)):=
 sel (decide (v3 < (((List.length v0):Nat):Int))) (
  sel (decide ((((List.length l0):Nat):Int)=1024)) (
   some (.inr ([],v3,3))) (
   chk (decide ((0:Int)<=v3/\v3<=(((List.length v0):Nat):Int)/\(((List.length v0):Nat):Int)<=(((List.length v0):Nat):Int))) <|
   (a1g (List.drop (Int.toNat v3) (List.take (Int.toNat (((List.length v0):Nat):Int)) v0))).bind fun r1=>
   sel (!decide (r1.2.2=0)) (
    some (.inr ([],v3,r1.2.2))) (
    chk (decide (((List.length l0) + 1) * 48<=LIM/\(List.length l0) + 1<=LEN)) <|
    some (.inl (v0,(B0 (v3 + r1.2.1)),(l0 ++ ([r1.1]:List o6))))))) (
  Option.map .inr (
   a1P l0))
def a1h (v0:List UInt8) (v3:Int) (l0:List o6):Option (List o6 × Int × Int):=
 N0 (fun v=>M6 v.1 v.2.1 v.2.2) (v0,v3,l0)
def U8 (a0:List UInt8):Option (List o6 × Int × Int):=
 a1h a0 0 []
def a0q (v16:Int) (v17:Int) (b0:o4) (b1:o4) (l0:List o6):Option ((Int × Int × o4 × o4 × List o6) ⊕ (o4)):=
 sel (decide (v17 < v16)) (
  chk (decide ((0:Int)<=v17/\v17 < (((List.length l0):Nat):Int))) <|
  chk (decide ((Int.toNat v17) < (List.length l0))) <|
  sel (decide ((List.getD l0 (Int.toNat v17) A5).1=1)) (
   some (.inl (v16,(B0 (v17 + 1)),b0,((List.getD l0 (Int.toNat v17) A5).2.2.2,b1.2),l0))) (
   sel (decide ((List.getD l0 (Int.toNat v17) A5).1=2)) (
    some (.inl (v16,(B0 (v17 + 1)),b0,(b1.1,(List.getD l0 (Int.toNat v17) A5).2.2.1),l0))) (
    some (.inl (v16,(B0 (v17 + 1)),b0,b1,l0))))) (
  some (.inr b1))
def a3s (v16:Int) (v17:Int) (b0:o4) (b1:o4) (l0:List o6):Option (o4):=
 N0 (fun v=>a0q v.1 v.2.1 v.2.2.1 v.2.2.2.1 v.2.2.2.2) (v16,v17,b0,b1,l0)
def a0P (a0:List UInt8):Option (o4):=
 (U8 a0).bind fun r1=>
 a3s (((List.length r1.1):Nat):Int) 0 ([],(0:Int)) ([],(0:Int)) r1.1
def a2V (v6:List o6) (v7:Int) (v8:Int) (b0_0:List UInt8) (b0_1:Int) (b0_2:Int) (b0_3:Int) (b0_4:List UInt8) (b1_0:List UInt8) (b1_1:Int) (b1_2:Int) (b1_3:Int) (b1_4:List UInt8) (l0:List o4):Option ((List o6 × Int × Int × List UInt8 × Int × Int × Int × List UInt8 × List UInt8 × Int × Int × Int × List UInt8 × List o4) ⊕ (o8)):=
 sel (decide (v8 < v7)) (
  chk (decide ((0:Int)<=v8/\v8 < (((List.length v6):Nat):Int))) <|
  sel (decide ((List.getD v6 (Int.toNat v8) A5).1=1)) (
   some (.inl (v6,v7,(B0 (v8 + 1)),b0_0,b0_1,b0_2,b0_3,b0_4,(List.getD v6 (Int.toNat v8) A5).2.2.2,b1_1,b1_2,b1_3,b1_4,l0))) (
   sel (decide ((List.getD v6 (Int.toNat v8) A5).1=2)) (
    some (.inl (v6,v7,(B0 (v8 + 1)),b0_0,b0_1,b0_2,b0_3,b0_4,b1_0,(List.getD v6 (Int.toNat v8) A5).2.2.1,b1_2,b1_3,b1_4,l0))) (
    sel (decide ((List.getD v6 (Int.toNat v8) A5).1=3)) (
     some (.inl (v6,v7,(B0 (v8 + 1)),b0_0,b0_1,b0_2,b0_3,b0_4,b1_0,b1_1,(List.getD v6 (Int.toNat v8) A5).2.2.1,b1_3,b1_4,l0))) (
     sel (decide ((List.getD v6 (Int.toNat v8) A5).1=4)) (
      some (.inl (v6,v7,(B0 (v8 + 1)),b0_0,b0_1,b0_2,b0_3,b0_4,b1_0,b1_1,b1_2,(List.getD v6 (Int.toNat v8) A5).2.2.1,b1_4,l0))) (
      sel (decide ((List.getD v6 (Int.toNat v8) A5).1=5)) (
       some (.inl (v6,v7,(B0 (v8 + 1)),b0_0,b0_1,b0_2,b0_3,b0_4,b1_0,b1_1,b1_2,b1_3,(List.getD v6 (Int.toNat v8) A5).2.2.2,l0))) (
       sel (decide ((List.getD v6 (Int.toNat v8) A5).1=6)) (
        (a0P (List.getD v6 (Int.toNat v8) A5).2.2.2).bind fun r1=>
        chk (decide (((List.length l0) + 1) * 24<=LIM/\(List.length l0) + 1<=LEN)) <|
        some (.inl (v6,v7,(B0 (v8 + 1)),b0_0,b0_1,b0_2,b0_3,b0_4,b1_0,b1_1,b1_2,b1_3,b1_4,(l0 ++ ([r1]:List o4))))) (
        some (.inl (v6,v7,(B0 (v8 + 1)),b0_0,b0_1,b0_2,b0_3,b0_4,b1_0,b1_1,b1_2,b1_3,b1_4,l0))))))))) (
  some (.inr (b1_0,b1_1,b1_2,b1_3,b1_4,l0)))
def a6L (v6:List o6) (v7:Int) (v8:Int) (b0_0:List UInt8) (b0_1:Int) (b0_2:Int) (b0_3:Int) (b0_4:List UInt8) (b1_0:List UInt8) (b1_1:Int) (b1_2:Int) (b1_3:Int) (b1_4:List UInt8) (l0:List o4):Option (o8):=
 N0 (fun v=>a2V v.1 v.2.1 v.2.2.1 v.2.2.2.1 v.2.2.2.2.1 v.2.2.2.2.2.1 v.2.2.2.2.2.2.1 v.2.2.2.2.2.2.2.1 v.2.2.2.2.2.2.2.2.1 v.2.2.2.2.2.2.2.2.2.1 v.2.2.2.2.2.2.2.2.2.2.1 v.2.2.2.2.2.2.2.2.2.2.2.1 v.2.2.2.2.2.2.2.2.2.2.2.2.1 v.2.2.2.2.2.2.2.2.2.2.2.2.2) (v6,v7,v8,b0_0,b0_1,b0_2,b0_3,b0_4,b1_0,b1_1,b1_2,b1_3,b1_4,l0)
def a6M (a0:List o6):Option (o8):=
 a6L a0 (((List.length a0):Nat):Int) 0 [] (0:Int) (0:Int) (0:Int) [] [] (0:Int) (0:Int) (0:Int) [] []
def a1w (a0:o6):Option (Bool):=
 sel (decide (a0.1 < 1)) (
  some false) (
  sel (decide (536870911 < a0.1)) (
   some false) (
   sel (decide (a0.2.1=0)) (
    sel (decide ((((List.length a0.2.2.2):Nat):Int)=0)) (
     some true) (
     sel (decide (a0.2.1=2)) (
      some (decide (a0.2.2.1=0))) (
      some false))) (
    sel (decide (a0.2.1=2)) (
     some (decide (a0.2.2.1=0))) (
     some false))))
def a5f (a0:o6):Option (Int):=
 some (A7 (B0 ((B0 (8 * a0.1)) + a0.2.1)))
def a2W (v1:Int) (l0:List UInt8):Option (List UInt8):=
 chk (decide ((0:Int)<=(wu8 v1)/\(wu8 v1) < 256)) <|
 chk (decide (((List.length l0) + 1) * 1<=LIM/\(List.length l0) + 1<=LEN)) <|
 some (l0 ++ [(UInt8.ofNat (Int.toNat (wu8 v1)))])
def a2X (v1:Int) (l0:List UInt8):Option ((Int × List UInt8) ⊕ (List UInt8)):=
 sel (decide (128<=v1)) (
  chk (decide ((0:Int)<=(bits .or .u8 (wu8 v1) 128)/\(bits .or .u8 (wu8 v1) 128) < 256)) <|
  chk (decide (((List.length l0) + 1) * 1<=LIM/\(List.length l0) + 1<=LEN)) <|
  some (.inl ((v1 / 2 ^ 7),(l0 ++ [(UInt8.ofNat (Int.toNat (bits .or .u8 (wu8 v1) 128)))])))) (
  Option.map .inr (
   a2W v1 l0))
def a57 (v1:Int) (l0:List UInt8):Option (List UInt8):=
 N0 (fun v=>a2X v.1 v.2) (v1,l0)
def T5 (a0:List UInt8) (a1:Int):Option (List UInt8):=
 chk (decide ((List.length a0) * 1<=LIM/\(List.length a0)<=LEN)) <|
 a57 a1 a0
def O0 (a0:List UInt8) (a1:o6):Option (List UInt8 × Int):=
 (a1w a1).bind fun r1=>
 sel (!r1) (
  some ([],1)) (
  (a5f a1).bind fun r2=>
  (T5 a0 r2).bind fun r3=>
  sel (decide (a1.2.1=0)) (
   (T5 r3 a1.2.2.1).bind fun r4=>
   some (r4,0)) (
   (T5 r3 (A7 (((List.length a1.2.2.2):Nat):Int))).bind fun r5=>
   chk (decide (((List.length r5) + (List.length a1.2.2.2)) * 1<=LIM/\(List.length r5) + (List.length a1.2.2.2)<=LEN)) <|
   some ((r5 ++ a1.2.2.2),0)))
def G8 (a0:List UInt8) (a1:Int) (a2:List UInt8):Option (List UInt8):=
 sel (decide (a2=[])) (
  some a0) (
  chk (decide ((List.length a2)<=maxLen)) <|
  (O0 [] (a1,2,(0:Int),a2)).bind fun r1=>
  chk (decide (((List.length a0) + (List.length r1.1)) * 1<=LIM/\(List.length a0) + (List.length r1.1)<=LEN)) <|
  some (a0 ++ r1.1))
def D8 (a0:List UInt8) (a1:Int) (a2:Int):Option (List UInt8):=
 sel (decide (a2=0)) (
  some a0) (
  (O0 [] (a1,0,a2,[])).bind fun r1=>
  chk (decide (((List.length a0) + (List.length r1.1)) * 1<=LIM/\(List.length a0) + (List.length r1.1)<=LEN)) <|
  some (a0 ++ r1.1))
def M1 (a0:List UInt8) (a1:Int) (a2:List UInt8):Option (List UInt8):=
 (O0 [] (a1,2,(0:Int),a2)).bind fun r1=>
 chk (decide (((List.length a0) + (List.length r1.1)) * 1<=LIM/\(List.length a0) + (List.length r1.1)<=LEN)) <|
 some (a0 ++ r1.1)
def a0Q (v28:List o4) (v29:Int) (v30:Int) (l0:List UInt8):Option ((List o4 × Int × Int × List UInt8) ⊕ (List UInt8)):=
 sel (decide (v30 < v29)) (
  chk (decide ((0:Int)<=v30/\v30 < (((List.length v28):Nat):Int))) <|
  (G8 [] 1 (List.getD v28 (Int.toNat v30) A4).1).bind fun r6=>
  (D8 r6 2 (List.getD v28 (Int.toNat v30) A4).2).bind fun r7=>
  (M1 l0 6 r7).bind fun r8=>
  some (.inl (v28,v29,(B0 (v30 + 1)),r8))) (
  some (.inr l0))
def a4h (v28:List o4) (v29:Int) (v30:Int) (l0:List UInt8):Option (List UInt8):=
 N0 (fun v=>a0Q v.1 v.2.1 v.2.2.1 v.2.2.2) (v28,v29,v30,l0)
def a2Y (a0:o8):Option (List UInt8):=
 (G8 [] 1 a0.1).bind fun r1=>
 (D8 r1 2 a0.2.1).bind fun r2=>
 (D8 r2 3 a0.2.2.1).bind fun r3=>
 (D8 r3 4 a0.2.2.2.1).bind fun r4=>
 (G8 r4 5 a0.2.2.2.2.1).bind fun r5=>
 a4h a0.2.2.2.2.2 (((List.length a0.2.2.2.2.2):Nat):Int) 0 r5
def a30 (a0:List UInt8) (a1:List UInt8):Option (Bool):=
 some (decide (a0=a1))
def a29 (v0:List UInt8) (v3:Int) (l0:List (List UInt8 × Int)):Option ((List UInt8 × Int × List (List UInt8 × Int)) ⊕ (Bool)):=
 chk (Nat.beq (List.length l0) 1) <|
 sel (decide (Int.toNat (H9 l0).2 < List.length (H9 l0).1)) (
  chk ((decide (Int.toNat (H9 l0).2 < List.length (H9 l0).1))) <|
  chk ((decide (Int.toNat (H9 l0).2 < List.length (H9 l0).1))) <|
  chk (decide ((0:Int)<=(H9 l0).2/\(H9 l0).2<=(((List.length v0):Nat):Int)/\(((List.length v0):Nat):Int)<=(((List.length v0):Nat):Int))) <|
  (D0 (List.drop (Int.toNat (H9 l0).2) (List.take (Int.toNat (((List.length v0):Nat):Int)) v0))).bind fun r1=>
  sel (decide ((b6Q (H9 l0).1 (H9 l0).2)=65533)) (
   sel (decide (r1.2=1)) (
    some (.inr false)) (
    some (.inl (v0,(B0 (v3 + 1)),[((H9 l0).1,(b1t (H9 l0).1 (H9 l0).2))])))) (
   some (.inl (v0,(B0 (v3 + 1)),[((H9 l0).1,(b1t (H9 l0).1 (H9 l0).2))])))) (
  some (.inr (decide (v3<=64))))
def a4G (v0:List UInt8) (v3:Int) (l0:List (List UInt8 × Int)):Option (Bool):=
 N0 (fun v=>a29 v.1 v.2.1 v.2.2) (v0,v3,l0)
def a31 (a0:List UInt8):Option (Bool):=
 a4G a0 0 [(a0,(0:Int))]
def a0r (v31:List o4) (v32:Int) (v33:Int):Option ((List o4 × Int × Int) ⊕ (Int)):=
 sel (decide (v33 < v32)) (
  chk (decide ((0:Int)<=v33/\v33 < (((List.length v31):Nat):Int))) <|
  (a1e (List.getD v31 (Int.toNat v33) A4).1).bind fun r3=>
  sel (!r3) (
   some (.inr 10)) (
   sel (decide ((List.getD v31 (Int.toNat v33) A4).2=0)) (
    some (.inr 12)) (
    some (.inl (v31,v32,(B0 (v33 + 1))))))) (
  some (.inr 0))
def a1i (v31:List o4) (v32:Int) (v33:Int):Option (Int):=
 N0 (fun v=>a0r v.1 v.2.1 v.2.2) (v31,v32,v33)
def a2g (a0:o8):Option (Int):=
 (a1e a0.1).bind fun r1=>
 sel (!r1) (
  some 10) (
  sel (decide (a0.2.2.1=0)) (
   some 15) (
   (a31 a0.2.2.2.2.1).bind fun r2=>
   sel (!r2) (
    some 11) (
    sel (decide ((((List.length a0.2.2.2.2.2):Nat):Int)=0)) (
     some 3) (
     sel (decide (16 < (((List.length a0.2.2.2.2.2):Nat):Int))) (
      some 3) (
      a1i a0.2.2.2.2.2 (((List.length a0.2.2.2.2.2):Nat):Int) 0)))))
def a2A (a0:List UInt8):Option (o8 × Int):=
 sel (decide (4096 < (((List.length a0):Nat):Int))) (
  some (([],(0:Int),(0:Int),(0:Int),[],[]),3)) (
  (U8 a0).bind fun r1=>
  (a6M r1.1).bind fun r2=>
  sel (!decide (r1.2.2=0)) (
   some (([],(0:Int),(0:Int),(0:Int),[],[]),4)) (
   (a2Y r2).bind fun r3=>
   (a30 r3 a0).bind fun r4=>
   sel (!r4) (
    some (([],(0:Int),(0:Int),(0:Int),[],[]),4)) (
    (a2g r2).bind fun r5=>
    sel (!decide (r5=0)) (
     some (([],(0:Int),(0:Int),(0:Int),[],[]),r5)) (
     some (r2,0)))))
def Q6 (a0:List UInt8):Option (Bool):=
 some (!decide (a0=a0))
def S5 (a0:List UInt8) (a1:List UInt8):Option (Int):=
 (Q6 a0).bind fun r1=>
 (Q6 a1).bind fun r2=>
 sel r1 (
  sel r2 (
   some 0) (
   some (-1))) (
  sel r2 (
   some 1) (
   sel (Op.bytesLess a0 a1) (
    some (-1)) (
    sel (!(Op.bytesLess a0 a1 || decide (a0=a1))) (
     some 1) (
     some 0))))
def X7 (a0:o3) (a1:List UInt8):Option (Int):=
 (S5 a0.1 a1).bind fun r1=>
 some r1
def B4 (v0:List o3) (v1:List UInt8) (v8:Int) (v9:Int):Option (Int × Bool):=
 sel (decide (v9 < v8)) (
  chk (decide ((0:Int)<=v9/\v9 < (((List.length v0):Nat):Int))) <|
  (X7 (List.getD v0 (Int.toNat v9) o5) v1).bind fun r1=>
  some (v9,(decide (r1=0)))) (
  some (v9,false))
def B5 (v0:List o3) (v1:List UInt8) (v8:Int) (v9:Int) (v10:Int):Option ((List o3 × List UInt8 × Int × Int × Int) ⊕ (Int × Bool)):=
 sel (decide (v9 < v10)) (
  chk (decide ((0:Int)<=(B0 ((A7 (B0 (v9 + v10))) / 2 ^ 1))/\(B0 ((A7 (B0 (v9 + v10))) / 2 ^ 1)) < (((List.length v0):Nat):Int))) <|
  (X7 (List.getD v0 (Int.toNat (B0 ((A7 (B0 (v9 + v10))) / 2 ^ 1))) o5) v1).bind fun r2=>
  sel (decide (r2 < 0)) (
   some (.inl (v0,v1,v8,(B0 ((B0 ((A7 (B0 (v9 + v10))) / 2 ^ 1)) + 1)),v10))) (
   some (.inl (v0,v1,v8,v9,(B0 ((A7 (B0 (v9 + v10))) / 2 ^ 1)))))) (
  Option.map .inr (
   B4 v0 v1 v8 v9))
def B8 (v0:List o3) (v1:List UInt8) (v8:Int) (v9:Int) (v10:Int):Option (Int × Bool):=
 N0 (fun v=>B5 v.1 v.2.1 v.2.2.1 v.2.2.2.1 v.2.2.2.2) (v0,v1,v8,v9,v10)
def B1 (a0:List o3) (a1:List UInt8):Option (Int × Bool):=
 B8 a0 a1 (((List.length a0):Nat):Int) 0 (((List.length a0):Nat):Int)
def U9 (a0:o7) (a1:List UInt8):Option (Int × Bool):=
 (B1 a0.1 a1).bind fun r1=>
 some (r1.1,r1.2)
def a32 (a0:Int):Option (Int):=
 some (A7 (min (max a0 0) 1073741824))
def a7q (a0:Int) (a1:Int):Option (Int):=
 (a32 a0).bind fun r1=>
 (a32 a1).bind fun r2=>
 some (A7 ((A7 (50 + (A7 (1 * r1)))) + (A7 (20 * r2))))
def T6 (a0:Int) (a1:Int):Option (Int × Int):=
 some ((A7 ((A7 ((A7 ((a0 / 2 ^ 32) * (a1 / 2 ^ 32))) + ((A7 ((A7 ((a0 / 2 ^ 32) * (bits .and .u64 a1 4294967295))) + ((A7 ((bits .and .u64 a0 4294967295) * (bits .and .u64 a1 4294967295))) / 2 ^ 32))) / 2 ^ 32))) + ((A7 ((bits .and .u64 (A7 ((A7 ((a0 / 2 ^ 32) * (bits .and .u64 a1 4294967295))) + ((A7 ((bits .and .u64 a0 4294967295) * (bits .and .u64 a1 4294967295))) / 2 ^ 32))) 4294967295) + (A7 ((bits .and .u64 a0 4294967295) * (a1 / 2 ^ 32))))) / 2 ^ 32))),(A7 (a0 * a1)))
def a4H (a0:Int) (a1:Bool):Option (Int × Bool):=
 sel (!a1) (
  some (0,false)) (
  some (a0,true))
def a33 (a0:Int) (a1:Int):Option (Int × Bool):=
 (T6 a0 a1).bind fun r1=>
 (a4H r1.2 (decide (r1.1=0))).bind fun r2=>
 some (r2.1,r2.2)
def a5g (a0:Int) (a1:Int):Option (Int × Bool):=
 (a33 a0 a1).bind fun r1=>
 some (r1.1,r1.2)
def a2B (l0:List Int):Option (Int × Bool):=
 (a2z l0).bind fun r1=>
 some (r1.1,r1.2)
def a0R (v11:List o4) (v12:Int) (v13:Int) (l0:List Int):Option ((List o4 × Int × Int × List Int) ⊕ (Int × Bool)):=
 sel (decide (v13 < v12)) (
  chk (decide ((0:Int)<=v13/\v13 < (((List.length v11):Nat):Int))) <|
  chk (decide (((List.length l0) + 1) * 8<=LIM/\(List.length l0) + 1<=LEN)) <|
  some (.inl (v11,v12,(B0 (v13 + 1)),(l0 ++ [(List.getD v11 (Int.toNat v13) A4).2])))) (
  Option.map .inr (
   a2B l0))
def a4i (v11:List o4) (v12:Int) (v13:Int) (l0:List Int):Option (Int × Bool):=
 N0 (fun v=>a0R v.1 v.2.1 v.2.2.1 v.2.2.2) (v11,v12,v13,l0)
def a1x (a0:o8):Option (Int × Bool):=
 a4i a0.2.2.2.2.2 (((List.length a0.2.2.2.2.2):Nat):Int) 0 [a0.2.2.2.1]
def a0s (v12:List o4) (v13:Int) (v14:Int) (b0:o7) (l0:List (List UInt8 × Vector UInt8 0)):Option ((List o4 × Int × Int × o7 × List (List UInt8 × Vector UInt8 0)) ⊕ (Int)):=
 sel (decide (v14 < v13)) (
  chk (decide ((0:Int)<=v14/\v14 < (((List.length v12):Nat):Int))) <|
  (U9 b0 (List.getD v12 (Int.toNat v14) A4).1).bind fun r1=>
  sel (!r1.2) (
   some (.inl (v12,v13,(B0 (v14 + 1)),b0,(b8A a88 (List.getD v12 (Int.toNat v14) A4).1 (Vector.replicate 0 (0:UInt8)) l0)))) (
   some (.inl (v12,v13,(B0 (v14 + 1)),b0,l0)))) (
  some (.inr (((List.length l0):Nat):Int)))
def a3t (v12:List o4) (v13:Int) (v14:Int) (b0:o7) (l0:List (List UInt8 × Vector UInt8 0)):Option (Int):=
 N0 (fun v=>a0s v.1 v.2.1 v.2.2.1 v.2.2.2.1 v.2.2.2.2) (v12,v13,v14,b0,l0)
def a2h (a0:o7) (a1:o8):Option (Int):=
 a3t a1.2.2.2.2.2 (((List.length a1.2.2.2.2.2):Nat):Int) 0 a0 []
def a2i (a0:o7) (a1:Int) (a2:o8) (a3:Int):Option (Int):=
 (U9 a0 a2.1).bind fun r1=>
 sel (!r1.2) (
  some 13) (
  chk (decide ((0:Int)<=r1.1/\r1.1 < (((List.length a0.1):Nat):Int))) <|
  sel (!decide ((List.getD a0.1 (Int.toNat r1.1) o5).2.2=a2.2.1)) (
   some 14) (
   sel (decide ((List.getD a0.1 (Int.toNat r1.1) o5).2.2=18446744073709551615)) (
    some 6) (
    (a7q a3 (((List.length a2.2.2.2.2.2):Nat):Int)).bind fun r2=>
    sel (decide (a2.2.2.1 < r2)) (
     some 15) (
     (a5g a2.2.2.1 a1).bind fun r3=>
     sel (!r3.2) (
      some 6) (
      sel (decide (a2.2.2.2.1 < r3.1)) (
       some 16) (
       (a1x a2).bind fun r4=>
       sel (!r4.2) (
        some 6) (
        sel (decide ((List.getD a0.1 (Int.toNat r1.1) o5).2.1 < r4.1)) (
         some 17) (
         (a2h a0 a2).bind fun r5=>
         sel (decide (256 < (B0 ((((List.length a0.1):Nat):Int) + r5)))) (
          some 3) (
          some 0)))))))))
def N2 (v0:Int) (v2:Int):Option (Int):=
 chk (decide ((0:Int)<=(wu8 v0)/\(wu8 v0) < 256)) <|
 some (B0 (v2 + (B0 ((UInt8.toNat (List.getD [(0:UInt8),(1:UInt8),(2:UInt8),(2:UInt8),(3:UInt8),(3:UInt8),(3:UInt8),(3:UInt8),(4:UInt8),(4:UInt8),(4:UInt8),(4:UInt8),(4:UInt8),(4:UInt8),(4:UInt8),(4:UInt8),(5:UInt8),(5:UInt8),(5:UInt8),(5:UInt8),(5:UInt8),(5:UInt8),(5:UInt8),(5:UInt8),(5:UInt8),(5:UInt8),(5:UInt8),(5:UInt8),(5:UInt8),(5:UInt8),(5:UInt8),(5:UInt8),(6:UInt8),(6:UInt8),(6:UInt8),(6:UInt8),(6:UInt8),(6:UInt8),(6:UInt8),(6:UInt8),(6:UInt8),(6:UInt8),(6:UInt8),(6:UInt8),(6:UInt8),(6:UInt8),(6:UInt8),(6:UInt8),(6:UInt8),(6:UInt8),(6:UInt8),(6:UInt8),(6:UInt8),(6:UInt8),(6:UInt8),(6:UInt8),(6:UInt8),(6:UInt8),(6:UInt8),(6:UInt8),(6:UInt8),(6:UInt8),(6:UInt8),(6:UInt8),(7:UInt8),(7:UInt8),(7:UInt8),(7:UInt8),(7:UInt8),(7:UInt8),(7:UInt8),(7:UInt8),(7:UInt8),(7:UInt8),(7:UInt8),(7:UInt8),(7:UInt8),(7:UInt8),(7:UInt8),(7:UInt8),(7:UInt8),(7:UInt8),(7:UInt8),(7:UInt8),(7:UInt8),(7:UInt8),(7:UInt8),(7:UInt8),(7:UInt8),(7:UInt8),(7:UInt8),(7:UInt8),(7:UInt8),(7:UInt8),(7:UInt8),(7:UInt8),(7:UInt8),(7:UInt8),(7:UInt8),(7:UInt8),(7:UInt8),(7:UInt8),(7:UInt8),(7:UInt8),(7:UInt8),(7:UInt8),(7:UInt8),(7:UInt8),(7:UInt8),(7:UInt8),(7:UInt8),(7:UInt8),(7:UInt8),(7:UInt8),(7:UInt8),(7:UInt8),(7:UInt8),(7:UInt8),(7:UInt8),(7:UInt8),(7:UInt8),(7:UInt8),(7:UInt8),(7:UInt8),(7:UInt8),(7:UInt8),(7:UInt8),(7:UInt8),(8:UInt8),(8:UInt8),(8:UInt8),(8:UInt8),(8:UInt8),(8:UInt8),(8:UInt8),(8:UInt8),(8:UInt8),(8:UInt8),(8:UInt8),(8:UInt8),(8:UInt8),(8:UInt8),(8:UInt8),(8:UInt8),(8:UInt8),(8:UInt8),(8:UInt8),(8:UInt8),(8:UInt8),(8:UInt8),(8:UInt8),(8:UInt8),(8:UInt8),(8:UInt8),(8:UInt8),(8:UInt8),(8:UInt8),(8:UInt8),(8:UInt8),(8:UInt8),(8:UInt8),(8:UInt8),(8:UInt8),(8:UInt8),(8:UInt8),(8:UInt8),(8:UInt8),(8:UInt8),(8:UInt8),(8:UInt8),(8:UInt8),(8:UInt8),(8:UInt8),(8:UInt8),(8:UInt8),(8:UInt8),(8:UInt8),(8:UInt8),(8:UInt8),(8:UInt8),(8:UInt8),(8:UInt8),(8:UInt8),(8:UInt8),(8:UInt8),(8:UInt8),(8:UInt8),(8:UInt8),(8:UInt8),(8:UInt8),(8:UInt8),(8:UInt8),(8:UInt8),(8:UInt8),(8:UInt8),(8:UInt8),(8:UInt8),(8:UInt8),(8:UInt8),(8:UInt8),(8:UInt8),(8:UInt8),(8:UInt8),(8:UInt8),(8:UInt8),(8:UInt8),(8:UInt8),(8:UInt8),(8:UInt8),(8:UInt8),(8:UInt8),(8:UInt8),(8:UInt8),(8:UInt8),(8:UInt8),(8:UInt8),(8:UInt8),(8:UInt8),(8:UInt8),(8:UInt8),(8:UInt8),(8:UInt8),(8:UInt8),(8:UInt8),(8:UInt8),(8:UInt8),(8:UInt8),(8:UInt8),(8:UInt8),(8:UInt8),(8:UInt8),(8:UInt8),(8:UInt8),(8:UInt8),(8:UInt8),(8:UInt8),(8:UInt8),(8:UInt8),(8:UInt8),(8:UInt8),(8:UInt8),(8:UInt8),(8:UInt8),(8:UInt8),(8:UInt8),(8:UInt8),(8:UInt8),(8:UInt8),(8:UInt8),(8:UInt8),(8:UInt8),(8:UInt8),(8:UInt8),(8:UInt8),(8:UInt8),(8:UInt8)] (Int.toNat (wu8 v0)) (0:UInt8)):Nat):Int))))
def N3 (v0:Int) (v2:Int):Option (Int):=
 sel (decide (256<=v0)) (
  N2 (v0 / 2 ^ 8) (B0 (v2 + 8))) (
  N2 v0 v2)
def N4 (v0:Int) (v2:Int):Option (Int):=
 sel (decide (65536<=v0)) (
  N3 (v0 / 2 ^ 16) (B0 (v2 + 16))) (
  N3 v0 v2)
def Z3 (a0:Int):Option (Int):=
 sel (decide (4294967296<=a0)) (
  N4 (a0 / 2 ^ 32) 32) (
  N4 a0 0)
def J7 (a0:Int):Option (Int):=
 (Z3 a0).bind fun r1=>
 some (B0 (64 - r1))
def N5 (v2:Int) (v8:Int) (v14:Int) (v15:Int) (v17:Int) (v18:Int):Option (Int × Int):=
 chk (decide ((0:Int)<=v8)) <|
 some ((A7 ((A7 (v15 * 4294967296)) + v18)),((A7 ((A7 ((A7 (v17 * 4294967296)) + v14)) - (A7 (v18 * v2)))) / 2 ^ (min (Int.toNat v8) 64)))
def N6 (v2:Int) (v8:Int) (v9:Int) (v10:Int) (v14:Int) (v15:Int) (v16:Int) (v17:Int) (v18:Int):Option ((Int × Int × Int × Int × Int × Int × Int × Int × Int) ⊕ (Int × Int)):=
 sel (decide (4294967296<=(A7 (v16 + v9)))) (
  Option.map .inr (
   N5 v2 v8 v14 v15 v17 (A7 (v18 - 1)))) (
  some (.inl (v2,v8,v9,v10,v14,v15,(A7 (v16 + v9)),v17,(A7 (v18 - 1)))))
def a0e (v2:Int) (v8:Int) (v9:Int) (v10:Int) (v14:Int) (v15:Int) (v16:Int) (v17:Int) (v18:Int):Option ((Int × Int × Int × Int × Int × Int × Int × Int × Int) ⊕ (Int × Int)):=
 sel (decide (4294967296<=v18)) (
  N6 v2 v8 v9 v10 v14 v15 v16 v17 v18) (
  sel (decide ((A7 ((A7 (4294967296 * v16)) + v14)) < (A7 (v18 * v10)))) (
   N6 v2 v8 v9 v10 v14 v15 v16 v17 v18) (
   Option.map .inr (
    N5 v2 v8 v14 v15 v17 v18)))
def X8 (v2:Int) (v8:Int) (v9:Int) (v10:Int) (v14:Int) (v15:Int) (v16:Int) (v17:Int) (v18:Int):Option (Int × Int):=
 N0 (fun v=>a0e v.1 v.2.1 v.2.2.1 v.2.2.2.1 v.2.2.2.2.1 v.2.2.2.2.2.1 v.2.2.2.2.2.2.1 v.2.2.2.2.2.2.2.1 v.2.2.2.2.2.2.2.2) (v2,v8,v9,v10,v14,v15,v16,v17,v18)
def H2 (v2:Int) (v8:Int) (v9:Int) (v10:Int) (v11:Int) (v13:Int) (v14:Int) (v15:Int):Option (Int × Int):=
 chk (!decide (v9=0)) <|
 X8 v2 v8 v9 v10 v14 v15 (A7 ((A7 ((A7 ((A7 (v11 * 4294967296)) + v13)) - (A7 (v15 * v2)))) - (A7 ((A7 (Int.tdiv (A7 ((A7 ((A7 (v11 * 4294967296)) + v13)) - (A7 (v15 * v2)))) v9)) * v9)))) (A7 ((A7 ((A7 (v11 * 4294967296)) + v13)) - (A7 (v15 * v2)))) (A7 (Int.tdiv (A7 ((A7 ((A7 (v11 * 4294967296)) + v13)) - (A7 (v15 * v2)))) v9))
def N7 (v2:Int) (v8:Int) (v9:Int) (v10:Int) (v11:Int) (v13:Int) (v14:Int) (v15:Int) (v16:Int):Option ((Int × Int × Int × Int × Int × Int × Int × Int × Int) ⊕ (Int × Int)):=
 sel (decide (4294967296<=(A7 (v16 + v9)))) (
  Option.map .inr (
   H2 v2 v8 v9 v10 v11 v13 v14 (A7 (v15 - 1)))) (
  some (.inl (v2,v8,v9,v10,v11,v13,v14,(A7 (v15 - 1)),(A7 (v16 + v9)))))
def a0f (v2:Int) (v8:Int) (v9:Int) (v10:Int) (v11:Int) (v13:Int) (v14:Int) (v15:Int) (v16:Int):Option ((Int × Int × Int × Int × Int × Int × Int × Int × Int) ⊕ (Int × Int)):=
 sel (decide (4294967296<=v15)) (
  N7 v2 v8 v9 v10 v11 v13 v14 v15 v16) (
  sel (decide ((A7 ((A7 (4294967296 * v16)) + v13)) < (A7 (v15 * v10)))) (
   N7 v2 v8 v9 v10 v11 v13 v14 v15 v16) (
   Option.map .inr (
    H2 v2 v8 v9 v10 v11 v13 v14 v15)))
def X9 (v2:Int) (v8:Int) (v9:Int) (v10:Int) (v11:Int) (v13:Int) (v14:Int) (v15:Int) (v16:Int):Option (Int × Int):=
 N0 (fun v=>a0f v.1 v.2.1 v.2.2.1 v.2.2.2.1 v.2.2.2.2.1 v.2.2.2.2.2.1 v.2.2.2.2.2.2.1 v.2.2.2.2.2.2.2.1 v.2.2.2.2.2.2.2.2) (v2,v8,v9,v10,v11,v13,v14,v15,v16)
def Z4 (a0:Int) (a1:Int) (a2:Int):Option (Int × Int):=
 sel (decide (a2=0)) (
  none) (
  sel (decide (a2<=a0)) (
   none) (
   sel (decide (a0=0)) (
    chk (!decide (a2=0)) <|
    chk (!decide (a2=0)) <|
    some ((A7 (Int.tdiv a1 a2)),(Int.tmod a1 a2))) (
    (J7 a2).bind fun r1=>
    chk (decide ((0:Int)<=(A7 r1))) <|
    chk (decide ((0:Int)<=(A7 r1))) <|
    chk (decide ((0:Int)<=(A7 (64 - (A7 r1))))) <|
    chk (decide ((0:Int)<=(A7 r1))) <|
    chk (!decide (((A7 (a2 * 2 ^ (min (Int.toNat (A7 r1)) 64))) / 2 ^ 32)=0)) <|
    X9 (A7 (a2 * 2 ^ (min (Int.toNat (A7 r1)) 64))) (A7 r1) ((A7 (a2 * 2 ^ (min (Int.toNat (A7 r1)) 64))) / 2 ^ 32) (bits .and .u64 (A7 (a2 * 2 ^ (min (Int.toNat (A7 r1)) 64))) 4294967295) (bits .or .u64 (A7 (a0 * 2 ^ (min (Int.toNat (A7 r1)) 64))) (a1 / 2 ^ (min (Int.toNat (A7 (64 - (A7 r1)))) 64))) ((A7 (a1 * 2 ^ (min (Int.toNat (A7 r1)) 64))) / 2 ^ 32) (bits .and .u64 (A7 (a1 * 2 ^ (min (Int.toNat (A7 r1)) 64))) 4294967295) (A7 (Int.tdiv (bits .or .u64 (A7 (a0 * 2 ^ (min (Int.toNat (A7 r1)) 64))) (a1 / 2 ^ (min (Int.toNat (A7 (64 - (A7 r1)))) 64))) ((A7 (a2 * 2 ^ (min (Int.toNat (A7 r1)) 64))) / 2 ^ 32))) (A7 ((bits .or .u64 (A7 (a0 * 2 ^ (min (Int.toNat (A7 r1)) 64))) (a1 / 2 ^ (min (Int.toNat (A7 (64 - (A7 r1)))) 64))) - (A7 ((A7 (Int.tdiv (bits .or .u64 (A7 (a0 * 2 ^ (min (Int.toNat (A7 r1)) 64))) (a1 / 2 ^ (min (Int.toNat (A7 (64 - (A7 r1)))) 64))) ((A7 (a2 * 2 ^ (min (Int.toNat (A7 r1)) 64))) / 2 ^ 32))) * ((A7 (a2 * 2 ^ (min (Int.toNat (A7 r1)) 64))) / 2 ^ 32))))))))
def a1p (a0:Int) (a1:Int) (a2:Int):Option (Int × Bool):=
 (T6 a0 a1).bind fun r1=>
 sel (decide (a2<=r1.1)) (
  some (0,false)) (
  (Z4 r1.1 r1.2 a2).bind fun r2=>
  some (r2.1,true))
def a0n (a0:Int) (a1:Int):Option (Int):=
 sel (decide (a1=0)) (
  some 0) (
  (a1p 1000 a0 a1).bind fun r1=>
  sel (!r1.2) (
   some 18446744073709551615) (
   some r1.1))
def F7 (a0:List o3) (a1:Int) (a2:List o3):Option (List o3):=c35 a0 a1 a2
def a1Q (b0_1:Int) (b1:o8) (_b2_1:Int) (l0:List o3):Option (List o3 × Int):=
 some (l0,(A7 (b0_1 + b1.2.2.2.1)))
def W2 (v11:Int) (v45:List o4) (v46:Int) (v47:Int) (b0_1:Int) (b1:o8) (b2_1:Int) (b3:o4) (l0:List o3):Option ((List o4 × Int × Int × Int × o8 × Int × List o3) ⊕ (List o3 × Int)):=
 chk (decide ((0:Int)<=v11/\v11 < (((List.length l0):Nat):Int))) <|
 chk (decide ((Int.toNat v11) < (List.length l0))) <|
 chk (decide ((0:Int)<=v11/\v11 < (((List.length l0):Nat):Int))) <|
 chk (decide ((Int.toNat v11) < (List.length l0))) <|
 some (.inl (v45,v46,(B0 (v47 + 1)),b0_1,b1,b2_1,(List.set l0 (Int.toNat v11) ((List.getD l0 (Int.toNat v11) o5).1,(A7 ((List.getD l0 (Int.toNat v11) o5).2.1 + b3.2)),(List.getD l0 (Int.toNat v11) o5).2.2))))
def a0t (v45:List o4) (v46:Int) (v47:Int) (b0_1:Int) (b1:o8) (b2_1:Int) (l0:List o3):Option ((List o4 × Int × Int × Int × o8 × Int × List o3) ⊕ (List o3 × Int)):=
 sel (decide (v47 < v46)) (
  chk (decide ((0:Int)<=v47/\v47 < (((List.length v45):Nat):Int))) <|
  (U9 (l0,b0_1) (List.getD v45 (Int.toNat v47) A4).1).bind fun r3=>
  sel (!r3.2) (
   (F7 l0 r3.1 [((List.getD v45 (Int.toNat v47) A4).1,(0:Int),(0:Int))]).bind fun r4=>
   W2 r3.1 v45 v46 v47 b0_1 b1 b2_1 (List.getD v45 (Int.toNat v47) A4) r4) (
   W2 r3.1 v45 v46 v47 b0_1 b1 b2_1 (List.getD v45 (Int.toNat v47) A4) l0)) (
  Option.map .inr (
   a1Q b0_1 b1 b2_1 l0))
def a3u (v45:List o4) (v46:Int) (v47:Int) (b0_1:Int) (b1:o8) (b2_1:Int) (l0:List o3):Option (List o3 × Int):=
 N0 (fun v=>a0t v.1 v.2.1 v.2.2.1 v.2.2.2.1 v.2.2.2.2.1 v.2.2.2.2.2.1 v.2.2.2.2.2.2) (v45,v46,v47,b0_1,b1,b2_1,l0)
def a2j (a0_0:List o3) (a0_1:Int) (a1:o8):Option (List o3 × Int):=
 (a1x a1).bind fun r1=>
 (U9 (a0_0,a0_1) a1.1).bind fun r2=>
 chk (decide ((0:Int)<=r2.1/\r2.1 < (((List.length a0_0):Nat):Int))) <|
 chk (decide ((Int.toNat r2.1) < (List.length a0_0))) <|
 chk (decide ((0:Int)<=r2.1/\r2.1 < (((List.length a0_0):Nat):Int))) <|
 chk (decide ((Int.toNat r2.1) < (List.length a0_0))) <|
 chk (decide ((0:Int)<=r2.1/\r2.1 < (((List.length (List.set a0_0 (Int.toNat r2.1) ((List.getD a0_0 (Int.toNat r2.1) o5).1,(A7 ((List.getD a0_0 (Int.toNat r2.1) o5).2.1 - r1.1)),(List.getD a0_0 (Int.toNat r2.1) o5).2.2))):Nat):Int))) <|
 chk (decide ((Int.toNat r2.1) < (List.length (List.set a0_0 (Int.toNat r2.1) ((List.getD a0_0 (Int.toNat r2.1) o5).1,(A7 ((List.getD a0_0 (Int.toNat r2.1) o5).2.1 - r1.1)),(List.getD a0_0 (Int.toNat r2.1) o5).2.2))))) <|
 chk (decide ((0:Int)<=r2.1/\r2.1 < (((List.length (List.set a0_0 (Int.toNat r2.1) ((List.getD a0_0 (Int.toNat r2.1) o5).1,(A7 ((List.getD a0_0 (Int.toNat r2.1) o5).2.1 - r1.1)),(List.getD a0_0 (Int.toNat r2.1) o5).2.2))):Nat):Int))) <|
 chk (decide ((Int.toNat r2.1) < (List.length (List.set a0_0 (Int.toNat r2.1) ((List.getD a0_0 (Int.toNat r2.1) o5).1,(A7 ((List.getD a0_0 (Int.toNat r2.1) o5).2.1 - r1.1)),(List.getD a0_0 (Int.toNat r2.1) o5).2.2))))) <|
 a3u a1.2.2.2.2.2 (((List.length a1.2.2.2.2.2):Nat):Int) 0 a0_1 a1 (0:Int) (List.set (List.set a0_0 (Int.toNat r2.1) ((List.getD a0_0 (Int.toNat r2.1) o5).1,(A7 ((List.getD a0_0 (Int.toNat r2.1) o5).2.1 - r1.1)),(List.getD a0_0 (Int.toNat r2.1) o5).2.2)) (Int.toNat r2.1) ((List.getD (List.set a0_0 (Int.toNat r2.1) ((List.getD a0_0 (Int.toNat r2.1) o5).1,(A7 ((List.getD a0_0 (Int.toNat r2.1) o5).2.1 - r1.1)),(List.getD a0_0 (Int.toNat r2.1) o5).2.2)) (Int.toNat r2.1) o5).1,(List.getD (List.set a0_0 (Int.toNat r2.1) ((List.getD a0_0 (Int.toNat r2.1) o5).1,(A7 ((List.getD a0_0 (Int.toNat r2.1) o5).2.1 - r1.1)),(List.getD a0_0 (Int.toNat r2.1) o5).2.2)) (Int.toNat r2.1) o5).2.1,(A7 ((List.getD (List.set a0_0 (Int.toNat r2.1) ((List.getD a0_0 (Int.toNat r2.1) o5).1,(A7 ((List.getD a0_0 (Int.toNat r2.1) o5).2.1 - r1.1)),(List.getD a0_0 (Int.toNat r2.1) o5).2.2)) (Int.toNat r2.1) o5).2.2 + 1))))
def a2u (a0:o7) (a1:Int) (a2:List UInt8):Option (o7 × U0):=
 (a2T a0).bind fun r1=>
 (Z1 a0).bind fun r2=>
 sel (!decide (r2=0)) (
  some (r1,(1,[],(0:Int),(0:Int),(0:Int)))) (
  (a2A a2).bind fun r3=>
  sel (!decide (r3.2=0)) (
   some (r1,(r3.2,[],(0:Int),(0:Int),(0:Int)))) (
   (a2i a0 a1 r3.1 (((List.length a2):Nat):Int)).bind fun r4=>
   (a0n r3.1.2.2.2.1 r3.1.2.2.1).bind fun r5=>
   sel (decide (r4=0)) (
    (a2j r1.1 r1.2 r3.1).bind fun r6=>
    some (r6,(r4,r3.1.1,r3.1.2.1,r3.1.2.2.1,r5))) (
    some (r1,(r4,r3.1.1,r3.1.2.1,r3.1.2.2.1,r5)))))
def T7 (a0:Int) (a1:Int):Option (Int × Bool):=
 sel (decide ((A7 (18446744073709551615 - a1)) < a0)) (
  some (0,false)) (
  some ((A7 (a0 + a1)),true))
def O1 (v4:Int) (v12:List o3) (v13:Int) (v14:Int):Option ((Int × List o3 × Int × Int) ⊕ (Int × Bool)):=
 sel (decide (v14 < v13)) (
  chk (decide ((0:Int)<=v14/\v14 < (((List.length v12):Nat):Int))) <|
  (T7 v4 (List.getD v12 (Int.toNat v14) o5).2.1).bind fun r1=>
  sel (!r1.2) (
   some (.inr (0,false))) (
   some (.inl (r1.1,v12,v13,(B0 (v14 + 1)))))) (
  some (.inr (v4,true)))
def a0G (v4:Int) (v12:List o3) (v13:Int) (v14:Int):Option (Int × Bool):=
 N0 (fun v=>O1 v.1 v.2.1 v.2.2.1 v.2.2.2) (v4,v12,v13,v14)
def S6 (a0:o7):Option (Int × Bool):=
 a0G a0.2 a0.1 (((List.length a0.1):Nat):Int) 0
def J5 (b0:o7):Option (Int):=
 (S6 b0).bind fun r1=>
 sel (!r1.2) (
  some 6) (
  some 0)
def D4 (v3:Int) (v12:List o3) (v13:Int) (v14:Int) (b0:o7) (b1:o3):Option ((List o3 × Int × Int × o7) ⊕ (Int)):=
 sel (decide (0 < v3)) (
  chk (decide ((0:Int)<=(B0 (v3 - 1))/\(B0 (v3 - 1)) < (((List.length b0.1):Nat):Int))) <|
  sel (!(Op.bytesLess (List.getD b0.1 (Int.toNat (B0 (v3 - 1))) o5).1 b1.1 || decide ((List.getD b0.1 (Int.toNat (B0 (v3 - 1))) o5).1=b1.1))) (
   some (.inr 1)) (
   some (.inl (v12,v13,(B0 (v14 + 1)),b0)))) (
  some (.inl (v12,v13,(B0 (v14 + 1)),b0)))
def F0 (v12:List o3) (v13:Int) (v14:Int) (b0:o7):Option ((List o3 × Int × Int × o7) ⊕ (Int)):=
 sel (decide (v14 < v13)) (
  chk (decide ((0:Int)<=v14/\v14 < (((List.length v12):Nat):Int))) <|
  (I3 (List.getD v12 (Int.toNat v14) o5).1).bind fun r2=>
  sel (!r2) (
   some (.inr 10)) (
   sel (decide (0 < v14)) (
    chk (decide ((0:Int)<=(B0 (v14 - 1))/\(B0 (v14 - 1)) < (((List.length b0.1):Nat):Int))) <|
    sel (decide ((List.getD b0.1 (Int.toNat (B0 (v14 - 1))) o5).1=(List.getD v12 (Int.toNat v14) o5).1)) (
     some (.inr 8)) (
     D4 v14 v12 v13 v14 b0 (List.getD v12 (Int.toNat v14) o5))) (
    D4 v14 v12 v13 v14 b0 (List.getD v12 (Int.toNat v14) o5)))) (
  Option.map .inr (
   J5 b0))
def Q7 (v12:List o3) (v13:Int) (v14:Int) (b0:o7):Option (Int):=
 N0 (fun v=>F0 v.1 v.2.1 v.2.2.1 v.2.2.2) (v12,v13,v14,b0)
def H6 (a0:o7):Option (Int):=
 sel (decide (256 < (((List.length a0.1):Nat):Int))) (
  some 3) (
  Q7 a0.1 (((List.length a0.1):Nat):Int) 0 a0)
def F8 (v0:List UInt8) (v5:Int) (v6:Int):Option ((List UInt8 × Int × Int) ⊕ (Int × Int × Int)):=
 chk (decide ((0:Int)<=v6/\v6 < (((List.length v0):Nat):Int))) <|
 chk (decide ((0:Int)<=(B0 (7 * v6)))) <|
 chk (decide ((0:Int)<=v6/\v6 < (((List.length v0):Nat):Int))) <|
 sel (decide (((UInt8.toNat (List.getD v0 (Int.toNat v6) (0:UInt8)):Nat):Int) < 128)) (
  some (.inr ((bits .or .u64 v5 (A7 ((A7 (bits .and .u8 ((UInt8.toNat (List.getD v0 (Int.toNat v6) (0:UInt8)):Nat):Int) 127)) * 2 ^ (min (Int.toNat (B0 (7 * v6))) 64)))),(B0 (v6 + 1)),0))) (
  some (.inl (v0,(bits .or .u64 v5 (A7 ((A7 (bits .and .u8 ((UInt8.toNat (List.getD v0 (Int.toNat v6) (0:UInt8)):Nat):Int) 127)) * 2 ^ (min (Int.toNat (B0 (7 * v6))) 64)))),(B0 (v6 + 1)))))
def F9 (v0:List UInt8) (v5:Int) (v6:Int) (v14:Bool):Option ((List UInt8 × Int × Int) ⊕ (Int × Int × Int)):=
 sel v14 (
  some (.inr (0,0,6))) (
  sel (decide (0 < v6)) (
   chk (decide ((0:Int)<=v6/\v6 < (((List.length v0):Nat):Int))) <|
   sel (decide (((UInt8.toNat (List.getD v0 (Int.toNat v6) (0:UInt8)):Nat):Int)=0)) (
    some (.inr (0,0,4))) (
    F8 v0 v5 v6)) (
   F8 v0 v5 v6))
def L6 (v0:List UInt8) (v5:Int) (v6:Int):Option ((List UInt8 × Int × Int) ⊕ (Int × Int × Int)):=
 sel (decide ((((List.length v0):Nat):Int)<=v6)) (
  some (.inr (0,0,5))) (
  sel (decide (v6=9)) (
   chk (decide ((0:Int)<=v6/\v6 < (((List.length v0):Nat):Int))) <|
   F9 v0 v5 v6 (decide (1 < ((UInt8.toNat (List.getD v0 (Int.toNat v6) (0:UInt8)):Nat):Int)))) (
   F9 v0 v5 v6 false))
def W8 (v0:List UInt8) (v5:Int) (v6:Int):Option (Int × Int × Int):=
 N0 (fun v=>L6 v.1 v.2.1 v.2.2) (v0,v5,v6)
def E4 (a0:List UInt8):Option (Int × Int × Int):=
 W8 a0 0 0
def J4 (v0:List UInt8) (v5:Int) (v6:Int) (v8:Int) (_b0:o6):Option (o6 × Int × Int):=
 chk (decide ((0:Int)<=v6/\v6<=(((List.length v0):Nat):Int)/\(((List.length v0):Nat):Int)<=(((List.length v0):Nat):Int))) <|
 (E4 (List.drop (Int.toNat v6) (List.take (Int.toNat (((List.length v0):Nat):Int)) v0))).bind fun r2=>
 sel (!decide (r2.2.2=0)) (
  some (((0:Int),(0:Int),(0:Int),[]),0,r2.2.2)) (
  sel (decide (v8=0)) (
   some (((B0 (A7 (Int.tdiv v5 8))),v8,r2.1,[]),(B0 (v6 + r2.2.1)),0)) (
   sel (decide ((A7 (B0 ((B0 ((((List.length v0):Nat):Int) - v6)) - r2.2.1))) < r2.1)) (
    some (((0:Int),(0:Int),(0:Int),[]),0,5)) (
    chk (decide ((0:Int)<=(B0 (v6 + r2.2.1))/\(B0 (v6 + r2.2.1))<=(B0 ((B0 (v6 + r2.2.1)) + (B0 r2.1)))/\(B0 ((B0 (v6 + r2.2.1)) + (B0 r2.1)))<=(((List.length v0):Nat):Int))) <|
    chk (decide ((0 + (List.length (List.drop (Int.toNat (B0 (v6 + r2.2.1))) (List.take (Int.toNat (B0 ((B0 (v6 + r2.2.1)) + (B0 r2.1)))) v0)))) * 1<=LIM/\0 + (List.length (List.drop (Int.toNat (B0 (v6 + r2.2.1))) (List.take (Int.toNat (B0 ((B0 (v6 + r2.2.1)) + (B0 r2.1)))) v0)))<=LEN)) <|
    some (((B0 (A7 (Int.tdiv v5 8))),v8,(0:Int),(List.drop (Int.toNat (B0 (v6 + r2.2.1))) (List.take (Int.toNat (B0 ((B0 (v6 + r2.2.1)) + (B0 r2.1)))) v0))),(B0 ((B0 (v6 + r2.2.1)) + (B0 r2.1))),0))))
def T8 (a0:List UInt8):Option (o6 × Int × Int):=
 (E4 a0).bind fun r1=>
 sel (!decide (r1.2.2=0)) (
  some (((0:Int),(0:Int),(0:Int),[]),0,r1.2.2)) (
  sel (decide ((A7 (Int.tdiv r1.1 8)) < 1)) (
   some (((0:Int),(0:Int),(0:Int),[]),0,4)) (
   sel (decide (536870911 < (A7 (Int.tdiv r1.1 8)))) (
    some (((0:Int),(0:Int),(0:Int),[]),0,4)) (
    sel (!decide ((B0 (Int.tmod r1.1 8))=0)) (
     sel (!decide ((B0 (Int.tmod r1.1 8))=2)) (
      some (((0:Int),(0:Int),(0:Int),[]),0,4)) (
      J4 a0 r1.1 r1.2.1 (B0 (Int.tmod r1.1 8)) ((0:Int),(0:Int),(0:Int),[]))) (
     J4 a0 r1.1 r1.2.1 (B0 (Int.tmod r1.1 8)) ((0:Int),(0:Int),(0:Int),[])))))
def O2 (l0:List o6):Option (List o6 × Int × Int):=
 some (l0,0,0)
def C5 (v0:List UInt8) (v6:Int) (l0:List o6):Option ((List UInt8 × Int × List o6) ⊕ (List o6 × Int × Int)):=
 sel (decide (v6 < (((List.length v0):Nat):Int))) (
  sel (decide (1024<=(((List.length l0):Nat):Int))) (
   some (.inr ([],v6,3))) (
   chk (decide ((0:Int)<=v6/\v6<=(((List.length v0):Nat):Int)/\(((List.length v0):Nat):Int)<=(((List.length v0):Nat):Int))) <|
   (T8 (List.drop (Int.toNat v6) (List.take (Int.toNat (((List.length v0):Nat):Int)) v0))).bind fun r1=>
   sel (!decide (r1.2.2=0)) (
    some (.inr ([],v6,r1.2.2))) (
    chk (decide (((List.length l0) + 1) * 48<=LIM/\(List.length l0) + 1<=LEN)) <|
    some (.inl (v0,(B0 (v6 + r1.2.1)),(l0 ++ ([r1.1]:List o6))))))) (
  Option.map .inr (
   O2 l0))
def T9 (v0:List UInt8) (v6:Int) (l0:List o6):Option (List o6 × Int × Int):=
 N0 (fun v=>C5 v.1 v.2.1 v.2.2) (v0,v6,l0)
def H3 (a0:List UInt8):Option (List o6 × Int × Int):=
 T9 a0 0 []
def J1 (a0:List UInt8) (a1:List UInt8):Option (Bool):=
 some (decide (a0=a1))
def P9 (v0:List UInt8) (v6:Int) (_b0:o4) (b1:o4):Option (o4 × Bool):=
 sel (decide (v6=0)) (
  (I0 [] 1 b1.1).bind fun r2=>
  (D7 r2 2 b1.2).bind fun r3=>
  (D2 r3).bind fun r4=>
  (J1 r4 v0).bind fun r5=>
  some (b1,r5)) (
  some (b1,false))
def J8 (v0:List UInt8) (v6:Int) (v17:Int) (v18:Int) (v36:Bool) (b0:o4) (b1:o4) (b2:o6) (l0:List o6):Option ((List UInt8 × Int × Int × Int × o4 × o4 × List o6) ⊕ (o4 × Bool)):=
 sel v36 (
  some (.inl (v0,v6,v17,(B0 (v18 + 1)),b0,(b1.1,b2.2.2.1),l0))) (
  some (.inr (b1,false)))
def J9 (v0:List UInt8) (v6:Int) (v17:Int) (v18:Int) (v23:Bool) (b0:o4) (b1:o4) (b2:o6) (l0:List o6):Option ((List UInt8 × Int × Int × Int × o4 × o4 × List o6) ⊕ (o4 × Bool)):=
 sel v23 (
  some (.inl (v0,v6,v17,(B0 (v18 + 1)),b0,(b2.2.2.2,b1.2),l0))) (
  sel (decide (b2.1=2)) (
   J8 v0 v6 v17 v18 (decide (b2.2.1=0)) b0 b1 b2 l0) (
   J8 v0 v6 v17 v18 false b0 b1 b2 l0))
def K0 (v0:List UInt8) (v6:Int) (v17:Int) (v18:Int) (b0:o4) (b1:o4) (l0:List o6):Option ((List UInt8 × Int × Int × Int × o4 × o4 × List o6) ⊕ (o4 × Bool)):=
 sel (decide (v18 < v17)) (
  chk (decide ((0:Int)<=v18/\v18 < (((List.length l0):Nat):Int))) <|
  chk (decide ((Int.toNat v18) < (List.length l0))) <|
  sel (decide ((List.getD l0 (Int.toNat v18) A5).1=1)) (
   J9 v0 v6 v17 v18 (decide ((List.getD l0 (Int.toNat v18) A5).2.1=2)) b0 b1 (List.getD l0 (Int.toNat v18) A5) l0) (
   J9 v0 v6 v17 v18 false b0 b1 (List.getD l0 (Int.toNat v18) A5) l0)) (
  Option.map .inr (
   P9 v0 v6 b0 b1))
def Y0 (v0:List UInt8) (v6:Int) (v17:Int) (v18:Int) (b0:o4) (b1:o4) (l0:List o6):Option (o4 × Bool):=
 N0 (fun v=>K0 v.1 v.2.1 v.2.2.1 v.2.2.2.1 v.2.2.2.2.1 v.2.2.2.2.2.1 v.2.2.2.2.2.2) (v0,v6,v17,v18,b0,b1,l0)
def O3 (a0:List UInt8):Option (o4 × Bool):=
 (H3 a0).bind fun r1=>
 Y0 a0 r1.2.2 (((List.length r1.1):Nat):Int) 0 ([],(0:Int)) ([],(0:Int)) r1.1
def K4 (v9:List o6) (v10:Int) (v11:Int) (v78:Bool) (b0_0:List UInt8) (b0_1:Int) (b0_2:Int) (b0_3:Int) (b0_4:List UInt8) (b1_0:List UInt8) (b1_1:Int) (b1_2:Int) (b1_3:Int) (b1_4:List UInt8) (b2:o6) (l0:List o4):Option ((List o6 × Int × Int × List UInt8 × Int × Int × Int × List UInt8 × List UInt8 × Int × Int × Int × List UInt8 × List o4) ⊕ (o8 × Bool)):=
 sel v78 (
  (O3 b2.2.2.2).bind fun r1=>
  sel (!r1.2) (
   some (.inr ((b1_0,b1_1,b1_2,b1_3,b1_4,l0),false))) (
   chk (decide (((List.length l0) + 1) * 24<=LIM/\(List.length l0) + 1<=LEN)) <|
   some (.inl (v9,v10,(B0 (v11 + 1)),b0_0,b0_1,b0_2,b0_3,b0_4,b1_0,b1_1,b1_2,b1_3,b1_4,(l0 ++ ([r1.1]:List o4)))))) (
  some (.inr ((b1_0,b1_1,b1_2,b1_3,b1_4,l0),false)))
def K5 (v9:List o6) (v10:Int) (v11:Int) (v65:Bool) (b0_0:List UInt8) (b0_1:Int) (b0_2:Int) (b0_3:Int) (b0_4:List UInt8) (b1_0:List UInt8) (b1_1:Int) (b1_2:Int) (b1_3:Int) (b1_4:List UInt8) (b2:o6) (l0:List o4):Option ((List o6 × Int × Int × List UInt8 × Int × Int × Int × List UInt8 × List UInt8 × Int × Int × Int × List UInt8 × List o4) ⊕ (o8 × Bool)):=
 sel v65 (
  some (.inl (v9,v10,(B0 (v11 + 1)),b0_0,b0_1,b0_2,b0_3,b0_4,b1_0,b1_1,b1_2,b1_3,b2.2.2.2,l0))) (
  sel (decide (b2.1=6)) (
   K4 v9 v10 v11 (decide (b2.2.1=2)) b0_0 b0_1 b0_2 b0_3 b0_4 b1_0 b1_1 b1_2 b1_3 b1_4 b2 l0) (
   K4 v9 v10 v11 false b0_0 b0_1 b0_2 b0_3 b0_4 b1_0 b1_1 b1_2 b1_3 b1_4 b2 l0))
def K6 (v9:List o6) (v10:Int) (v11:Int) (v53:Bool) (b0_0:List UInt8) (b0_1:Int) (b0_2:Int) (b0_3:Int) (b0_4:List UInt8) (b1_0:List UInt8) (b1_1:Int) (b1_2:Int) (b1_3:Int) (b1_4:List UInt8) (b2:o6) (l0:List o4):Option ((List o6 × Int × Int × List UInt8 × Int × Int × Int × List UInt8 × List UInt8 × Int × Int × Int × List UInt8 × List o4) ⊕ (o8 × Bool)):=
 sel v53 (
  some (.inl (v9,v10,(B0 (v11 + 1)),b0_0,b0_1,b0_2,b0_3,b0_4,b1_0,b1_1,b1_2,b2.2.2.1,b1_4,l0))) (
  sel (decide (b2.1=5)) (
   K5 v9 v10 v11 (decide (b2.2.1=2)) b0_0 b0_1 b0_2 b0_3 b0_4 b1_0 b1_1 b1_2 b1_3 b1_4 b2 l0) (
   K5 v9 v10 v11 false b0_0 b0_1 b0_2 b0_3 b0_4 b1_0 b1_1 b1_2 b1_3 b1_4 b2 l0))
def K7 (v9:List o6) (v10:Int) (v11:Int) (v41:Bool) (b0_0:List UInt8) (b0_1:Int) (b0_2:Int) (b0_3:Int) (b0_4:List UInt8) (b1_0:List UInt8) (b1_1:Int) (b1_2:Int) (b1_3:Int) (b1_4:List UInt8) (b2:o6) (l0:List o4):Option ((List o6 × Int × Int × List UInt8 × Int × Int × Int × List UInt8 × List UInt8 × Int × Int × Int × List UInt8 × List o4) ⊕ (o8 × Bool)):=
 sel v41 (
  some (.inl (v9,v10,(B0 (v11 + 1)),b0_0,b0_1,b0_2,b0_3,b0_4,b1_0,b1_1,b2.2.2.1,b1_3,b1_4,l0))) (
  sel (decide (b2.1=4)) (
   K6 v9 v10 v11 (decide (b2.2.1=0)) b0_0 b0_1 b0_2 b0_3 b0_4 b1_0 b1_1 b1_2 b1_3 b1_4 b2 l0) (
   K6 v9 v10 v11 false b0_0 b0_1 b0_2 b0_3 b0_4 b1_0 b1_1 b1_2 b1_3 b1_4 b2 l0))
def K8 (v9:List o6) (v10:Int) (v11:Int) (v29:Bool) (b0_0:List UInt8) (b0_1:Int) (b0_2:Int) (b0_3:Int) (b0_4:List UInt8) (b1_0:List UInt8) (b1_1:Int) (b1_2:Int) (b1_3:Int) (b1_4:List UInt8) (b2:o6) (l0:List o4):Option ((List o6 × Int × Int × List UInt8 × Int × Int × Int × List UInt8 × List UInt8 × Int × Int × Int × List UInt8 × List o4) ⊕ (o8 × Bool)):=
 sel v29 (
  some (.inl (v9,v10,(B0 (v11 + 1)),b0_0,b0_1,b0_2,b0_3,b0_4,b1_0,b2.2.2.1,b1_2,b1_3,b1_4,l0))) (
  sel (decide (b2.1=3)) (
   K7 v9 v10 v11 (decide (b2.2.1=0)) b0_0 b0_1 b0_2 b0_3 b0_4 b1_0 b1_1 b1_2 b1_3 b1_4 b2 l0) (
   K7 v9 v10 v11 false b0_0 b0_1 b0_2 b0_3 b0_4 b1_0 b1_1 b1_2 b1_3 b1_4 b2 l0))
def K9 (v9:List o6) (v10:Int) (v11:Int) (v16:Bool) (b0_0:List UInt8) (b0_1:Int) (b0_2:Int) (b0_3:Int) (b0_4:List UInt8) (b1_0:List UInt8) (b1_1:Int) (b1_2:Int) (b1_3:Int) (b1_4:List UInt8) (b2:o6) (l0:List o4):Option ((List o6 × Int × Int × List UInt8 × Int × Int × Int × List UInt8 × List UInt8 × Int × Int × Int × List UInt8 × List o4) ⊕ (o8 × Bool)):=
 sel v16 (
  some (.inl (v9,v10,(B0 (v11 + 1)),b0_0,b0_1,b0_2,b0_3,b0_4,b2.2.2.2,b1_1,b1_2,b1_3,b1_4,l0))) (
  sel (decide (b2.1=2)) (
   K8 v9 v10 v11 (decide (b2.2.1=0)) b0_0 b0_1 b0_2 b0_3 b0_4 b1_0 b1_1 b1_2 b1_3 b1_4 b2 l0) (
   K8 v9 v10 v11 false b0_0 b0_1 b0_2 b0_3 b0_4 b1_0 b1_1 b1_2 b1_3 b1_4 b2 l0))
def L0 (v9:List o6) (v10:Int) (v11:Int) (b0_0:List UInt8) (b0_1:Int) (b0_2:Int) (b0_3:Int) (b0_4:List UInt8) (b1_0:List UInt8) (b1_1:Int) (b1_2:Int) (b1_3:Int) (b1_4:List UInt8) (l0:List o4):Option ((List o6 × Int × Int × List UInt8 × Int × Int × Int × List UInt8 × List UInt8 × Int × Int × Int × List UInt8 × List o4) ⊕ (o8 × Bool)):=
 sel (decide (v11 < v10)) (
  chk (decide ((0:Int)<=v11/\v11 < (((List.length v9):Nat):Int))) <|
  sel (decide ((List.getD v9 (Int.toNat v11) A5).1=1)) (
   K9 v9 v10 v11 (decide ((List.getD v9 (Int.toNat v11) A5).2.1=2)) b0_0 b0_1 b0_2 b0_3 b0_4 b1_0 b1_1 b1_2 b1_3 b1_4 (List.getD v9 (Int.toNat v11) A5) l0) (
   K9 v9 v10 v11 false b0_0 b0_1 b0_2 b0_3 b0_4 b1_0 b1_1 b1_2 b1_3 b1_4 (List.getD v9 (Int.toNat v11) A5) l0)) (
  some (.inr ((b1_0,b1_1,b1_2,b1_3,b1_4,l0),true)))
def a0S (v9:List o6) (v10:Int) (v11:Int) (b0_0:List UInt8) (b0_1:Int) (b0_2:Int) (b0_3:Int) (b0_4:List UInt8) (b1_0:List UInt8) (b1_1:Int) (b1_2:Int) (b1_3:Int) (b1_4:List UInt8) (l0:List o4):Option (o8 × Bool):=
 N0 (fun v=>L0 v.1 v.2.1 v.2.2.1 v.2.2.2.1 v.2.2.2.2.1 v.2.2.2.2.2.1 v.2.2.2.2.2.2.1 v.2.2.2.2.2.2.2.1 v.2.2.2.2.2.2.2.2.1 v.2.2.2.2.2.2.2.2.2.1 v.2.2.2.2.2.2.2.2.2.2.1 v.2.2.2.2.2.2.2.2.2.2.2.1 v.2.2.2.2.2.2.2.2.2.2.2.2.1 v.2.2.2.2.2.2.2.2.2.2.2.2.2) (v9,v10,v11,b0_0,b0_1,b0_2,b0_3,b0_4,b1_0,b1_1,b1_2,b1_3,b1_4,l0)
def V0 (a0:List o6):Option (o8 × Bool):=
 a0S a0 (((List.length a0):Nat):Int) 0 [] (0:Int) (0:Int) (0:Int) [] [] (0:Int) (0:Int) (0:Int) [] []
def J2 (a0:List UInt8):Option (o8 × Int):=
 sel (decide (4096 < (((List.length a0):Nat):Int))) (
  some (([],(0:Int),(0:Int),(0:Int),[],[]),3)) (
  (H3 a0).bind fun r1=>
  (V0 r1.1).bind fun r2=>
  sel (!decide (r1.2.2=0)) (
   some (([],(0:Int),(0:Int),(0:Int),[],[]),4)) (
   sel (!r2.2) (
    some (([],(0:Int),(0:Int),(0:Int),[],[]),4)) (
    (O9 r2.1).bind fun r3=>
    (J1 r3 a0).bind fun r4=>
    sel (!r4) (
     some (([],(0:Int),(0:Int),(0:Int),[],[]),4)) (
     (H4 r2.1).bind fun r5=>
     sel (!decide (r5=0)) (
      some (([],(0:Int),(0:Int),(0:Int),[],[]),r5)) (
      some (r2.1,0))))))
def P3 (v1:List UInt8) (v7:List o3) (v8:Int) (v9:Int):Option ((List UInt8 × List o3 × Int × Int) ⊕ (Int)):=
 sel (decide (v9 < v8)) (
  chk (decide ((0:Int)<=v9/\v9 < (((List.length v7):Nat):Int))) <|
  sel (decide ((List.getD v7 (Int.toNat v9) o5).1=v1)) (
   some (.inr v9)) (
   some (.inl (v1,v7,v8,(B0 (v9 + 1)))))) (
  some (.inr (-1)))
def a0T (v1:List UInt8) (v7:List o3) (v8:Int) (v9:Int):Option (Int):=
 N0 (fun v=>P3 v.1 v.2.1 v.2.2.1 v.2.2.2) (v1,v7,v8,v9)
def L4 (a0:List o3) (a1:List UInt8):Option (Int):=
 a0T a1 a0 (((List.length a0):Nat):Int) 0
def Q8 (a0:o7) (a1:List UInt8):Option (o3 × Bool):=
 (L4 a0.1 a1).bind fun r1=>
 sel (decide (0<=r1)) (
  chk (decide ((0:Int)<=r1/\r1 < (((List.length a0.1):Nat):Int))) <|
  some ((List.getD a0.1 (Int.toNat r1) o5),true)) (
  some (([],(0:Int),(0:Int)),false))
def L1 (a0:Int):Option (Int):=
 some (A7 (max 0 (min a0 1073741824)))
def V1 (a0:Int) (a1:Int):Option (Int):=
 (L1 a0).bind fun r1=>
 (L1 a1).bind fun r2=>
 some (A7 ((A7 (50 + (A7 (1 * r1)))) + (A7 (20 * r2))))
def Z5 (a0:Int) (a1:Int):Option (Int × Bool):=
 sel (!decide (a0=0)) (
  chk (!decide (a0=0)) <|
  sel (decide ((A7 (Int.tdiv 18446744073709551615 a0)) < a1)) (
   some (0,false)) (
   some ((A7 (a0 * a1)),true))) (
  some ((A7 (a0 * a1)),true))
def V2 (a0:Int) (a1:Int):Option (Int × Bool):=
 (Z5 a0 a1).bind fun r1=>
 some (r1.1,r1.2)
def S7 (v4:Int) (v9:List Int) (v10:Int) (v11:Int):Option ((Int × List Int × Int × Int) ⊕ (Int × Bool)):=
 sel (decide (v11 < v10)) (
  chk (decide ((0:Int)<=v11/\v11 < (((List.length v9):Nat):Int))) <|
  (T7 v4 (List.getD v9 (Int.toNat v11) (0:Int))).bind fun r1=>
  sel (!r1.2) (
   some (.inr (0,false))) (
   some (.inl (r1.1,v9,v10,(B0 (v11 + 1)))))) (
  some (.inr (v4,true)))
def a1y (v4:Int) (v9:List Int) (v10:Int) (v11:Int):Option (Int × Bool):=
 N0 (fun v=>S7 v.1 v.2.1 v.2.2.1 v.2.2.2) (v4,v9,v10,v11)
def Z6 (a0:List Int):Option (Int × Bool):=
 a1y 0 a0 (((List.length a0):Nat):Int) 0
def W9 (l0:List Int):Option (Int × Bool):=
 (Z6 l0).bind fun r1=>
 some (r1.1,r1.2)
def P4 (v11:List o4) (v12:Int) (v13:Int) (l0:List Int):Option ((List o4 × Int × Int × List Int) ⊕ (Int × Bool)):=
 sel (decide (v13 < v12)) (
  chk (decide ((0:Int)<=v13/\v13 < (((List.length v11):Nat):Int))) <|
  chk (decide (((List.length l0) + 1) * 8<=LIM/\(List.length l0) + 1<=LEN)) <|
  some (.inl (v11,v12,(B0 (v13 + 1)),(l0 ++ [(List.getD v11 (Int.toNat v13) A4).2])))) (
  Option.map .inr (
   W9 l0))
def a0U (v11:List o4) (v12:Int) (v13:Int) (l0:List Int):Option (Int × Bool):=
 N0 (fun v=>P4 v.1 v.2.1 v.2.2.1 v.2.2.2) (v11,v12,v13,l0)
def P0 (a0:o8):Option (Int × Bool):=
 a0U a0.2.2.2.2.2 (((List.length a0.2.2.2.2.2):Nat):Int) 0 [a0.2.2.2.1]
def L7 (v0:List o3) (v7:Int) (b0:o3):Option (List o3):=
 chk (decide ((0:Int)<=0/\0<=v7/\v7<=(((List.length v0):Nat):Int))) <|
 chk (decide ((0 + (List.length (List.take (Int.toNat v7) v0))) * 32<=LIM/\0 + (List.length (List.take (Int.toNat v7) v0))<=LEN)) <|
 chk (decide (((List.length (List.take (Int.toNat v7) v0)) + 1) * 32<=LIM/\(List.length (List.take (Int.toNat v7) v0)) + 1<=LEN)) <|
 chk (decide ((0:Int)<=v7/\v7<=(((List.length v0):Nat):Int)/\(((List.length v0):Nat):Int)<=(((List.length v0):Nat):Int))) <|
 chk (decide (((List.length ((List.take (Int.toNat v7) v0) ++ ([b0]:List o3))) + (List.length (List.drop (Int.toNat v7) (List.take (Int.toNat (((List.length v0):Nat):Int)) v0)))) * 32<=LIM/\(List.length ((List.take (Int.toNat v7) v0) ++ ([b0]:List o3))) + (List.length (List.drop (Int.toNat v7) (List.take (Int.toNat (((List.length v0):Nat):Int)) v0)))<=LEN)) <|
 some (((List.take (Int.toNat v7) v0) ++ ([b0]:List o3)) ++ (List.drop (Int.toNat v7) (List.take (Int.toNat (((List.length v0):Nat):Int)) v0)))
def Q9 (v0:List o3) (v7:Int) (b0:o3):Option ((List o3 × Int × o3) ⊕ (List o3)):=
 sel (decide (v7 < (((List.length v0):Nat):Int))) (
  chk (decide ((0:Int)<=v7/\v7 < (((List.length v0):Nat):Int))) <|
  sel (Op.bytesLess (List.getD v0 (Int.toNat v7) o5).1 b0.1) (
   some (.inl (v0,(B0 (v7 + 1)),b0))) (
   Option.map .inr (
    L7 v0 v7 b0))) (
  Option.map .inr (
   L7 v0 v7 b0))
def a05 (v0:List o3) (v7:Int) (b0:o3):Option (List o3):=
 N0 (fun v=>Q9 v.1 v.2.1 v.2.2) (v0,v7,b0)
def R1 (a0:List o3) (a1:o3):Option (List o3):=
 (L4 a0 a1.1).bind fun r1=>
 sel (decide (0<=r1)) (
  chk (decide ((0 + (List.length a0)) * 32<=LIM/\0 + (List.length a0)<=LEN)) <|
  chk (decide ((0:Int)<=r1/\r1 < (((List.length a0):Nat):Int))) <|
  chk (decide ((Int.toNat r1) < (List.length a0))) <|
  some (List.set a0 (Int.toNat r1) a1)) (
  a05 a0 0 a1)
def X0 (b0:o7) (b1:o8) (_b2:o7) (l0:List o3):Option (o7):=
 some (l0,(A7 (b0.2 + b1.2.2.2.1)))
def L2 (v35:List o4) (v36:Int) (v37:Int) (b0:o7) (b1:o8) (b2:o7) (b3:o4) (b4:o3) (l0:List o3):Option ((List o4 × Int × Int × o7 × o8 × o7 × List o3) ⊕ (o7)):=
 (R1 l0 (b4.1,(A7 (b4.2.1 + b3.2)),b4.2.2)).bind fun r3=>
 some (.inl (v35,v36,(B0 (v37 + 1)),b0,b1,b2,r3))
def P5 (v35:List o4) (v36:Int) (v37:Int) (b0:o7) (b1:o8) (b2:o7) (l0:List o3):Option ((List o4 × Int × Int × o7 × o8 × o7 × List o3) ⊕ (o7)):=
 sel (decide (v37 < v36)) (
  chk (decide ((0:Int)<=v37/\v37 < (((List.length v35):Nat):Int))) <|
  (L4 l0 (List.getD v35 (Int.toNat v37) A4).1).bind fun r4=>
  sel (decide (0<=r4)) (
   chk (decide ((0:Int)<=r4/\r4 < (((List.length l0):Nat):Int))) <|
   chk (decide ((Int.toNat r4) < (List.length l0))) <|
   L2 v35 v36 v37 b0 b1 b2 (List.getD v35 (Int.toNat v37) A4) (List.getD l0 (Int.toNat r4) o5) l0) (
   L2 v35 v36 v37 b0 b1 b2 (List.getD v35 (Int.toNat v37) A4) ((List.getD v35 (Int.toNat v37) A4).1,(0:Int),(0:Int)) l0)) (
  Option.map .inr (
   X0 b0 b1 b2 l0))
def V3 (v35:List o4) (v36:Int) (v37:Int) (b0:o7) (b1:o8) (b2:o7) (l0:List o3):Option (o7):=
 N0 (fun v=>P5 v.1 v.2.1 v.2.2.1 v.2.2.2.1 v.2.2.2.2.1 v.2.2.2.2.2.1 v.2.2.2.2.2.2) (v35,v36,v37,b0,b1,b2,l0)
def P1 (a0:o7) (a1:o8) (a2:Int):Option (o7):=
 (Q8 a0 a1.1).bind fun r1=>
 (R1 a0.1 (r1.1.1,(A7 (r1.1.2.1 - a2)),(A7 (r1.1.2.2 + 1)))).bind fun r2=>
 V3 a1.2.2.2.2.2 (((List.length a1.2.2.2.2.2):Nat):Int) 0 a0 a1 ([],(0:Int)) r2
def S8 (a0:o7) (a1:Int) (a2:o8) (a3:Int):Option (Int):=
 (Q8 a0 a2.1).bind fun r1=>
 sel (!r1.2) (
  some 13) (
  sel (!decide (r1.1.2.2=a2.2.1)) (
   some 14) (
   sel (decide (a2.2.1=18446744073709551615)) (
    some 6) (
    (V1 a3 (((List.length a2.2.2.2.2.2):Nat):Int)).bind fun r2=>
    sel (decide (a2.2.2.1 < r2)) (
     some 15) (
     (V2 a2.2.2.1 a1).bind fun r3=>
     (P0 a2).bind fun r4=>
     sel (!r3.2) (
      some 6) (
      sel (decide (a2.2.2.2.1 < r3.1)) (
       some 16) (
       sel (!r4.2) (
        some 6) (
        sel (decide (r1.1.2.1 < r4.1)) (
         some 17) (
         (P1 a0 a2 r4.1).bind fun r5=>
         sel (decide (256 < (((List.length r5.1):Nat):Int))) (
          some 3) (
          some 0)))))))))
def R3 (a0:Int) (a1:Int):Option (Int × Int):=
 some ((A7 ((A7 ((A7 ((A7 ((a0 / 2 ^ 32) * (a1 / 2 ^ 32))) + ((A7 ((a0 / 2 ^ 32) * (bits .and .u64 a1 4294967295))) / 2 ^ 32))) + ((A7 ((bits .and .u64 a0 4294967295) * (a1 / 2 ^ 32))) / 2 ^ 32))) + ((A7 ((A7 (((A7 ((bits .and .u64 a0 4294967295) * (bits .and .u64 a1 4294967295))) / 2 ^ 32) + (bits .and .u64 (A7 ((a0 / 2 ^ 32) * (bits .and .u64 a1 4294967295))) 4294967295))) + (bits .and .u64 (A7 ((bits .and .u64 a0 4294967295) * (a1 / 2 ^ 32))) 4294967295))) / 2 ^ 32))),(bits .or .u64 (A7 ((A7 ((A7 (((A7 ((bits .and .u64 a0 4294967295) * (bits .and .u64 a1 4294967295))) / 2 ^ 32) + (bits .and .u64 (A7 ((a0 / 2 ^ 32) * (bits .and .u64 a1 4294967295))) 4294967295))) + (bits .and .u64 (A7 ((bits .and .u64 a0 4294967295) * (a1 / 2 ^ 32))) 4294967295))) * 2 ^ 32)) (bits .and .u64 (A7 ((bits .and .u64 a0 4294967295) * (bits .and .u64 a1 4294967295))) 4294967295)))
def G9 (v2:Int) (v8:Int) (v9:Int) (v10:Int) (v11:Int) (v47:Bool):Option ((Int × Int × Int × Int × Int) ⊕ (Int × Bool)):=
 sel v47 (
  some (.inl (v2,(A7 (v8 - v2)),v9,(bits .or .u64 v10 1),(B0 (v11 - 1))))) (
  some (.inl (v2,v8,v9,v10,(B0 (v11 - 1)))))
def V4 (v2:Int) (v8:Int) (v9:Int) (v10:Int) (v11:Int):Option ((Int × Int × Int × Int × Int) ⊕ (Int × Bool)):=
 sel (decide (0<=v11)) (
  chk (decide ((0:Int)<=v11)) <|
  sel (decide ((v8 / 2 ^ 63)=1)) (
   G9 v2 (bits .or .u64 (A7 (v8 * 2 ^ 1)) (bits .and .u64 (v9 / 2 ^ (min (Int.toNat v11) 64)) 1)) v9 (A7 (v10 * 2 ^ 1)) v11 true) (
   G9 v2 (bits .or .u64 (A7 (v8 * 2 ^ 1)) (bits .and .u64 (v9 / 2 ^ (min (Int.toNat v11) 64)) 1)) v9 (A7 (v10 * 2 ^ 1)) v11 (decide (v2<=(bits .or .u64 (A7 (v8 * 2 ^ 1)) (bits .and .u64 (v9 / 2 ^ (min (Int.toNat v11) 64)) 1)))))) (
  some (.inr (v10,true)))
def a0H (v2:Int) (v8:Int) (v9:Int) (v10:Int) (v11:Int):Option (Int × Bool):=
 N0 (fun v=>V4 v.1 v.2.1 v.2.2.1 v.2.2.2.1 v.2.2.2.2) (v2,v8,v9,v10,v11)
def S9 (a0:Int) (a1:Int) (a2:Int):Option (Int × Bool):=
 (R3 a0 a1).bind fun r1=>
 sel (decide (a2=0)) (
  some (0,false)) (
  sel (decide (a2<=r1.1)) (
   some (0,false)) (
   a0H a2 r1.1 r1.2 0 63))
def J3 (a0:Int) (a1:Int):Option (Int):=
 sel (decide (a1=0)) (
  some 0) (
  (S9 a0 1000 a1).bind fun r1=>
  sel r1.2 (
   some r1.1) (
   some 18446744073709551615))
def Z7 (a0:o7) (a1:Int) (a2:List UInt8):Option (o7 × U0):=
 (H6 a0).bind fun r1=>
 sel (!decide (r1=0)) (
  some (a0,(1,[],(0:Int),(0:Int),(0:Int)))) (
  (J2 a2).bind fun r2=>
  sel (!decide (r2.2=0)) (
   some (a0,(r2.2,[],(0:Int),(0:Int),(0:Int)))) (
   (S8 a0 a1 r2.1 (((List.length a2):Nat):Int)).bind fun r3=>
   (J3 r2.1.2.2.2.1 r2.1.2.2.1).bind fun r4=>
   sel (!decide (r3=0)) (
    some (a0,(r3,r2.1.1,r2.1.2.1,r2.1.2.2.1,r4))) (
    (P0 r2.1).bind fun r5=>
    (P1 a0 r2.1 r5.1).bind fun r6=>
    some (r6,(r3,r2.1.1,r2.1.2.1,r2.1.2.2.1,r4)))))
def I7 (v22:Int) (v23:Int) (b0:o7) (b1:o7):Option ((Int × Int × o7 × o7) ⊕ (Bool)):=
 sel (decide (v23 < v22)) (
  chk (decide ((0:Int)<=v23/\v23 < (((List.length b0.1):Nat):Int))) <|
  chk (decide ((0:Int)<=v23/\v23 < (((List.length b1.1):Nat):Int))) <|
  sel (!(U.beq A1 (List.getD b0.1 (Int.toNat v23) o5) (List.getD b1.1 (Int.toNat v23) o5))) (
   some (.inr false)) (
   some (.inl (v22,(B0 (v23 + 1)),b0,b1)))) (
  some (.inr true))
def W3 (v22:Int) (v23:Int) (b0:o7) (b1:o7):Option (Bool):=
 N0 (fun v=>I7 v.1 v.2.1 v.2.2.1 v.2.2.2) (v22,v23,b0,b1)
def H5 (a0:o7) (a1:o7):Option (Bool):=
 sel (!decide ((((List.length a0.1):Nat):Int)=(((List.length a1.1):Nat):Int))) (
  some false) (
  sel (!decide (a0.2=a1.2)) (
   some false) (
   W3 (((List.length a0.1):Nat):Int) 0 a0 a1))
def N8:Option (Bool):=
 (J0 ([(97:UInt8),(110:UInt8),(110:UInt8)],(0:Int),300,600,[],[([(98:UInt8),(111:UInt8),(98:UInt8)],5)])).bind fun r1=>
 (a2u ([([(97:UInt8),(110:UInt8),(110:UInt8)],1000,(0:Int))],(0:Int)) 2 r1.1).bind fun r2=>
 (a2u r2.1 2 r1.1).bind fun r3=>
 sel (decide (r1.2=0)) (
  sel (decide (r2.2.1=0)) (
   sel (decide (r2.2.2.2.2.2=2000)) (
    sel (decide (r3.2.1=14)) (
     sel (decide (r3.2.2.1=[(97:UInt8),(110:UInt8),(110:UInt8)])) (
      (H5 r2.1 ([([(97:UInt8),(110:UInt8),(110:UInt8)],395,1),([(98:UInt8),(111:UInt8),(98:UInt8)],5,(0:Int))],600)).bind fun r4=>
      some r4) (
      some false)) (
     some false)) (
    some false)) (
   some false)) (
  some false)
def H7 (b0_1:Int) (b1_0:List UInt8) (b1_1:Int) (b1_2:Int) (b1_3:Int) (b1_4:List UInt8) (l0:List o3) (l1:List o4):Option (Bool):=
 (J0 (b1_0,b1_1,b1_2,b1_3,b1_4,l1)).bind fun r1=>
 (a2u (l0,b0_1) 1 r1.1).bind fun r2=>
 (Z7 (l0,b0_1) 1 r1.1).bind fun r3=>
 sel (decide (r1.2=0)) (
  sel (U.beq a1u r2.2 r3.2) (
   (H5 r2.1 r3.1).bind fun r4=>
   sel r4 (
    sel (decide ((((List.length r2.1.1):Nat):Int)<=256)) (
     (N8).bind fun r5=>
     some r5) (
     some false)) (
    some false)) (
   some false)) (
  some false)
def M7 (v8:Int) (b0_1:Int) (b1_0:List UInt8) (b1_1:Int) (b1_2:Int) (b1_3:Int) (b1_4:List UInt8) (l0:List o3) (l1:List o4):Option ((Int × Int × List UInt8 × Int × Int × Int × List UInt8 × List o3 × List o4) ⊕ (Bool)):=
 sel (decide (0<=v8)) (
  chk (decide ((0:Int)<=(Int.tmod v8 4)/\(Int.tmod v8 4) < 4)) <|
  chk (decide ((Int.toNat (Int.tmod v8 4)) < 4)) <|
  chk (decide (((List.length l1) + 1) * 24<=LIM/\(List.length l1) + 1<=LEN)) <|
  some (.inl ((B0 (v8 - 1)),b0_1,b1_0,b1_1,b1_2,b1_3,b1_4,l0,(l1 ++ ([((List.getD [[(120:UInt8)],[(121:UInt8)],[(122:UInt8)],[(120:UInt8)]] (Int.toNat (Int.tmod v8 4)) []),1)]:List o4))))) (
  Option.map .inr (
   H7 b0_1 b1_0 b1_1 b1_2 b1_3 b1_4 l0 l1))
def U1 (v8:Int) (b0_1:Int) (b1_0:List UInt8) (b1_1:Int) (b1_2:Int) (b1_3:Int) (b1_4:List UInt8) (l0:List o3) (l1:List o4):Option (Bool):=
 N0 (fun v=>M7 v.1 v.2.1 v.2.2.1 v.2.2.2.1 v.2.2.2.2.1 v.2.2.2.2.2.1 v.2.2.2.2.2.2.1 v.2.2.2.2.2.2.2.1 v.2.2.2.2.2.2.2.2) (v8,b0_1,b1_0,b1_1,b1_2,b1_3,b1_4,l0,l1)
def H8 (v1:Int) (b0_1:Int) (l0:List o3):Option (Bool):=
 (O7 v1 5).bind fun r6=>
 U1 r6 b0_1 [(97:UInt8)] (0:Int) 500 500 [] l0 []
def M8 (v1:Int) (v6:Int) (b0_1:Int) (l0:List o3):Option ((Int × Int × Int × List o3) ⊕ (Bool)):=
 sel (decide (0 < v6)) (
  chk (decide ((0:Int)<=(wu8 (B0 (97 + (B0 (Int.tdiv (B0 (255 - v6)) 26)))))/\(wu8 (B0 (97 + (B0 (Int.tdiv (B0 (255 - v6)) 26))))) < 256)) <|
  chk (decide ((0:Int)<=(wu8 (B0 (97 + (Int.tmod (B0 (255 - v6)) 26))))/\(wu8 (B0 (97 + (Int.tmod (B0 (255 - v6)) 26)))) < 256)) <|
  chk (decide (((List.length l0) + 1) * 32<=LIM/\(List.length l0) + 1<=LEN)) <|
  some (.inl (v1,(B0 (v6 - 1)),b0_1,(l0 ++ ([([(117:UInt8),(UInt8.ofNat (Int.toNat (wu8 (B0 (97 + (B0 (Int.tdiv (B0 (255 - v6)) 26))))))),(UInt8.ofNat (Int.toNat (wu8 (B0 (97 + (Int.tmod (B0 (255 - v6)) 26))))))],(0:Int),(0:Int))]:List o3))))) (
  Option.map .inr (
   H8 v1 b0_1 l0))
def U2 (v1:Int) (v6:Int) (b0_1:Int) (l0:List o3):Option (Bool):=
 N0 (fun v=>M8 v.1 v.2.1 v.2.2.1 v.2.2.2) (v1,v6,b0_1,l0)
def K3 (a0:Int) (a1:Int):Option (Bool):=
 (O7 a0 3).bind fun r7=>
 U2 a1 (B0 (254 - r7)) (0:Int) [([(97:UInt8)],10000,(0:Int))]
end Go.Proofs.YtbipjlehhlkghaaDoor.Am
