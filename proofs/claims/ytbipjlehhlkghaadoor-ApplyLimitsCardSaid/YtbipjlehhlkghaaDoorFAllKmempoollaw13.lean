/- A fixed example holds: by reckoning. No conditions. -/
import Derived.Test.YtbipjlehhlkghaaDoorFAll
import Derived.KernelRfl
namespace Go.Proofs.YtbipjlehhlkghaaDoor.Am
open Go
set_option maxRecDepth 100000
namespace Kmempoollaw13
def a3L (_m:Nat) (v0:List UInt8):Option (Bool):=
 sel (decide (1<=(((List.length v0):Nat):Int))) (
  some (decide ((((List.length v0):Nat):Int)<=20))) (
  some false)
def a3M (m:Nat) (v0:List UInt8) (v3:Int):Option ((List UInt8 × Int) ⊕ (Bool)):=
 sel (decide (v3 < (((List.length v0):Nat):Int))) (
  chk (decide ((0:Int)<=v3/\v3 < (((List.length v0):Nat):Int))) <|
  sel (decide (97<=((UInt8.toNat (List.getD v0 (Int.toNat v3) (0:UInt8)):Nat):Int))) (
   sel (decide (((UInt8.toNat (List.getD v0 (Int.toNat v3) (0:UInt8)):Nat):Int)<=122)) (
    some (.inl (v0,(B0 (v3 + 1))))) (
    sel (decide (48<=((UInt8.toNat (List.getD v0 (Int.toNat v3) (0:UInt8)):Nat):Int))) (
     sel (decide (((UInt8.toNat (List.getD v0 (Int.toNat v3) (0:UInt8)):Nat):Int)<=57)) (
      some (.inl (v0,(B0 (v3 + 1))))) (
      sel (!(decide (((UInt8.toNat (List.getD v0 (Int.toNat v3) (0:UInt8)):Nat):Int)=45))) (
       some (.inr false)) (
       some (.inl (v0,(B0 (v3 + 1))))))) (
     sel (!(decide (((UInt8.toNat (List.getD v0 (Int.toNat v3) (0:UInt8)):Nat):Int)=45))) (
      some (.inr false)) (
      some (.inl (v0,(B0 (v3 + 1)))))))) (
   sel (decide (48<=((UInt8.toNat (List.getD v0 (Int.toNat v3) (0:UInt8)):Nat):Int))) (
    sel (decide (((UInt8.toNat (List.getD v0 (Int.toNat v3) (0:UInt8)):Nat):Int)<=57)) (
     some (.inl (v0,(B0 (v3 + 1))))) (
     sel (!(decide (((UInt8.toNat (List.getD v0 (Int.toNat v3) (0:UInt8)):Nat):Int)=45))) (
      some (.inr false)) (
      some (.inl (v0,(B0 (v3 + 1))))))) (
    sel (!(decide (((UInt8.toNat (List.getD v0 (Int.toNat v3) (0:UInt8)):Nat):Int)=45))) (
     some (.inr false)) (
     some (.inl (v0,(B0 (v3 + 1)))))))) (
  Option.map .inr (
   (a3L m) v0))
def a3e (m:Nat) (v0:List UInt8) (v3:Int):Option (Bool):=
 a4s m (fun v=>(a3M m) v.1 v.2) (v0,v3)
def a1G (m:Nat) (a0:List UInt8):Option (Bool):=
 (a3e m) a0 0
def I4 (_m:Nat) (a0:List UInt8) (a1:Int):Option (Bool):=
 sel (decide (a1 < (((List.length a0):Nat):Int))) (
  chk (decide ((0:Int)<=a1/\a1 < (((List.length a0):Nat):Int))) <|
  sel (decide (128<=((UInt8.toNat (List.getD a0 (Int.toNat a1) (0:UInt8)):Nat):Int))) (
   chk (decide ((0:Int)<=a1/\a1 < (((List.length a0):Nat):Int))) <|
   some (decide (((UInt8.toNat (List.getD a0 (Int.toNat a1) (0:UInt8)):Nat):Int) < 192))) (
   some false)) (
  some false)
def L3 (_m:Nat) (v0:List UInt8) (v1:Int) (v5:UInt8) (v64:Bool):Option (Int):=
 sel v64 (
  sel (decide (((UInt8.toNat v5:Nat):Int)=240)) (
   chk (decide ((0:Int)<=(B0 (v1 + 1))/\(B0 (v1 + 1)) < (((List.length v0):Nat):Int))) <|
   sel (decide (((UInt8.toNat (List.getD v0 (Int.toNat (B0 (v1 + 1))) (0:UInt8)):Nat):Int) < 144)) (
    some 0) (
    sel (decide (((UInt8.toNat v5:Nat):Int)=244)) (
     chk (decide ((0:Int)<=(B0 (v1 + 1))/\(B0 (v1 + 1)) < (((List.length v0):Nat):Int))) <|
     sel (decide (144<=((UInt8.toNat (List.getD v0 (Int.toNat (B0 (v1 + 1))) (0:UInt8)):Nat):Int))) (
      some 0) (
      some 4)) (
     some 4))) (
   sel (decide (((UInt8.toNat v5:Nat):Int)=244)) (
    chk (decide ((0:Int)<=(B0 (v1 + 1))/\(B0 (v1 + 1)) < (((List.length v0):Nat):Int))) <|
    sel (decide (144<=((UInt8.toNat (List.getD v0 (Int.toNat (B0 (v1 + 1))) (0:UInt8)):Nat):Int))) (
     some 0) (
     some 4)) (
    some 4))) (
  some 0)
def P6 (m:Nat) (v0:List UInt8) (v1:Int) (v5:UInt8) (v25:Bool):Option (Int):=
 sel v25 (
  sel (decide (((UInt8.toNat v5:Nat):Int)=224)) (
   chk (decide ((0:Int)<=(B0 (v1 + 1))/\(B0 (v1 + 1)) < (((List.length v0):Nat):Int))) <|
   sel (decide (((UInt8.toNat (List.getD v0 (Int.toNat (B0 (v1 + 1))) (0:UInt8)):Nat):Int) < 160)) (
    some 0) (
    sel (decide (((UInt8.toNat v5:Nat):Int)=237)) (
     chk (decide ((0:Int)<=(B0 (v1 + 1))/\(B0 (v1 + 1)) < (((List.length v0):Nat):Int))) <|
     sel (decide (160<=((UInt8.toNat (List.getD v0 (Int.toNat (B0 (v1 + 1))) (0:UInt8)):Nat):Int))) (
      some 0) (
      some 3)) (
     some 3))) (
   sel (decide (((UInt8.toNat v5:Nat):Int)=237)) (
    chk (decide ((0:Int)<=(B0 (v1 + 1))/\(B0 (v1 + 1)) < (((List.length v0):Nat):Int))) <|
    sel (decide (160<=((UInt8.toNat (List.getD v0 (Int.toNat (B0 (v1 + 1))) (0:UInt8)):Nat):Int))) (
     some 0) (
     some 3)) (
    some 3))) (
  sel (decide (240<=((UInt8.toNat v5:Nat):Int))) (
   sel (decide (((UInt8.toNat v5:Nat):Int) < 245)) (
    ((I4 m) v0 (B0 (v1 + 1))).bind fun r1=>
    sel r1 (
     ((I4 m) v0 (B0 (v1 + 2))).bind fun r2=>
     sel r2 (
      ((I4 m) v0 (B0 (v1 + 3))).bind fun r3=>
      (L3 m) v0 v1 v5 r3) (
      (L3 m) v0 v1 v5 false)) (
     (L3 m) v0 v1 v5 false)) (
    (L3 m) v0 v1 v5 false)) (
   (L3 m) v0 v1 v5 false))
def X1 (m:Nat) (v0:List UInt8) (v1:Int) (v5:UInt8) (v12:Bool):Option (Int):=
 sel v12 (
  some 2) (
  sel (decide (224<=((UInt8.toNat v5:Nat):Int))) (
   sel (decide (((UInt8.toNat v5:Nat):Int) < 240)) (
    ((I4 m) v0 (B0 (v1 + 1))).bind fun r4=>
    sel r4 (
     ((I4 m) v0 (B0 (v1 + 2))).bind fun r5=>
     (P6 m) v0 v1 v5 r5) (
     (P6 m) v0 v1 v5 false)) (
    (P6 m) v0 v1 v5 false)) (
   (P6 m) v0 v1 v5 false))
def a6i (m:Nat) (a0:List UInt8) (a1:Int):Option (Int):=
 chk (decide ((0:Int)<=a1/\a1 < (((List.length a0):Nat):Int))) <|
 sel (decide (((UInt8.toNat (List.getD a0 (Int.toNat a1) (0:UInt8)):Nat):Int) < 128)) (
  some 1) (
  sel (decide (194<=((UInt8.toNat (List.getD a0 (Int.toNat a1) (0:UInt8)):Nat):Int))) (
   sel (decide (((UInt8.toNat (List.getD a0 (Int.toNat a1) (0:UInt8)):Nat):Int) < 224)) (
    ((I4 m) a0 (B0 (a1 + 1))).bind fun r6=>
    (X1 m) a0 a1 (List.getD a0 (Int.toNat a1) (0:UInt8)) r6) (
    (X1 m) a0 a1 (List.getD a0 (Int.toNat a1) (0:UInt8)) false)) (
   (X1 m) a0 a1 (List.getD a0 (Int.toNat a1) (0:UInt8)) false))
def a38 (m:Nat) (v0:List UInt8) (v4:Int) (v5:Int):Option ((List UInt8 × Int × Int) ⊕ (Int × Bool)):=
 sel (decide (v5 < (((List.length v0):Nat):Int))) (
  ((a6i m) v0 v5).bind fun r1=>
  sel (decide (r1=0)) (
   some (.inr (0,false))) (
   some (.inl (v0,(B0 (v4 + 1)),(B0 (v5 + r1)))))) (
  some (.inr (v4,true)))
def a3N (m:Nat) (v0:List UInt8) (v4:Int) (v5:Int):Option (Int × Bool):=
 a4s m (fun v=>(a38 m) v.1 v.2.1 v.2.2) (v0,v4,v5)
def a5t (m:Nat) (a0:List UInt8):Option (Int × Bool):=
 (a3N m) a0 0 0
def a4W (m:Nat) (a0:List UInt8):Option (Bool):=
 ((a5t m) a0).bind fun r1=>
 sel r1.2 (
  some (decide (r1.1<=64))) (
  some false)
def a2o (m:Nat) (v31:List o4) (v32:Int) (v33:Int):Option ((List o4 × Int × Int) ⊕ (Int)):=
 sel (decide (v33 < v32)) (
  chk (decide ((0:Int)<=v33/\v33 < (((List.length v31):Nat):Int))) <|
  ((a1G m) (List.getD v31 (Int.toNat v33) A4).1).bind fun r3=>
  sel (!r3) (
   some (.inr 10)) (
   sel (decide ((List.getD v31 (Int.toNat v33) A4).2=0)) (
    some (.inr 12)) (
    some (.inl (v31,v32,(B0 (v33 + 1))))))) (
  some (.inr 0))
def a1R (m:Nat) (v31:List o4) (v32:Int) (v33:Int):Option (Int):=
 a4s m (fun v=>(a2o m) v.1 v.2.1 v.2.2) (v31,v32,v33)
def a3f (m:Nat) (a0:o8):Option (Int):=
 ((a1G m) a0.1).bind fun r1=>
 sel (!r1) (
  some 10) (
  sel (decide (a0.2.2.1=0)) (
   some 15) (
   ((a4W m) a0.2.2.2.2.1).bind fun r2=>
   sel (!r2) (
    some 11) (
    sel (decide ((((List.length a0.2.2.2.2.2):Nat):Int)=0)) (
     some 3) (
     sel (decide (16 < (((List.length a0.2.2.2.2.2):Nat):Int))) (
      some 3) (
      (a1R m) a0.2.2.2.2.2 (((List.length a0.2.2.2.2.2):Nat):Int) 0)))))
def a0C (_m:Nat) (a0:List o6) (a1:Int) (a2:List UInt8):Option (List o6):=
 sel (decide (a2=[])) (
  some a0) (
  chk (decide ((List.length a2)<=maxLen)) <|
  chk (decide (((List.length a0) + 1) * 48<=LIM/\(List.length a0) + 1<=LEN)) <|
  some (a0 ++ ([(a1,2,(0:Int),a2)]:List o6)))
def R4 (_m:Nat) (a0:List o6) (a1:Int) (a2:Int):Option (List o6):=
 sel (decide (a2=0)) (
  some a0) (
  chk (decide (((List.length a0) + 1) * 48<=LIM/\(List.length a0) + 1<=LEN)) <|
  some (a0 ++ ([(a1,0,a2,[])]:List o6)))
def a6j (_m:Nat) (a0:o6):Option (Bool):=
 sel (decide (a0.1 < 1)) (
  some false) (
  sel (decide (536870911 < a0.1)) (
   some false) (
   sel (decide (a0.2.1=0)) (
    sel (decide ((((List.length a0.2.2.2):Nat):Int)=0)) (
     some true) (
     sel (decide (a0.2.1=2)) (
      some (decide (a0.2.2.1=0))) (
      some false))) (
    sel (decide (a0.2.1=2)) (
     some (decide (a0.2.2.1=0))) (
     some false))))
def a39 (_m:Nat) (v1:Int) (l0:List UInt8):Option (List UInt8):=
 chk (decide ((0:Int)<=(wu8 v1)/\(wu8 v1) < 256)) <|
 chk (decide (((List.length l0) + 1) * 1<=LIM/\(List.length l0) + 1<=LEN)) <|
 some (l0 ++ [(UInt8.ofNat (Int.toNat (wu8 v1)))])
def a4a (m:Nat) (v1:Int) (l0:List UInt8):Option ((Int × List UInt8) ⊕ (List UInt8)):=
 sel (decide (128<=v1)) (
  chk (decide ((0:Int)<=(bits .or .u8 (wu8 v1) 128)/\(bits .or .u8 (wu8 v1) 128) < 256)) <|
  chk (decide (((List.length l0) + 1) * 1<=LIM/\(List.length l0) + 1<=LEN)) <|
  some (.inl ((v1 / 2 ^ 7),(l0 ++ [(UInt8.ofNat (Int.toNat (bits .or .u8 (wu8 v1) 128)))])))) (
  Option.map .inr (
   (a39 m) v1 l0))
def a3O (m:Nat) (v1:Int) (l0:List UInt8):Option (List UInt8):=
 a4s m (fun v=>(a4a m) v.1 v.2) (v1,l0)
def a0i (m:Nat) (a0:List UInt8) (a1:Int):Option (List UInt8):=
 chk (decide ((0 + (List.length a0)) * 1<=LIM/\0 + (List.length a0)<=LEN)) <|
 (a3O m) a1 a0
def a6k (m:Nat) (a0:List UInt8) (a1:o6):Option (List UInt8 × Int):=
 ((a6j m) a1).bind fun r1=>
 sel (!r1) (
  some ([],1)) (
  ((a0i m) a0 (A7 ((A7 ((A7 a1.1) * 8)) + (A7 a1.2.1)))).bind fun r2=>
  sel (decide (a1.2.1=0)) (
   ((a0i m) r2 a1.2.2.1).bind fun r3=>
   some (r3,0)) (
   ((a0i m) r2 (A7 (((List.length a1.2.2.2):Nat):Int))).bind fun r4=>
   chk (decide (((List.length r4) + (List.length a1.2.2.2)) * 1<=LIM/\(List.length r4) + (List.length a1.2.2.2)<=LEN)) <|
   some ((r4 ++ a1.2.2.2),0)))
def a3P (m:Nat) (v6:List o6) (v7:Int) (v8:Int) (l0:List UInt8):Option ((List o6 × Int × Int × List UInt8) ⊕ (List UInt8)):=
 sel (decide (v8 < v7)) (
  chk (decide ((0:Int)<=v8/\v8 < (((List.length v6):Nat):Int))) <|
  ((a6k m) l0 (List.getD v6 (Int.toNat v8) A5)).bind fun r1=>
  some (.inl (v6,v7,(B0 (v8 + 1)),r1.1))) (
  some (.inr l0))
def a3g (m:Nat) (v6:List o6) (v7:Int) (v8:Int) (l0:List UInt8):Option (List UInt8):=
 a4s m (fun v=>(a3P m) v.1 v.2.1 v.2.2.1 v.2.2.2) (v6,v7,v8,l0)
def a1H (m:Nat) (a0:List o6):Option (List UInt8):=
 (a3g m) a0 (((List.length a0):Nat):Int) 0 []
def a4q (m:Nat) (v26:List o4) (v27:Int) (v28:Int) (l0:List o6):Option ((List o4 × Int × Int × List o6) ⊕ (List UInt8)):=
 sel (decide (v28 < v27)) (
  chk (decide ((0:Int)<=v28/\v28 < (((List.length v26):Nat):Int))) <|
  ((a0C m) [] 1 (List.getD v26 (Int.toNat v28) A4).1).bind fun r6=>
  ((R4 m) r6 2 (List.getD v26 (Int.toNat v28) A4).2).bind fun r7=>
  ((a1H m) r7).bind fun r8=>
  chk (decide (((List.length l0) + 1) * 48<=LIM/\(List.length l0) + 1<=LEN)) <|
  some (.inl (v26,v27,(B0 (v28 + 1)),(l0 ++ ([(6,2,(0:Int),r8)]:List o6))))) (
  Option.map .inr (
   ((a1H m) l0).bind fun r9=>
   some r9))
def a4b (m:Nat) (v26:List o4) (v27:Int) (v28:Int) (l0:List o6):Option (List UInt8):=
 a4s m (fun v=>(a4q m) v.1 v.2.1 v.2.2.1 v.2.2.2) (v26,v27,v28,l0)
def a6l (m:Nat) (a0:o8):Option (List UInt8):=
 ((a0C m) [] 1 a0.1).bind fun r1=>
 ((R4 m) r1 2 a0.2.1).bind fun r2=>
 ((R4 m) r2 3 a0.2.2.1).bind fun r3=>
 ((R4 m) r3 4 a0.2.2.2.1).bind fun r4=>
 ((a0C m) r4 5 a0.2.2.2.2.1).bind fun r5=>
 (a4b m) a0.2.2.2.2.2 (((List.length a0.2.2.2.2.2):Nat):Int) 0 r5
def a4c (m:Nat) (a0:o8):Option (List UInt8 × Int):=
 ((a3f m) a0).bind fun r1=>
 sel (!decide (r1=0)) (
  some ([],r1)) (
  ((a6l m) a0).bind fun r2=>
  sel (decide (4096 < (((List.length r2):Nat):Int))) (
   some ([],3)) (
   some (r2,0)))
def Z9 (_m:Nat) (a0:List o3):Option (List o3):=b2Z (u:=A1) 32 a0
def b3p (m:Nat) (a0:o7):Option (List o3 × Int):=
 ((Z9 m) a0.1).bind fun r1=>
 some (r1,a0.2)
def a97 (_m:Nat) (v0:List UInt8):Option (Bool):=
 sel (decide (1<=(((List.length v0):Nat):Int))) (
  some (decide ((((List.length v0):Nat):Int)<=20))) (
  some false)
def a98 (m:Nat) (v0:List UInt8) (v6:Int) (v7:Int):Option ((List UInt8 × Int × Int) ⊕ (Bool)):=
 sel (decide (v7 < v6)) (
  chk (decide ((0:Int)<=v7/\v7 < (((List.length v0):Nat):Int))) <|
  sel (decide (((UInt8.toNat (List.getD v0 (Int.toNat v7) (0:UInt8)):Nat):Int) < 97)) (
   sel (decide (((UInt8.toNat (List.getD v0 (Int.toNat v7) (0:UInt8)):Nat):Int) < 48)) (
    sel (!decide (((UInt8.toNat (List.getD v0 (Int.toNat v7) (0:UInt8)):Nat):Int)=45)) (
     some (.inr false)) (
     some (.inl (v0,v6,(B0 (v7 + 1)))))) (
    sel (decide (57 < ((UInt8.toNat (List.getD v0 (Int.toNat v7) (0:UInt8)):Nat):Int))) (
     sel (!decide (((UInt8.toNat (List.getD v0 (Int.toNat v7) (0:UInt8)):Nat):Int)=45)) (
      some (.inr false)) (
      some (.inl (v0,v6,(B0 (v7 + 1)))))) (
     some (.inl (v0,v6,(B0 (v7 + 1))))))) (
   sel (decide (122 < ((UInt8.toNat (List.getD v0 (Int.toNat v7) (0:UInt8)):Nat):Int))) (
    sel (decide (((UInt8.toNat (List.getD v0 (Int.toNat v7) (0:UInt8)):Nat):Int) < 48)) (
     sel (!decide (((UInt8.toNat (List.getD v0 (Int.toNat v7) (0:UInt8)):Nat):Int)=45)) (
      some (.inr false)) (
      some (.inl (v0,v6,(B0 (v7 + 1)))))) (
     sel (decide (57 < ((UInt8.toNat (List.getD v0 (Int.toNat v7) (0:UInt8)):Nat):Int))) (
      sel (!decide (((UInt8.toNat (List.getD v0 (Int.toNat v7) (0:UInt8)):Nat):Int)=45)) (
       some (.inr false)) (
       some (.inl (v0,v6,(B0 (v7 + 1)))))) (
      some (.inl (v0,v6,(B0 (v7 + 1))))))) (
    some (.inl (v0,v6,(B0 (v7 + 1))))))) (
  Option.map .inr (
   (a97 m) v0))
def a9D (m:Nat) (v0:List UInt8) (v6:Int) (v7:Int):Option (Bool):=
 a4s m (fun v=>(a98 m) v.1 v.2.1 v.2.2) (v0,v6,v7)
def a6m (m:Nat) (a0:List UInt8):Option (Bool):=
 (a9D m) a0 (((List.length a0):Nat):Int) 0
def a99 (_m:Nat) (v4:Int) (v9:List Int) (v10:Int) (v11:Int):Option ((Int × List Int × Int × Int) ⊕ (Int × Bool)):=
 sel (decide (v11 < v10)) (
  chk (decide ((0:Int)<=v11/\v11 < (((List.length v9):Nat):Int))) <|
  (a0x v4 (List.getD v9 (Int.toNat v11) (0:Int))).bind fun r1=>
  sel (!r1.2) (
   some (.inr (0,false))) (
   some (.inl (r1.1,v9,v10,(B0 (v11 + 1)))))) (
  some (.inr (v4,true)))
def a9E (m:Nat) (v4:Int) (v9:List Int) (v10:Int) (v11:Int):Option (Int × Bool):=
 a4s m (fun v=>(a99 m) v.1 v.2.1 v.2.2.1 v.2.2.2) (v4,v9,v10,v11)
def a9F (m:Nat) (a0:List Int):Option (Int × Bool):=
 (a9E m) 0 a0 (((List.length a0):Nat):Int) 0
def a7x (m:Nat) (l0:List Int):Option (Int × Bool):=
 ((a9F m) l0).bind fun r1=>
 some (r1.1,r1.2)
def a7y (m:Nat) (v11:List o3) (v12:Int) (v13:Int) (l0:List Int):Option ((List o3 × Int × Int × List Int) ⊕ (Int × Bool)):=
 sel (decide (v13 < v12)) (
  chk (decide ((0:Int)<=v13/\v13 < (((List.length v11):Nat):Int))) <|
  chk (decide (((List.length l0) + 1) * 8<=LIM/\(List.length l0) + 1<=LEN)) <|
  some (.inl (v11,v12,(B0 (v13 + 1)),(l0 ++ [(List.getD v11 (Int.toNat v13) o5).2.1])))) (
  Option.map .inr (
   (a7x m) l0))
def a7a (m:Nat) (v11:List o3) (v12:Int) (v13:Int) (l0:List Int):Option (Int × Bool):=
 a4s m (fun v=>(a7y m) v.1 v.2.1 v.2.2.1 v.2.2.2) (v11,v12,v13,l0)
def b0a (m:Nat) (a0:o7):Option (Int × Bool):=
 (a7a m) a0.1 (((List.length a0.1):Nat):Int) 0 [a0.2]
def a5u (m:Nat) (b0:o7):Option (Int):=
 ((b0a m) b0).bind fun r1=>
 sel (!r1.2) (
  some 6) (
  some 0)
def a14 (_m:Nat) (v3:Int) (v12:List o3) (v13:Int) (v14:Int) (v24:Bool) (b0:o7) (b1:o3):Option ((List o3 × Int × Int × o7) ⊕ (Int)):=
 sel v24 (
  some (.inr 8)) (
  sel (decide (0 < v3)) (
   chk (decide ((0:Int)<=(B0 (v3 - 1))/\(B0 (v3 - 1)) < (((List.length b0.1):Nat):Int))) <|
   sel (!(Op.bytesLess (List.getD b0.1 (Int.toNat (B0 (v3 - 1))) o5).1 b1.1 || decide ((List.getD b0.1 (Int.toNat (B0 (v3 - 1))) o5).1=b1.1))) (
    some (.inr 1)) (
    some (.inl (v12,v13,(B0 (v14 + 1)),b0)))) (
   some (.inl (v12,v13,(B0 (v14 + 1)),b0))))
def a5v (m:Nat) (v12:List o3) (v13:Int) (v14:Int) (b0:o7):Option ((List o3 × Int × Int × o7) ⊕ (Int)):=
 sel (decide (v14 < v13)) (
  chk (decide ((0:Int)<=v14/\v14 < (((List.length v12):Nat):Int))) <|
  ((a6m m) (List.getD v12 (Int.toNat v14) o5).1).bind fun r2=>
  sel (!r2) (
   some (.inr 10)) (
   sel (decide (0 < v14)) (
    chk (decide ((0:Int)<=(B0 (v14 - 1))/\(B0 (v14 - 1)) < (((List.length b0.1):Nat):Int))) <|
    (a14 m) v14 v12 v13 v14 (decide ((List.getD b0.1 (Int.toNat (B0 (v14 - 1))) o5).1=(List.getD v12 (Int.toNat v14) o5).1)) b0 (List.getD v12 (Int.toNat v14) o5)) (
    (a14 m) v14 v12 v13 v14 false b0 (List.getD v12 (Int.toNat v14) o5)))) (
  Option.map .inr (
   (a5u m) b0))
def a4X (m:Nat) (v12:List o3) (v13:Int) (v14:Int) (b0:o7):Option (Int):=
 a4s m (fun v=>(a5v m) v.1 v.2.1 v.2.2.1 v.2.2.2) (v12,v13,v14,b0)
def a7z (m:Nat) (a0:o7):Option (Int):=
 sel (decide (256 < (((List.length a0.1):Nat):Int))) (
  some 3) (
  (a4X m) a0.1 (((List.length a0.1):Nat):Int) 0 a0)
def a4j (_m:Nat) (v0:List UInt8) (v2:Int) (v5:Int):Option ((List UInt8 × Int × Int) ⊕ (Int × Int × Int)):=
 chk (decide ((0:Int)<=v5/\v5 < (((List.length v0):Nat):Int))) <|
 chk (decide ((0:Int)<=(B0 (7 * v5)))) <|
 chk (decide ((0:Int)<=v5/\v5 < (((List.length v0):Nat):Int))) <|
 sel (decide (((UInt8.toNat (List.getD v0 (Int.toNat v5) (0:UInt8)):Nat):Int) < 128)) (
  some (.inr ((bits .or .u64 v2 (A7 ((A7 (bits .and .u8 ((UInt8.toNat (List.getD v0 (Int.toNat v5) (0:UInt8)):Nat):Int) 127)) * 2 ^ (min (Int.toNat (B0 (7 * v5))) 64)))),(B0 (v5 + 1)),0))) (
  some (.inl (v0,(bits .or .u64 v2 (A7 ((A7 (bits .and .u8 ((UInt8.toNat (List.getD v0 (Int.toNat v5) (0:UInt8)):Nat):Int) 127)) * 2 ^ (min (Int.toNat (B0 (7 * v5))) 64)))),(B0 (v5 + 1)))))
def a4k (m:Nat) (v0:List UInt8) (v2:Int) (v5:Int) (v13:Bool):Option ((List UInt8 × Int × Int) ⊕ (Int × Int × Int)):=
 sel v13 (
  some (.inr (0,0,6))) (
  sel (decide (0 < v5)) (
   chk (decide ((0:Int)<=v5/\v5 < (((List.length v0):Nat):Int))) <|
   sel (decide (((UInt8.toNat (List.getD v0 (Int.toNat v5) (0:UInt8)):Nat):Int)=0)) (
    some (.inr (0,0,4))) (
    (a4j m) v0 v2 v5)) (
   (a4j m) v0 v2 v5))
def a8g (m:Nat) (v0:List UInt8) (v2:Int) (v5:Int):Option ((List UInt8 × Int × Int) ⊕ (Int × Int × Int)):=
 sel (decide ((((List.length v0):Nat):Int)<=v5)) (
  some (.inr (0,0,5))) (
  sel (decide (v5=9)) (
   chk (decide ((0:Int)<=v5/\v5 < (((List.length v0):Nat):Int))) <|
   (a4k m) v0 v2 v5 (decide (1 < ((UInt8.toNat (List.getD v0 (Int.toNat v5) (0:UInt8)):Nat):Int)))) (
   (a4k m) v0 v2 v5 false))
def a7A (m:Nat) (v0:List UInt8) (v2:Int) (v5:Int):Option (Int × Int × Int):=
 a4s m (fun v=>(a8g m) v.1 v.2.1 v.2.2) (v0,v2,v5)
def a7b (m:Nat) (a0:List UInt8):Option (Int × Int × Int):=
 (a7A m) a0 0 0
def a5P (m:Nat) (v0:List UInt8) (v3:Int) (v6:Int) (v7:Int) (_b0:o6):Option (o6 × Int × Int):=
 chk (decide ((0:Int)<=v3/\v3<=(((List.length v0):Nat):Int)/\(((List.length v0):Nat):Int)<=(((List.length v0):Nat):Int))) <|
 ((a7b m) (List.drop (Int.toNat v3) (List.take (Int.toNat (((List.length v0):Nat):Int)) v0))).bind fun r2=>
 sel (!decide (r2.2.2=0)) (
  some (((0:Int),(0:Int),(0:Int),[]),0,r2.2.2)) (
  sel (decide (v6=0)) (
   some (((B0 v7),v6,r2.1,[]),(B0 (v3 + r2.2.1)),0)) (
   chk (decide ((0:Int)<=(B0 (v3 + r2.2.1))/\(B0 (v3 + r2.2.1))<=(((List.length v0):Nat):Int)/\(((List.length v0):Nat):Int)<=(((List.length v0):Nat):Int))) <|
   sel (decide ((A7 (((List.length (List.drop (Int.toNat (B0 (v3 + r2.2.1))) (List.take (Int.toNat (((List.length v0):Nat):Int)) v0))):Nat):Int)) < r2.1)) (
    some (((0:Int),(0:Int),(0:Int),[]),0,5)) (
    chk (decide ((0:Int)<=0/\0<=r2.1/\r2.1<=(((List.length (List.drop (Int.toNat (B0 (v3 + r2.2.1))) (List.take (Int.toNat (((List.length v0):Nat):Int)) v0))):Nat):Int))) <|
    chk (decide ((List.length (List.take (Int.toNat r2.1) (List.drop (Int.toNat (B0 (v3 + r2.2.1))) (List.take (Int.toNat (((List.length v0):Nat):Int)) v0)))) * 1<=LIM/\(List.length (List.take (Int.toNat r2.1) (List.drop (Int.toNat (B0 (v3 + r2.2.1))) (List.take (Int.toNat (((List.length v0):Nat):Int)) v0))))<=LEN)) <|
    some (((B0 v7),v6,(0:Int),(List.take (Int.toNat r2.1) (List.drop (Int.toNat (B0 (v3 + r2.2.1))) (List.take (Int.toNat (((List.length v0):Nat):Int)) v0)))),(B0 ((B0 (v3 + r2.2.1)) + (B0 r2.1))),0))))
def b4N (m:Nat) (a0:List UInt8):Option (o6 × Int × Int):=
 ((a7b m) a0).bind fun r1=>
 sel (!decide (r1.2.2=0)) (
  some (((0:Int),(0:Int),(0:Int),[]),0,r1.2.2)) (
  sel (decide ((r1.1 / 2 ^ 3) < 1)) (
   some (((0:Int),(0:Int),(0:Int),[]),0,4)) (
   sel (decide (536870911 < (r1.1 / 2 ^ 3))) (
    some (((0:Int),(0:Int),(0:Int),[]),0,4)) (
    sel (!decide ((B0 (bits .and .u64 r1.1 7))=0)) (
     sel (!decide ((B0 (bits .and .u64 r1.1 7))=2)) (
      some (((0:Int),(0:Int),(0:Int),[]),0,4)) (
      (a5P m) a0 r1.2.1 (B0 (bits .and .u64 r1.1 7)) (r1.1 / 2 ^ 3) ((0:Int),(0:Int),(0:Int),[]))) (
     (a5P m) a0 r1.2.1 (B0 (bits .and .u64 r1.1 7)) (r1.1 / 2 ^ 3) ((0:Int),(0:Int),(0:Int),[])))))
def a8h (_m:Nat) (l0:List o6):Option (List o6 × Int × Int):=
 some (l0,0,0)
def a8i (m:Nat) (v0:List UInt8) (v3:Int) (l0:List o6):Option ((List UInt8 × Int × List o6) ⊕ (List o6 × Int × Int)):=
 sel (decide (v3 < (((List.length v0):Nat):Int))) (
  sel (decide ((((List.length l0):Nat):Int)=1024)) (
   some (.inr ([],v3,3))) (
   chk (decide ((0:Int)<=v3/\v3<=(((List.length v0):Nat):Int)/\(((List.length v0):Nat):Int)<=(((List.length v0):Nat):Int))) <|
   ((b4N m) (List.drop (Int.toNat v3) (List.take (Int.toNat (((List.length v0):Nat):Int)) v0))).bind fun r1=>
   sel (!decide (r1.2.2=0)) (
    some (.inr ([],v3,r1.2.2))) (
    chk (decide (((List.length l0) + 1) * 48<=LIM/\(List.length l0) + 1<=LEN)) <|
    some (.inl (v0,(B0 (v3 + r1.2.1)),(l0 ++ ([r1.1]:List o6))))))) (
  Option.map .inr (
   (a8h m) l0))
def a7B (m:Nat) (v0:List UInt8) (v3:Int) (l0:List o6):Option (List o6 × Int × Int):=
 a4s m (fun v=>(a8i m) v.1 v.2.1 v.2.2) (v0,v3,l0)
def a7c (m:Nat) (a0:List UInt8):Option (List o6 × Int × Int):=
 (a7B m) a0 0 []
def a8j (_m:Nat) (v16:Int) (v17:Int) (b0:o4) (b1:o4) (l0:List o6):Option ((Int × Int × o4 × o4 × List o6) ⊕ (o4)):=
 sel (decide (v17 < v16)) (
  chk (decide ((0:Int)<=v17/\v17 < (((List.length l0):Nat):Int))) <|
  chk (decide ((Int.toNat v17) < (List.length l0))) <|
  sel (decide ((List.getD l0 (Int.toNat v17) A5).1=1)) (
   some (.inl (v16,(B0 (v17 + 1)),b0,((List.getD l0 (Int.toNat v17) A5).2.2.2,b1.2),l0))) (
   sel (decide ((List.getD l0 (Int.toNat v17) A5).1=2)) (
    some (.inl (v16,(B0 (v17 + 1)),b0,(b1.1,(List.getD l0 (Int.toNat v17) A5).2.2.1),l0))) (
    some (.inl (v16,(B0 (v17 + 1)),b0,b1,l0))))) (
  some (.inr b1))
def a7C (m:Nat) (v16:Int) (v17:Int) (b0:o4) (b1:o4) (l0:List o6):Option (o4):=
 a4s m (fun v=>(a8j m) v.1 v.2.1 v.2.2.1 v.2.2.2.1 v.2.2.2.2) (v16,v17,b0,b1,l0)
def b17 (m:Nat) (a0:List UInt8):Option (o4):=
 ((a7c m) a0).bind fun r1=>
 (a7C m) (((List.length r1.1):Nat):Int) 0 ([],(0:Int)) ([],(0:Int)) r1.1
def b3q (m:Nat) (v6:List o6) (v7:Int) (v8:Int) (b0_0:List UInt8) (b0_1:Int) (b0_2:Int) (b0_3:Int) (b0_4:List UInt8) (b1_0:List UInt8) (b1_1:Int) (b1_2:Int) (b1_3:Int) (b1_4:List UInt8) (l0:List o4):Option ((List o6 × Int × Int × List UInt8 × Int × Int × Int × List UInt8 × List UInt8 × Int × Int × Int × List UInt8 × List o4) ⊕ (o8)):=
 sel (decide (v8 < v7)) (
  chk (decide ((0:Int)<=v8/\v8 < (((List.length v6):Nat):Int))) <|
  sel (decide ((List.getD v6 (Int.toNat v8) A5).1=1)) (
   some (.inl (v6,v7,(B0 (v8 + 1)),b0_0,b0_1,b0_2,b0_3,b0_4,(List.getD v6 (Int.toNat v8) A5).2.2.2,b1_1,b1_2,b1_3,b1_4,l0))) (
   sel (decide ((List.getD v6 (Int.toNat v8) A5).1=2)) (
    some (.inl (v6,v7,(B0 (v8 + 1)),b0_0,b0_1,b0_2,b0_3,b0_4,b1_0,(List.getD v6 (Int.toNat v8) A5).2.2.1,b1_2,b1_3,b1_4,l0))) (
    sel (decide ((List.getD v6 (Int.toNat v8) A5).1=3)) (
     some (.inl (v6,v7,(B0 (v8 + 1)),b0_0,b0_1,b0_2,b0_3,b0_4,b1_0,b1_1,(List.getD v6 (Int.toNat v8) A5).2.2.1,b1_3,b1_4,l0))) (
     sel (decide ((List.getD v6 (Int.toNat v8) A5).1=4)) (
      some (.inl (v6,v7,(B0 (v8 + 1)),b0_0,b0_1,b0_2,b0_3,b0_4,b1_0,b1_1,b1_2,(List.getD v6 (Int.toNat v8) A5).2.2.1,b1_4,l0))) (
      sel (decide ((List.getD v6 (Int.toNat v8) A5).1=5)) (
       some (.inl (v6,v7,(B0 (v8 + 1)),b0_0,b0_1,b0_2,b0_3,b0_4,b1_0,b1_1,b1_2,b1_3,(List.getD v6 (Int.toNat v8) A5).2.2.2,l0))) (
       sel (decide ((List.getD v6 (Int.toNat v8) A5).1=6)) (
        ((b17 m) (List.getD v6 (Int.toNat v8) A5).2.2.2).bind fun r1=>
        chk (decide (((List.length l0) + 1) * 24<=LIM/\(List.length l0) + 1<=LEN)) <|
        some (.inl (v6,v7,(B0 (v8 + 1)),b0_0,b0_1,b0_2,b0_3,b0_4,b1_0,b1_1,b1_2,b1_3,b1_4,(l0 ++ ([r1]:List o4))))) (
        some (.inl (v6,v7,(B0 (v8 + 1)),b0_0,b0_1,b0_2,b0_3,b0_4,b1_0,b1_1,b1_2,b1_3,b1_4,l0))))))))) (
  some (.inr (b1_0,b1_1,b1_2,b1_3,b1_4,l0)))
def b18 (m:Nat) (v6:List o6) (v7:Int) (v8:Int) (b0_0:List UInt8) (b0_1:Int) (b0_2:Int) (b0_3:Int) (b0_4:List UInt8) (b1_0:List UInt8) (b1_1:Int) (b1_2:Int) (b1_3:Int) (b1_4:List UInt8) (l0:List o4):Option (o8):=
 a4s m (fun v=>(b3q m) v.1 v.2.1 v.2.2.1 v.2.2.2.1 v.2.2.2.2.1 v.2.2.2.2.2.1 v.2.2.2.2.2.2.1 v.2.2.2.2.2.2.2.1 v.2.2.2.2.2.2.2.2.1 v.2.2.2.2.2.2.2.2.2.1 v.2.2.2.2.2.2.2.2.2.2.1 v.2.2.2.2.2.2.2.2.2.2.2.1 v.2.2.2.2.2.2.2.2.2.2.2.2.1 v.2.2.2.2.2.2.2.2.2.2.2.2.2) (v6,v7,v8,b0_0,b0_1,b0_2,b0_3,b0_4,b1_0,b1_1,b1_2,b1_3,b1_4,l0)
def b90 (m:Nat) (a0:List o6):Option (o8):=
 (b18 m) a0 (((List.length a0):Nat):Int) 0 [] (0:Int) (0:Int) (0:Int) [] [] (0:Int) (0:Int) (0:Int) [] []
def b3r (_m:Nat) (a0:o6):Option (Bool):=
 sel (decide (a0.1 < 1)) (
  some false) (
  sel (decide (536870911 < a0.1)) (
   some false) (
   sel (decide (a0.2.1=0)) (
    sel (decide ((((List.length a0.2.2.2):Nat):Int)=0)) (
     some true) (
     sel (decide (a0.2.1=2)) (
      some (decide (a0.2.2.1=0))) (
      some false))) (
    sel (decide (a0.2.1=2)) (
     some (decide (a0.2.2.1=0))) (
     some false))))
def b7o (_m:Nat) (a0:o6):Option (Int):=
 some (A7 (B0 ((B0 (8 * a0.1)) + a0.2.1)))
def a7d (_m:Nat) (v1:Int) (l0:List UInt8):Option (List UInt8):=
 chk (decide ((0:Int)<=(wu8 v1)/\(wu8 v1) < 256)) <|
 chk (decide (((List.length l0) + 1) * 1<=LIM/\(List.length l0) + 1<=LEN)) <|
 some (l0 ++ [(UInt8.ofNat (Int.toNat (wu8 v1)))])
def a7e (m:Nat) (v1:Int) (l0:List UInt8):Option ((Int × List UInt8) ⊕ (List UInt8)):=
 sel (decide (128<=v1)) (
  chk (decide ((0:Int)<=(bits .or .u8 (wu8 v1) 128)/\(bits .or .u8 (wu8 v1) 128) < 256)) <|
  chk (decide (((List.length l0) + 1) * 1<=LIM/\(List.length l0) + 1<=LEN)) <|
  some (.inl ((v1 / 2 ^ 7),(l0 ++ [(UInt8.ofNat (Int.toNat (bits .or .u8 (wu8 v1) 128)))])))) (
  Option.map .inr (
   (a7d m) v1 l0))
def a6n (m:Nat) (v1:Int) (l0:List UInt8):Option (List UInt8):=
 a4s m (fun v=>(a7e m) v.1 v.2) (v1,l0)
def a2M (m:Nat) (a0:List UInt8) (a1:Int):Option (List UInt8):=
 chk (decide ((List.length a0) * 1<=LIM/\(List.length a0)<=LEN)) <|
 (a6n m) a1 a0
def a4d (m:Nat) (a0:List UInt8) (a1:o6):Option (List UInt8 × Int):=
 ((b3r m) a1).bind fun r1=>
 sel (!r1) (
  some ([],1)) (
  ((b7o m) a1).bind fun r2=>
  ((a2M m) a0 r2).bind fun r3=>
  sel (decide (a1.2.1=0)) (
   ((a2M m) r3 a1.2.2.1).bind fun r4=>
   some (r4,0)) (
   ((a2M m) r3 (A7 (((List.length a1.2.2.2):Nat):Int))).bind fun r5=>
   chk (decide (((List.length r5) + (List.length a1.2.2.2)) * 1<=LIM/\(List.length r5) + (List.length a1.2.2.2)<=LEN)) <|
   some ((r5 ++ a1.2.2.2),0)))
def V8 (m:Nat) (a0:List UInt8) (a1:Int) (a2:List UInt8):Option (List UInt8):=
 sel (decide (a2=[])) (
  some a0) (
  chk (decide ((List.length a2)<=maxLen)) <|
  ((a4d m) [] (a1,2,(0:Int),a2)).bind fun r1=>
  chk (decide (((List.length a0) + (List.length r1.1)) * 1<=LIM/\(List.length a0) + (List.length r1.1)<=LEN)) <|
  some (a0 ++ r1.1))
def O4 (m:Nat) (a0:List UInt8) (a1:Int) (a2:Int):Option (List UInt8):=
 sel (decide (a2=0)) (
  some a0) (
  ((a4d m) [] (a1,0,a2,[])).bind fun r1=>
  chk (decide (((List.length a0) + (List.length r1.1)) * 1<=LIM/\(List.length a0) + (List.length r1.1)<=LEN)) <|
  some (a0 ++ r1.1))
def a3Q (m:Nat) (a0:List UInt8) (a1:Int) (a2:List UInt8):Option (List UInt8):=
 ((a4d m) [] (a1,2,(0:Int),a2)).bind fun r1=>
 chk (decide (((List.length a0) + (List.length r1.1)) * 1<=LIM/\(List.length a0) + (List.length r1.1)<=LEN)) <|
 some (a0 ++ r1.1)
def a9G (m:Nat) (v28:List o4) (v29:Int) (v30:Int) (l0:List UInt8):Option ((List o4 × Int × Int × List UInt8) ⊕ (List UInt8)):=
 sel (decide (v30 < v29)) (
  chk (decide ((0:Int)<=v30/\v30 < (((List.length v28):Nat):Int))) <|
  ((V8 m) [] 1 (List.getD v28 (Int.toNat v30) A4).1).bind fun r6=>
  ((O4 m) r6 2 (List.getD v28 (Int.toNat v30) A4).2).bind fun r7=>
  ((a3Q m) l0 6 r7).bind fun r8=>
  some (.inl (v28,v29,(B0 (v30 + 1)),r8))) (
  some (.inr l0))
def a8k (m:Nat) (v28:List o4) (v29:Int) (v30:Int) (l0:List UInt8):Option (List UInt8):=
 a4s m (fun v=>(a9G m) v.1 v.2.1 v.2.2.1 v.2.2.2) (v28,v29,v30,l0)
def b3s (m:Nat) (a0:o8):Option (List UInt8):=
 ((V8 m) [] 1 a0.1).bind fun r1=>
 ((O4 m) r1 2 a0.2.1).bind fun r2=>
 ((O4 m) r2 3 a0.2.2.1).bind fun r3=>
 ((O4 m) r3 4 a0.2.2.2.1).bind fun r4=>
 ((V8 m) r4 5 a0.2.2.2.2.1).bind fun r5=>
 (a8k m) a0.2.2.2.2.2 (((List.length a0.2.2.2.2.2):Nat):Int) 0 r5
def b19 (_m:Nat) (a0:List UInt8) (a1:List UInt8):Option (Bool):=
 some (decide (a0=a1))
def b0b (_m:Nat) (v0:List UInt8) (v3:Int) (l0:List (List UInt8 × Int)):Option ((List UInt8 × Int × List (List UInt8 × Int)) ⊕ (Bool)):=
 chk (Nat.beq (List.length l0) 1) <|
 sel (decide (Int.toNat (H9 l0).2 < List.length (H9 l0).1)) (
  chk ((decide (Int.toNat (H9 l0).2 < List.length (H9 l0).1))) <|
  chk ((decide (Int.toNat (H9 l0).2 < List.length (H9 l0).1))) <|
  chk (decide ((0:Int)<=(H9 l0).2/\(H9 l0).2<=(((List.length v0):Nat):Int)/\(((List.length v0):Nat):Int)<=(((List.length v0):Nat):Int))) <|
  (D0 (List.drop (Int.toNat (H9 l0).2) (List.take (Int.toNat (((List.length v0):Nat):Int)) v0))).bind fun r1=>
  sel (decide ((b6Q (H9 l0).1 (H9 l0).2)=65533)) (
   sel (decide (r1.2=1)) (
    some (.inr false)) (
    some (.inl (v0,(B0 (v3 + 1)),[((H9 l0).1,(b1t (H9 l0).1 (H9 l0).2))])))) (
   some (.inl (v0,(B0 (v3 + 1)),[((H9 l0).1,(b1t (H9 l0).1 (H9 l0).2))])))) (
  some (.inr (decide (v3<=64))))
def a9H (m:Nat) (v0:List UInt8) (v3:Int) (l0:List (List UInt8 × Int)):Option (Bool):=
 a4s m (fun v=>(b0b m) v.1 v.2.1 v.2.2) (v0,v3,l0)
def b4O (m:Nat) (a0:List UInt8):Option (Bool):=
 (a9H m) a0 0 [(a0,(0:Int))]
def a8l (m:Nat) (v31:List o4) (v32:Int) (v33:Int):Option ((List o4 × Int × Int) ⊕ (Int)):=
 sel (decide (v33 < v32)) (
  chk (decide ((0:Int)<=v33/\v33 < (((List.length v31):Nat):Int))) <|
  ((a6m m) (List.getD v31 (Int.toNat v33) A4).1).bind fun r3=>
  sel (!r3) (
   some (.inr 10)) (
   sel (decide ((List.getD v31 (Int.toNat v33) A4).2=0)) (
    some (.inr 12)) (
    some (.inl (v31,v32,(B0 (v33 + 1))))))) (
  some (.inr 0))
def a7D (m:Nat) (v31:List o4) (v32:Int) (v33:Int):Option (Int):=
 a4s m (fun v=>(a8l m) v.1 v.2.1 v.2.2) (v31,v32,v33)
def b2a (m:Nat) (a0:o8):Option (Int):=
 ((a6m m) a0.1).bind fun r1=>
 sel (!r1) (
  some 10) (
  sel (decide (a0.2.2.1=0)) (
   some 15) (
   ((b4O m) a0.2.2.2.2.1).bind fun r2=>
   sel (!r2) (
    some 11) (
    sel (decide ((((List.length a0.2.2.2.2.2):Nat):Int)=0)) (
     some 3) (
     sel (decide (16 < (((List.length a0.2.2.2.2.2):Nat):Int))) (
      some 3) (
      (a7D m) a0.2.2.2.2.2 (((List.length a0.2.2.2.2.2):Nat):Int) 0)))))
def b4P (m:Nat) (a0:List UInt8):Option (o8 × Int):=
 sel (decide (4096 < (((List.length a0):Nat):Int))) (
  some (([],(0:Int),(0:Int),(0:Int),[],[]),3)) (
  ((a7c m) a0).bind fun r1=>
  ((b90 m) r1.1).bind fun r2=>
  sel (!decide (r1.2.2=0)) (
   some (([],(0:Int),(0:Int),(0:Int),[],[]),4)) (
   ((b3s m) r2).bind fun r3=>
   ((b19 m) r3 a0).bind fun r4=>
   sel (!r4) (
    some (([],(0:Int),(0:Int),(0:Int),[],[]),4)) (
    ((b2a m) r2).bind fun r5=>
    sel (!decide (r5=0)) (
     some (([],(0:Int),(0:Int),(0:Int),[],[]),r5)) (
     some (r2,0)))))
def a26 (_m:Nat) (a0:List UInt8):Option (Bool):=
 some (!decide (a0=a0))
def a5w (m:Nat) (a0:List UInt8) (a1:List UInt8):Option (Int):=
 ((a26 m) a0).bind fun r1=>
 ((a26 m) a1).bind fun r2=>
 sel r1 (
  sel r2 (
   some 0) (
   some (-1))) (
  sel r2 (
   some 1) (
   sel (Op.bytesLess a0 a1) (
    some (-1)) (
    sel (!(Op.bytesLess a0 a1 || decide (a0=a1))) (
     some 1) (
     some 0))))
def a4Y (m:Nat) (a0:o3) (a1:List UInt8):Option (Int):=
 ((a5w m) a0.1 a1).bind fun r1=>
 some r1
def E8 (m:Nat) (v0:List o3) (v1:List UInt8) (v8:Int) (v9:Int):Option (Int × Bool):=
 sel (decide (v9 < v8)) (
  chk (decide ((0:Int)<=v9/\v9 < (((List.length v0):Nat):Int))) <|
  ((a4Y m) (List.getD v0 (Int.toNat v9) o5) v1).bind fun r1=>
  some (v9,(decide (r1=0)))) (
  some (v9,false))
def E9 (m:Nat) (v0:List o3) (v1:List UInt8) (v8:Int) (v9:Int) (v10:Int):Option ((List o3 × List UInt8 × Int × Int × Int) ⊕ (Int × Bool)):=
 sel (decide (v9 < v10)) (
  chk (decide ((0:Int)<=(B0 ((A7 (B0 (v9 + v10))) / 2 ^ 1))/\(B0 ((A7 (B0 (v9 + v10))) / 2 ^ 1)) < (((List.length v0):Nat):Int))) <|
  ((a4Y m) (List.getD v0 (Int.toNat (B0 ((A7 (B0 (v9 + v10))) / 2 ^ 1))) o5) v1).bind fun r2=>
  sel (decide (r2 < 0)) (
   some (.inl (v0,v1,v8,(B0 ((B0 ((A7 (B0 (v9 + v10))) / 2 ^ 1)) + 1)),v10))) (
   some (.inl (v0,v1,v8,v9,(B0 ((A7 (B0 (v9 + v10))) / 2 ^ 1)))))) (
  Option.map .inr (
   (E8 m) v0 v1 v8 v9))
def E7 (m:Nat) (v0:List o3) (v1:List UInt8) (v8:Int) (v9:Int) (v10:Int):Option (Int × Bool):=
 a4s m (fun v=>(E9 m) v.1 v.2.1 v.2.2.1 v.2.2.2.1 v.2.2.2.2) (v0,v1,v8,v9,v10)
def H1 (m:Nat) (a0:List o3) (a1:List UInt8):Option (Int × Bool):=
 (E7 m) a0 a1 (((List.length a0):Nat):Int) 0 (((List.length a0):Nat):Int)
def a2p (m:Nat) (a0:o7) (a1:List UInt8):Option (Int × Bool):=
 ((H1 m) a0.1 a1).bind fun r1=>
 some (r1.1,r1.2)
def a7f (_m:Nat) (a0:Int):Option (Int):=
 some (A7 (min (max a0 0) 1073741824))
def b7p (m:Nat) (a0:Int) (a1:Int):Option (Int):=
 ((a7f m) a0).bind fun r1=>
 ((a7f m) a1).bind fun r2=>
 some (A7 ((A7 (50 + (A7 (1 * r1)))) + (A7 (20 * r2))))
def a3R (_m:Nat) (a0:Int) (a1:Int):Option (Int × Int):=
 some ((A7 ((A7 ((A7 ((a0 / 2 ^ 32) * (a1 / 2 ^ 32))) + ((A7 ((A7 ((a0 / 2 ^ 32) * (bits .and .u64 a1 4294967295))) + ((A7 ((bits .and .u64 a0 4294967295) * (bits .and .u64 a1 4294967295))) / 2 ^ 32))) / 2 ^ 32))) + ((A7 ((bits .and .u64 (A7 ((A7 ((a0 / 2 ^ 32) * (bits .and .u64 a1 4294967295))) + ((A7 ((bits .and .u64 a0 4294967295) * (bits .and .u64 a1 4294967295))) / 2 ^ 32))) 4294967295) + (A7 ((bits .and .u64 a0 4294967295) * (a1 / 2 ^ 32))))) / 2 ^ 32))),(A7 (a0 * a1)))
def b3t (_m:Nat) (a0:Int) (a1:Bool):Option (Int × Bool):=
 sel (!a1) (
  some (0,false)) (
  some (a0,true))
def b4Q (m:Nat) (a0:Int) (a1:Int):Option (Int × Bool):=
 ((a3R m) a0 a1).bind fun r1=>
 ((b3t m) r1.2 (decide (r1.1=0))).bind fun r2=>
 some (r2.1,r2.2)
def b7q (m:Nat) (a0:Int) (a1:Int):Option (Int × Bool):=
 ((b4Q m) a0 a1).bind fun r1=>
 some (r1.1,r1.2)
def a9I (m:Nat) (l0:List Int):Option (Int × Bool):=
 ((a9F m) l0).bind fun r1=>
 some (r1.1,r1.2)
def a9J (m:Nat) (v11:List o4) (v12:Int) (v13:Int) (l0:List Int):Option ((List o4 × Int × Int × List Int) ⊕ (Int × Bool)):=
 sel (decide (v13 < v12)) (
  chk (decide ((0:Int)<=v13/\v13 < (((List.length v11):Nat):Int))) <|
  chk (decide (((List.length l0) + 1) * 8<=LIM/\(List.length l0) + 1<=LEN)) <|
  some (.inl (v11,v12,(B0 (v13 + 1)),(l0 ++ [(List.getD v11 (Int.toNat v13) A4).2])))) (
  Option.map .inr (
   (a9I m) l0))
def a8m (m:Nat) (v11:List o4) (v12:Int) (v13:Int) (l0:List Int):Option (Int × Bool):=
 a4s m (fun v=>(a9J m) v.1 v.2.1 v.2.2.1 v.2.2.2) (v11,v12,v13,l0)
def a78 (m:Nat) (a0:o8):Option (Int × Bool):=
 (a8m m) a0.2.2.2.2.2 (((List.length a0.2.2.2.2.2):Nat):Int) 0 [a0.2.2.2.1]
def a8n (m:Nat) (v12:List o4) (v13:Int) (v14:Int) (b0:o7) (l0:List (List UInt8 × Vector UInt8 0)):Option ((List o4 × Int × Int × o7 × List (List UInt8 × Vector UInt8 0)) ⊕ (Int)):=
 sel (decide (v14 < v13)) (
  chk (decide ((0:Int)<=v14/\v14 < (((List.length v12):Nat):Int))) <|
  ((a2p m) b0 (List.getD v12 (Int.toNat v14) A4).1).bind fun r1=>
  sel (!r1.2) (
   some (.inl (v12,v13,(B0 (v14 + 1)),b0,(b8A a88 (List.getD v12 (Int.toNat v14) A4).1 (Vector.replicate 0 (0:UInt8)) l0)))) (
   some (.inl (v12,v13,(B0 (v14 + 1)),b0,l0)))) (
  some (.inr (((List.length l0):Nat):Int)))
def a7E (m:Nat) (v12:List o4) (v13:Int) (v14:Int) (b0:o7) (l0:List (List UInt8 × Vector UInt8 0)):Option (Int):=
 a4s m (fun v=>(a8n m) v.1 v.2.1 v.2.2.1 v.2.2.2.1 v.2.2.2.2) (v12,v13,v14,b0,l0)
def b2b (m:Nat) (a0:o7) (a1:o8):Option (Int):=
 (a7E m) a1.2.2.2.2.2 (((List.length a1.2.2.2.2.2):Nat):Int) 0 a0 []
def b2c (m:Nat) (a0:o7) (a1:Int) (a2:o8) (a3:Int):Option (Int):=
 ((a2p m) a0 a2.1).bind fun r1=>
 sel (!r1.2) (
  some 13) (
  chk (decide ((0:Int)<=r1.1/\r1.1 < (((List.length a0.1):Nat):Int))) <|
  sel (!decide ((List.getD a0.1 (Int.toNat r1.1) o5).2.2=a2.2.1)) (
   some 14) (
   sel (decide ((List.getD a0.1 (Int.toNat r1.1) o5).2.2=18446744073709551615)) (
    some 6) (
    ((b7p m) a3 (((List.length a2.2.2.2.2.2):Nat):Int)).bind fun r2=>
    sel (decide (a2.2.2.1 < r2)) (
     some 15) (
     ((b7q m) a2.2.2.1 a1).bind fun r3=>
     sel (!r3.2) (
      some 6) (
      sel (decide (a2.2.2.2.1 < r3.1)) (
       some 16) (
       ((a78 m) a2).bind fun r4=>
       sel (!r4.2) (
        some 6) (
        sel (decide ((List.getD a0.1 (Int.toNat r1.1) o5).2.1 < r4.1)) (
         some 17) (
         ((b2b m) a0 a2).bind fun r5=>
         sel (decide (256 < (B0 ((((List.length a0.1):Nat):Int) + r5)))) (
          some 3) (
          some 0)))))))))
def a15 (_m:Nat) (v0:Int) (v2:Int):Option (Int):=
 chk (decide ((0:Int)<=(wu8 v0)/\(wu8 v0) < 256)) <|
 some (B0 (v2 + (B0 ((UInt8.toNat (List.getD [(0:UInt8),(1:UInt8),(2:UInt8),(2:UInt8),(3:UInt8),(3:UInt8),(3:UInt8),(3:UInt8),(4:UInt8),(4:UInt8),(4:UInt8),(4:UInt8),(4:UInt8),(4:UInt8),(4:UInt8),(4:UInt8),(5:UInt8),(5:UInt8),(5:UInt8),(5:UInt8),(5:UInt8),(5:UInt8),(5:UInt8),(5:UInt8),(5:UInt8),(5:UInt8),(5:UInt8),(5:UInt8),(5:UInt8),(5:UInt8),(5:UInt8),(5:UInt8),(6:UInt8),(6:UInt8),(6:UInt8),(6:UInt8),(6:UInt8),(6:UInt8),(6:UInt8),(6:UInt8),(6:UInt8),(6:UInt8),(6:UInt8),(6:UInt8),(6:UInt8),(6:UInt8),(6:UInt8),(6:UInt8),(6:UInt8),(6:UInt8),(6:UInt8),(6:UInt8),(6:UInt8),(6:UInt8),(6:UInt8),(6:UInt8),(6:UInt8),(6:UInt8),(6:UInt8),(6:UInt8),(6:UInt8),(6:UInt8),(6:UInt8),(6:UInt8),(7:UInt8),(7:UInt8),(7:UInt8),(7:UInt8),(7:UInt8),(7:UInt8),(7:UInt8),(7:UInt8),(7:UInt8),(7:UInt8),(7:UInt8),(7:UInt8),(7:UInt8),(7:UInt8),(7:UInt8),(7:UInt8),(7:UInt8),(7:UInt8),(7:UInt8),(7:UInt8),(7:UInt8),(7:UInt8),(7:UInt8),(7:UInt8),(7:UInt8),(7:UInt8),(7:UInt8),(7:UInt8),(7:UInt8),(7:UInt8),(7:UInt8),(7:UInt8),(7:UInt8),(7:UInt8),(7:UInt8),(7:UInt8),(7:UInt8),(7:UInt8),(7:UInt8),(7:UInt8),(7:UInt8),(7:UInt8),(7:UInt8),(7:UInt8),(7:UInt8),(7:UInt8),(7:UInt8),(7:UInt8),(7:UInt8),(7:UInt8),(7:UInt8),(7:UInt8),(7:UInt8),(7:UInt8),(7:UInt8),(7:UInt8),(7:UInt8),(7:UInt8),(7:UInt8),(7:UInt8),(7:UInt8),(7:UInt8),(7:UInt8),(7:UInt8),(8:UInt8),(8:UInt8),(8:UInt8),(8:UInt8),(8:UInt8),(8:UInt8),(8:UInt8),(8:UInt8),(8:UInt8),(8:UInt8),(8:UInt8),(8:UInt8),(8:UInt8),(8:UInt8),(8:UInt8),(8:UInt8),(8:UInt8),(8:UInt8),(8:UInt8),(8:UInt8),(8:UInt8),(8:UInt8),(8:UInt8),(8:UInt8),(8:UInt8),(8:UInt8),(8:UInt8),(8:UInt8),(8:UInt8),(8:UInt8),(8:UInt8),(8:UInt8),(8:UInt8),(8:UInt8),(8:UInt8),(8:UInt8),(8:UInt8),(8:UInt8),(8:UInt8),(8:UInt8),(8:UInt8),(8:UInt8),(8:UInt8),(8:UInt8),(8:UInt8),(8:UInt8),(8:UInt8),(8:UInt8),(8:UInt8),(8:UInt8),(8:UInt8),(8:UInt8),(8:UInt8),(8:UInt8),(8:UInt8),(8:UInt8),(8:UInt8),(8:UInt8),(8:UInt8),(8:UInt8),(8:UInt8),(8:UInt8),(8:UInt8),(8:UInt8),(8:UInt8),(8:UInt8),(8:UInt8),(8:UInt8),(8:UInt8),(8:UInt8),(8:UInt8),(8:UInt8),(8:UInt8),(8:UInt8),(8:UInt8),(8:UInt8),(8:UInt8),(8:UInt8),(8:UInt8),(8:UInt8),(8:UInt8),(8:UInt8),(8:UInt8),(8:UInt8),(8:UInt8),(8:UInt8),(8:UInt8),(8:UInt8),(8:UInt8),(8:UInt8),(8:UInt8),(8:UInt8),(8:UInt8),(8:UInt8),(8:UInt8),(8:UInt8),(8:UInt8),(8:UInt8),(8:UInt8),(8:UInt8),(8:UInt8),(8:UInt8),(8:UInt8),(8:UInt8),(8:UInt8),(8:UInt8),(8:UInt8),(8:UInt8),(8:UInt8),(8:UInt8),(8:UInt8),(8:UInt8),(8:UInt8),(8:UInt8),(8:UInt8),(8:UInt8),(8:UInt8),(8:UInt8),(8:UInt8),(8:UInt8),(8:UInt8),(8:UInt8),(8:UInt8),(8:UInt8),(8:UInt8),(8:UInt8),(8:UInt8),(8:UInt8)] (Int.toNat (wu8 v0)) (0:UInt8)):Nat):Int))))
def a16 (m:Nat) (v0:Int) (v2:Int):Option (Int):=
 sel (decide (256<=v0)) (
  (a15 m) (v0 / 2 ^ 8) (B0 (v2 + 8))) (
  (a15 m) v0 v2)
def a17 (m:Nat) (v0:Int) (v2:Int):Option (Int):=
 sel (decide (65536<=v0)) (
  (a16 m) (v0 / 2 ^ 16) (B0 (v2 + 16))) (
  (a16 m) v0 v2)
def a7F (m:Nat) (a0:Int):Option (Int):=
 sel (decide (4294967296<=a0)) (
  (a17 m) (a0 / 2 ^ 32) 32) (
  (a17 m) a0 0)
def a2P (m:Nat) (a0:Int):Option (Int):=
 ((a7F m) a0).bind fun r1=>
 some (B0 (64 - r1))
def a18 (_m:Nat) (v2:Int) (v8:Int) (v14:Int) (v15:Int) (v17:Int) (v18:Int):Option (Int × Int):=
 chk (decide ((0:Int)<=v8)) <|
 some ((A7 ((A7 (v15 * 4294967296)) + v18)),((A7 ((A7 ((A7 (v17 * 4294967296)) + v14)) - (A7 (v18 * v2)))) / 2 ^ (min (Int.toNat v8) 64)))
def a19 (m:Nat) (v2:Int) (v8:Int) (v9:Int) (v10:Int) (v14:Int) (v15:Int) (v16:Int) (v17:Int) (v18:Int):Option ((Int × Int × Int × Int × Int × Int × Int × Int × Int) ⊕ (Int × Int)):=
 sel (decide (4294967296<=(A7 (v16 + v9)))) (
  Option.map .inr (
   (a18 m) v2 v8 v14 v15 v17 (A7 (v18 - 1)))) (
  some (.inl (v2,v8,v9,v10,v14,v15,(A7 (v16 + v9)),v17,(A7 (v18 - 1)))))
def a5x (m:Nat) (v2:Int) (v8:Int) (v9:Int) (v10:Int) (v14:Int) (v15:Int) (v16:Int) (v17:Int) (v18:Int):Option ((Int × Int × Int × Int × Int × Int × Int × Int × Int) ⊕ (Int × Int)):=
 sel (decide (4294967296<=v18)) (
  (a19 m) v2 v8 v9 v10 v14 v15 v16 v17 v18) (
  sel (decide ((A7 ((A7 (4294967296 * v16)) + v14)) < (A7 (v18 * v10)))) (
   (a19 m) v2 v8 v9 v10 v14 v15 v16 v17 v18) (
   Option.map .inr (
    (a18 m) v2 v8 v14 v15 v17 v18)))
def a4Z (m:Nat) (v2:Int) (v8:Int) (v9:Int) (v10:Int) (v14:Int) (v15:Int) (v16:Int) (v17:Int) (v18:Int):Option (Int × Int):=
 a4s m (fun v=>(a5x m) v.1 v.2.1 v.2.2.1 v.2.2.2.1 v.2.2.2.2.1 v.2.2.2.2.2.1 v.2.2.2.2.2.2.1 v.2.2.2.2.2.2.2.1 v.2.2.2.2.2.2.2.2) (v2,v8,v9,v10,v14,v15,v16,v17,v18)
def a2a (m:Nat) (v2:Int) (v8:Int) (v9:Int) (v10:Int) (v11:Int) (v13:Int) (v14:Int) (v15:Int):Option (Int × Int):=
 chk (!decide (v9=0)) <|
 (a4Z m) v2 v8 v9 v10 v14 v15 (A7 ((A7 ((A7 ((A7 (v11 * 4294967296)) + v13)) - (A7 (v15 * v2)))) - (A7 ((A7 (Int.tdiv (A7 ((A7 ((A7 (v11 * 4294967296)) + v13)) - (A7 (v15 * v2)))) v9)) * v9)))) (A7 ((A7 ((A7 (v11 * 4294967296)) + v13)) - (A7 (v15 * v2)))) (A7 (Int.tdiv (A7 ((A7 ((A7 (v11 * 4294967296)) + v13)) - (A7 (v15 * v2)))) v9))
def a2b (m:Nat) (v2:Int) (v8:Int) (v9:Int) (v10:Int) (v11:Int) (v13:Int) (v14:Int) (v15:Int) (v16:Int):Option ((Int × Int × Int × Int × Int × Int × Int × Int × Int) ⊕ (Int × Int)):=
 sel (decide (4294967296<=(A7 (v16 + v9)))) (
  Option.map .inr (
   (a2a m) v2 v8 v9 v10 v11 v13 v14 (A7 (v15 - 1)))) (
  some (.inl (v2,v8,v9,v10,v11,v13,v14,(A7 (v15 - 1)),(A7 (v16 + v9)))))
def a5y (m:Nat) (v2:Int) (v8:Int) (v9:Int) (v10:Int) (v11:Int) (v13:Int) (v14:Int) (v15:Int) (v16:Int):Option ((Int × Int × Int × Int × Int × Int × Int × Int × Int) ⊕ (Int × Int)):=
 sel (decide (4294967296<=v15)) (
  (a2b m) v2 v8 v9 v10 v11 v13 v14 v15 v16) (
  sel (decide ((A7 ((A7 (4294967296 * v16)) + v13)) < (A7 (v15 * v10)))) (
   (a2b m) v2 v8 v9 v10 v11 v13 v14 v15 v16) (
   Option.map .inr (
    (a2a m) v2 v8 v9 v10 v11 v13 v14 v15)))
def a40 (m:Nat) (v2:Int) (v8:Int) (v9:Int) (v10:Int) (v11:Int) (v13:Int) (v14:Int) (v15:Int) (v16:Int):Option (Int × Int):=
 a4s m (fun v=>(a5y m) v.1 v.2.1 v.2.2.1 v.2.2.2.1 v.2.2.2.2.1 v.2.2.2.2.2.1 v.2.2.2.2.2.2.1 v.2.2.2.2.2.2.2.1 v.2.2.2.2.2.2.2.2) (v2,v8,v9,v10,v11,v13,v14,v15,v16)
def a7G (m:Nat) (a0:Int) (a1:Int) (a2:Int):Option (Int × Int):=
 sel (decide (a2=0)) (
  none) (
  sel (decide (a2<=a0)) (
   none) (
   sel (decide (a0=0)) (
    chk (!decide (a2=0)) <|
    chk (!decide (a2=0)) <|
    some ((A7 (Int.tdiv a1 a2)),(Int.tmod a1 a2))) (
    ((a2P m) a2).bind fun r1=>
    chk (decide ((0:Int)<=(A7 r1))) <|
    chk (decide ((0:Int)<=(A7 r1))) <|
    chk (decide ((0:Int)<=(A7 (64 - (A7 r1))))) <|
    chk (decide ((0:Int)<=(A7 r1))) <|
    chk (!decide (((A7 (a2 * 2 ^ (min (Int.toNat (A7 r1)) 64))) / 2 ^ 32)=0)) <|
    (a40 m) (A7 (a2 * 2 ^ (min (Int.toNat (A7 r1)) 64))) (A7 r1) ((A7 (a2 * 2 ^ (min (Int.toNat (A7 r1)) 64))) / 2 ^ 32) (bits .and .u64 (A7 (a2 * 2 ^ (min (Int.toNat (A7 r1)) 64))) 4294967295) (bits .or .u64 (A7 (a0 * 2 ^ (min (Int.toNat (A7 r1)) 64))) (a1 / 2 ^ (min (Int.toNat (A7 (64 - (A7 r1)))) 64))) ((A7 (a1 * 2 ^ (min (Int.toNat (A7 r1)) 64))) / 2 ^ 32) (bits .and .u64 (A7 (a1 * 2 ^ (min (Int.toNat (A7 r1)) 64))) 4294967295) (A7 (Int.tdiv (bits .or .u64 (A7 (a0 * 2 ^ (min (Int.toNat (A7 r1)) 64))) (a1 / 2 ^ (min (Int.toNat (A7 (64 - (A7 r1)))) 64))) ((A7 (a2 * 2 ^ (min (Int.toNat (A7 r1)) 64))) / 2 ^ 32))) (A7 ((bits .or .u64 (A7 (a0 * 2 ^ (min (Int.toNat (A7 r1)) 64))) (a1 / 2 ^ (min (Int.toNat (A7 (64 - (A7 r1)))) 64))) - (A7 ((A7 (Int.tdiv (bits .or .u64 (A7 (a0 * 2 ^ (min (Int.toNat (A7 r1)) 64))) (a1 / 2 ^ (min (Int.toNat (A7 (64 - (A7 r1)))) 64))) ((A7 (a2 * 2 ^ (min (Int.toNat (A7 r1)) 64))) / 2 ^ 32))) * ((A7 (a2 * 2 ^ (min (Int.toNat (A7 r1)) 64))) / 2 ^ 32))))))))
def b0c (m:Nat) (a0:Int) (a1:Int) (a2:Int):Option (Int × Bool):=
 ((a3R m) a0 a1).bind fun r1=>
 sel (decide (a2<=r1.1)) (
  some (0,false)) (
  ((a7G m) r1.1 r1.2 a2).bind fun r2=>
  some (r2.1,true))
def b0d (m:Nat) (a0:Int) (a1:Int):Option (Int):=
 sel (decide (a1=0)) (
  some 0) (
  ((b0c m) 1000 a0 a1).bind fun r1=>
  sel (!r1.2) (
   some 18446744073709551615) (
   some r1.1))
def Y6 (_m:Nat) (a0:List o3) (a1:Int) (a2:List o3):Option (List o3):=c35 a0 a1 a2
def a8o (_m:Nat) (b0_1:Int) (b1:o8) (_b2_1:Int) (l0:List o3):Option (List o3 × Int):=
 some (l0,(A7 (b0_1 + b1.2.2.2.1)))
def a4l (_m:Nat) (v11:Int) (v45:List o4) (v46:Int) (v47:Int) (b0_1:Int) (b1:o8) (b2_1:Int) (b3:o4) (l0:List o3):Option ((List o4 × Int × Int × Int × o8 × Int × List o3) ⊕ (List o3 × Int)):=
 chk (decide ((0:Int)<=v11/\v11 < (((List.length l0):Nat):Int))) <|
 chk (decide ((Int.toNat v11) < (List.length l0))) <|
 chk (decide ((0:Int)<=v11/\v11 < (((List.length l0):Nat):Int))) <|
 chk (decide ((Int.toNat v11) < (List.length l0))) <|
 some (.inl (v45,v46,(B0 (v47 + 1)),b0_1,b1,b2_1,(List.set l0 (Int.toNat v11) ((List.getD l0 (Int.toNat v11) o5).1,(A7 ((List.getD l0 (Int.toNat v11) o5).2.1 + b3.2)),(List.getD l0 (Int.toNat v11) o5).2.2))))
def a8p (m:Nat) (v45:List o4) (v46:Int) (v47:Int) (b0_1:Int) (b1:o8) (b2_1:Int) (l0:List o3):Option ((List o4 × Int × Int × Int × o8 × Int × List o3) ⊕ (List o3 × Int)):=
 sel (decide (v47 < v46)) (
  chk (decide ((0:Int)<=v47/\v47 < (((List.length v45):Nat):Int))) <|
  ((a2p m) (l0,b0_1) (List.getD v45 (Int.toNat v47) A4).1).bind fun r3=>
  sel (!r3.2) (
   ((Y6 m) l0 r3.1 [((List.getD v45 (Int.toNat v47) A4).1,(0:Int),(0:Int))]).bind fun r4=>
   (a4l m) r3.1 v45 v46 v47 b0_1 b1 b2_1 (List.getD v45 (Int.toNat v47) A4) r4) (
   (a4l m) r3.1 v45 v46 v47 b0_1 b1 b2_1 (List.getD v45 (Int.toNat v47) A4) l0)) (
  Option.map .inr (
   (a8o m) b0_1 b1 b2_1 l0))
def a7H (m:Nat) (v45:List o4) (v46:Int) (v47:Int) (b0_1:Int) (b1:o8) (b2_1:Int) (l0:List o3):Option (List o3 × Int):=
 a4s m (fun v=>(a8p m) v.1 v.2.1 v.2.2.1 v.2.2.2.1 v.2.2.2.2.1 v.2.2.2.2.2.1 v.2.2.2.2.2.2) (v45,v46,v47,b0_1,b1,b2_1,l0)
def b2d (m:Nat) (a0_0:List o3) (a0_1:Int) (a1:o8):Option (List o3 × Int):=
 ((a78 m) a1).bind fun r1=>
 ((a2p m) (a0_0,a0_1) a1.1).bind fun r2=>
 chk (decide ((0:Int)<=r2.1/\r2.1 < (((List.length a0_0):Nat):Int))) <|
 chk (decide ((Int.toNat r2.1) < (List.length a0_0))) <|
 chk (decide ((0:Int)<=r2.1/\r2.1 < (((List.length a0_0):Nat):Int))) <|
 chk (decide ((Int.toNat r2.1) < (List.length a0_0))) <|
 chk (decide ((0:Int)<=r2.1/\r2.1 < (((List.length (List.set a0_0 (Int.toNat r2.1) ((List.getD a0_0 (Int.toNat r2.1) o5).1,(A7 ((List.getD a0_0 (Int.toNat r2.1) o5).2.1 - r1.1)),(List.getD a0_0 (Int.toNat r2.1) o5).2.2))):Nat):Int))) <|
 chk (decide ((Int.toNat r2.1) < (List.length (List.set a0_0 (Int.toNat r2.1) ((List.getD a0_0 (Int.toNat r2.1) o5).1,(A7 ((List.getD a0_0 (Int.toNat r2.1) o5).2.1 - r1.1)),(List.getD a0_0 (Int.toNat r2.1) o5).2.2))))) <|
 chk (decide ((0:Int)<=r2.1/\r2.1 < (((List.length (List.set a0_0 (Int.toNat r2.1) ((List.getD a0_0 (Int.toNat r2.1) o5).1,(A7 ((List.getD a0_0 (Int.toNat r2.1) o5).2.1 - r1.1)),(List.getD a0_0 (Int.toNat r2.1) o5).2.2))):Nat):Int))) <|
 chk (decide ((Int.toNat r2.1) < (List.length (List.set a0_0 (Int.toNat r2.1) ((List.getD a0_0 (Int.toNat r2.1) o5).1,(A7 ((List.getD a0_0 (Int.toNat r2.1) o5).2.1 - r1.1)),(List.getD a0_0 (Int.toNat r2.1) o5).2.2))))) <|
 (a7H m) a1.2.2.2.2.2 (((List.length a1.2.2.2.2.2):Nat):Int) 0 a0_1 a1 (0:Int) (List.set (List.set a0_0 (Int.toNat r2.1) ((List.getD a0_0 (Int.toNat r2.1) o5).1,(A7 ((List.getD a0_0 (Int.toNat r2.1) o5).2.1 - r1.1)),(List.getD a0_0 (Int.toNat r2.1) o5).2.2)) (Int.toNat r2.1) ((List.getD (List.set a0_0 (Int.toNat r2.1) ((List.getD a0_0 (Int.toNat r2.1) o5).1,(A7 ((List.getD a0_0 (Int.toNat r2.1) o5).2.1 - r1.1)),(List.getD a0_0 (Int.toNat r2.1) o5).2.2)) (Int.toNat r2.1) o5).1,(List.getD (List.set a0_0 (Int.toNat r2.1) ((List.getD a0_0 (Int.toNat r2.1) o5).1,(A7 ((List.getD a0_0 (Int.toNat r2.1) o5).2.1 - r1.1)),(List.getD a0_0 (Int.toNat r2.1) o5).2.2)) (Int.toNat r2.1) o5).2.1,(A7 ((List.getD (List.set a0_0 (Int.toNat r2.1) ((List.getD a0_0 (Int.toNat r2.1) o5).1,(A7 ((List.getD a0_0 (Int.toNat r2.1) o5).2.1 - r1.1)),(List.getD a0_0 (Int.toNat r2.1) o5).2.2)) (Int.toNat r2.1) o5).2.2 + 1))))
def b0S (m:Nat) (a0:o7) (a1:Int) (a2:List UInt8):Option (o7 × U0):=
 ((b3p m) a0).bind fun r1=>
 ((a7z m) a0).bind fun r2=>
 sel (!decide (r2=0)) (
  some (r1,(1,[],(0:Int),(0:Int),(0:Int)))) (
  ((b4P m) a2).bind fun r3=>
  sel (!decide (r3.2=0)) (
   some (r1,(r3.2,[],(0:Int),(0:Int),(0:Int)))) (
   ((b2c m) a0 a1 r3.1 (((List.length a2):Nat):Int)).bind fun r4=>
   ((b0d m) r3.1.2.2.2.1 r3.1.2.2.1).bind fun r5=>
   sel (decide (r4=0)) (
    ((b2d m) r1.1 r1.2 r3.1).bind fun r6=>
    some (r6,(r4,r3.1.1,r3.1.2.1,r3.1.2.2.1,r5))) (
    some (r1,(r4,r3.1.1,r3.1.2.1,r3.1.2.2.1,r5)))))
def a2q (_m:Nat) (v22:Int) (v23:Int) (b0:o7) (b1:o7):Option ((Int × Int × o7 × o7) ⊕ (Bool)):=
 sel (decide (v23 < v22)) (
  chk (decide ((0:Int)<=v23/\v23 < (((List.length b0.1):Nat):Int))) <|
  chk (decide ((0:Int)<=v23/\v23 < (((List.length b1.1):Nat):Int))) <|
  sel (!(U.beq A1 (List.getD b0.1 (Int.toNat v23) o5) (List.getD b1.1 (Int.toNat v23) o5))) (
   some (.inr false)) (
   some (.inl (v22,(B0 (v23 + 1)),b0,b1)))) (
  some (.inr true))
def a1S (m:Nat) (v22:Int) (v23:Int) (b0:o7) (b1:o7):Option (Bool):=
 a4s m (fun v=>(a2q m) v.1 v.2.1 v.2.2.1 v.2.2.2) (v22,v23,b0,b1)
def a3h (m:Nat) (a0:o7) (a1:o7):Option (Bool):=
 sel (!decide ((((List.length a0.1):Nat):Int)=(((List.length a1.1):Nat):Int))) (
  some false) (
  sel (!decide (a0.2=a1.2)) (
   some false) (
   (a1S m) (((List.length a0.1):Nat):Int) 0 a0 a1))
def a2c (m:Nat):Option (Bool):=
 ((a4c m) ([(97:UInt8),(110:UInt8),(110:UInt8)],(0:Int),300,600,[],[([(98:UInt8),(111:UInt8),(98:UInt8)],5)])).bind fun r1=>
 ((b0S m) ([([(97:UInt8),(110:UInt8),(110:UInt8)],1000,(0:Int))],(0:Int)) 2 r1.1).bind fun r2=>
 ((b0S m) r2.1 2 r1.1).bind fun r3=>
 sel (decide (r1.2=0)) (
  sel (decide (r2.2.1=0)) (
   sel (decide (r2.2.2.2.2.2=2000)) (
    sel (decide (r3.2.1=14)) (
     sel (decide (r3.2.2.1=[(97:UInt8),(110:UInt8),(110:UInt8)])) (
      ((a3h m) r2.1 ([([(97:UInt8),(110:UInt8),(110:UInt8)],395,1),([(98:UInt8),(111:UInt8),(98:UInt8)],5,(0:Int))],600)).bind fun r4=>
      some r4) (
      some false)) (
     some false)) (
    some false)) (
   some false)) (
  some false)
theorem same:N8=a2c c5B:=by kernel_rfl
theorem at_:a2c 1180591620717411303424=some true:=by kernel_rfl
end Kmempoollaw13
theorem a5z:N8=some true:=by rw [Kmempoollaw13.same,b4s];exact Kmempoollaw13.at_
end Go.Proofs.YtbipjlehhlkghaaDoor.Am
