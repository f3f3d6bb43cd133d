/- A fixed example holds: by reckoning. No conditions. -/
import Derived.Test.YtbipjlehhlkghaaGreatDoorFAll
import Derived.KernelRfl
namespace Go.Proofs.YtbipjlehhlkghaaGreatDoor.Am
open Go
set_option maxRecDepth 100000
namespace Kmempoollaw14
def a2c (_m:Nat) (v0:List UInt8):Option (Bool):=
 sel (decide (1<=(((List.length v0):Nat):Int))) (
  some (decide ((((List.length v0):Nat):Int)<=20))) (
  some false)
def a2d (m:Nat) (v0:List UInt8) (v3:Int):Option ((List UInt8 × Int) ⊕ (Bool)):=
 sel (decide (v3 < (((List.length v0):Nat):Int))) (
  chk (decide ((0:Int)<=v3/\v3 < (((List.length v0):Nat):Int))) <|
  sel (decide (97<=((UInt8.toNat (List.getD v0 (Int.toNat v3) (0:UInt8)):Nat):Int))) (
   sel (decide (((UInt8.toNat (List.getD v0 (Int.toNat v3) (0:UInt8)):Nat):Int)<=122)) (
    some (.inl (v0,(A5 (v3 + 1))))) (
    sel (decide (48<=((UInt8.toNat (List.getD v0 (Int.toNat v3) (0:UInt8)):Nat):Int))) (
     sel (decide (((UInt8.toNat (List.getD v0 (Int.toNat v3) (0:UInt8)):Nat):Int)<=57)) (
      some (.inl (v0,(A5 (v3 + 1))))) (
      sel (!(decide (((UInt8.toNat (List.getD v0 (Int.toNat v3) (0:UInt8)):Nat):Int)=45))) (
       some (.inr false)) (
       some (.inl (v0,(A5 (v3 + 1))))))) (
     sel (!(decide (((UInt8.toNat (List.getD v0 (Int.toNat v3) (0:UInt8)):Nat):Int)=45))) (
      some (.inr false)) (
      some (.inl (v0,(A5 (v3 + 1)))))))) (
   sel (decide (48<=((UInt8.toNat (List.getD v0 (Int.toNat v3) (0:UInt8)):Nat):Int))) (
    sel (decide (((UInt8.toNat (List.getD v0 (Int.toNat v3) (0:UInt8)):Nat):Int)<=57)) (
     some (.inl (v0,(A5 (v3 + 1))))) (
     sel (!(decide (((UInt8.toNat (List.getD v0 (Int.toNat v3) (0:UInt8)):Nat):Int)=45))) (
      some (.inr false)) (
      some (.inl (v0,(A5 (v3 + 1))))))) (
    sel (!(decide (((UInt8.toNat (List.getD v0 (Int.toNat v3) (0:UInt8)):Nat):Int)=45))) (
     some (.inr false)) (
     some (.inl (v0,(A5 (v3 + 1)))))))) (
  Option.map .inr (
   (a2c m) v0))
def a1z (m:Nat) (v0:List UInt8) (v3:Int):Option (Bool):=
 a1E m (fun v=>(a2d m) v.1 v.2) (v0,v3)
def V4 (m:Nat) (a0:List UInt8):Option (Bool):=
 (a1z m) a0 0
def E3 (_m:Nat) (a0:List UInt8) (a1:Int):Option (Bool):=
 sel (decide (a1 < (((List.length a0):Nat):Int))) (
  chk (decide ((0:Int)<=a1/\a1 < (((List.length a0):Nat):Int))) <|
  sel (decide (128<=((UInt8.toNat (List.getD a0 (Int.toNat a1) (0:UInt8)):Nat):Int))) (
   chk (decide ((0:Int)<=a1/\a1 < (((List.length a0):Nat):Int))) <|
   some (decide (((UInt8.toNat (List.getD a0 (Int.toNat a1) (0:UInt8)):Nat):Int) < 192))) (
   some false)) (
  some false)
def F0 (_m:Nat) (v0:List UInt8) (v1:Int) (v5:UInt8) (v64:Bool):Option (Int):=
 sel v64 (
  sel (decide (((UInt8.toNat v5:Nat):Int)=240)) (
   chk (decide ((0:Int)<=(A5 (v1 + 1))/\(A5 (v1 + 1)) < (((List.length v0):Nat):Int))) <|
   sel (decide (((UInt8.toNat (List.getD v0 (Int.toNat (A5 (v1 + 1))) (0:UInt8)):Nat):Int) < 144)) (
    some 0) (
    sel (decide (((UInt8.toNat v5:Nat):Int)=244)) (
     chk (decide ((0:Int)<=(A5 (v1 + 1))/\(A5 (v1 + 1)) < (((List.length v0):Nat):Int))) <|
     sel (decide (144<=((UInt8.toNat (List.getD v0 (Int.toNat (A5 (v1 + 1))) (0:UInt8)):Nat):Int))) (
      some 0) (
      some 4)) (
     some 4))) (
   sel (decide (((UInt8.toNat v5:Nat):Int)=244)) (
    chk (decide ((0:Int)<=(A5 (v1 + 1))/\(A5 (v1 + 1)) < (((List.length v0):Nat):Int))) <|
    sel (decide (144<=((UInt8.toNat (List.getD v0 (Int.toNat (A5 (v1 + 1))) (0:UInt8)):Nat):Int))) (
     some 0) (
     some 4)) (
    some 4))) (
  some 0)
def I0 (m:Nat) (v0:List UInt8) (v1:Int) (v5:UInt8) (v25:Bool):Option (Int):=
 sel v25 (
  sel (decide (((UInt8.toNat v5:Nat):Int)=224)) (
   chk (decide ((0:Int)<=(A5 (v1 + 1))/\(A5 (v1 + 1)) < (((List.length v0):Nat):Int))) <|
   sel (decide (((UInt8.toNat (List.getD v0 (Int.toNat (A5 (v1 + 1))) (0:UInt8)):Nat):Int) < 160)) (
    some 0) (
    sel (decide (((UInt8.toNat v5:Nat):Int)=237)) (
     chk (decide ((0:Int)<=(A5 (v1 + 1))/\(A5 (v1 + 1)) < (((List.length v0):Nat):Int))) <|
     sel (decide (160<=((UInt8.toNat (List.getD v0 (Int.toNat (A5 (v1 + 1))) (0:UInt8)):Nat):Int))) (
      some 0) (
      some 3)) (
     some 3))) (
   sel (decide (((UInt8.toNat v5:Nat):Int)=237)) (
    chk (decide ((0:Int)<=(A5 (v1 + 1))/\(A5 (v1 + 1)) < (((List.length v0):Nat):Int))) <|
    sel (decide (160<=((UInt8.toNat (List.getD v0 (Int.toNat (A5 (v1 + 1))) (0:UInt8)):Nat):Int))) (
     some 0) (
     some 3)) (
    some 3))) (
  sel (decide (240<=((UInt8.toNat v5:Nat):Int))) (
   sel (decide (((UInt8.toNat v5:Nat):Int) < 245)) (
    ((E3 m) v0 (A5 (v1 + 1))).bind fun r1=>
    sel r1 (
     ((E3 m) v0 (A5 (v1 + 2))).bind fun r2=>
     sel r2 (
      ((E3 m) v0 (A5 (v1 + 3))).bind fun r3=>
      (F0 m) v0 v1 v5 r3) (
      (F0 m) v0 v1 v5 false)) (
     (F0 m) v0 v1 v5 false)) (
    (F0 m) v0 v1 v5 false)) (
   (F0 m) v0 v1 v5 false))
def L0 (m:Nat) (v0:List UInt8) (v1:Int) (v5:UInt8) (v12:Bool):Option (Int):=
 sel v12 (
  some 2) (
  sel (decide (224<=((UInt8.toNat v5:Nat):Int))) (
   sel (decide (((UInt8.toNat v5:Nat):Int) < 240)) (
    ((E3 m) v0 (A5 (v1 + 1))).bind fun r4=>
    sel r4 (
     ((E3 m) v0 (A5 (v1 + 2))).bind fun r5=>
     (I0 m) v0 v1 v5 r5) (
     (I0 m) v0 v1 v5 false)) (
    (I0 m) v0 v1 v5 false)) (
   (I0 m) v0 v1 v5 false))
def a41 (m:Nat) (a0:List UInt8) (a1:Int):Option (Int):=
 chk (decide ((0:Int)<=a1/\a1 < (((List.length a0):Nat):Int))) <|
 sel (decide (((UInt8.toNat (List.getD a0 (Int.toNat a1) (0:UInt8)):Nat):Int) < 128)) (
  some 1) (
  sel (decide (194<=((UInt8.toNat (List.getD a0 (Int.toNat a1) (0:UInt8)):Nat):Int))) (
   sel (decide (((UInt8.toNat (List.getD a0 (Int.toNat a1) (0:UInt8)):Nat):Int) < 224)) (
    ((E3 m) a0 (A5 (a1 + 1))).bind fun r6=>
    (L0 m) a0 a1 (List.getD a0 (Int.toNat a1) (0:UInt8)) r6) (
    (L0 m) a0 a1 (List.getD a0 (Int.toNat a1) (0:UInt8)) false)) (
   (L0 m) a0 a1 (List.getD a0 (Int.toNat a1) (0:UInt8)) false))
def a2H (m:Nat) (v0:List UInt8) (v4:Int) (v5:Int):Option ((List UInt8 × Int × Int) ⊕ (Int × Bool)):=
 sel (decide (v5 < (((List.length v0):Nat):Int))) (
  ((a41 m) v0 v5).bind fun r1=>
  sel (decide (r1=0)) (
   some (.inr (0,false))) (
   some (.inl (v0,(A5 (v4 + 1)),(A5 (v5 + r1)))))) (
  some (.inr (v4,true)))
def a2e (m:Nat) (v0:List UInt8) (v4:Int) (v5:Int):Option (Int × Bool):=
 a1E m (fun v=>(a2H m) v.1 v.2.1 v.2.2) (v0,v4,v5)
def a4k (m:Nat) (a0:List UInt8):Option (Int × Bool):=
 (a2e m) a0 0 0
def a3H (m:Nat) (a0:List UInt8):Option (Bool):=
 ((a4k m) a0).bind fun r1=>
 sel r1.2 (
  some (decide (r1.1<=64))) (
  some false)
def a0h (m:Nat) (v31:List o8) (v32:Int) (v33:Int):Option ((List o8 × Int × Int) ⊕ (Int)):=
 sel (decide (v33 < v32)) (
  chk (decide ((0:Int)<=v33/\v33 < (((List.length v31):Nat):Int))) <|
  ((V4 m) (List.getD v31 (Int.toNat v33) B0).1).bind fun r3=>
  sel (!r3) (
   some (.inr 10)) (
   sel (decide ((List.getD v31 (Int.toNat v33) B0).2=0)) (
    some (.inr 12)) (
    some (.inl (v31,v32,(A5 (v33 + 1))))))) (
  some (.inr 0))
def X7 (m:Nat) (v31:List o8) (v32:Int) (v33:Int):Option (Int):=
 a1E m (fun v=>(a0h m) v.1 v.2.1 v.2.2) (v31,v32,v33)
def a1A (m:Nat) (a0:A7):Option (Int):=
 ((V4 m) a0.1).bind fun r1=>
 sel (!r1) (
  some 10) (
  sel (decide (a0.2.2.1=0)) (
   some 15) (
   ((a3H m) a0.2.2.2.2.1).bind fun r2=>
   sel (!r2) (
    some 11) (
    sel (decide ((((List.length a0.2.2.2.2.2):Nat):Int)=0)) (
     some 3) (
     sel (decide (16 < (((List.length a0.2.2.2.2.2):Nat):Int))) (
      some 3) (
      (X7 m) a0.2.2.2.2.2 (((List.length a0.2.2.2.2.2):Nat):Int) 0)))))
def O6 (_m:Nat) (a0:List A1) (a1:Int) (a2:List UInt8):Option (List A1):=
 sel (decide (a2=[])) (
  some a0) (
  chk (decide ((List.length a2)<=maxLen)) <|
  chk (decide (((List.length a0) + 1) * 48<=LIM/\(List.length a0) + 1<=LEN)) <|
  some (a0 ++ ([(a1,2,(0:Int),a2)]:List A1)))
def J1 (_m:Nat) (a0:List A1) (a1:Int) (a2:Int):Option (List A1):=
 sel (decide (a2=0)) (
  some a0) (
  chk (decide (((List.length a0) + 1) * 48<=LIM/\(List.length a0) + 1<=LEN)) <|
  some (a0 ++ ([(a1,0,a2,[])]:List A1)))
def a42 (_m:Nat) (a0:A1):Option (Bool):=
 sel (decide (a0.1 < 1)) (
  some false) (
  sel (decide (536870911 < a0.1)) (
   some false) (
   sel (decide (a0.2.1=0)) (
    sel (decide ((((List.length a0.2.2.2):Nat):Int)=0)) (
     some true) (
     sel (decide (a0.2.1=2)) (
      some (decide (a0.2.2.1=0))) (
      some false))) (
    sel (decide (a0.2.1=2)) (
     some (decide (a0.2.2.1=0))) (
     some false))))
def a2I (_m:Nat) (v1:Int) (l0:List UInt8):Option (List UInt8):=
 chk (decide ((0:Int)<=(wu8 v1)/\(wu8 v1) < 256)) <|
 chk (decide (((List.length l0) + 1) * 1<=LIM/\(List.length l0) + 1<=LEN)) <|
 some (l0 ++ [(UInt8.ofNat (Int.toNat (wu8 v1)))])
def a2J (m:Nat) (v1:Int) (l0:List UInt8):Option ((Int × List UInt8) ⊕ (List UInt8)):=
 sel (decide (128<=v1)) (
  chk (decide ((0:Int)<=(bits .or .u8 (wu8 v1) 128)/\(bits .or .u8 (wu8 v1) 128) < 256)) <|
  chk (decide (((List.length l0) + 1) * 1<=LIM/\(List.length l0) + 1<=LEN)) <|
  some (.inl ((v1 / 2 ^ 7),(l0 ++ [(UInt8.ofNat (Int.toNat (bits .or .u8 (wu8 v1) 128)))])))) (
  Option.map .inr (
   (a2I m) v1 l0))
def a2f (m:Nat) (v1:Int) (l0:List UInt8):Option (List UInt8):=
 a1E m (fun v=>(a2J m) v.1 v.2) (v1,l0)
def N5 (m:Nat) (a0:List UInt8) (a1:Int):Option (List UInt8):=
 chk (decide ((0 + (List.length a0)) * 1<=LIM/\0 + (List.length a0)<=LEN)) <|
 (a2f m) a1 a0
def a43 (m:Nat) (a0:List UInt8) (a1:A1):Option (List UInt8 × Int):=
 ((a42 m) a1).bind fun r1=>
 sel (!r1) (
  some ([],1)) (
  ((N5 m) a0 (B1 ((B1 ((B1 a1.1) * 8)) + (B1 a1.2.1)))).bind fun r2=>
  sel (decide (a1.2.1=0)) (
   ((N5 m) r2 a1.2.2.1).bind fun r3=>
   some (r3,0)) (
   ((N5 m) r2 (B1 (((List.length a1.2.2.2):Nat):Int))).bind fun r4=>
   chk (decide (((List.length r4) + (List.length a1.2.2.2)) * 1<=LIM/\(List.length r4) + (List.length a1.2.2.2)<=LEN)) <|
   some ((r4 ++ a1.2.2.2),0)))
def a2g (m:Nat) (v6:List A1) (v7:Int) (v8:Int) (l0:List UInt8):Option ((List A1 × Int × Int × List UInt8) ⊕ (List UInt8)):=
 sel (decide (v8 < v7)) (
  chk (decide ((0:Int)<=v8/\v8 < (((List.length v6):Nat):Int))) <|
  ((a43 m) l0 (List.getD v6 (Int.toNat v8) B7)).bind fun r1=>
  some (.inl (v6,v7,(A5 (v8 + 1)),r1.1))) (
  some (.inr l0))
def a1B (m:Nat) (v6:List A1) (v7:Int) (v8:Int) (l0:List UInt8):Option (List UInt8):=
 a1E m (fun v=>(a2g m) v.1 v.2.1 v.2.2.1 v.2.2.2) (v6,v7,v8,l0)
def P2 (m:Nat) (a0:List A1):Option (List UInt8):=
 (a1B m) a0 (((List.length a0):Nat):Int) 0 []
def a3b (m:Nat) (v26:List o8) (v27:Int) (v28:Int) (l0:List A1):Option ((List o8 × Int × Int × List A1) ⊕ (List UInt8)):=
 sel (decide (v28 < v27)) (
  chk (decide ((0:Int)<=v28/\v28 < (((List.length v26):Nat):Int))) <|
  ((O6 m) [] 1 (List.getD v26 (Int.toNat v28) B0).1).bind fun r6=>
  ((J1 m) r6 2 (List.getD v26 (Int.toNat v28) B0).2).bind fun r7=>
  ((P2 m) r7).bind fun r8=>
  chk (decide (((List.length l0) + 1) * 48<=LIM/\(List.length l0) + 1<=LEN)) <|
  some (.inl (v26,v27,(A5 (v28 + 1)),(l0 ++ ([(6,2,(0:Int),r8)]:List A1))))) (
  Option.map .inr (
   ((P2 m) l0).bind fun r9=>
   some r9))
def a2K (m:Nat) (v26:List o8) (v27:Int) (v28:Int) (l0:List A1):Option (List UInt8):=
 a1E m (fun v=>(a3b m) v.1 v.2.1 v.2.2.1 v.2.2.2) (v26,v27,v28,l0)
def a44 (m:Nat) (a0:A7):Option (List UInt8):=
 ((O6 m) [] 1 a0.1).bind fun r1=>
 ((J1 m) r1 2 a0.2.1).bind fun r2=>
 ((J1 m) r2 3 a0.2.2.1).bind fun r3=>
 ((J1 m) r3 4 a0.2.2.2.1).bind fun r4=>
 ((O6 m) r4 5 a0.2.2.2.2.1).bind fun r5=>
 (a2K m) a0.2.2.2.2.2 (((List.length a0.2.2.2.2.2):Nat):Int) 0 r5
def a2L (m:Nat) (a0:A7):Option (List UInt8 × Int):=
 ((a1A m) a0).bind fun r1=>
 sel (!decide (r1=0)) (
  some ([],r1)) (
  ((a44 m) a0).bind fun r2=>
  sel (decide (4096 < (((List.length r2):Nat):Int))) (
   some ([],3)) (
   some (r2,0)))
def J5 (_m:Nat) (a0:List o7):Option (List o7):=b8s (u:=B5) 32 a0
def b0J (m:Nat) (a0:o6):Option (o6):=
 ((J5 m) a0.1).bind fun r1=>
 some (r1,a0.2)
def b1z (m:Nat) (a0:o6):Option (List o7 × Int):=
 ((J5 m) a0.1).bind fun r1=>
 some (r1,a0.2)
def a9b (_m:Nat) (v0:List UInt8):Option (Bool):=
 sel (decide (1<=(((List.length v0):Nat):Int))) (
  some (decide ((((List.length v0):Nat):Int)<=20))) (
  some false)
def a9c (m:Nat) (v0:List UInt8) (v6:Int) (v7:Int):Option ((List UInt8 × Int × Int) ⊕ (Bool)):=
 sel (decide (v7 < v6)) (
  chk (decide ((0:Int)<=v7/\v7 < (((List.length v0):Nat):Int))) <|
  sel (decide (((UInt8.toNat (List.getD v0 (Int.toNat v7) (0:UInt8)):Nat):Int) < 97)) (
   sel (decide (((UInt8.toNat (List.getD v0 (Int.toNat v7) (0:UInt8)):Nat):Int) < 48)) (
    sel (!decide (((UInt8.toNat (List.getD v0 (Int.toNat v7) (0:UInt8)):Nat):Int)=45)) (
     some (.inr false)) (
     some (.inl (v0,v6,(A5 (v7 + 1)))))) (
    sel (decide (57 < ((UInt8.toNat (List.getD v0 (Int.toNat v7) (0:UInt8)):Nat):Int))) (
     sel (!decide (((UInt8.toNat (List.getD v0 (Int.toNat v7) (0:UInt8)):Nat):Int)=45)) (
      some (.inr false)) (
      some (.inl (v0,v6,(A5 (v7 + 1)))))) (
     some (.inl (v0,v6,(A5 (v7 + 1))))))) (
   sel (decide (122 < ((UInt8.toNat (List.getD v0 (Int.toNat v7) (0:UInt8)):Nat):Int))) (
    sel (decide (((UInt8.toNat (List.getD v0 (Int.toNat v7) (0:UInt8)):Nat):Int) < 48)) (
     sel (!decide (((UInt8.toNat (List.getD v0 (Int.toNat v7) (0:UInt8)):Nat):Int)=45)) (
      some (.inr false)) (
      some (.inl (v0,v6,(A5 (v7 + 1)))))) (
     sel (decide (57 < ((UInt8.toNat (List.getD v0 (Int.toNat v7) (0:UInt8)):Nat):Int))) (
      sel (!decide (((UInt8.toNat (List.getD v0 (Int.toNat v7) (0:UInt8)):Nat):Int)=45)) (
       some (.inr false)) (
       some (.inl (v0,v6,(A5 (v7 + 1)))))) (
      some (.inl (v0,v6,(A5 (v7 + 1))))))) (
    some (.inl (v0,v6,(A5 (v7 + 1))))))) (
  Option.map .inr (
   (a9b m) v0))
def a8l (m:Nat) (v0:List UInt8) (v6:Int) (v7:Int):Option (Bool):=
 a1E m (fun v=>(a9c m) v.1 v.2.1 v.2.2) (v0,v6,v7)
def a45 (m:Nat) (a0:List UInt8):Option (Bool):=
 (a8l m) a0 (((List.length a0):Nat):Int) 0
def a9d (_m:Nat) (v4:Int) (v9:List Int) (v10:Int) (v11:Int):Option ((Int × List Int × Int × Int) ⊕ (Int × Bool)):=
 sel (decide (v11 < v10)) (
  chk (decide ((0:Int)<=v11/\v11 < (((List.length v9):Nat):Int))) <|
  (a3q v4 (List.getD v9 (Int.toNat v11) (0:Int))).bind fun r1=>
  sel (!r1.2) (
   some (.inr (0,false))) (
   some (.inl (r1.1,v9,v10,(A5 (v11 + 1)))))) (
  some (.inr (v4,true)))
def a8m (m:Nat) (v4:Int) (v9:List Int) (v10:Int) (v11:Int):Option (Int × Bool):=
 a1E m (fun v=>(a9d m) v.1 v.2.1 v.2.2.1 v.2.2.2) (v4,v9,v10,v11)
def a8n (m:Nat) (a0:List Int):Option (Int × Bool):=
 (a8m m) 0 a0 (((List.length a0):Nat):Int) 0
def a6m (m:Nat) (l0:List Int):Option (Int × Bool):=
 ((a8n m) l0).bind fun r1=>
 some (r1.1,r1.2)
def a6n (m:Nat) (v11:List o7) (v12:Int) (v13:Int) (l0:List Int):Option ((List o7 × Int × Int × List Int) ⊕ (Int × Bool)):=
 sel (decide (v13 < v12)) (
  chk (decide ((0:Int)<=v13/\v13 < (((List.length v11):Nat):Int))) <|
  chk (decide (((List.length l0) + 1) * 8<=LIM/\(List.length l0) + 1<=LEN)) <|
  some (.inl (v11,v12,(A5 (v13 + 1)),(l0 ++ [(List.getD v11 (Int.toNat v13) o9).2.1])))) (
  Option.map .inr (
   (a6m m) l0))
def a5S (m:Nat) (v11:List o7) (v12:Int) (v13:Int) (l0:List Int):Option (Int × Bool):=
 a1E m (fun v=>(a6n m) v.1 v.2.1 v.2.2.1 v.2.2.2) (v11,v12,v13,l0)
def a9e (m:Nat) (a0:o6):Option (Int × Bool):=
 (a5S m) a0.1 (((List.length a0.1):Nat):Int) 0 [a0.2]
def a4l (m:Nat) (b0:o6):Option (Int):=
 ((a9e m) b0).bind fun r1=>
 sel (!r1.2) (
  some 6) (
  some 0)
def Z1 (_m:Nat) (v3:Int) (v12:List o7) (v13:Int) (v14:Int) (v24:Bool) (b0:o6) (b1:o7):Option ((List o7 × Int × Int × o6) ⊕ (Int)):=
 sel v24 (
  some (.inr 8)) (
  sel (decide (0 < v3)) (
   chk (decide ((0:Int)<=(A5 (v3 - 1))/\(A5 (v3 - 1)) < (((List.length b0.1):Nat):Int))) <|
   sel (!(Op.bytesLess (List.getD b0.1 (Int.toNat (A5 (v3 - 1))) o9).1 b1.1 || decide ((List.getD b0.1 (Int.toNat (A5 (v3 - 1))) o9).1=b1.1))) (
    some (.inr 1)) (
    some (.inl (v12,v13,(A5 (v14 + 1)),b0)))) (
   some (.inl (v12,v13,(A5 (v14 + 1)),b0))))
def a4m (m:Nat) (v12:List o7) (v13:Int) (v14:Int) (b0:o6):Option ((List o7 × Int × Int × o6) ⊕ (Int)):=
 sel (decide (v14 < v13)) (
  chk (decide ((0:Int)<=v14/\v14 < (((List.length v12):Nat):Int))) <|
  ((a45 m) (List.getD v12 (Int.toNat v14) o9).1).bind fun r2=>
  sel (!r2) (
   some (.inr 10)) (
   sel (decide (0 < v14)) (
    chk (decide ((0:Int)<=(A5 (v14 - 1))/\(A5 (v14 - 1)) < (((List.length b0.1):Nat):Int))) <|
    (Z1 m) v14 v12 v13 v14 (decide ((List.getD b0.1 (Int.toNat (A5 (v14 - 1))) o9).1=(List.getD v12 (Int.toNat v14) o9).1)) b0 (List.getD v12 (Int.toNat v14) o9)) (
    (Z1 m) v14 v12 v13 v14 false b0 (List.getD v12 (Int.toNat v14) o9)))) (
  Option.map .inr (
   (a4l m) b0))
def a3I (m:Nat) (v12:List o7) (v13:Int) (v14:Int) (b0:o6):Option (Int):=
 a1E m (fun v=>(a4m m) v.1 v.2.1 v.2.2.1 v.2.2.2) (v12,v13,v14,b0)
def a6o (m:Nat) (a0:o6):Option (Int):=
 sel (decide (256 < (((List.length a0.1):Nat):Int))) (
  some 3) (
  (a3I m) a0.1 (((List.length a0.1):Nat):Int) 0 a0)
def a2T (_m:Nat) (v0:List UInt8) (v2:Int) (v5:Int):Option ((List UInt8 × Int × Int) ⊕ (Int × Int × Int)):=
 chk (decide ((0:Int)<=v5/\v5 < (((List.length v0):Nat):Int))) <|
 chk (decide ((0:Int)<=(A5 (7 * v5)))) <|
 chk (decide ((0:Int)<=v5/\v5 < (((List.length v0):Nat):Int))) <|
 sel (decide (((UInt8.toNat (List.getD v0 (Int.toNat v5) (0:UInt8)):Nat):Int) < 128)) (
  some (.inr ((bits .or .u64 v2 (B1 ((B1 (bits .and .u8 ((UInt8.toNat (List.getD v0 (Int.toNat v5) (0:UInt8)):Nat):Int) 127)) * 2 ^ (min (Int.toNat (A5 (7 * v5))) 64)))),(A5 (v5 + 1)),0))) (
  some (.inl (v0,(bits .or .u64 v2 (B1 ((B1 (bits .and .u8 ((UInt8.toNat (List.getD v0 (Int.toNat v5) (0:UInt8)):Nat):Int) 127)) * 2 ^ (min (Int.toNat (A5 (7 * v5))) 64)))),(A5 (v5 + 1)))))
def a2U (m:Nat) (v0:List UInt8) (v2:Int) (v5:Int) (v13:Bool):Option ((List UInt8 × Int × Int) ⊕ (Int × Int × Int)):=
 sel v13 (
  some (.inr (0,0,6))) (
  sel (decide (0 < v5)) (
   chk (decide ((0:Int)<=v5/\v5 < (((List.length v0):Nat):Int))) <|
   sel (decide (((UInt8.toNat (List.getD v0 (Int.toNat v5) (0:UInt8)):Nat):Int)=0)) (
    some (.inr (0,0,4))) (
    (a2T m) v0 v2 v5)) (
   (a2T m) v0 v2 v5))
def a7a (m:Nat) (v0:List UInt8) (v2:Int) (v5:Int):Option ((List UInt8 × Int × Int) ⊕ (Int × Int × Int)):=
 sel (decide ((((List.length v0):Nat):Int)<=v5)) (
  some (.inr (0,0,5))) (
  sel (decide (v5=9)) (
   chk (decide ((0:Int)<=v5/\v5 < (((List.length v0):Nat):Int))) <|
   (a2U m) v0 v2 v5 (decide (1 < ((UInt8.toNat (List.getD v0 (Int.toNat v5) (0:UInt8)):Nat):Int)))) (
   (a2U m) v0 v2 v5 false))
def a6p (m:Nat) (v0:List UInt8) (v2:Int) (v5:Int):Option (Int × Int × Int):=
 a1E m (fun v=>(a7a m) v.1 v.2.1 v.2.2) (v0,v2,v5)
def a5T (m:Nat) (a0:List UInt8):Option (Int × Int × Int):=
 (a6p m) a0 0 0
def a4B (m:Nat) (v0:List UInt8) (v3:Int) (v6:Int) (v7:Int) (_b0:A1):Option (A1 × Int × Int):=
 chk (decide ((0:Int)<=v3/\v3<=(((List.length v0):Nat):Int)/\(((List.length v0):Nat):Int)<=(((List.length v0):Nat):Int))) <|
 ((a5T m) (List.drop (Int.toNat v3) (List.take (Int.toNat (((List.length v0):Nat):Int)) v0))).bind fun r2=>
 sel (!decide (r2.2.2=0)) (
  some (((0:Int),(0:Int),(0:Int),[]),0,r2.2.2)) (
  sel (decide (v6=0)) (
   some (((A5 v7),v6,r2.1,[]),(A5 (v3 + r2.2.1)),0)) (
   chk (decide ((0:Int)<=(A5 (v3 + r2.2.1))/\(A5 (v3 + r2.2.1))<=(((List.length v0):Nat):Int)/\(((List.length v0):Nat):Int)<=(((List.length v0):Nat):Int))) <|
   sel (decide ((B1 (((List.length (List.drop (Int.toNat (A5 (v3 + r2.2.1))) (List.take (Int.toNat (((List.length v0):Nat):Int)) v0))):Nat):Int)) < r2.1)) (
    some (((0:Int),(0:Int),(0:Int),[]),0,5)) (
    chk (decide ((0:Int)<=0/\0<=r2.1/\r2.1<=(((List.length (List.drop (Int.toNat (A5 (v3 + r2.2.1))) (List.take (Int.toNat (((List.length v0):Nat):Int)) v0))):Nat):Int))) <|
    chk (decide ((List.length (List.take (Int.toNat r2.1) (List.drop (Int.toNat (A5 (v3 + r2.2.1))) (List.take (Int.toNat (((List.length v0):Nat):Int)) v0)))) * 1<=LIM/\(List.length (List.take (Int.toNat r2.1) (List.drop (Int.toNat (A5 (v3 + r2.2.1))) (List.take (Int.toNat (((List.length v0):Nat):Int)) v0))))<=LEN)) <|
    some (((A5 v7),v6,(0:Int),(List.take (Int.toNat r2.1) (List.drop (Int.toNat (A5 (v3 + r2.2.1))) (List.take (Int.toNat (((List.length v0):Nat):Int)) v0)))),(A5 ((A5 (v3 + r2.2.1)) + (A5 r2.1))),0))))
def b3u (m:Nat) (a0:List UInt8):Option (A1 × Int × Int):=
 ((a5T m) a0).bind fun r1=>
 sel (!decide (r1.2.2=0)) (
  some (((0:Int),(0:Int),(0:Int),[]),0,r1.2.2)) (
  sel (decide ((r1.1 / 2 ^ 3) < 1)) (
   some (((0:Int),(0:Int),(0:Int),[]),0,4)) (
   sel (decide (536870911 < (r1.1 / 2 ^ 3))) (
    some (((0:Int),(0:Int),(0:Int),[]),0,4)) (
    sel (!decide ((A5 (bits .and .u64 r1.1 7))=0)) (
     sel (!decide ((A5 (bits .and .u64 r1.1 7))=2)) (
      some (((0:Int),(0:Int),(0:Int),[]),0,4)) (
      (a4B m) a0 r1.2.1 (A5 (bits .and .u64 r1.1 7)) (r1.1 / 2 ^ 3) ((0:Int),(0:Int),(0:Int),[]))) (
     (a4B m) a0 r1.2.1 (A5 (bits .and .u64 r1.1 7)) (r1.1 / 2 ^ 3) ((0:Int),(0:Int),(0:Int),[])))))
def a7b (_m:Nat) (l0:List A1):Option (List A1 × Int × Int):=
 some (l0,0,0)
def a7c (m:Nat) (v0:List UInt8) (v3:Int) (l0:List A1):Option ((List UInt8 × Int × List A1) ⊕ (List A1 × Int × Int)):=
 sel (decide (v3 < (((List.length v0):Nat):Int))) (
  sel (decide ((((List.length l0):Nat):Int)=1024)) (
   some (.inr ([],v3,3))) (
   chk (decide ((0:Int)<=v3/\v3<=(((List.length v0):Nat):Int)/\(((List.length v0):Nat):Int)<=(((List.length v0):Nat):Int))) <|
   ((b3u m) (List.drop (Int.toNat v3) (List.take (Int.toNat (((List.length v0):Nat):Int)) v0))).bind fun r1=>
   sel (!decide (r1.2.2=0)) (
    some (.inr ([],v3,r1.2.2))) (
    chk (decide (((List.length l0) + 1) * 48<=LIM/\(List.length l0) + 1<=LEN)) <|
    some (.inl (v0,(A5 (v3 + r1.2.1)),(l0 ++ ([r1.1]:List A1))))))) (
  Option.map .inr (
   (a7b m) l0))
def a6q (m:Nat) (v0:List UInt8) (v3:Int) (l0:List A1):Option (List A1 × Int × Int):=
 a1E m (fun v=>(a7c m) v.1 v.2.1 v.2.2) (v0,v3,l0)
def a5U (m:Nat) (a0:List UInt8):Option (List A1 × Int × Int):=
 (a6q m) a0 0 []
def a7d (_m:Nat) (v16:Int) (v17:Int) (b0:o8) (b1:o8) (l0:List A1):Option ((Int × Int × o8 × o8 × List A1) ⊕ (o8)):=
 sel (decide (v17 < v16)) (
  chk (decide ((0:Int)<=v17/\v17 < (((List.length l0):Nat):Int))) <|
  chk (decide ((Int.toNat v17) < (List.length l0))) <|
  sel (decide ((List.getD l0 (Int.toNat v17) B7).1=1)) (
   some (.inl (v16,(A5 (v17 + 1)),b0,((List.getD l0 (Int.toNat v17) B7).2.2.2,b1.2),l0))) (
   sel (decide ((List.getD l0 (Int.toNat v17) B7).1=2)) (
    some (.inl (v16,(A5 (v17 + 1)),b0,(b1.1,(List.getD l0 (Int.toNat v17) B7).2.2.1),l0))) (
    some (.inl (v16,(A5 (v17 + 1)),b0,b1,l0))))) (
  some (.inr b1))
def a6r (m:Nat) (v16:Int) (v17:Int) (b0:o8) (b1:o8) (l0:List A1):Option (o8):=
 a1E m (fun v=>(a7d m) v.1 v.2.1 v.2.2.1 v.2.2.2.1 v.2.2.2.2) (v16,v17,b0,b1,l0)
def b0q (m:Nat) (a0:List UInt8):Option (o8):=
 ((a5U m) a0).bind fun r1=>
 (a6r m) (((List.length r1.1):Nat):Int) 0 ([],(0:Int)) ([],(0:Int)) r1.1
def b1A (m:Nat) (v6:List A1) (v7:Int) (v8:Int) (b0_0:List UInt8) (b0_1:Int) (b0_2:Int) (b0_3:Int) (b0_4:List UInt8) (b1_0:List UInt8) (b1_1:Int) (b1_2:Int) (b1_3:Int) (b1_4:List UInt8) (l0:List o8):Option ((List A1 × Int × Int × List UInt8 × Int × Int × Int × List UInt8 × List UInt8 × Int × Int × Int × List UInt8 × List o8) ⊕ (A7)):=
 sel (decide (v8 < v7)) (
  chk (decide ((0:Int)<=v8/\v8 < (((List.length v6):Nat):Int))) <|
  sel (decide ((List.getD v6 (Int.toNat v8) B7).1=1)) (
   some (.inl (v6,v7,(A5 (v8 + 1)),b0_0,b0_1,b0_2,b0_3,b0_4,(List.getD v6 (Int.toNat v8) B7).2.2.2,b1_1,b1_2,b1_3,b1_4,l0))) (
   sel (decide ((List.getD v6 (Int.toNat v8) B7).1=2)) (
    some (.inl (v6,v7,(A5 (v8 + 1)),b0_0,b0_1,b0_2,b0_3,b0_4,b1_0,(List.getD v6 (Int.toNat v8) B7).2.2.1,b1_2,b1_3,b1_4,l0))) (
    sel (decide ((List.getD v6 (Int.toNat v8) B7).1=3)) (
     some (.inl (v6,v7,(A5 (v8 + 1)),b0_0,b0_1,b0_2,b0_3,b0_4,b1_0,b1_1,(List.getD v6 (Int.toNat v8) B7).2.2.1,b1_3,b1_4,l0))) (
     sel (decide ((List.getD v6 (Int.toNat v8) B7).1=4)) (
      some (.inl (v6,v7,(A5 (v8 + 1)),b0_0,b0_1,b0_2,b0_3,b0_4,b1_0,b1_1,b1_2,(List.getD v6 (Int.toNat v8) B7).2.2.1,b1_4,l0))) (
      sel (decide ((List.getD v6 (Int.toNat v8) B7).1=5)) (
       some (.inl (v6,v7,(A5 (v8 + 1)),b0_0,b0_1,b0_2,b0_3,b0_4,b1_0,b1_1,b1_2,b1_3,(List.getD v6 (Int.toNat v8) B7).2.2.2,l0))) (
       sel (decide ((List.getD v6 (Int.toNat v8) B7).1=6)) (
        ((b0q m) (List.getD v6 (Int.toNat v8) B7).2.2.2).bind fun r1=>
        chk (decide (((List.length l0) + 1) * 24<=LIM/\(List.length l0) + 1<=LEN)) <|
        some (.inl (v6,v7,(A5 (v8 + 1)),b0_0,b0_1,b0_2,b0_3,b0_4,b1_0,b1_1,b1_2,b1_3,b1_4,(l0 ++ ([r1]:List o8))))) (
        some (.inl (v6,v7,(A5 (v8 + 1)),b0_0,b0_1,b0_2,b0_3,b0_4,b1_0,b1_1,b1_2,b1_3,b1_4,l0))))))))) (
  some (.inr (b1_0,b1_1,b1_2,b1_3,b1_4,l0)))
def b0r (m:Nat) (v6:List A1) (v7:Int) (v8:Int) (b0_0:List UInt8) (b0_1:Int) (b0_2:Int) (b0_3:Int) (b0_4:List UInt8) (b1_0:List UInt8) (b1_1:Int) (b1_2:Int) (b1_3:Int) (b1_4:List UInt8) (l0:List o8):Option (A7):=
 a1E m (fun v=>(b1A m) v.1 v.2.1 v.2.2.1 v.2.2.2.1 v.2.2.2.2.1 v.2.2.2.2.2.1 v.2.2.2.2.2.2.1 v.2.2.2.2.2.2.2.1 v.2.2.2.2.2.2.2.2.1 v.2.2.2.2.2.2.2.2.2.1 v.2.2.2.2.2.2.2.2.2.2.1 v.2.2.2.2.2.2.2.2.2.2.2.1 v.2.2.2.2.2.2.2.2.2.2.2.2.1 v.2.2.2.2.2.2.2.2.2.2.2.2.2) (v6,v7,v8,b0_0,b0_1,b0_2,b0_3,b0_4,b1_0,b1_1,b1_2,b1_3,b1_4,l0)
def b7l (m:Nat) (a0:List A1):Option (A7):=
 (b0r m) a0 (((List.length a0):Nat):Int) 0 [] (0:Int) (0:Int) (0:Int) [] [] (0:Int) (0:Int) (0:Int) [] []
def b1B (_m:Nat) (a0:A1):Option (Bool):=
 sel (decide (a0.1 < 1)) (
  some false) (
  sel (decide (536870911 < a0.1)) (
   some false) (
   sel (decide (a0.2.1=0)) (
    sel (decide ((((List.length a0.2.2.2):Nat):Int)=0)) (
     some true) (
     sel (decide (a0.2.1=2)) (
      some (decide (a0.2.2.1=0))) (
      some false))) (
    sel (decide (a0.2.1=2)) (
     some (decide (a0.2.2.1=0))) (
     some false))))
def b43 (_m:Nat) (a0:A1):Option (Int):=
 some (B1 (A5 ((A5 (8 * a0.1)) + a0.2.1)))
def a5V (_m:Nat) (v1:Int) (l0:List UInt8):Option (List UInt8):=
 chk (decide ((0:Int)<=(wu8 v1)/\(wu8 v1) < 256)) <|
 chk (decide (((List.length l0) + 1) * 1<=LIM/\(List.length l0) + 1<=LEN)) <|
 some (l0 ++ [(UInt8.ofNat (Int.toNat (wu8 v1)))])
def a5W (m:Nat) (v1:Int) (l0:List UInt8):Option ((Int × List UInt8) ⊕ (List UInt8)):=
 sel (decide (128<=v1)) (
  chk (decide ((0:Int)<=(bits .or .u8 (wu8 v1) 128)/\(bits .or .u8 (wu8 v1) 128) < 256)) <|
  chk (decide (((List.length l0) + 1) * 1<=LIM/\(List.length l0) + 1<=LEN)) <|
  some (.inl ((v1 / 2 ^ 7),(l0 ++ [(UInt8.ofNat (Int.toNat (bits .or .u8 (wu8 v1) 128)))])))) (
  Option.map .inr (
   (a5V m) v1 l0))
def a47 (m:Nat) (v1:Int) (l0:List UInt8):Option (List UInt8):=
 a1E m (fun v=>(a5W m) v.1 v.2) (v1,l0)
def a0I (m:Nat) (a0:List UInt8) (a1:Int):Option (List UInt8):=
 chk (decide ((List.length a0) * 1<=LIM/\(List.length a0)<=LEN)) <|
 (a47 m) a1 a0
def a0i (m:Nat) (a0:List UInt8) (a1:A1):Option (List UInt8 × Int):=
 ((b1B m) a1).bind fun r1=>
 sel (!r1) (
  some ([],1)) (
  ((b43 m) a1).bind fun r2=>
  ((a0I m) a0 r2).bind fun r3=>
  sel (decide (a1.2.1=0)) (
   ((a0I m) r3 a1.2.2.1).bind fun r4=>
   some (r4,0)) (
   ((a0I m) r3 (B1 (((List.length a1.2.2.2):Nat):Int))).bind fun r5=>
   chk (decide (((List.length r5) + (List.length a1.2.2.2)) * 1<=LIM/\(List.length r5) + (List.length a1.2.2.2)<=LEN)) <|
   some ((r5 ++ a1.2.2.2),0)))
def K4 (m:Nat) (a0:List UInt8) (a1:Int) (a2:List UInt8):Option (List UInt8):=
 sel (decide (a2=[])) (
  some a0) (
  chk (decide ((List.length a2)<=maxLen)) <|
  ((a0i m) [] (a1,2,(0:Int),a2)).bind fun r1=>
  chk (decide (((List.length a0) + (List.length r1.1)) * 1<=LIM/\(List.length a0) + (List.length r1.1)<=LEN)) <|
  some (a0 ++ r1.1))
def H6 (m:Nat) (a0:List UInt8) (a1:Int) (a2:Int):Option (List UInt8):=
 sel (decide (a2=0)) (
  some a0) (
  ((a0i m) [] (a1,0,a2,[])).bind fun r1=>
  chk (decide (((List.length a0) + (List.length r1.1)) * 1<=LIM/\(List.length a0) + (List.length r1.1)<=LEN)) <|
  some (a0 ++ r1.1))
def a2h (m:Nat) (a0:List UInt8) (a1:Int) (a2:List UInt8):Option (List UInt8):=
 ((a0i m) [] (a1,2,(0:Int),a2)).bind fun r1=>
 chk (decide (((List.length a0) + (List.length r1.1)) * 1<=LIM/\(List.length a0) + (List.length r1.1)<=LEN)) <|
 some (a0 ++ r1.1)
def a8o (m:Nat) (v28:List o8) (v29:Int) (v30:Int) (l0:List UInt8):Option ((List o8 × Int × Int × List UInt8) ⊕ (List UInt8)):=
 sel (decide (v30 < v29)) (
  chk (decide ((0:Int)<=v30/\v30 < (((List.length v28):Nat):Int))) <|
  ((K4 m) [] 1 (List.getD v28 (Int.toNat v30) B0).1).bind fun r6=>
  ((H6 m) r6 2 (List.getD v28 (Int.toNat v30) B0).2).bind fun r7=>
  ((a2h m) l0 6 r7).bind fun r8=>
  some (.inl (v28,v29,(A5 (v30 + 1)),r8))) (
  some (.inr l0))
def a7e (m:Nat) (v28:List o8) (v29:Int) (v30:Int) (l0:List UInt8):Option (List UInt8):=
 a1E m (fun v=>(a8o m) v.1 v.2.1 v.2.2.1 v.2.2.2) (v28,v29,v30,l0)
def b1C (m:Nat) (a0:A7):Option (List UInt8):=
 ((K4 m) [] 1 a0.1).bind fun r1=>
 ((H6 m) r1 2 a0.2.1).bind fun r2=>
 ((H6 m) r2 3 a0.2.2.1).bind fun r3=>
 ((H6 m) r3 4 a0.2.2.2.1).bind fun r4=>
 ((K4 m) r4 5 a0.2.2.2.2.1).bind fun r5=>
 (a7e m) a0.2.2.2.2.2 (((List.length a0.2.2.2.2.2):Nat):Int) 0 r5
def b0s (_m:Nat) (a0:List UInt8) (a1:List UInt8):Option (Bool):=
 some (decide (a0=a1))
def a9f (_m:Nat) (v0:List UInt8) (v3:Int) (l0:List (List UInt8 × Int)):Option ((List UInt8 × Int × List (List UInt8 × Int)) ⊕ (Bool)):=
 chk (Nat.beq (List.length l0) 1) <|
 sel (decide (Int.toNat (I8 l0).2 < List.length (I8 l0).1)) (
  chk ((decide (Int.toNat (I8 l0).2 < List.length (I8 l0).1))) <|
  chk ((decide (Int.toNat (I8 l0).2 < List.length (I8 l0).1))) <|
  chk (decide ((0:Int)<=(I8 l0).2/\(I8 l0).2<=(((List.length v0):Nat):Int)/\(((List.length v0):Nat):Int)<=(((List.length v0):Nat):Int))) <|
  (H0 (List.drop (Int.toNat (I8 l0).2) (List.take (Int.toNat (((List.length v0):Nat):Int)) v0))).bind fun r1=>
  sel (decide ((c2u (I8 l0).1 (I8 l0).2)=65533)) (
   sel (decide (r1.2=1)) (
    some (.inr false)) (
    some (.inl (v0,(A5 (v3 + 1)),[((I8 l0).1,(b6N (I8 l0).1 (I8 l0).2))])))) (
   some (.inl (v0,(A5 (v3 + 1)),[((I8 l0).1,(b6N (I8 l0).1 (I8 l0).2))])))) (
  some (.inr (decide (v3<=64))))
def a8p (m:Nat) (v0:List UInt8) (v3:Int) (l0:List (List UInt8 × Int)):Option (Bool):=
 a1E m (fun v=>(a9f m) v.1 v.2.1 v.2.2) (v0,v3,l0)
def b3v (m:Nat) (a0:List UInt8):Option (Bool):=
 (a8p m) a0 0 [(a0,(0:Int))]
def a7f (m:Nat) (v31:List o8) (v32:Int) (v33:Int):Option ((List o8 × Int × Int) ⊕ (Int)):=
 sel (decide (v33 < v32)) (
  chk (decide ((0:Int)<=v33/\v33 < (((List.length v31):Nat):Int))) <|
  ((a45 m) (List.getD v31 (Int.toNat v33) B0).1).bind fun r3=>
  sel (!r3) (
   some (.inr 10)) (
   sel (decide ((List.getD v31 (Int.toNat v33) B0).2=0)) (
    some (.inr 12)) (
    some (.inl (v31,v32,(A5 (v33 + 1))))))) (
  some (.inr 0))
def a6s (m:Nat) (v31:List o8) (v32:Int) (v33:Int):Option (Int):=
 a1E m (fun v=>(a7f m) v.1 v.2.1 v.2.2) (v31,v32,v33)
def b0t (m:Nat) (a0:A7):Option (Int):=
 ((a45 m) a0.1).bind fun r1=>
 sel (!r1) (
  some 10) (
  sel (decide (a0.2.2.1=0)) (
   some 15) (
   ((b3v m) a0.2.2.2.2.1).bind fun r2=>
   sel (!r2) (
    some 11) (
    sel (decide ((((List.length a0.2.2.2.2.2):Nat):Int)=0)) (
     some 3) (
     sel (decide (16 < (((List.length a0.2.2.2.2.2):Nat):Int))) (
      some 3) (
      (a6s m) a0.2.2.2.2.2 (((List.length a0.2.2.2.2.2):Nat):Int) 0)))))
def b3w (m:Nat) (a0:List UInt8):Option (A7 × Int):=
 sel (decide (4096 < (((List.length a0):Nat):Int))) (
  some (([],(0:Int),(0:Int),(0:Int),[],[]),3)) (
  ((a5U m) a0).bind fun r1=>
  ((b7l m) r1.1).bind fun r2=>
  sel (!decide (r1.2.2=0)) (
   some (([],(0:Int),(0:Int),(0:Int),[],[]),4)) (
   ((b1C m) r2).bind fun r3=>
   ((b0s m) r3 a0).bind fun r4=>
   sel (!r4) (
    some (([],(0:Int),(0:Int),(0:Int),[],[]),4)) (
    ((b0t m) r2).bind fun r5=>
    sel (!decide (r5=0)) (
     some (([],(0:Int),(0:Int),(0:Int),[],[]),r5)) (
     some (r2,0)))))
def a1q (_m:Nat) (a0:List UInt8):Option (Bool):=
 some (!decide (a0=a0))
def a4n (m:Nat) (a0:List UInt8) (a1:List UInt8):Option (Int):=
 ((a1q m) a0).bind fun r1=>
 ((a1q m) a1).bind fun r2=>
 sel r1 (
  sel r2 (
   some 0) (
   some (-1))) (
  sel r2 (
   some 1) (
   sel (Op.bytesLess a0 a1) (
    some (-1)) (
    sel (!(Op.bytesLess a0 a1 || decide (a0=a1))) (
     some 1) (
     some 0))))
def a3J (m:Nat) (a0:o7) (a1:List UInt8):Option (Int):=
 ((a4n m) a0.1 a1).bind fun r1=>
 some r1
def D0 (m:Nat) (v0:List o7) (v1:List UInt8) (v8:Int) (v9:Int):Option (Int × Bool):=
 sel (decide (v9 < v8)) (
  chk (decide ((0:Int)<=v9/\v9 < (((List.length v0):Nat):Int))) <|
  ((a3J m) (List.getD v0 (Int.toNat v9) o9) v1).bind fun r1=>
  some (v9,(decide (r1=0)))) (
  some (v9,false))
def D1 (m:Nat) (v0:List o7) (v1:List UInt8) (v8:Int) (v9:Int) (v10:Int):Option ((List o7 × List UInt8 × Int × Int × Int) ⊕ (Int × Bool)):=
 sel (decide (v9 < v10)) (
  chk (decide ((0:Int)<=(A5 ((B1 (A5 (v9 + v10))) / 2 ^ 1))/\(A5 ((B1 (A5 (v9 + v10))) / 2 ^ 1)) < (((List.length v0):Nat):Int))) <|
  ((a3J m) (List.getD v0 (Int.toNat (A5 ((B1 (A5 (v9 + v10))) / 2 ^ 1))) o9) v1).bind fun r2=>
  sel (decide (r2 < 0)) (
   some (.inl (v0,v1,v8,(A5 ((A5 ((B1 (A5 (v9 + v10))) / 2 ^ 1)) + 1)),v10))) (
   some (.inl (v0,v1,v8,v9,(A5 ((B1 (A5 (v9 + v10))) / 2 ^ 1)))))) (
  Option.map .inr (
   (D0 m) v0 v1 v8 v9))
def C7 (m:Nat) (v0:List o7) (v1:List UInt8) (v8:Int) (v9:Int) (v10:Int):Option (Int × Bool):=
 a1E m (fun v=>(D1 m) v.1 v.2.1 v.2.2.1 v.2.2.2.1 v.2.2.2.2) (v0,v1,v8,v9,v10)
def D6 (m:Nat) (a0:List o7) (a1:List UInt8):Option (Int × Bool):=
 (C7 m) a0 a1 (((List.length a0):Nat):Int) 0 (((List.length a0):Nat):Int)
def a0j (m:Nat) (a0:o6) (a1:List UInt8):Option (Int × Bool):=
 ((D6 m) a0.1 a1).bind fun r1=>
 some (r1.1,r1.2)
def a5X (_m:Nat) (a0:Int):Option (Int):=
 some (B1 (min (max a0 0) 1073741824))
def b44 (m:Nat) (a0:Int) (a1:Int):Option (Int):=
 ((a5X m) a0).bind fun r1=>
 ((a5X m) a1).bind fun r2=>
 some (B1 ((B1 (50 + (B1 (1 * r1)))) + (B1 (20 * r2))))
def a2i (_m:Nat) (a0:Int) (a1:Int):Option (Int × Int):=
 some ((B1 ((B1 ((B1 ((a0 / 2 ^ 32) * (a1 / 2 ^ 32))) + ((B1 ((B1 ((a0 / 2 ^ 32) * (bits .and .u64 a1 4294967295))) + ((B1 ((bits .and .u64 a0 4294967295) * (bits .and .u64 a1 4294967295))) / 2 ^ 32))) / 2 ^ 32))) + ((B1 ((bits .and .u64 (B1 ((B1 ((a0 / 2 ^ 32) * (bits .and .u64 a1 4294967295))) + ((B1 ((bits .and .u64 a0 4294967295) * (bits .and .u64 a1 4294967295))) / 2 ^ 32))) 4294967295) + (B1 ((bits .and .u64 a0 4294967295) * (a1 / 2 ^ 32))))) / 2 ^ 32))),(B1 (a0 * a1)))
def b1D (_m:Nat) (a0:Int) (a1:Bool):Option (Int × Bool):=
 sel (!a1) (
  some (0,false)) (
  some (a0,true))
def b3x (m:Nat) (a0:Int) (a1:Int):Option (Int × Bool):=
 ((a2i m) a0 a1).bind fun r1=>
 ((b1D m) r1.2 (decide (r1.1=0))).bind fun r2=>
 some (r2.1,r2.2)
def b45 (m:Nat) (a0:Int) (a1:Int):Option (Int × Bool):=
 ((b3x m) a0 a1).bind fun r1=>
 some (r1.1,r1.2)
def a8q (m:Nat) (l0:List Int):Option (Int × Bool):=
 ((a8n m) l0).bind fun r1=>
 some (r1.1,r1.2)
def a8r (m:Nat) (v11:List o8) (v12:Int) (v13:Int) (l0:List Int):Option ((List o8 × Int × Int × List Int) ⊕ (Int × Bool)):=
 sel (decide (v13 < v12)) (
  chk (decide ((0:Int)<=v13/\v13 < (((List.length v11):Nat):Int))) <|
  chk (decide (((List.length l0) + 1) * 8<=LIM/\(List.length l0) + 1<=LEN)) <|
  some (.inl (v11,v12,(A5 (v13 + 1)),(l0 ++ [(List.getD v11 (Int.toNat v13) B0).2])))) (
  Option.map .inr (
   (a8q m) l0))
def a7g (m:Nat) (v11:List o8) (v12:Int) (v13:Int) (l0:List Int):Option (Int × Bool):=
 a1E m (fun v=>(a8r m) v.1 v.2.1 v.2.2.1 v.2.2.2) (v11,v12,v13,l0)
def a6W (m:Nat) (a0:A7):Option (Int × Bool):=
 (a7g m) a0.2.2.2.2.2 (((List.length a0.2.2.2.2.2):Nat):Int) 0 [a0.2.2.2.1]
def a7h (m:Nat) (v12:List o8) (v13:Int) (v14:Int) (b0:o6) (l0:List (List UInt8 × Vector UInt8 0)):Option ((List o8 × Int × Int × o6 × List (List UInt8 × Vector UInt8 0)) ⊕ (Int)):=
 sel (decide (v14 < v13)) (
  chk (decide ((0:Int)<=v14/\v14 < (((List.length v12):Nat):Int))) <|
  ((a0j m) b0 (List.getD v12 (Int.toNat v14) B0).1).bind fun r1=>
  sel (!r1.2) (
   some (.inl (v12,v13,(A5 (v14 + 1)),b0,(c6f b5K (List.getD v12 (Int.toNat v14) B0).1 (Vector.replicate 0 (0:UInt8)) l0)))) (
   some (.inl (v12,v13,(A5 (v14 + 1)),b0,l0)))) (
  some (.inr (((List.length l0):Nat):Int)))
def a6t (m:Nat) (v12:List o8) (v13:Int) (v14:Int) (b0:o6) (l0:List (List UInt8 × Vector UInt8 0)):Option (Int):=
 a1E m (fun v=>(a7h m) v.1 v.2.1 v.2.2.1 v.2.2.2.1 v.2.2.2.2) (v12,v13,v14,b0,l0)
def b0u (m:Nat) (a0:o6) (a1:A7):Option (Int):=
 (a6t m) a1.2.2.2.2.2 (((List.length a1.2.2.2.2.2):Nat):Int) 0 a0 []
def b0v (m:Nat) (a0:o6) (a1:Int) (a2:A7) (a3:Int):Option (Int):=
 ((a0j m) a0 a2.1).bind fun r1=>
 sel (!r1.2) (
  some 13) (
  chk (decide ((0:Int)<=r1.1/\r1.1 < (((List.length a0.1):Nat):Int))) <|
  sel (!decide ((List.getD a0.1 (Int.toNat r1.1) o9).2.2=a2.2.1)) (
   some 14) (
   sel (decide ((List.getD a0.1 (Int.toNat r1.1) o9).2.2=18446744073709551615)) (
    some 6) (
    ((b44 m) a3 (((List.length a2.2.2.2.2.2):Nat):Int)).bind fun r2=>
    sel (decide (a2.2.2.1 < r2)) (
     some 15) (
     ((b45 m) a2.2.2.1 a1).bind fun r3=>
     sel (!r3.2) (
      some 6) (
      sel (decide (a2.2.2.2.1 < r3.1)) (
       some 16) (
       ((a6W m) a2).bind fun r4=>
       sel (!r4.2) (
        some 6) (
        sel (decide ((List.getD a0.1 (Int.toNat r1.1) o9).2.1 < r4.1)) (
         some 17) (
         ((b0u m) a0 a2).bind fun r5=>
         sel (decide (256 < (A5 ((((List.length a0.1):Nat):Int) + r5)))) (
          some 3) (
          some 0)))))))))
def Z2 (_m:Nat) (v0:Int) (v2:Int):Option (Int):=
 chk (decide ((0:Int)<=(wu8 v0)/\(wu8 v0) < 256)) <|
 some (A5 (v2 + (A5 ((UInt8.toNat (List.getD ([0,1,2,2,3,3,3,3,4,4,4,4,4,4,4,4,5,5,5,5,5,5,5,5,5,5,5,5,5,5,5,5,6,6,6,6,6,6,6,6,6,6,6,6,6,6,6,6,6,6,6,6,6,6,6,6,6,6,6,6,6,6,6,6,7,7,7,7,7,7,7,7,7,7,7,7,7,7,7,7,7,7,7,7,7,7,7,7,7,7,7,7,7,7,7,7,7,7,7,7,7,7,7,7,7,7,7,7,7,7,7,7,7,7,7,7,7,7,7,7,7,7,7,7,7,7,7,7,8,8,8,8,8,8,8,8,8,8,8,8,8,8,8,8,8,8,8,8,8,8,8,8,8,8,8,8,8,8,8,8,8,8,8,8,8,8,8,8,8,8,8,8,8,8,8,8,8,8,8,8,8,8,8,8,8,8,8,8,8,8,8,8,8,8,8,8,8,8,8,8,8,8,8,8,8,8,8,8,8,8,8,8,8,8,8,8,8,8,8,8,8,8,8,8,8,8,8,8,8,8,8,8,8,8,8,8,8,8,8,8,8,8,8,8,8,8,8,8,8,8,8,8,8,8,8,8]:List UInt8) (Int.toNat (wu8 v0)) (0:UInt8)):Nat):Int))))
def Z3 (m:Nat) (v0:Int) (v2:Int):Option (Int):=
 sel (decide (256<=v0)) (
  (Z2 m) (v0 / 2 ^ 8) (A5 (v2 + 8))) (
  (Z2 m) v0 v2)
def Z4 (m:Nat) (v0:Int) (v2:Int):Option (Int):=
 sel (decide (65536<=v0)) (
  (Z3 m) (v0 / 2 ^ 16) (A5 (v2 + 16))) (
  (Z3 m) v0 v2)
def a30 (m:Nat) (a0:Int):Option (Int):=
 sel (decide (4294967296<=a0)) (
  (Z4 m) (a0 / 2 ^ 32) 32) (
  (Z4 m) a0 0)
def a07 (m:Nat) (a0:Int):Option (Int):=
 ((a30 m) a0).bind fun r1=>
 some (A5 (64 - r1))
def Z5 (_m:Nat) (v2:Int) (v8:Int) (v14:Int) (v15:Int) (v17:Int) (v18:Int):Option (Int × Int):=
 chk (decide ((0:Int)<=v8)) <|
 some ((B1 ((B1 (v15 * 4294967296)) + v18)),((B1 ((B1 ((B1 (v17 * 4294967296)) + v14)) - (B1 (v18 * v2)))) / 2 ^ (min (Int.toNat v8) 64)))
def Z6 (m:Nat) (v2:Int) (v8:Int) (v9:Int) (v10:Int) (v14:Int) (v15:Int) (v16:Int) (v17:Int) (v18:Int):Option ((Int × Int × Int × Int × Int × Int × Int × Int × Int) ⊕ (Int × Int)):=
 sel (decide (4294967296<=(B1 (v16 + v9)))) (
  Option.map .inr (
   (Z5 m) v2 v8 v14 v15 v17 (B1 (v18 - 1)))) (
  some (.inl (v2,v8,v9,v10,v14,v15,(B1 (v16 + v9)),v17,(B1 (v18 - 1)))))
def a4o (m:Nat) (v2:Int) (v8:Int) (v9:Int) (v10:Int) (v14:Int) (v15:Int) (v16:Int) (v17:Int) (v18:Int):Option ((Int × Int × Int × Int × Int × Int × Int × Int × Int) ⊕ (Int × Int)):=
 sel (decide (4294967296<=v18)) (
  (Z6 m) v2 v8 v9 v10 v14 v15 v16 v17 v18) (
  sel (decide ((B1 ((B1 (4294967296 * v16)) + v14)) < (B1 (v18 * v10)))) (
   (Z6 m) v2 v8 v9 v10 v14 v15 v16 v17 v18) (
   Option.map .inr (
    (Z5 m) v2 v8 v14 v15 v17 v18)))
def a3K (m:Nat) (v2:Int) (v8:Int) (v9:Int) (v10:Int) (v14:Int) (v15:Int) (v16:Int) (v17:Int) (v18:Int):Option (Int × Int):=
 a1E m (fun v=>(a4o m) v.1 v.2.1 v.2.2.1 v.2.2.2.1 v.2.2.2.2.1 v.2.2.2.2.2.1 v.2.2.2.2.2.2.1 v.2.2.2.2.2.2.2.1 v.2.2.2.2.2.2.2.2) (v2,v8,v9,v10,v14,v15,v16,v17,v18)
def Z7 (m:Nat) (v2:Int) (v8:Int) (v9:Int) (v10:Int) (v11:Int) (v13:Int) (v14:Int) (v15:Int):Option (Int × Int):=
 chk (!decide (v9=0)) <|
 (a3K m) v2 v8 v9 v10 v14 v15 (B1 ((B1 ((B1 ((B1 (v11 * 4294967296)) + v13)) - (B1 (v15 * v2)))) - (B1 ((B1 (Int.tdiv (B1 ((B1 ((B1 (v11 * 4294967296)) + v13)) - (B1 (v15 * v2)))) v9)) * v9)))) (B1 ((B1 ((B1 (v11 * 4294967296)) + v13)) - (B1 (v15 * v2)))) (B1 (Int.tdiv (B1 ((B1 ((B1 (v11 * 4294967296)) + v13)) - (B1 (v15 * v2)))) v9))
def Z8 (m:Nat) (v2:Int) (v8:Int) (v9:Int) (v10:Int) (v11:Int) (v13:Int) (v14:Int) (v15:Int) (v16:Int):Option ((Int × Int × Int × Int × Int × Int × Int × Int × Int) ⊕ (Int × Int)):=
 sel (decide (4294967296<=(B1 (v16 + v9)))) (
  Option.map .inr (
   (Z7 m) v2 v8 v9 v10 v11 v13 v14 (B1 (v15 - 1)))) (
  some (.inl (v2,v8,v9,v10,v11,v13,v14,(B1 (v15 - 1)),(B1 (v16 + v9)))))
def a4p (m:Nat) (v2:Int) (v8:Int) (v9:Int) (v10:Int) (v11:Int) (v13:Int) (v14:Int) (v15:Int) (v16:Int):Option ((Int × Int × Int × Int × Int × Int × Int × Int × Int) ⊕ (Int × Int)):=
 sel (decide (4294967296<=v15)) (
  (Z8 m) v2 v8 v9 v10 v11 v13 v14 v15 v16) (
  sel (decide ((B1 ((B1 (4294967296 * v16)) + v13)) < (B1 (v15 * v10)))) (
   (Z8 m) v2 v8 v9 v10 v11 v13 v14 v15 v16) (
   Option.map .inr (
    (Z7 m) v2 v8 v9 v10 v11 v13 v14 v15)))
def a3L (m:Nat) (v2:Int) (v8:Int) (v9:Int) (v10:Int) (v11:Int) (v13:Int) (v14:Int) (v15:Int) (v16:Int):Option (Int × Int):=
 a1E m (fun v=>(a4p m) v.1 v.2.1 v.2.2.1 v.2.2.2.1 v.2.2.2.2.1 v.2.2.2.2.2.1 v.2.2.2.2.2.2.1 v.2.2.2.2.2.2.2.1 v.2.2.2.2.2.2.2.2) (v2,v8,v9,v10,v11,v13,v14,v15,v16)
def a6u (m:Nat) (a0:Int) (a1:Int) (a2:Int):Option (Int × Int):=
 sel (decide (a2=0)) (
  none) (
  sel (decide (a2<=a0)) (
   none) (
   sel (decide (a0=0)) (
    chk (!decide (a2=0)) <|
    chk (!decide (a2=0)) <|
    some ((B1 (Int.tdiv a1 a2)),(Int.tmod a1 a2))) (
    ((a07 m) a2).bind fun r1=>
    chk (decide ((0:Int)<=(B1 r1))) <|
    chk (decide ((0:Int)<=(B1 r1))) <|
    chk (decide ((0:Int)<=(B1 (64 - (B1 r1))))) <|
    chk (decide ((0:Int)<=(B1 r1))) <|
    chk (!decide (((B1 (a2 * 2 ^ (min (Int.toNat (B1 r1)) 64))) / 2 ^ 32)=0)) <|
    (a3L m) (B1 (a2 * 2 ^ (min (Int.toNat (B1 r1)) 64))) (B1 r1) ((B1 (a2 * 2 ^ (min (Int.toNat (B1 r1)) 64))) / 2 ^ 32) (bits .and .u64 (B1 (a2 * 2 ^ (min (Int.toNat (B1 r1)) 64))) 4294967295) (bits .or .u64 (B1 (a0 * 2 ^ (min (Int.toNat (B1 r1)) 64))) (a1 / 2 ^ (min (Int.toNat (B1 (64 - (B1 r1)))) 64))) ((B1 (a1 * 2 ^ (min (Int.toNat (B1 r1)) 64))) / 2 ^ 32) (bits .and .u64 (B1 (a1 * 2 ^ (min (Int.toNat (B1 r1)) 64))) 4294967295) (B1 (Int.tdiv (bits .or .u64 (B1 (a0 * 2 ^ (min (Int.toNat (B1 r1)) 64))) (a1 / 2 ^ (min (Int.toNat (B1 (64 - (B1 r1)))) 64))) ((B1 (a2 * 2 ^ (min (Int.toNat (B1 r1)) 64))) / 2 ^ 32))) (B1 ((bits .or .u64 (B1 (a0 * 2 ^ (min (Int.toNat (B1 r1)) 64))) (a1 / 2 ^ (min (Int.toNat (B1 (64 - (B1 r1)))) 64))) - (B1 ((B1 (Int.tdiv (bits .or .u64 (B1 (a0 * 2 ^ (min (Int.toNat (B1 r1)) 64))) (a1 / 2 ^ (min (Int.toNat (B1 (64 - (B1 r1)))) 64))) ((B1 (a2 * 2 ^ (min (Int.toNat (B1 r1)) 64))) / 2 ^ 32))) * ((B1 (a2 * 2 ^ (min (Int.toNat (B1 r1)) 64))) / 2 ^ 32))))))))
def a9g (m:Nat) (a0:Int) (a1:Int) (a2:Int):Option (Int × Bool):=
 ((a2i m) a0 a1).bind fun r1=>
 sel (decide (a2<=r1.1)) (
  some (0,false)) (
  ((a6u m) r1.1 r1.2 a2).bind fun r2=>
  some (r2.1,true))
def a9h (m:Nat) (a0:Int) (a1:Int):Option (Int):=
 sel (decide (a1=0)) (
  some 0) (
  ((a9g m) 1000 a0 a1).bind fun r1=>
  sel (!r1.2) (
   some 18446744073709551615) (
   some r1.1))
def M3 (_m:Nat) (a0:List o7) (a1:Int) (a2:List o7):Option (List o7):=d3c a0 a1 a2
def a7i (_m:Nat) (b0_1:Int) (b1:A7) (_b2_1:Int) (l0:List o7):Option (List o7 × Int):=
 some (l0,(B1 (b0_1 + b1.2.2.2.1)))
def a2V (_m:Nat) (v11:Int) (v45:List o8) (v46:Int) (v47:Int) (b0_1:Int) (b1:A7) (b2_1:Int) (b3:o8) (l0:List o7):Option ((List o8 × Int × Int × Int × A7 × Int × List o7) ⊕ (List o7 × Int)):=
 chk (decide ((0:Int)<=v11/\v11 < (((List.length l0):Nat):Int))) <|
 chk (decide ((Int.toNat v11) < (List.length l0))) <|
 chk (decide ((0:Int)<=v11/\v11 < (((List.length l0):Nat):Int))) <|
 chk (decide ((Int.toNat v11) < (List.length l0))) <|
 some (.inl (v45,v46,(A5 (v47 + 1)),b0_1,b1,b2_1,(List.set l0 (Int.toNat v11) ((List.getD l0 (Int.toNat v11) o9).1,(B1 ((List.getD l0 (Int.toNat v11) o9).2.1 + b3.2)),(List.getD l0 (Int.toNat v11) o9).2.2))))
def a7j (m:Nat) (v45:List o8) (v46:Int) (v47:Int) (b0_1:Int) (b1:A7) (b2_1:Int) (l0:List o7):Option ((List o8 × Int × Int × Int × A7 × Int × List o7) ⊕ (List o7 × Int)):=
 sel (decide (v47 < v46)) (
  chk (decide ((0:Int)<=v47/\v47 < (((List.length v45):Nat):Int))) <|
  ((a0j m) (l0,b0_1) (List.getD v45 (Int.toNat v47) B0).1).bind fun r3=>
  sel (!r3.2) (
   ((M3 m) l0 r3.1 [((List.getD v45 (Int.toNat v47) B0).1,(0:Int),(0:Int))]).bind fun r4=>
   (a2V m) r3.1 v45 v46 v47 b0_1 b1 b2_1 (List.getD v45 (Int.toNat v47) B0) r4) (
   (a2V m) r3.1 v45 v46 v47 b0_1 b1 b2_1 (List.getD v45 (Int.toNat v47) B0) l0)) (
  Option.map .inr (
   (a7i m) b0_1 b1 b2_1 l0))
def a6v (m:Nat) (v45:List o8) (v46:Int) (v47:Int) (b0_1:Int) (b1:A7) (b2_1:Int) (l0:List o7):Option (List o7 × Int):=
 a1E m (fun v=>(a7j m) v.1 v.2.1 v.2.2.1 v.2.2.2.1 v.2.2.2.2.1 v.2.2.2.2.2.1 v.2.2.2.2.2.2) (v45,v46,v47,b0_1,b1,b2_1,l0)
def b0w (m:Nat) (a0_0:List o7) (a0_1:Int) (a1:A7):Option (List o7 × Int):=
 ((a6W m) a1).bind fun r1=>
 ((a0j m) (a0_0,a0_1) a1.1).bind fun r2=>
 chk (decide ((0:Int)<=r2.1/\r2.1 < (((List.length a0_0):Nat):Int))) <|
 chk (decide ((Int.toNat r2.1) < (List.length a0_0))) <|
 chk (decide ((0:Int)<=r2.1/\r2.1 < (((List.length a0_0):Nat):Int))) <|
 chk (decide ((Int.toNat r2.1) < (List.length a0_0))) <|
 chk (decide ((0:Int)<=r2.1/\r2.1 < (((List.length (List.set a0_0 (Int.toNat r2.1) ((List.getD a0_0 (Int.toNat r2.1) o9).1,(B1 ((List.getD a0_0 (Int.toNat r2.1) o9).2.1 - r1.1)),(List.getD a0_0 (Int.toNat r2.1) o9).2.2))):Nat):Int))) <|
 chk (decide ((Int.toNat r2.1) < (List.length (List.set a0_0 (Int.toNat r2.1) ((List.getD a0_0 (Int.toNat r2.1) o9).1,(B1 ((List.getD a0_0 (Int.toNat r2.1) o9).2.1 - r1.1)),(List.getD a0_0 (Int.toNat r2.1) o9).2.2))))) <|
 chk (decide ((0:Int)<=r2.1/\r2.1 < (((List.length (List.set a0_0 (Int.toNat r2.1) ((List.getD a0_0 (Int.toNat r2.1) o9).1,(B1 ((List.getD a0_0 (Int.toNat r2.1) o9).2.1 - r1.1)),(List.getD a0_0 (Int.toNat r2.1) o9).2.2))):Nat):Int))) <|
 chk (decide ((Int.toNat r2.1) < (List.length (List.set a0_0 (Int.toNat r2.1) ((List.getD a0_0 (Int.toNat r2.1) o9).1,(B1 ((List.getD a0_0 (Int.toNat r2.1) o9).2.1 - r1.1)),(List.getD a0_0 (Int.toNat r2.1) o9).2.2))))) <|
 (a6v m) a1.2.2.2.2.2 (((List.length a1.2.2.2.2.2):Nat):Int) 0 a0_1 a1 (0:Int) (List.set (List.set a0_0 (Int.toNat r2.1) ((List.getD a0_0 (Int.toNat r2.1) o9).1,(B1 ((List.getD a0_0 (Int.toNat r2.1) o9).2.1 - r1.1)),(List.getD a0_0 (Int.toNat r2.1) o9).2.2)) (Int.toNat r2.1) ((List.getD (List.set a0_0 (Int.toNat r2.1) ((List.getD a0_0 (Int.toNat r2.1) o9).1,(B1 ((List.getD a0_0 (Int.toNat r2.1) o9).2.1 - r1.1)),(List.getD a0_0 (Int.toNat r2.1) o9).2.2)) (Int.toNat r2.1) o9).1,(List.getD (List.set a0_0 (Int.toNat r2.1) ((List.getD a0_0 (Int.toNat r2.1) o9).1,(B1 ((List.getD a0_0 (Int.toNat r2.1) o9).2.1 - r1.1)),(List.getD a0_0 (Int.toNat r2.1) o9).2.2)) (Int.toNat r2.1) o9).2.1,(B1 ((List.getD (List.set a0_0 (Int.toNat r2.1) ((List.getD a0_0 (Int.toNat r2.1) o9).1,(B1 ((List.getD a0_0 (Int.toNat r2.1) o9).2.1 - r1.1)),(List.getD a0_0 (Int.toNat r2.1) o9).2.2)) (Int.toNat r2.1) o9).2.2 + 1))))
def a9V (m:Nat) (a0:o6) (a1:Int) (a2:List UInt8):Option (o6 × A6):=
 ((b1z m) a0).bind fun r1=>
 ((a6o m) a0).bind fun r2=>
 sel (!decide (r2=0)) (
  some (r1,(1,[],(0:Int),(0:Int),(0:Int)))) (
  ((b3w m) a2).bind fun r3=>
  sel (!decide (r3.2=0)) (
   some (r1,(r3.2,[],(0:Int),(0:Int),(0:Int)))) (
   ((b0v m) a0 a1 r3.1 (((List.length a2):Nat):Int)).bind fun r4=>
   ((a9h m) r3.1.2.2.2.1 r3.1.2.2.1).bind fun r5=>
   sel (decide (r4=0)) (
    ((b0w m) r1.1 r1.2 r3.1).bind fun r6=>
    some (r6,(r4,r3.1.1,r3.1.2.1,r3.1.2.2.1,r5))) (
    some (r1,(r4,r3.1.1,r3.1.2.1,r3.1.2.2.1,r5)))))
def b93 (_m:Nat) (b0:o6) (_b1:o6) (l0:List A6):Option (o6 × List A6):=
 some (b0,l0)
def b94 (m:Nat) (v1:Int) (v15:List (List UInt8)) (v16:Int) (v17:Int) (b0:o6) (b1:o6) (l0:List A6):Option ((Int × List (List UInt8) × Int × Int × o6 × o6 × List A6) ⊕ (o6 × List A6)):=
 sel (decide (v17 < v16)) (
  chk (decide ((0:Int)<=v17/\v17 < (((List.length v15):Nat):Int))) <|
  ((a9V m) b0 v1 (List.getD v15 (Int.toNat v17) [])).bind fun r2=>
  chk (decide (((List.length l0) + 1) * 48<=LIM/\(List.length l0) + 1<=LEN)) <|
  some (.inl (v1,v15,v16,(A5 (v17 + 1)),r2.1,b1,(l0 ++ ([r2.2]:List A6))))) (
  Option.map .inr (
   (b93 m) b0 b1 l0))
def b7W (m:Nat) (v1:Int) (v15:List (List UInt8)) (v16:Int) (v17:Int) (b0:o6) (b1:o6) (l0:List A6):Option (o6 × List A6):=
 a1E m (fun v=>(b94 m) v.1 v.2.1 v.2.2.1 v.2.2.2.1 v.2.2.2.2.1 v.2.2.2.2.2.1 v.2.2.2.2.2.2) (v1,v15,v16,v17,b0,b1,l0)
def c58 (m:Nat) (a0:o6) (a1:Int) (a2:List (List UInt8)):Option (o6 × List A6):=
 ((b0J m) a0).bind fun r1=>
 (b7W m) a1 a2 (((List.length a2):Nat):Int) 0 r1 ([],(0:Int)) []
def b5R (_m:Nat) (b0:o6):Option (o6 × Int × Int):=
 some (b0,0,0)
def b5S (m:Nat) (v1:Int) (v14:List (List UInt8)) (v15:Int) (v16:Int) (b0:o6):Option ((Int × List (List UInt8) × Int × Int × o6) ⊕ (o6 × Int × Int)):=
 sel (decide (v16 < v15)) (
  chk (decide ((0:Int)<=v16/\v16 < (((List.length v14):Nat):Int))) <|
  ((a9V m) b0 v1 (List.getD v14 (Int.toNat v16) [])).bind fun r2=>
  sel (!decide (r2.2.1=0)) (
   some (.inr (([],(0:Int)),v16,r2.2.1))) (
   some (.inl (v1,v14,v15,(A5 (v16 + 1)),r2.1)))) (
  Option.map .inr (
   (b5R m) b0))
def b47 (m:Nat) (v1:Int) (v14:List (List UInt8)) (v15:Int) (v16:Int) (b0:o6):Option (o6 × Int × Int):=
 a1E m (fun v=>(b5S m) v.1 v.2.1 v.2.2.1 v.2.2.2.1 v.2.2.2.2) (v1,v14,v15,v16,b0)
def b95 (m:Nat) (a0:o6) (a1:Int) (a2:List (List UInt8)):Option (o6 × Int × Int):=
 ((b0J m) a0).bind fun r1=>
 (b47 m) a1 a2 (((List.length a2):Nat):Int) 0 r1
def c3f (_m:Nat):Option (Vector Int 8):=
 some (Vector.push (Vector.push (Vector.push (Vector.push (Vector.push (Vector.push (Vector.push (Vector.push #v[] 1779033703) 3144134277) 1013904242) 2773480762) 1359893119) 2600822924) 528734635) 1541459225)
def b7t (m:Nat):Option (A9):=
 ((c3f m)).bind fun r1=>
 some (r1,[],(0:Int))
def a9X (_m:Nat) (a0:Int) (a1:Int):Option (Int):=
 chk (decide ((0:Int)<=(bits .and .u64 (B1 a1) 31))) <|
 chk (decide ((0:Int)<=(B1 (32 - (bits .and .u64 (B1 a1) 31))))) <|
 some (bits .or .u32 (T6 (a0 * 2 ^ (min (Int.toNat (bits .and .u64 (B1 a1) 31)) 32))) (a0 / 2 ^ (min (Int.toNat (B1 (32 - (bits .and .u64 (B1 a1) 31)))) 32)))
def a1C (m:Nat) (a0:Int) (a1:Int):Option (Int):=
 ((a9X m) a0 (d2K .i64 a1)).bind fun r1=>
 some r1
def b48 (m:Nat) (v5:Int) (b0:Vector Int 64) (b1:Vector Int 64):Option ((Int × Vector Int 64 × Vector Int 64) ⊕ (Vector Int 64)):=
 sel (decide (v5 < 64)) (
  chk (decide ((0:Int)<=(A5 (v5 - 15))/\(A5 (v5 - 15)) < 64)) <|
  chk (decide ((Int.toNat (A5 (v5 - 15))) < 64)) <|
  chk (decide ((0:Int)<=(A5 (v5 - 2))/\(A5 (v5 - 2)) < 64)) <|
  chk (decide ((Int.toNat (A5 (v5 - 2))) < 64)) <|
  ((a1C m) (E8 b1 (Int.toNat (A5 (v5 - 15))) (0:Int)) 7).bind fun r1=>
  ((a1C m) (E8 b1 (Int.toNat (A5 (v5 - 15))) (0:Int)) 18).bind fun r2=>
  ((a1C m) (E8 b1 (Int.toNat (A5 (v5 - 2))) (0:Int)) 17).bind fun r3=>
  ((a1C m) (E8 b1 (Int.toNat (A5 (v5 - 2))) (0:Int)) 19).bind fun r4=>
  chk (decide ((0:Int)<=(A5 (v5 - 7))/\(A5 (v5 - 7)) < 64)) <|
  chk (decide ((Int.toNat (A5 (v5 - 7))) < 64)) <|
  chk (decide ((0:Int)<=(A5 (v5 - 16))/\(A5 (v5 - 16)) < 64)) <|
  chk (decide ((Int.toNat (A5 (v5 - 16))) < 64)) <|
  chk (decide ((0:Int)<=v5/\v5 < 64)) <|
  chk (decide ((Int.toNat v5) < 64)) <|
  some (.inl ((A5 (v5 + 1)),b0,(b5m b1 (Int.toNat v5) (T6 ((T6 ((T6 ((bits .xor .u32 (bits .xor .u32 r3 r4) ((E8 b1 (Int.toNat (A5 (v5 - 2))) (0:Int)) / 2 ^ 10)) + (E8 b1 (Int.toNat (A5 (v5 - 7))) (0:Int)))) + (bits .xor .u32 (bits .xor .u32 r1 r2) ((E8 b1 (Int.toNat (A5 (v5 - 15))) (0:Int)) / 2 ^ 3)))) + (E8 b1 (Int.toNat (A5 (v5 - 16))) (0:Int)))))))) (
  some (.inr b1))
def b4A (m:Nat) (v5:Int) (b0:Vector Int 64) (b1:Vector Int 64):Option (Vector Int 64):=
 a1E m (fun v=>(b48 m) v.1 v.2.1 v.2.2) (v5,b0,b1)
def b49 (m:Nat) (b0:Vector Int 64) (b1:Vector Int 64):Option (Vector Int 64):=
 (b4A m) 16 b0 b1
def b5a (m:Nat) (v0:List UInt8) (v10:Int) (b0:Vector Int 64) (b1:Vector Int 64):Option ((List UInt8 × Int × Vector Int 64 × Vector Int 64) ⊕ (Vector Int 64)):=
 sel (decide (v10 < 16)) (
  chk (decide ((0:Int)<=(A5 (4 * v10))/\(A5 (4 * v10)) < (((List.length v0):Nat):Int))) <|
  chk (decide ((0:Int)<=(A5 ((A5 (4 * v10)) + 1))/\(A5 ((A5 (4 * v10)) + 1)) < (((List.length v0):Nat):Int))) <|
  chk (decide ((0:Int)<=(A5 ((A5 (4 * v10)) + 2))/\(A5 ((A5 (4 * v10)) + 2)) < (((List.length v0):Nat):Int))) <|
  chk (decide ((0:Int)<=(A5 ((A5 (4 * v10)) + 3))/\(A5 ((A5 (4 * v10)) + 3)) < (((List.length v0):Nat):Int))) <|
  chk (decide ((0:Int)<=v10/\v10 < 64)) <|
  chk (decide ((Int.toNat v10) < 64)) <|
  some (.inl (v0,(A5 (v10 + 1)),b0,(b5m b1 (Int.toNat v10) (bits .or .u32 (bits .or .u32 (bits .or .u32 (T6 ((T6 ((UInt8.toNat (List.getD v0 (Int.toNat (A5 (4 * v10))) (0:UInt8)):Nat):Int)) * 2 ^ 24)) (T6 ((T6 ((UInt8.toNat (List.getD v0 (Int.toNat (A5 ((A5 (4 * v10)) + 1))) (0:UInt8)):Nat):Int)) * 2 ^ 16))) (T6 ((T6 ((UInt8.toNat (List.getD v0 (Int.toNat (A5 ((A5 (4 * v10)) + 2))) (0:UInt8)):Nat):Int)) * 2 ^ 8))) (T6 ((UInt8.toNat (List.getD v0 (Int.toNat (A5 ((A5 (4 * v10)) + 3))) (0:UInt8)):Nat):Int))))))) (
  Option.map .inr (
   (b49 m) b0 b1))
def b4B (m:Nat) (v0:List UInt8) (v10:Int) (b0:Vector Int 64) (b1:Vector Int 64):Option (Vector Int 64):=
 a1E m (fun v=>(b5a m) v.1 v.2.1 v.2.2.1 v.2.2.2) (v0,v10,b0,b1)
def b7X (m:Nat) (a0:List UInt8):Option (Vector Int 64):=
 (b4B m) a0 0 (Vector.replicate 64 (0:Int)) (Vector.replicate 64 (0:Int))
def c1G (_m:Nat):Option (Vector Int 64):=
 some (Vector.push (Vector.push (Vector.push (Vector.push (Vector.push (Vector.push (Vector.push (Vector.push (Vector.push (Vector.push (Vector.push (Vector.push (Vector.push (Vector.push (Vector.push (Vector.push (Vector.push (Vector.push (Vector.push (Vector.push (Vector.push (Vector.push (Vector.push (Vector.push (Vector.push (Vector.push (Vector.push (Vector.push (Vector.push (Vector.push (Vector.push (Vector.push (Vector.push (Vector.push (Vector.push (Vector.push (Vector.push (Vector.push (Vector.push (Vector.push (Vector.push (Vector.push (Vector.push (Vector.push (Vector.push (Vector.push (Vector.push (Vector.push (Vector.push (Vector.push (Vector.push (Vector.push (Vector.push (Vector.push (Vector.push (Vector.push (Vector.push (Vector.push (Vector.push (Vector.push (Vector.push (Vector.push (Vector.push (Vector.push #v[] 1116352408) 1899447441) 3049323471) 3921009573) 961987163) 1508970993) 2453635748) 2870763221) 3624381080) 310598401) 607225278) 1426881987) 1925078388) 2162078206) 2614888103) 3248222580) 3835390401) 4022224774) 264347078) 604807628) 770255983) 1249150122) 1555081692) 1996064986) 2554220882) 2821834349) 2952996808) 3210313671) 3336571891) 3584528711) 113926993) 338241895) 666307205) 773529912) 1294757372) 1396182291) 1695183700) 1986661051) 2177026350) 2456956037) 2730485921) 2820302411) 3259730800) 3345764771) 3516065817) 3600352804) 4094571909) 275423344) 430227734) 506948616) 659060556) 883997877) 958139571) 1322822218) 1537002063) 1747873779) 1955562222) 2024104815) 2227730452) 2361852424) 2428436474) 2756734187) 3204031479) 3329325298)
def b2n (_m:Nat) (v106:Int) (b0:Vector Int 8) (b1:Vector Int 8) (b2:Vector Int 8):Option ((Int × Vector Int 8 × Vector Int 8 × Vector Int 8) ⊕ (Vector Int 8)):=
 sel (decide (v106 < 8)) (
  chk (decide ((0:Int)<=v106/\v106 < 8)) <|
  chk (decide ((Int.toNat v106) < 8)) <|
  chk (decide ((0:Int)<=v106/\v106 < 8)) <|
  chk (decide ((Int.toNat v106) < 8)) <|
  chk (decide ((0:Int)<=v106/\v106 < 8)) <|
  chk (decide ((Int.toNat v106) < 8)) <|
  some (.inl ((A5 (v106 + 1)),(b5m b0 (Int.toNat v106) (T6 ((E8 b0 (Int.toNat v106) (0:Int)) + (E8 b2 (Int.toNat v106) (0:Int))))),b1,b2))) (
  some (.inr b0))
def b1E (m:Nat) (v106:Int) (b0:Vector Int 8) (b1:Vector Int 8) (b2:Vector Int 8):Option (Vector Int 8):=
 a1E m (fun v=>(b2n m) v.1 v.2.1 v.2.2.1 v.2.2.2) (v106,b0,b1,b2)
def b2o (m:Nat) (b0:Vector Int 8) (b1:Vector Int 8) (b2:Vector Int 8):Option (Vector Int 8):=
 (b1E m) 0 b0 b1 b2
def b2p (m:Nat) (v21:Int) (b0:Vector Int 8) (b1:Vector Int 8) (b2:Vector Int 64) (b3:Vector Int 64) (b4:Vector Int 8):Option ((Int × Vector Int 8 × Vector Int 8 × Vector Int 64 × Vector Int 64 × Vector Int 8) ⊕ (Vector Int 8)):=
 sel (decide (v21 < 64)) (
  ((a1C m) (E8 b4 4 (0:Int)) 6).bind fun r3=>
  ((a1C m) (E8 b4 4 (0:Int)) 11).bind fun r4=>
  ((a1C m) (E8 b4 4 (0:Int)) 25).bind fun r5=>
  chk (decide ((0:Int)<=v21/\v21 < 64)) <|
  chk (decide ((Int.toNat v21) < 64)) <|
  chk (decide ((0:Int)<=v21/\v21 < 64)) <|
  chk (decide ((Int.toNat v21) < 64)) <|
  ((a1C m) (E8 b4 0 (0:Int)) 2).bind fun r6=>
  ((a1C m) (E8 b4 0 (0:Int)) 13).bind fun r7=>
  ((a1C m) (E8 b4 0 (0:Int)) 22).bind fun r8=>
  some (.inl ((A5 (v21 + 1)),b0,b1,b2,b3,(Vector.push (Vector.push (Vector.push (Vector.push (Vector.push (Vector.push (Vector.push (Vector.push #v[] (T6 ((T6 ((T6 ((T6 ((T6 ((T6 ((E8 b4 7 (0:Int)) + (bits .xor .u32 (bits .xor .u32 r3 r4) r5))) + (bits .xor .u32 (bits .and .u32 (E8 b4 4 (0:Int)) (E8 b4 5 (0:Int))) (bits .and .u32 (notI .u32 (E8 b4 4 (0:Int))) (E8 b4 6 (0:Int)))))) + (E8 b3 (Int.toNat v21) (0:Int)))) + (E8 b2 (Int.toNat v21) (0:Int)))) + (bits .xor .u32 (bits .xor .u32 r6 r7) r8))) + (bits .xor .u32 (bits .xor .u32 (bits .and .u32 (E8 b4 0 (0:Int)) (E8 b4 1 (0:Int))) (bits .and .u32 (E8 b4 0 (0:Int)) (E8 b4 2 (0:Int)))) (bits .and .u32 (E8 b4 1 (0:Int)) (E8 b4 2 (0:Int))))))) (E8 b4 0 (0:Int))) (E8 b4 1 (0:Int))) (E8 b4 2 (0:Int))) (T6 ((E8 b4 3 (0:Int)) + (T6 ((T6 ((T6 ((T6 ((E8 b4 7 (0:Int)) + (bits .xor .u32 (bits .xor .u32 r3 r4) r5))) + (bits .xor .u32 (bits .and .u32 (E8 b4 4 (0:Int)) (E8 b4 5 (0:Int))) (bits .and .u32 (notI .u32 (E8 b4 4 (0:Int))) (E8 b4 6 (0:Int)))))) + (E8 b3 (Int.toNat v21) (0:Int)))) + (E8 b2 (Int.toNat v21) (0:Int))))))) (E8 b4 4 (0:Int))) (E8 b4 5 (0:Int))) (E8 b4 6 (0:Int)))))) (
  Option.map .inr (
   (b2o m) b0 b1 b4))
def b1F (m:Nat) (v21:Int) (b0:Vector Int 8) (b1:Vector Int 8) (b2:Vector Int 64) (b3:Vector Int 64) (b4:Vector Int 8):Option (Vector Int 8):=
 a1E m (fun v=>(b2p m) v.1 v.2.1 v.2.2.1 v.2.2.2.1 v.2.2.2.2.1 v.2.2.2.2.2) (v21,b0,b1,b2,b3,b4)
def a9Y (m:Nat) (a0:Vector Int 8) (a1:List UInt8):Option (Vector Int 8):=
 ((b7X m) a1).bind fun r1=>
 ((c1G m)).bind fun r2=>
 (b1F m) 0 a0 (Vector.replicate 8 (0:Int)) r1 r2 a0
def b1G (_m:Nat) (v4:List UInt8) (b0:A9):Option (A9):=
 chk (decide ((List.length v4) * 1<=LIM/\(List.length v4)<=LEN)) <|
 some (b0.1,v4,b0.2.2)
def b1H (m:Nat) (v4:List UInt8) (b0:A9):Option ((List UInt8 × A9) ⊕ (A9)):=
 sel (decide (64<=(((List.length v4):Nat):Int))) (
  chk (decide ((0:Int)<=0/\(0:Int)<=64/\64<=(((List.length v4):Nat):Int))) <|
  ((a9Y m) b0.1 (List.take 64 v4)).bind fun r1=>
  chk (decide ((0:Int)<=64/\64<=(((List.length v4):Nat):Int)/\(((List.length v4):Nat):Int)<=(((List.length v4):Nat):Int))) <|
  some (.inl ((List.drop 64 (List.take (Int.toNat (((List.length v4):Nat):Int)) v4)),(r1,b0.2)))) (
  Option.map .inr (
   (b1G m) v4 b0))
def b0S (m:Nat) (v4:List UInt8) (b0:A9):Option (A9):=
 a1E m (fun v=>(b1H m) v.1 v.2) (v4,b0)
def X0 (m:Nat) (a0:A9) (a1:List UInt8):Option (A9):=
 chk (decide ((List.length a0.2.1) * 1<=LIM/\(List.length a0.2.1)<=LEN)) <|
 chk (decide (((List.length a0.2.1) + (List.length a1)) * 1<=LIM/\(List.length a0.2.1) + (List.length a1)<=LEN)) <|
 (b0S m) (a0.2.1 ++ a1) (a0.1,a0.2.1,(A5 (a0.2.2 + (((List.length a1):Nat):Int))))
def b3z (_m:Nat) (v57:Vector Int 8) (v58:Int) (b0:Vector UInt8 32) (b1:Vector UInt8 32) (b2:A9):Option ((Vector Int 8 × Int × Vector UInt8 32 × Vector UInt8 32 × A9) ⊕ (A9 × Vector UInt8 32)):=
 sel (decide (v58 < 8)) (
  chk (decide ((0:Int)<=v58/\v58 < 8)) <|
  chk (decide ((0:Int)<=(A5 (4 * v58))/\(A5 (4 * v58)) < 32)) <|
  chk (decide ((Int.toNat (A5 (4 * v58))) < 32)) <|
  chk (decide ((0:Int)<=(wu8 ((E8 v57 (Int.toNat v58) (0:Int)) / 2 ^ 24))/\(wu8 ((E8 v57 (Int.toNat v58) (0:Int)) / 2 ^ 24)) < 256)) <|
  chk (decide ((0:Int)<=(A5 ((A5 (4 * v58)) + 1))/\(A5 ((A5 (4 * v58)) + 1)) < 32)) <|
  chk (decide ((Int.toNat (A5 ((A5 (4 * v58)) + 1))) < 32)) <|
  chk (decide ((0:Int)<=(wu8 ((E8 v57 (Int.toNat v58) (0:Int)) / 2 ^ 16))/\(wu8 ((E8 v57 (Int.toNat v58) (0:Int)) / 2 ^ 16)) < 256)) <|
  chk (decide ((0:Int)<=(A5 ((A5 (4 * v58)) + 2))/\(A5 ((A5 (4 * v58)) + 2)) < 32)) <|
  chk (decide ((Int.toNat (A5 ((A5 (4 * v58)) + 2))) < 32)) <|
  chk (decide ((0:Int)<=(wu8 ((E8 v57 (Int.toNat v58) (0:Int)) / 2 ^ 8))/\(wu8 ((E8 v57 (Int.toNat v58) (0:Int)) / 2 ^ 8)) < 256)) <|
  chk (decide ((0:Int)<=(A5 ((A5 (4 * v58)) + 3))/\(A5 ((A5 (4 * v58)) + 3)) < 32)) <|
  chk (decide ((Int.toNat (A5 ((A5 (4 * v58)) + 3))) < 32)) <|
  chk (decide ((0:Int)<=(wu8 (E8 v57 (Int.toNat v58) (0:Int)))/\(wu8 (E8 v57 (Int.toNat v58) (0:Int))) < 256)) <|
  some (.inl (v57,(A5 (v58 + 1)),b0,(b5m (b5m (b5m (b5m b1 (Int.toNat (A5 (4 * v58))) (UInt8.ofNat (Int.toNat (wu8 ((E8 v57 (Int.toNat v58) (0:Int)) / 2 ^ 24))))) (Int.toNat (A5 ((A5 (4 * v58)) + 1))) (UInt8.ofNat (Int.toNat (wu8 ((E8 v57 (Int.toNat v58) (0:Int)) / 2 ^ 16))))) (Int.toNat (A5 ((A5 (4 * v58)) + 2))) (UInt8.ofNat (Int.toNat (wu8 ((E8 v57 (Int.toNat v58) (0:Int)) / 2 ^ 8))))) (Int.toNat (A5 ((A5 (4 * v58)) + 3))) (UInt8.ofNat (Int.toNat (wu8 (E8 v57 (Int.toNat v58) (0:Int)))))),b2))) (
  some (.inr (b2,b1)))
def b2q (m:Nat) (v57:Vector Int 8) (v58:Int) (b0:Vector UInt8 32) (b1:Vector UInt8 32) (b2:A9):Option (A9 × Vector UInt8 32):=
 a1E m (fun v=>(b3z m) v.1 v.2.1 v.2.2.1 v.2.2.2.1 v.2.2.2.2) (v57,v58,b0,b1,b2)
def b3A (m:Nat) (b0:Vector UInt8 32) (b1:Vector UInt8 32) (b2:Vector Int 8) (b3:A9):Option (A9 × Vector UInt8 32):=
 (b2q m) b2 0 b0 b1 b3
def b3B (m:Nat) (v4:List UInt8) (b0:Vector UInt8 32) (b1:Vector UInt8 32) (b2:Vector Int 8) (b3:A9):Option ((List UInt8 × Vector UInt8 32 × Vector UInt8 32 × Vector Int 8 × A9) ⊕ (A9 × Vector UInt8 32)):=
 sel (decide (0 < (((List.length v4):Nat):Int))) (
  chk (decide ((0:Int)<=0/\(0:Int)<=64/\64<=(((List.length v4):Nat):Int))) <|
  ((a9Y m) b2 (List.take 64 v4)).bind fun r1=>
  chk (decide ((0:Int)<=64/\64<=(((List.length v4):Nat):Int)/\(((List.length v4):Nat):Int)<=(((List.length v4):Nat):Int))) <|
  some (.inl ((List.drop 64 (List.take (Int.toNat (((List.length v4):Nat):Int)) v4)),b0,b1,r1,b3))) (
  Option.map .inr (
   (b3A m) b0 b1 b2 b3))
def b2r (m:Nat) (v4:List UInt8) (b0:Vector UInt8 32) (b1:Vector UInt8 32) (b2:Vector Int 8) (b3:A9):Option (A9 × Vector UInt8 32):=
 a1E m (fun v=>(b3B m) v.1 v.2.1 v.2.2.1 v.2.2.2.1 v.2.2.2.2) (v4,b0,b1,b2,b3)
def b3C (m:Nat) (b0:A9) (b1:Vector UInt8 32) (b2:Vector UInt8 32) (l0:List UInt8):Option (A9 × Vector UInt8 32):=
 (b2r m) l0 b1 b2 b0.1 b0
def b3D (m:Nat) (v5:Int) (v6:Int) (b0:A9) (b1:Vector UInt8 32) (b2:Vector UInt8 32) (l0:List UInt8):Option ((Int × Int × A9 × Vector UInt8 32 × Vector UInt8 32 × List UInt8) ⊕ (A9 × Vector UInt8 32)):=
 sel (decide (0<=v6)) (
  chk (decide ((0:Int)<=v6)) <|
  chk (decide ((0:Int)<=(wu8 (v5 / 2 ^ (min (Int.toNat v6) 64)))/\(wu8 (v5 / 2 ^ (min (Int.toNat v6) 64))) < 256)) <|
  chk (decide (((List.length l0) + 1) * 1<=LIM/\(List.length l0) + 1<=LEN)) <|
  some (.inl (v5,(A5 (v6 - 8)),b0,b1,b2,(l0 ++ [(UInt8.ofNat (Int.toNat (wu8 (v5 / 2 ^ (min (Int.toNat v6) 64)))))])))) (
  Option.map .inr (
   (b3C m) b0 b1 b2 l0))
def b2s (m:Nat) (v5:Int) (v6:Int) (b0:A9) (b1:Vector UInt8 32) (b2:Vector UInt8 32) (l0:List UInt8):Option (A9 × Vector UInt8 32):=
 a1E m (fun v=>(b3D m) v.1 v.2.1 v.2.2.1 v.2.2.2.1 v.2.2.2.2.1 v.2.2.2.2.2) (v5,v6,b0,b1,b2,l0)
def b3E (m:Nat) (b0:A9) (b1:Vector UInt8 32) (b2:Vector UInt8 32) (l0:List UInt8):Option (A9 × Vector UInt8 32):=
 (b2s m) (B1 ((B1 b0.2.2) * 8)) 56 b0 b1 b2 l0
def b3F (m:Nat) (b0:A9) (b1:Vector UInt8 32) (b2:Vector UInt8 32) (l0:List UInt8):Option ((A9 × Vector UInt8 32 × Vector UInt8 32 × List UInt8) ⊕ (A9 × Vector UInt8 32)):=
 sel (!decide ((Int.tmod (((List.length l0):Nat):Int) 64)=56)) (
  chk (decide (((List.length l0) + 1) * 1<=LIM/\(List.length l0) + 1<=LEN)) <|
  some (.inl (b0,b1,b2,(l0 ++ [(0:UInt8)])))) (
  Option.map .inr (
   (b3E m) b0 b1 b2 l0))
def b2t (m:Nat) (b0:A9) (b1:Vector UInt8 32) (b2:Vector UInt8 32) (l0:List UInt8):Option (A9 × Vector UInt8 32):=
 a1E m (fun v=>(b3F m) v.1 v.2.1 v.2.2.1 v.2.2.2) (b0,b1,b2,l0)
def a7l (m:Nat) (a0:A9):Option (A9 × Vector UInt8 32):=
 chk (decide ((List.length a0.2.1) * 1<=LIM/\(List.length a0.2.1)<=LEN)) <|
 chk (decide (((List.length a0.2.1) + 1) * 1<=LIM/\(List.length a0.2.1) + 1<=LEN)) <|
 (b2t m) a0 (Vector.replicate 32 (0:UInt8)) (Vector.replicate 32 (0:UInt8)) (a0.2.1 ++ [(128:UInt8)])
def c89 (m:Nat) (a0:List UInt8):Option (Vector UInt8 32):=
 ((b7t m)).bind fun r1=>
 ((X0 m) r1 a0).bind fun r2=>
 ((a7l m) r2).bind fun r3=>
 some r3.2
def b96 (m:Nat) (a0:List UInt8):Option (Vector UInt8 32):=
 ((b7t m)).bind fun r1=>
 ((X0 m) r1 [(0:UInt8)]).bind fun r2=>
 ((X0 m) r2 a0).bind fun r3=>
 ((a7l m) r3).bind fun r4=>
 some r4.2
def b7u (m:Nat) (a0:Int):Option (Int):=
 ((a30 m) a0).bind fun r1=>
 some r1
def b97 (m:Nat) (a0:Int):Option (Int):=
 ((b7u m) (B1 (A5 (a0 - 1)))).bind fun r1=>
 chk (decide ((0:Int)<=(A5 (r1 - 1)))) <|
 some (A5 (1 * 2 ^ (min (Int.toNat (A5 (r1 - 1))) 64)))
def b7Y (m:Nat) (a0:Vector UInt8 32) (a1:Vector UInt8 32):Option (Vector UInt8 32):=
 ((b7t m)).bind fun r1=>
 ((X0 m) r1 [(1:UInt8)]).bind fun r2=>
 ((X0 m) r2 (Vector.toList a0)).bind fun r3=>
 ((X0 m) r3 (Vector.toList a1)).bind fun r4=>
 ((a7l m) r4).bind fun r5=>
 some r5.2
noncomputable def b4C (m:Nat) (rec:List (List UInt8)->Option (Vector UInt8 32)) (a0:List (List UInt8)):Option (Vector UInt8 32):=
 sel (decide ((((List.length a0):Nat):Int)=0)) (
  ((c89 m) []).bind fun r1=>
  some r1) (
  sel (decide ((((List.length a0):Nat):Int)=1)) (
   chk (decide ((0:Int)<=0/\0 < (((List.length a0):Nat):Int))) <|
   ((b96 m) (List.getD a0 0 [])).bind fun r2=>
   some r2) (
   ((b97 m) (((List.length a0):Nat):Int)).bind fun r3=>
   chk (decide ((0:Int)<=0/\0<=r3/\r3<=(((List.length a0):Nat):Int))) <|
   (rec (List.take (Int.toNat r3) a0)).bind fun r4=>
   chk (decide ((0:Int)<=r3/\r3<=(((List.length a0):Nat):Int)/\(((List.length a0):Nat):Int)<=(((List.length a0):Nat):Int))) <|
   (rec (List.drop (Int.toNat r3) (List.take (Int.toNat (((List.length a0):Nat):Int)) a0))).bind fun r5=>
   ((b7Y m) r4 r5).bind fun r6=>
   some r6))
noncomputable def b98 (m:Nat) (n:Nat):List (List UInt8)->Option (Vector UInt8 32):=Nat.rec (motive:=fun _=>List (List UInt8)->Option (Vector UInt8 32)) (fun _=>none) (fun _ ih=>(b4C m) ih) n
noncomputable def b5T (m:Nat) (v8:List A6) (v9:Int) (v10:Int) (b0:Vector UInt8 32) (l0:List (List UInt8)):Option ((List A6 × Int × Int × Vector UInt8 32 × List (List UInt8)) ⊕ (Vector UInt8 32)):=
 sel (decide (v10 < v9)) (
  chk (decide ((0:Int)<=v10/\v10 < (((List.length v8):Nat):Int))) <|
  ((a0i m) [] (1,(0:Int),(B1 (List.getD v8 (Int.toNat v10) F7).1),[])).bind fun r1=>
  ((a0i m) r1.1 (2,(0:Int),(List.getD v8 (Int.toNat v10) F7).2.2.2.1,[])).bind fun r2=>
  chk (decide (((List.length l0) + 1) * 24<=LIM/\(List.length l0) + 1<=LEN)) <|
  some (.inl (v8,v9,(A5 (v10 + 1)),b0,(l0 ++ [r2.1])))) (
  Option.map .inr (
   ((b98 m) m l0).bind fun r3=>
   some r3))
noncomputable def b5b (m:Nat) (v8:List A6) (v9:Int) (v10:Int) (b0:Vector UInt8 32) (l0:List (List UInt8)):Option (Vector UInt8 32):=
 a1E m (fun v=>(b5T m) v.1 v.2.1 v.2.2.1 v.2.2.2.1 v.2.2.2.2) (v8,v9,v10,b0,l0)
noncomputable def b99 (m:Nat) (a0:List A6):Option (Vector UInt8 32):=
 (b5b m) a0 (((List.length a0):Nat):Int) 0 (Vector.replicate 32 (0:UInt8)) []
def J8 (_m:Nat) (a0:Int) (a1:Int):Option (Int):=
 chk (decide ((0:Int)<=a1)) <|
 chk (decide ((0:Int)<=(A5 (32 - a1)))) <|
 some (bits .or .u32 (a0 / 2 ^ (min (Int.toNat a1) 32)) (T6 (a0 * 2 ^ (min (Int.toNat (A5 (32 - a1))) 32))))
def b0x (_m:Nat):Option (Vector Int 64):=
 some (Vector.push (Vector.push (Vector.push (Vector.push (Vector.push (Vector.push (Vector.push (Vector.push (Vector.push (Vector.push (Vector.push (Vector.push (Vector.push (Vector.push (Vector.push (Vector.push (Vector.push (Vector.push (Vector.push (Vector.push (Vector.push (Vector.push (Vector.push (Vector.push (Vector.push (Vector.push (Vector.push (Vector.push (Vector.push (Vector.push (Vector.push (Vector.push (Vector.push (Vector.push (Vector.push (Vector.push (Vector.push (Vector.push (Vector.push (Vector.push (Vector.push (Vector.push (Vector.push (Vector.push (Vector.push (Vector.push (Vector.push (Vector.push (Vector.push (Vector.push (Vector.push (Vector.push (Vector.push (Vector.push (Vector.push (Vector.push (Vector.push (Vector.push (Vector.push (Vector.push (Vector.push (Vector.push (Vector.push (Vector.push #v[] 1116352408) 1899447441) 3049323471) 3921009573) 961987163) 1508970993) 2453635748) 2870763221) 3624381080) 310598401) 607225278) 1426881987) 1925078388) 2162078206) 2614888103) 3248222580) 3835390401) 4022224774) 264347078) 604807628) 770255983) 1249150122) 1555081692) 1996064986) 2554220882) 2821834349) 2952996808) 3210313671) 3336571891) 3584528711) 113926993) 338241895) 666307205) 773529912) 1294757372) 1396182291) 1695183700) 1986661051) 2177026350) 2456956037) 2730485921) 2820302411) 3259730800) 3345764771) 3516065817) 3600352804) 4094571909) 275423344) 430227734) 506948616) 659060556) 883997877) 958139571) 1322822218) 1537002063) 1747873779) 1955562222) 2024104815) 2227730452) 2361852424) 2428436474) 2756734187) 3204031479) 3329325298)
def b0T (_m:Nat) (v180:Int) (b0:Vector Int 8) (b1:Vector Int 8) (b2:Vector Int 8):Option ((Int × Vector Int 8 × Vector Int 8 × Vector Int 8) ⊕ (Vector Int 8)):=
 sel (decide (v180 < 8)) (
  chk (decide ((0:Int)<=v180/\v180 < 8)) <|
  chk (decide ((Int.toNat v180) < 8)) <|
  chk (decide ((0:Int)<=v180/\v180 < 8)) <|
  chk (decide ((Int.toNat v180) < 8)) <|
  chk (decide ((0:Int)<=v180/\v180 < 8)) <|
  chk (decide ((Int.toNat v180) < 8)) <|
  some (.inl ((A5 (v180 + 1)),(b5m b0 (Int.toNat v180) (T6 ((E8 b0 (Int.toNat v180) (0:Int)) + (E8 b2 (Int.toNat v180) (0:Int))))),b1,b2))) (
  some (.inr b0))
def b0y (m:Nat) (v180:Int) (b0:Vector Int 8) (b1:Vector Int 8) (b2:Vector Int 8):Option (Vector Int 8):=
 a1E m (fun v=>(b0T m) v.1 v.2.1 v.2.2.1 v.2.2.2) (v180,b0,b1,b2)
def b0U (m:Nat) (b0:Vector Int 8) (b1:Vector Int 8) (b2:Vector Int 8):Option (Vector Int 8):=
 (b0y m) 0 b0 b1 b2
def b0V (m:Nat) (v12:Int) (b0:Vector Int 8) (b1:Vector Int 8) (b2:Vector Int 64) (b3:Vector Int 64) (b4:Vector Int 8):Option ((Int × Vector Int 8 × Vector Int 8 × Vector Int 64 × Vector Int 64 × Vector Int 8) ⊕ (Vector Int 8)):=
 sel (decide (v12 < 64)) (
  ((J8 m) (E8 b4 4 (0:Int)) 6).bind fun r2=>
  ((J8 m) (E8 b4 4 (0:Int)) 11).bind fun r3=>
  ((J8 m) (E8 b4 4 (0:Int)) 25).bind fun r4=>
  chk (decide ((0:Int)<=v12/\v12 < 64)) <|
  chk (decide ((Int.toNat v12) < 64)) <|
  chk (decide ((0:Int)<=v12/\v12 < 64)) <|
  chk (decide ((Int.toNat v12) < 64)) <|
  ((J8 m) (E8 b4 0 (0:Int)) 2).bind fun r5=>
  ((J8 m) (E8 b4 0 (0:Int)) 13).bind fun r6=>
  ((J8 m) (E8 b4 0 (0:Int)) 22).bind fun r7=>
  some (.inl ((A5 (v12 + 1)),b0,b1,b2,b3,(Vector.push (Vector.push (Vector.push (Vector.push (Vector.push (Vector.push (Vector.push (Vector.push #v[] (T6 ((T6 ((T6 ((T6 ((T6 ((E8 b4 7 (0:Int)) + (bits .xor .u32 (bits .xor .u32 r2 r3) r4))) + (bits .xor .u32 (bits .and .u32 (E8 b4 4 (0:Int)) (E8 b4 5 (0:Int))) (bits .and .u32 (notI .u32 (E8 b4 4 (0:Int))) (E8 b4 6 (0:Int)))))) + (E8 b3 (Int.toNat v12) (0:Int)))) + (E8 b2 (Int.toNat v12) (0:Int)))) + (T6 ((bits .xor .u32 (bits .xor .u32 r5 r6) r7) + (bits .xor .u32 (bits .xor .u32 (bits .and .u32 (E8 b4 0 (0:Int)) (E8 b4 1 (0:Int))) (bits .and .u32 (E8 b4 0 (0:Int)) (E8 b4 2 (0:Int)))) (bits .and .u32 (E8 b4 1 (0:Int)) (E8 b4 2 (0:Int))))))))) (E8 b4 0 (0:Int))) (E8 b4 1 (0:Int))) (E8 b4 2 (0:Int))) (T6 ((E8 b4 3 (0:Int)) + (T6 ((T6 ((T6 ((T6 ((E8 b4 7 (0:Int)) + (bits .xor .u32 (bits .xor .u32 r2 r3) r4))) + (bits .xor .u32 (bits .and .u32 (E8 b4 4 (0:Int)) (E8 b4 5 (0:Int))) (bits .and .u32 (notI .u32 (E8 b4 4 (0:Int))) (E8 b4 6 (0:Int)))))) + (E8 b3 (Int.toNat v12) (0:Int)))) + (E8 b2 (Int.toNat v12) (0:Int))))))) (E8 b4 4 (0:Int))) (E8 b4 5 (0:Int))) (E8 b4 6 (0:Int)))))) (
  Option.map .inr (
   (b0U m) b0 b1 b4))
def b0z (m:Nat) (v12:Int) (b0:Vector Int 8) (b1:Vector Int 8) (b2:Vector Int 64) (b3:Vector Int 64) (b4:Vector Int 8):Option (Vector Int 8):=
 a1E m (fun v=>(b0V m) v.1 v.2.1 v.2.2.1 v.2.2.2.1 v.2.2.2.2.1 v.2.2.2.2.2) (v12,b0,b1,b2,b3,b4)
def b0W (m:Nat) (b0:Vector Int 8) (b1:Vector Int 8) (b2:Vector Int 64):Option (Vector Int 8):=
 ((b0x m)).bind fun r1=>
 (b0z m) 0 b0 b1 b2 r1 b0
def b0X (m:Nat) (v7:Int) (b0:Vector Int 8) (b1:Vector Int 8) (b2:Vector Int 64):Option ((Int × Vector Int 8 × Vector Int 8 × Vector Int 64) ⊕ (Vector Int 8)):=
 sel (decide (v7 < 64)) (
  chk (decide ((0:Int)<=(A5 (v7 - 15))/\(A5 (v7 - 15)) < 64)) <|
  chk (decide ((Int.toNat (A5 (v7 - 15))) < 64)) <|
  chk (decide ((0:Int)<=(A5 (v7 - 2))/\(A5 (v7 - 2)) < 64)) <|
  chk (decide ((Int.toNat (A5 (v7 - 2))) < 64)) <|
  ((J8 m) (E8 b2 (Int.toNat (A5 (v7 - 2))) (0:Int)) 17).bind fun r8=>
  ((J8 m) (E8 b2 (Int.toNat (A5 (v7 - 2))) (0:Int)) 19).bind fun r9=>
  chk (decide ((0:Int)<=(A5 (v7 - 7))/\(A5 (v7 - 7)) < 64)) <|
  chk (decide ((Int.toNat (A5 (v7 - 7))) < 64)) <|
  ((J8 m) (E8 b2 (Int.toNat (A5 (v7 - 15))) (0:Int)) 7).bind fun r10=>
  ((J8 m) (E8 b2 (Int.toNat (A5 (v7 - 15))) (0:Int)) 18).bind fun r11=>
  chk (decide ((0:Int)<=(A5 (v7 - 16))/\(A5 (v7 - 16)) < 64)) <|
  chk (decide ((Int.toNat (A5 (v7 - 16))) < 64)) <|
  chk (decide ((0:Int)<=v7/\v7 < 64)) <|
  chk (decide ((Int.toNat v7) < 64)) <|
  some (.inl ((A5 (v7 + 1)),b0,b1,(b5m b2 (Int.toNat v7) (T6 ((T6 ((T6 ((bits .xor .u32 (bits .xor .u32 r8 r9) ((E8 b2 (Int.toNat (A5 (v7 - 2))) (0:Int)) / 2 ^ 10)) + (E8 b2 (Int.toNat (A5 (v7 - 7))) (0:Int)))) + (bits .xor .u32 (bits .xor .u32 r10 r11) ((E8 b2 (Int.toNat (A5 (v7 - 15))) (0:Int)) / 2 ^ 3)))) + (E8 b2 (Int.toNat (A5 (v7 - 16))) (0:Int)))))))) (
  Option.map .inr (
   (b0W m) b0 b1 b2))
def b0A (m:Nat) (v7:Int) (b0:Vector Int 8) (b1:Vector Int 8) (b2:Vector Int 64):Option (Vector Int 8):=
 a1E m (fun v=>(b0X m) v.1 v.2.1 v.2.2.1 v.2.2.2) (v7,b0,b1,b2)
def b0Y (m:Nat) (b0:Vector Int 8) (b1:Vector Int 8) (b2:Vector Int 64):Option (Vector Int 8):=
 (b0A m) 16 b0 b1 b2
def b0Z (m:Nat) (v1:List UInt8) (v6:Int) (b0:Vector Int 8) (b1:Vector Int 8) (b2:Vector Int 64):Option ((List UInt8 × Int × Vector Int 8 × Vector Int 8 × Vector Int 64) ⊕ (Vector Int 8)):=
 sel (decide (v6 < 16)) (
  chk (decide ((0:Int)<=(A5 (4 * v6))/\(A5 (4 * v6)) < (((List.length v1):Nat):Int))) <|
  chk (decide ((0:Int)<=(A5 ((A5 (4 * v6)) + 1))/\(A5 ((A5 (4 * v6)) + 1)) < (((List.length v1):Nat):Int))) <|
  chk (decide ((0:Int)<=(A5 ((A5 (4 * v6)) + 2))/\(A5 ((A5 (4 * v6)) + 2)) < (((List.length v1):Nat):Int))) <|
  chk (decide ((0:Int)<=(A5 ((A5 (4 * v6)) + 3))/\(A5 ((A5 (4 * v6)) + 3)) < (((List.length v1):Nat):Int))) <|
  chk (decide ((0:Int)<=v6/\v6 < 64)) <|
  chk (decide ((Int.toNat v6) < 64)) <|
  some (.inl (v1,(A5 (v6 + 1)),b0,b1,(b5m b2 (Int.toNat v6) (bits .or .u32 (bits .or .u32 (bits .or .u32 (T6 ((T6 ((UInt8.toNat (List.getD v1 (Int.toNat (A5 (4 * v6))) (0:UInt8)):Nat):Int)) * 2 ^ 24)) (T6 ((T6 ((UInt8.toNat (List.getD v1 (Int.toNat (A5 ((A5 (4 * v6)) + 1))) (0:UInt8)):Nat):Int)) * 2 ^ 16))) (T6 ((T6 ((UInt8.toNat (List.getD v1 (Int.toNat (A5 ((A5 (4 * v6)) + 2))) (0:UInt8)):Nat):Int)) * 2 ^ 8))) (T6 ((UInt8.toNat (List.getD v1 (Int.toNat (A5 ((A5 (4 * v6)) + 3))) (0:UInt8)):Nat):Int))))))) (
  Option.map .inr (
   (b0Y m) b0 b1 b2))
def b0B (m:Nat) (v1:List UInt8) (v6:Int) (b0:Vector Int 8) (b1:Vector Int 8) (b2:Vector Int 64):Option (Vector Int 8):=
 a1E m (fun v=>(b0Z m) v.1 v.2.1 v.2.2.1 v.2.2.2.1 v.2.2.2.2) (v1,v6,b0,b1,b2)
def b3G (m:Nat) (a0:Vector Int 8) (a1:List UInt8):Option (Vector Int 8):=
 (b0B m) a1 0 a0 (Vector.replicate 8 (0:Int)) (Vector.replicate 64 (0:Int))
def b2u (_m:Nat) (v52:Int) (b0:Vector UInt8 32) (b1:Vector Int 8) (b2:Vector UInt8 32):Option ((Int × Vector UInt8 32 × Vector Int 8 × Vector UInt8 32) ⊕ (Vector UInt8 32)):=
 sel (decide (v52 < 32)) (
  chk (decide ((0:Int)<=(A5 (Int.tdiv v52 4))/\(A5 (Int.tdiv v52 4)) < 8)) <|
  chk (decide ((Int.toNat (A5 (Int.tdiv v52 4))) < 8)) <|
  chk (decide ((0:Int)<=(A5 (24 - (A5 ((Int.tmod v52 4) * 8)))))) <|
  chk (decide ((0:Int)<=v52/\v52 < 32)) <|
  chk (decide ((Int.toNat v52) < 32)) <|
  chk (decide ((0:Int)<=(wu8 ((E8 b1 (Int.toNat (A5 (Int.tdiv v52 4))) (0:Int)) / 2 ^ (min (Int.toNat (A5 (24 - (A5 ((Int.tmod v52 4) * 8))))) 32)))/\(wu8 ((E8 b1 (Int.toNat (A5 (Int.tdiv v52 4))) (0:Int)) / 2 ^ (min (Int.toNat (A5 (24 - (A5 ((Int.tmod v52 4) * 8))))) 32))) < 256)) <|
  some (.inl ((A5 (v52 + 1)),b0,b1,(b5m b2 (Int.toNat v52) (UInt8.ofNat (Int.toNat (wu8 ((E8 b1 (Int.toNat (A5 (Int.tdiv v52 4))) (0:Int)) / 2 ^ (min (Int.toNat (A5 (24 - (A5 ((Int.tmod v52 4) * 8))))) 32))))))))) (
  some (.inr b2))
def b1I (m:Nat) (v52:Int) (b0:Vector UInt8 32) (b1:Vector Int 8) (b2:Vector UInt8 32):Option (Vector UInt8 32):=
 a1E m (fun v=>(b2u m) v.1 v.2.1 v.2.2.1 v.2.2.2) (v52,b0,b1,b2)
def b2v (m:Nat) (b0:Vector UInt8 32) (b1:Vector Int 8):Option (Vector UInt8 32):=
 (b1I m) 0 b0 b1 (Vector.replicate 32 (0:UInt8))
def b2w (m:Nat) (v7:Int) (b0:Vector UInt8 32) (b1:Vector Int 8) (l0:List UInt8):Option ((Int × Vector UInt8 32 × Vector Int 8 × List UInt8) ⊕ (Vector UInt8 32)):=
 sel (decide (v7 < (((List.length l0):Nat):Int))) (
  chk (decide ((0:Int)<=v7/\v7<=(A5 (v7 + 64))/\(A5 (v7 + 64))<=(((List.length l0):Nat):Int))) <|
  ((b3G m) b1 (List.drop (Int.toNat v7) (List.take (Int.toNat (A5 (v7 + 64))) l0))).bind fun r1=>
  some (.inl ((A5 (v7 + 64)),b0,r1,l0))) (
  Option.map .inr (
   (b2v m) b0 b1))
def b1J (m:Nat) (v7:Int) (b0:Vector UInt8 32) (b1:Vector Int 8) (l0:List UInt8):Option (Vector UInt8 32):=
 a1E m (fun v=>(b2w m) v.1 v.2.1 v.2.2.1 v.2.2.2) (v7,b0,b1,l0)
def b2x (m:Nat) (b0:Vector UInt8 32) (l0:List UInt8):Option (Vector UInt8 32):=
 (b1J m) 0 b0 (Vector.push (Vector.push (Vector.push (Vector.push (Vector.push (Vector.push (Vector.push (Vector.push #v[] 1779033703) 3144134277) 1013904242) 2773480762) 1359893119) 2600822924) 528734635) 1541459225) l0
def b2y (m:Nat) (v4:Int) (v5:Int) (b0:Vector UInt8 32) (l0:List UInt8):Option ((Int × Int × Vector UInt8 32 × List UInt8) ⊕ (Vector UInt8 32)):=
 sel (decide (0<=v5)) (
  chk (decide ((0:Int)<=(A5 (8 * v5)))) <|
  chk (decide ((0:Int)<=(wu8 (v4 / 2 ^ (min (Int.toNat (A5 (8 * v5))) 64)))/\(wu8 (v4 / 2 ^ (min (Int.toNat (A5 (8 * v5))) 64))) < 256)) <|
  chk (decide (((List.length l0) + 1) * 1<=LIM/\(List.length l0) + 1<=LEN)) <|
  some (.inl (v4,(A5 (v5 - 1)),b0,(l0 ++ [(UInt8.ofNat (Int.toNat (wu8 (v4 / 2 ^ (min (Int.toNat (A5 (8 * v5))) 64)))))])))) (
  Option.map .inr (
   (b2x m) b0 l0))
def b1K (m:Nat) (v4:Int) (v5:Int) (b0:Vector UInt8 32) (l0:List UInt8):Option (Vector UInt8 32):=
 a1E m (fun v=>(b2y m) v.1 v.2.1 v.2.2.1 v.2.2.2) (v4,v5,b0,l0)
def b2z (m:Nat) (v0:List UInt8) (b0:Vector UInt8 32) (l0:List UInt8):Option (Vector UInt8 32):=
 (b1K m) (B1 ((B1 (((List.length v0):Nat):Int)) * 8)) 7 b0 l0
def b2A (m:Nat) (v0:List UInt8) (b0:Vector UInt8 32) (l0:List UInt8):Option ((List UInt8 × Vector UInt8 32 × List UInt8) ⊕ (Vector UInt8 32)):=
 sel (!decide ((Int.tmod (((List.length l0):Nat):Int) 64)=56)) (
  chk (decide (((List.length l0) + 1) * 1<=LIM/\(List.length l0) + 1<=LEN)) <|
  some (.inl (v0,b0,(l0 ++ [(0:UInt8)])))) (
  Option.map .inr (
   (b2z m) v0 b0 l0))
def b1L (m:Nat) (v0:List UInt8) (b0:Vector UInt8 32) (l0:List UInt8):Option (Vector UInt8 32):=
 a1E m (fun v=>(b2A m) v.1 v.2.1 v.2.2) (v0,b0,l0)
def a6w (m:Nat) (a0:List UInt8):Option (Vector UInt8 32):=
 chk (decide ((0 + (List.length a0)) * 1<=LIM/\0 + (List.length a0)<=LEN)) <|
 chk (decide (((List.length a0) + 1) * 1<=LIM/\(List.length a0) + 1<=LEN)) <|
 (b1L m) a0 (Vector.replicate 32 (0:UInt8)) (a0 ++ [(128:UInt8)])
def b4D (m:Nat) (a0:List UInt8):Option (Vector UInt8 32):=
 chk (decide ((1 + (List.length a0)) * 1<=LIM/\1 + (List.length a0)<=LEN)) <|
 ((a6w m) ([(0:UInt8)] ++ a0)).bind fun r1=>
 some r1
def b1M (_m:Nat) (v0:Int) (v3:Int):Option ((Int × Int) ⊕ (Int)):=
 sel (decide (v3 < (A5 (v0 - v3)))) (
  some (.inl (v0,(A5 (v3 * 2))))) (
  some (.inr v3))
def b00 (m:Nat) (v0:Int) (v3:Int):Option (Int):=
 a1E m (fun v=>(b1M m) v.1 v.2) (v0,v3)
def b4E (m:Nat) (a0:Int):Option (Int):=
 (b00 m) a0 1
def b3H (m:Nat) (a0:Vector UInt8 32) (a1:Vector UInt8 32):Option (Vector UInt8 32):=
 chk (decide ((1 + (List.length (Vector.toList a0))) * 1<=LIM/\1 + (List.length (Vector.toList a0))<=LEN)) <|
 chk (decide (((List.length ([(1:UInt8)] ++ (Vector.toList a0))) + (List.length (Vector.toList a1))) * 1<=LIM/\(List.length ([(1:UInt8)] ++ (Vector.toList a0))) + (List.length (Vector.toList a1))<=LEN)) <|
 ((a6w m) (([(1:UInt8)] ++ (Vector.toList a0)) ++ (Vector.toList a1))).bind fun r1=>
 some r1
noncomputable def b0C (m:Nat) (rec:List (List UInt8)->Option (Vector UInt8 32)) (a0:List (List UInt8)):Option (Vector UInt8 32):=
 sel (decide ((((List.length a0):Nat):Int)=0)) (
  ((a6w m) []).bind fun r1=>
  some r1) (
  sel (decide ((((List.length a0):Nat):Int)=1)) (
   chk (decide ((0:Int)<=0/\0 < (((List.length a0):Nat):Int))) <|
   ((b4D m) (List.getD a0 0 [])).bind fun r2=>
   some r2) (
   ((b4E m) (((List.length a0):Nat):Int)).bind fun r3=>
   chk (decide ((0:Int)<=0/\0<=r3/\r3<=(((List.length a0):Nat):Int))) <|
   (rec (List.take (Int.toNat r3) a0)).bind fun r4=>
   chk (decide ((0:Int)<=r3/\r3<=(((List.length a0):Nat):Int)/\(((List.length a0):Nat):Int)<=(((List.length a0):Nat):Int))) <|
   (rec (List.drop (Int.toNat r3) (List.take (Int.toNat (((List.length a0):Nat):Int)) a0))).bind fun r5=>
   ((b3H m) r4 r5).bind fun r6=>
   some r6))
noncomputable def b4F (m:Nat) (n:Nat):List (List UInt8)->Option (Vector UInt8 32):=Nat.rec (motive:=fun _=>List (List UInt8)->Option (Vector UInt8 32)) (fun _=>none) (fun _ ih=>(b0C m) ih) n
noncomputable def a9Z (m:Nat) (v6:List A6) (v7:Int) (v8:Int) (b0:Vector UInt8 32) (l0:List (List UInt8)):Option ((List A6 × Int × Int × Vector UInt8 32 × List (List UInt8)) ⊕ (Vector UInt8 32)):=
 sel (decide (v8 < v7)) (
  chk (decide ((0:Int)<=v8/\v8 < (((List.length v6):Nat):Int))) <|
  ((P2 m) [(1,(0:Int),(B1 (List.getD v6 (Int.toNat v8) F7).1),[]),(2,(0:Int),(List.getD v6 (Int.toNat v8) F7).2.2.2.1,[])]).bind fun r1=>
  chk (decide (((List.length l0) + 1) * 24<=LIM/\(List.length l0) + 1<=LEN)) <|
  some (.inl (v6,v7,(A5 (v8 + 1)),b0,(l0 ++ [r1])))) (
  Option.map .inr (
   ((b4F m) m l0).bind fun r2=>
   some r2))
noncomputable def a9j (m:Nat) (v6:List A6) (v7:Int) (v8:Int) (b0:Vector UInt8 32) (l0:List (List UInt8)):Option (Vector UInt8 32):=
 a1E m (fun v=>(a9Z m) v.1 v.2.1 v.2.2.1 v.2.2.2.1 v.2.2.2.2) (v6,v7,v8,b0,l0)
noncomputable def b1N (m:Nat) (a0:List A6):Option (Vector UInt8 32):=
 (a9j m) a0 (((List.length a0):Nat):Int) 0 (Vector.replicate 32 (0:UInt8)) []
noncomputable def a7C (m:Nat):Option (Bool):=
 ((a2L m) (([97,110,110]:List UInt8),(0:Int),300,(0:Int),[],[(([97,110,110]:List UInt8),5)])).bind fun r1=>
 ((c58 m) ([(([97,110,110]:List UInt8),1000,(0:Int))],(0:Int)) 0 [r1.1,r1.1]).bind fun r2=>
 ((b95 m) ([(([97,110,110]:List UInt8),1000,(0:Int))],(0:Int)) 0 [r1.1,r1.1]).bind fun r3=>
 sel (decide ((((List.length r2.2):Nat):Int)=2)) (
  chk (decide ((0:Int)<=0/\0 < (((List.length r2.2):Nat):Int))) <|
  chk (decide (0 < (List.length r2.2))) <|
  sel (decide ((List.getD r2.2 0 F7).1=0)) (
   chk (decide ((0:Int)<=1/\1 < (((List.length r2.2):Nat):Int))) <|
   chk (decide (1 < (List.length r2.2))) <|
   sel (decide ((List.getD r2.2 1 F7).1=14)) (
    sel (decide (r3.2.1=1)) (
     sel (decide (r3.2.2=14)) (
      sel (decide ((((List.length r2.1.1):Nat):Int)=1)) (
       chk (decide ((0:Int)<=0/\0 < (((List.length r2.1.1):Nat):Int))) <|
       sel (decide ((List.getD r2.1.1 0 o9).2.2=1)) (
        ((b99 m) []).bind fun r4=>
        ((b1N m) []).bind fun r5=>
        some (U.beq (.arr 32 .byte) r4 r5)) (
        some false)) (
       some false)) (
      some false)) (
     some false)) (
    some false)) (
   some false)) (
  some false)
theorem same:D2=a7C c6g:=by kernel_rfl
theorem at_:a7C 1180591620717411303424=some true:=by kernel_rfl
end Kmempoollaw14
theorem b2B:D2=some true:=by rw [Kmempoollaw14.same,b60];exact Kmempoollaw14.at_
end Go.Proofs.YtbipjlehhlkghaaGreatDoor.Am
