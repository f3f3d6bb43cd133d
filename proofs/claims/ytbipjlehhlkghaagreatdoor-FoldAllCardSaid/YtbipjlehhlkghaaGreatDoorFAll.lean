/- What functions of the program compute on plain data. No conditions. -/
import Derived.Test.YtbipjlehhlkghaaGreatDoorQAC
import Derived.Test.YtbipjlehhlkghaaGreatDoorQAD
import Derived.Test.YtbipjlehhlkghaaGreatDoorQAE
import Derived.Test.YtbipjlehhlkghaaGreatDoorKD
namespace Go.Proofs.YtbipjlehhlkghaaGreatDoor.Am
open Go
def C1:U:=(.pr .str (.int .u64))
abbrev o8:Type:=List UInt8 × Int
def B0:o8:=([],(0:Int))
def B2:U:=(.pr (.sl (.int .i64)) (.int .i64))
abbrev A0:Type:=List Int × Int
def B5:U:=(.pr .str (.pr (.int .u64) (.int .u64)))
abbrev o7:Type:=List UInt8 × Int × Int
def o9:o7:=([],(0:Int),(0:Int))
def N6:U:=(.pr (.arr 8 (.int .u32)) (.pr (.sl .byte) (.int .i64)))
abbrev A9:Type:=Vector Int 8 × List UInt8 × Int
def A4:U:=(.pr (.sl (.pr .str (.pr (.int .u64) (.int .u64)))) (.int .u64))
abbrev o6:Type:=List o7 × Int
def c0W:o6:=([],(0:Int))
def C2:U:=(.pr (.int .i64) (.pr (.int .i64) (.pr (.int .u64) (.sl .byte))))
abbrev A1:Type:=Int × Int × Int × List UInt8
def B7:A1:=((0:Int),(0:Int),(0:Int),[])
def D3:U:=(.pr (.int .i64) (.pr .str (.pr (.int .u64) (.pr (.int .u64) (.int .u64)))))
abbrev A6:Type:=Int × List UInt8 × Int × Int × Int
def F7:A6:=((0:Int),[],(0:Int),(0:Int),(0:Int))
def P4:U:=(.pr .str (.pr (.int .u64) (.pr (.int .u64) (.pr (.int .u64) (.pr .str (.sl (.pr .str (.int .u64))))))))
abbrev A7:Type:=List UInt8 × Int × Int × Int × List UInt8 × List o8
def a4t:U:=(.pr (.pr (.sl (.pr .str (.pr (.int .u64) (.int .u64)))) (.int .u64)) (.pr (.pr (.sl (.pr .str (.pr (.int .u64) (.int .u64)))) (.int .u64)) (.pr (.pr (.sl (.pr .str (.pr (.int .u64) (.int .u64)))) (.int .u64)) (.pr .bool (.int .u64)))))
abbrev L1:Type:=o6 × o6 × o6 × Bool × Int
def a0J (v3:Int) (v6:List (List Int)) (v7:Int) (v8:Int):Option ((Int × List (List Int) × Int × Int) ⊕ (Bool)):=
 sel (decide (v8 < v7)) (
  chk (decide ((0:Int)<=v8/\v8 < (((List.length v6):Nat):Int))) <|
  some (.inl ((A5 (v3 + (((List.length (List.getD v6 (Int.toNat v8) [])):Nat):Int))),v6,v7,(A5 (v8 + 1))))) (
  some (.inr (decide (160 < v3))))
def a5p (v3:Int) (v6:List (List Int)) (v7:Int) (v8:Int):Option (Bool):=
 I2 (fun v=>a0J v.1 v.2.1 v.2.2.1 v.2.2.2) (v3,v6,v7,v8)
def O0 (a0:List (List Int)):Option (Bool):=
 a5p 0 a0 (((List.length a0):Nat):Int) 0
def a0a (v3:Int) (v10:List o7) (v11:Int) (v12:Int):Option ((Int × List o7 × Int × Int) ⊕ (Bool)):=
 sel (decide (v12 < v11)) (
  chk (decide ((0:Int)<=v12/\v12 < (((List.length v10):Nat):Int))) <|
  some (.inl ((A5 (v3 + (((List.length (List.getD v10 (Int.toNat v12) o9).1):Nat):Int))),v10,v11,(A5 (v12 + 1))))) (
  some (.inr (decide (v3 < 200))))
def a49 (v3:Int) (v10:List o7) (v11:Int) (v12:Int):Option (Bool):=
 I2 (fun v=>a0a v.1 v.2.1 v.2.2.1 v.2.2.2) (v3,v10,v11,v12)
def a1F (a0:o6):Option (Bool):=
 a49 (((List.length a0.1):Nat):Int) a0.1 (((List.length a0.1):Nat):Int) 0
def a10 (v0:List UInt8):Option (Bool):=
 sel (decide (1<=(((List.length v0):Nat):Int))) (
  some (decide ((((List.length v0):Nat):Int)<=20))) (
  some false)
def O9 (v0:List UInt8) (v3:Int):Option ((List UInt8 × Int) ⊕ (Bool)):=
 sel (decide (v3 < (((List.length v0):Nat):Int))) (
  chk (decide ((0:Int)<=v3/\v3 < (((List.length v0):Nat):Int))) <|
  sel (decide (97<=((UInt8.toNat (List.getD v0 (Int.toNat v3) (0:UInt8)):Nat):Int))) (
   sel (decide (((UInt8.toNat (List.getD v0 (Int.toNat v3) (0:UInt8)):Nat):Int)<=122)) (
    some (.inl (v0,(A5 (v3 + 1))))) (
    sel (decide (48<=((UInt8.toNat (List.getD v0 (Int.toNat v3) (0:UInt8)):Nat):Int))) (
     sel (decide (((UInt8.toNat (List.getD v0 (Int.toNat v3) (0:UInt8)):Nat):Int)<=57)) (
      some (.inl (v0,(A5 (v3 + 1))))) (
      sel (!(decide (((UInt8.toNat (List.getD v0 (Int.toNat v3) (0:UInt8)):Nat):Int)=45))) (
       some (.inr false)) (
       some (.inl (v0,(A5 (v3 + 1))))))) (
     sel (!(decide (((UInt8.toNat (List.getD v0 (Int.toNat v3) (0:UInt8)):Nat):Int)=45))) (
      some (.inr false)) (
      some (.inl (v0,(A5 (v3 + 1)))))))) (
   sel (decide (48<=((UInt8.toNat (List.getD v0 (Int.toNat v3) (0:UInt8)):Nat):Int))) (
    sel (decide (((UInt8.toNat (List.getD v0 (Int.toNat v3) (0:UInt8)):Nat):Int)<=57)) (
     some (.inl (v0,(A5 (v3 + 1))))) (
     sel (!(decide (((UInt8.toNat (List.getD v0 (Int.toNat v3) (0:UInt8)):Nat):Int)=45))) (
      some (.inr false)) (
      some (.inl (v0,(A5 (v3 + 1))))))) (
    sel (!(decide (((UInt8.toNat (List.getD v0 (Int.toNat v3) (0:UInt8)):Nat):Int)=45))) (
     some (.inr false)) (
     some (.inl (v0,(A5 (v3 + 1)))))))) (
  Option.map .inr (
   a10 v0))
def a4u (v0:List UInt8) (v3:Int):Option (Bool):=
 I2 (fun v=>O9 v.1 v.2) (v0,v3)
def L8 (a0:List UInt8):Option (Bool):=
 a4u a0 0
def I9 (a0:List UInt8) (a1:Int):Option (Bool):=
 sel (decide (a1 < (((List.length a0):Nat):Int))) (
  chk (decide ((0:Int)<=a1/\a1 < (((List.length a0):Nat):Int))) <|
  sel (decide (128<=((UInt8.toNat (List.getD a0 (Int.toNat a1) (0:UInt8)):Nat):Int))) (
   chk (decide ((0:Int)<=a1/\a1 < (((List.length a0):Nat):Int))) <|
   some (decide (((UInt8.toNat (List.getD a0 (Int.toNat a1) (0:UInt8)):Nat):Int) < 192))) (
   some false)) (
  some false)
def H9 (v0:List UInt8) (v1:Int) (v5:UInt8) (v64:Bool):Option (Int):=
 sel v64 (
  sel (decide (((UInt8.toNat v5:Nat):Int)=240)) (
   chk (decide ((0:Int)<=(A5 (v1 + 1))/\(A5 (v1 + 1)) < (((List.length v0):Nat):Int))) <|
   sel (decide (((UInt8.toNat (List.getD v0 (Int.toNat (A5 (v1 + 1))) (0:UInt8)):Nat):Int) < 144)) (
    some 0) (
    sel (decide (((UInt8.toNat v5:Nat):Int)=244)) (
     chk (decide ((0:Int)<=(A5 (v1 + 1))/\(A5 (v1 + 1)) < (((List.length v0):Nat):Int))) <|
     sel (decide (144<=((UInt8.toNat (List.getD v0 (Int.toNat (A5 (v1 + 1))) (0:UInt8)):Nat):Int))) (
      some 0) (
      some 4)) (
     some 4))) (
   sel (decide (((UInt8.toNat v5:Nat):Int)=244)) (
    chk (decide ((0:Int)<=(A5 (v1 + 1))/\(A5 (v1 + 1)) < (((List.length v0):Nat):Int))) <|
    sel (decide (144<=((UInt8.toNat (List.getD v0 (Int.toNat (A5 (v1 + 1))) (0:UInt8)):Nat):Int))) (
     some 0) (
     some 4)) (
    some 4))) (
  some 0)
def J7 (v0:List UInt8) (v1:Int) (v5:UInt8) (v25:Bool):Option (Int):=
 sel v25 (
  sel (decide (((UInt8.toNat v5:Nat):Int)=224)) (
   chk (decide ((0:Int)<=(A5 (v1 + 1))/\(A5 (v1 + 1)) < (((List.length v0):Nat):Int))) <|
   sel (decide (((UInt8.toNat (List.getD v0 (Int.toNat (A5 (v1 + 1))) (0:UInt8)):Nat):Int) < 160)) (
    some 0) (
    sel (decide (((UInt8.toNat v5:Nat):Int)=237)) (
     chk (decide ((0:Int)<=(A5 (v1 + 1))/\(A5 (v1 + 1)) < (((List.length v0):Nat):Int))) <|
     sel (decide (160<=((UInt8.toNat (List.getD v0 (Int.toNat (A5 (v1 + 1))) (0:UInt8)):Nat):Int))) (
      some 0) (
      some 3)) (
     some 3))) (
   sel (decide (((UInt8.toNat v5:Nat):Int)=237)) (
    chk (decide ((0:Int)<=(A5 (v1 + 1))/\(A5 (v1 + 1)) < (((List.length v0):Nat):Int))) <|
    sel (decide (160<=((UInt8.toNat (List.getD v0 (Int.toNat (A5 (v1 + 1))) (0:UInt8)):Nat):Int))) (
     some 0) (
     some 3)) (
    some 3))) (
  sel (decide (240<=((UInt8.toNat v5:Nat):Int))) (
   sel (decide (((UInt8.toNat v5:Nat):Int) < 245)) (
    (I9 v0 (A5 (v1 + 1))).bind fun r1=>
    sel r1 (
     (I9 v0 (A5 (v1 + 2))).bind fun r2=>
     sel r2 (
      (I9 v0 (A5 (v1 + 3))).bind fun r3=>
      H9 v0 v1 v5 r3) (
      H9 v0 v1 v5 false)) (
     H9 v0 v1 v5 false)) (
    H9 v0 v1 v5 false)) (
   H9 v0 v1 v5 false))
def K8 (v0:List UInt8) (v1:Int) (v5:UInt8) (v12:Bool):Option (Int):=
 sel v12 (
  some 2) (
  sel (decide (224<=((UInt8.toNat v5:Nat):Int))) (
   sel (decide (((UInt8.toNat v5:Nat):Int) < 240)) (
    (I9 v0 (A5 (v1 + 1))).bind fun r4=>
    sel r4 (
     (I9 v0 (A5 (v1 + 2))).bind fun r5=>
     J7 v0 v1 v5 r5) (
     J7 v0 v1 v5 false)) (
    J7 v0 v1 v5 false)) (
   J7 v0 v1 v5 false))
def a2n (a0:List UInt8) (a1:Int):Option (Int):=
 chk (decide ((0:Int)<=a1/\a1 < (((List.length a0):Nat):Int))) <|
 sel (decide (((UInt8.toNat (List.getD a0 (Int.toNat a1) (0:UInt8)):Nat):Int) < 128)) (
  some 1) (
  sel (decide (194<=((UInt8.toNat (List.getD a0 (Int.toNat a1) (0:UInt8)):Nat):Int))) (
   sel (decide (((UInt8.toNat (List.getD a0 (Int.toNat a1) (0:UInt8)):Nat):Int) < 224)) (
    (I9 a0 (A5 (a1 + 1))).bind fun r6=>
    K8 a0 a1 (List.getD a0 (Int.toNat a1) (0:UInt8)) r6) (
    K8 a0 a1 (List.getD a0 (Int.toNat a1) (0:UInt8)) false)) (
   K8 a0 a1 (List.getD a0 (Int.toNat a1) (0:UInt8)) false))
def a2o (v0:List UInt8) (v4:Int) (v5:Int):Option ((List UInt8 × Int × Int) ⊕ (Int × Bool)):=
 sel (decide (v5 < (((List.length v0):Nat):Int))) (
  (a2n v0 v5).bind fun r1=>
  sel (decide (r1=0)) (
   some (.inr (0,false))) (
   some (.inl (v0,(A5 (v4 + 1)),(A5 (v5 + r1)))))) (
  some (.inr (v4,true)))
def a5a (v0:List UInt8) (v4:Int) (v5:Int):Option (Int × Bool):=
 I2 (fun v=>a2o v.1 v.2.1 v.2.2) (v0,v4,v5)
def a1G (a0:List UInt8):Option (Int × Bool):=
 a5a a0 0 0
def a1b (a0:List UInt8):Option (Bool):=
 (a1G a0).bind fun r1=>
 sel r1.2 (
  some (decide (r1.1<=64))) (
  some false)
def P5 (v31:List o8) (v32:Int) (v33:Int):Option ((List o8 × Int × Int) ⊕ (Int)):=
 sel (decide (v33 < v32)) (
  chk (decide ((0:Int)<=v33/\v33 < (((List.length v31):Nat):Int))) <|
  (L8 (List.getD v31 (Int.toNat v33) B0).1).bind fun r3=>
  sel (!r3) (
   some (.inr 10)) (
   sel (decide ((List.getD v31 (Int.toNat v33) B0).2=0)) (
    some (.inr 12)) (
    some (.inl (v31,v32,(A5 (v33 + 1))))))) (
  some (.inr 0))
def X3 (v31:List o8) (v32:Int) (v33:Int):Option (Int):=
 I2 (fun v=>P5 v.1 v.2.1 v.2.2) (v31,v32,v33)
def N7 (a0:A7):Option (Int):=
 (L8 a0.1).bind fun r1=>
 sel (!r1) (
  some 10) (
  sel (decide (a0.2.2.1=0)) (
   some 15) (
   (a1b a0.2.2.2.2.1).bind fun r2=>
   sel (!r2) (
    some 11) (
    sel (decide ((((List.length a0.2.2.2.2.2):Nat):Int)=0)) (
     some 3) (
     sel (decide (16 < (((List.length a0.2.2.2.2.2):Nat):Int))) (
      some 3) (
      X3 a0.2.2.2.2.2 (((List.length a0.2.2.2.2.2):Nat):Int) 0)))))
def O1 (a0:List A1) (a1:Int) (a2:List UInt8):Option (List A1):=
 sel (decide (a2=[])) (
  some a0) (
  chk (decide ((List.length a2)<=maxLen)) <|
  chk (decide (((List.length a0) + 1) * 48<=LIM/\(List.length a0) + 1<=LEN)) <|
  some (a0 ++ ([(a1,2,(0:Int),a2)]:List A1)))
def J9 (a0:List A1) (a1:Int) (a2:Int):Option (List A1):=
 sel (decide (a2=0)) (
  some a0) (
  chk (decide (((List.length a0) + 1) * 48<=LIM/\(List.length a0) + 1<=LEN)) <|
  some (a0 ++ ([(a1,0,a2,[])]:List A1)))
def L9 (a0:A1):Option (Bool):=
 sel (decide (a0.1 < 1)) (
  some false) (
  sel (decide (536870911 < a0.1)) (
   some false) (
   sel (decide (a0.2.1=0)) (
    sel (decide ((((List.length a0.2.2.2):Nat):Int)=0)) (
     some true) (
     sel (decide (a0.2.1=2)) (
      some (decide (a0.2.2.1=0))) (
      some false))) (
    sel (decide (a0.2.1=2)) (
     some (decide (a0.2.2.1=0))) (
     some false))))
def a0b (v1:Int) (l0:List UInt8):Option (List UInt8):=
 chk (decide ((0:Int)<=(wu8 v1)/\(wu8 v1) < 256)) <|
 chk (decide (((List.length l0) + 1) * 1<=LIM/\(List.length l0) + 1<=LEN)) <|
 some (l0 ++ [(UInt8.ofNat (Int.toNat (wu8 v1)))])
def P8 (v1:Int) (l0:List UInt8):Option ((Int × List UInt8) ⊕ (List UInt8)):=
 sel (decide (128<=v1)) (
  chk (decide ((0:Int)<=(bits .or .u8 (wu8 v1) 128)/\(bits .or .u8 (wu8 v1) 128) < 256)) <|
  chk (decide (((List.length l0) + 1) * 1<=LIM/\(List.length l0) + 1<=LEN)) <|
  some (.inl ((v1 / 2 ^ 7),(l0 ++ [(UInt8.ofNat (Int.toNat (bits .or .u8 (wu8 v1) 128)))])))) (
  Option.map .inr (
   a0b v1 l0))
def V6 (v1:Int) (l0:List UInt8):Option (List UInt8):=
 I2 (fun v=>P8 v.1 v.2) (v1,l0)
def F9 (a0:List UInt8) (a1:Int):Option (List UInt8):=
 chk (decide ((0 + (List.length a0)) * 1<=LIM/\0 + (List.length a0)<=LEN)) <|
 V6 a1 a0
def J2 (a0:List UInt8) (a1:A1):Option (List UInt8 × Int):=
 (L9 a1).bind fun r1=>
 sel (!r1) (
  some ([],1)) (
  (F9 a0 (B1 ((B1 ((B1 a1.1) * 8)) + (B1 a1.2.1)))).bind fun r2=>
  sel (decide (a1.2.1=0)) (
   (F9 r2 a1.2.2.1).bind fun r3=>
   some (r3,0)) (
   (F9 r2 (B1 (((List.length a1.2.2.2):Nat):Int))).bind fun r4=>
   chk (decide (((List.length r4) + (List.length a1.2.2.2)) * 1<=LIM/\(List.length r4) + (List.length a1.2.2.2)<=LEN)) <|
   some ((r4 ++ a1.2.2.2),0)))
def L5 (v6:List A1) (v7:Int) (v8:Int) (l0:List UInt8):Option ((List A1 × Int × Int × List UInt8) ⊕ (List UInt8)):=
 sel (decide (v8 < v7)) (
  chk (decide ((0:Int)<=v8/\v8 < (((List.length v6):Nat):Int))) <|
  (J2 l0 (List.getD v6 (Int.toNat v8) B7)).bind fun r1=>
  some (.inl (v6,v7,(A5 (v8 + 1)),r1.1))) (
  some (.inr l0))
def a1u (v6:List A1) (v7:Int) (v8:Int) (l0:List UInt8):Option (List UInt8):=
 I2 (fun v=>L5 v.1 v.2.1 v.2.2.1 v.2.2.2) (v6,v7,v8,l0)
def D9 (a0:List A1):Option (List UInt8):=
 a1u a0 (((List.length a0):Nat):Int) 0 []
def a0K (v26:List o8) (v27:Int) (v28:Int) (l0:List A1):Option ((List o8 × Int × Int × List A1) ⊕ (List UInt8)):=
 sel (decide (v28 < v27)) (
  chk (decide ((0:Int)<=v28/\v28 < (((List.length v26):Nat):Int))) <|
  (O1 [] 1 (List.getD v26 (Int.toNat v28) B0).1).bind fun r6=>
  (J9 r6 2 (List.getD v26 (Int.toNat v28) B0).2).bind fun r7=>
  (D9 r7).bind fun r8=>
  chk (decide (((List.length l0) + 1) * 48<=LIM/\(List.length l0) + 1<=LEN)) <|
  some (.inl (v26,v27,(A5 (v28 + 1)),(l0 ++ ([(6,2,(0:Int),r8)]:List A1))))) (
  Option.map .inr (
   (D9 l0).bind fun r9=>
   some r9))
def a5q (v26:List o8) (v27:Int) (v28:Int) (l0:List A1):Option (List UInt8):=
 I2 (fun v=>a0K v.1 v.2.1 v.2.2.1 v.2.2.2) (v26,v27,v28,l0)
def T0 (a0:A7):Option (List UInt8):=
 (O1 [] 1 a0.1).bind fun r1=>
 (J9 r1 2 a0.2.1).bind fun r2=>
 (J9 r2 3 a0.2.2.1).bind fun r3=>
 (J9 r3 4 a0.2.2.2.1).bind fun r4=>
 (O1 r4 5 a0.2.2.2.2.1).bind fun r5=>
 a5q a0.2.2.2.2.2 (((List.length a0.2.2.2.2.2):Nat):Int) 0 r5
def J0 (a0:A7):Option (List UInt8 × Int):=
 (N7 a0).bind fun r1=>
 sel (!decide (r1=0)) (
  some ([],r1)) (
  (T0 a0).bind fun r2=>
  sel (decide (4096 < (((List.length r2):Nat):Int))) (
   some ([],3)) (
   some (r2,0)))
def J4 (a0:List o7):Option (List o7):=b8s (u:=B5) 32 a0
def a8E (a0:o6):Option (List o7 × Int):=
 (J4 a0.1).bind fun r1=>
 some (r1,a0.2)
def a81 (v0:List UInt8):Option (Bool):=
 sel (decide (1<=(((List.length v0):Nat):Int))) (
  some (decide ((((List.length v0):Nat):Int)<=20))) (
  some false)
def a4v (v0:List UInt8) (v6:Int) (v7:Int):Option ((List UInt8 × Int × Int) ⊕ (Bool)):=
 sel (decide (v7 < v6)) (
  chk (decide ((0:Int)<=v7/\v7 < (((List.length v0):Nat):Int))) <|
  sel (decide (((UInt8.toNat (List.getD v0 (Int.toNat v7) (0:UInt8)):Nat):Int) < 97)) (
   sel (decide (((UInt8.toNat (List.getD v0 (Int.toNat v7) (0:UInt8)):Nat):Int) < 48)) (
    sel (!decide (((UInt8.toNat (List.getD v0 (Int.toNat v7) (0:UInt8)):Nat):Int)=45)) (
     some (.inr false)) (
     some (.inl (v0,v6,(A5 (v7 + 1)))))) (
    sel (decide (57 < ((UInt8.toNat (List.getD v0 (Int.toNat v7) (0:UInt8)):Nat):Int))) (
     sel (!decide (((UInt8.toNat (List.getD v0 (Int.toNat v7) (0:UInt8)):Nat):Int)=45)) (
      some (.inr false)) (
      some (.inl (v0,v6,(A5 (v7 + 1)))))) (
     some (.inl (v0,v6,(A5 (v7 + 1))))))) (
   sel (decide (122 < ((UInt8.toNat (List.getD v0 (Int.toNat v7) (0:UInt8)):Nat):Int))) (
    sel (decide (((UInt8.toNat (List.getD v0 (Int.toNat v7) (0:UInt8)):Nat):Int) < 48)) (
     sel (!decide (((UInt8.toNat (List.getD v0 (Int.toNat v7) (0:UInt8)):Nat):Int)=45)) (
      some (.inr false)) (
      some (.inl (v0,v6,(A5 (v7 + 1)))))) (
     sel (decide (57 < ((UInt8.toNat (List.getD v0 (Int.toNat v7) (0:UInt8)):Nat):Int))) (
      sel (!decide (((UInt8.toNat (List.getD v0 (Int.toNat v7) (0:UInt8)):Nat):Int)=45)) (
       some (.inr false)) (
       some (.inl (v0,v6,(A5 (v7 + 1)))))) (
      some (.inl (v0,v6,(A5 (v7 + 1))))))) (
    some (.inl (v0,v6,(A5 (v7 + 1))))))) (
  Option.map .inr (
   a81 v0))
def b1e (v0:List UInt8) (v6:Int) (v7:Int):Option (Bool):=
 I2 (fun v=>a4v v.1 v.2.1 v.2.2) (v0,v6,v7)
def a6b (a0:List UInt8):Option (Bool):=
 b1e a0 (((List.length a0):Nat):Int) 0
def a6y (v4:Int) (v9:List Int) (v10:Int) (v11:Int):Option ((Int × List Int × Int × Int) ⊕ (Int × Bool)):=
 sel (decide (v11 < v10)) (
  chk (decide ((0:Int)<=v11/\v11 < (((List.length v9):Nat):Int))) <|
  (a3q v4 (List.getD v9 (Int.toNat v11) (0:Int))).bind fun r1=>
  sel (!r1.2) (
   some (.inr (0,false))) (
   some (.inl (r1.1,v9,v10,(A5 (v11 + 1)))))) (
  some (.inr (v4,true)))
def b1f (v4:Int) (v9:List Int) (v10:Int) (v11:Int):Option (Int × Bool):=
 I2 (fun v=>a6y v.1 v.2.1 v.2.2.1 v.2.2.2) (v4,v9,v10,v11)
def a7Z (a0:List Int):Option (Int × Bool):=
 b1f 0 a0 (((List.length a0):Nat):Int) 0
def a6c (l0:List Int):Option (Int × Bool):=
 (a7Z l0).bind fun r1=>
 some (r1.1,r1.2)
def a3P (v11:List o7) (v12:Int) (v13:Int) (l0:List Int):Option ((List o7 × Int × Int × List Int) ⊕ (Int × Bool)):=
 sel (decide (v13 < v12)) (
  chk (decide ((0:Int)<=v13/\v13 < (((List.length v11):Nat):Int))) <|
  chk (decide (((List.length l0) + 1) * 8<=LIM/\(List.length l0) + 1<=LEN)) <|
  some (.inl (v11,v12,(A5 (v13 + 1)),(l0 ++ [(List.getD v11 (Int.toNat v13) o9).2.1])))) (
  Option.map .inr (
   a6c l0))
def a8F (v11:List o7) (v12:Int) (v13:Int) (l0:List Int):Option (Int × Bool):=
 I2 (fun v=>a3P v.1 v.2.1 v.2.2.1 v.2.2.2) (v11,v12,v13,l0)
def a6z (a0:o6):Option (Int × Bool):=
 a8F a0.1 (((List.length a0.1):Nat):Int) 0 [a0.2]
def a37 (b0:o6):Option (Int):=
 (a6z b0).bind fun r1=>
 sel (!r1.2) (
  some 6) (
  some 0)
def X8 (v3:Int) (v12:List o7) (v13:Int) (v14:Int) (v24:Bool) (b0:o6) (b1:o7):Option ((List o7 × Int × Int × o6) ⊕ (Int)):=
 sel v24 (
  some (.inr 8)) (
  sel (decide (0 < v3)) (
   chk (decide ((0:Int)<=(A5 (v3 - 1))/\(A5 (v3 - 1)) < (((List.length b0.1):Nat):Int))) <|
   sel (!(Op.bytesLess (List.getD b0.1 (Int.toNat (A5 (v3 - 1))) o9).1 b1.1 || decide ((List.getD b0.1 (Int.toNat (A5 (v3 - 1))) o9).1=b1.1))) (
    some (.inr 1)) (
    some (.inl (v12,v13,(A5 (v14 + 1)),b0)))) (
   some (.inl (v12,v13,(A5 (v14 + 1)),b0))))
def a1H (v12:List o7) (v13:Int) (v14:Int) (b0:o6):Option ((List o7 × Int × Int × o6) ⊕ (Int)):=
 sel (decide (v14 < v13)) (
  chk (decide ((0:Int)<=v14/\v14 < (((List.length v12):Nat):Int))) <|
  (a6b (List.getD v12 (Int.toNat v14) o9).1).bind fun r2=>
  sel (!r2) (
   some (.inr 10)) (
   sel (decide (0 < v14)) (
    chk (decide ((0:Int)<=(A5 (v14 - 1))/\(A5 (v14 - 1)) < (((List.length b0.1):Nat):Int))) <|
    X8 v14 v12 v13 v14 (decide ((List.getD b0.1 (Int.toNat (A5 (v14 - 1))) o9).1=(List.getD v12 (Int.toNat v14) o9).1)) b0 (List.getD v12 (Int.toNat v14) o9)) (
    X8 v14 v12 v13 v14 false b0 (List.getD v12 (Int.toNat v14) o9)))) (
  Option.map .inr (
   a37 b0))
def a6J (v12:List o7) (v13:Int) (v14:Int) (b0:o6):Option (Int):=
 I2 (fun v=>a1H v.1 v.2.1 v.2.2.1 v.2.2.2) (v12,v13,v14,b0)
def a3Q (a0:o6):Option (Int):=
 sel (decide (256 < (((List.length a0.1):Nat):Int))) (
  some 3) (
  a6J a0.1 (((List.length a0.1):Nat):Int) 0 a0)
def a63 (v0:List UInt8) (v2:Int) (v5:Int):Option ((List UInt8 × Int × Int) ⊕ (Int × Int × Int)):=
 chk (decide ((0:Int)<=v5/\v5 < (((List.length v0):Nat):Int))) <|
 chk (decide ((0:Int)<=(A5 (7 * v5)))) <|
 chk (decide ((0:Int)<=v5/\v5 < (((List.length v0):Nat):Int))) <|
 sel (decide (((UInt8.toNat (List.getD v0 (Int.toNat v5) (0:UInt8)):Nat):Int) < 128)) (
  some (.inr ((bits .or .u64 v2 (B1 ((B1 (bits .and .u8 ((UInt8.toNat (List.getD v0 (Int.toNat v5) (0:UInt8)):Nat):Int) 127)) * 2 ^ (min (Int.toNat (A5 (7 * v5))) 64)))),(A5 (v5 + 1)),0))) (
  some (.inl (v0,(bits .or .u64 v2 (B1 ((B1 (bits .and .u8 ((UInt8.toNat (List.getD v0 (Int.toNat v5) (0:UInt8)):Nat):Int) 127)) * 2 ^ (min (Int.toNat (A5 (7 * v5))) 64)))),(A5 (v5 + 1)))))
def a64 (v0:List UInt8) (v2:Int) (v5:Int) (v13:Bool):Option ((List UInt8 × Int × Int) ⊕ (Int × Int × Int)):=
 sel v13 (
  some (.inr (0,0,6))) (
  sel (decide (0 < v5)) (
   chk (decide ((0:Int)<=v5/\v5 < (((List.length v0):Nat):Int))) <|
   sel (decide (((UInt8.toNat (List.getD v0 (Int.toNat v5) (0:UInt8)):Nat):Int)=0)) (
    some (.inr (0,0,4))) (
    a63 v0 v2 v5)) (
   a63 v0 v2 v5))
def b0G (v0:List UInt8) (v2:Int) (v5:Int):Option ((List UInt8 × Int × Int) ⊕ (Int × Int × Int)):=
 sel (decide ((((List.length v0):Nat):Int)<=v5)) (
  some (.inr (0,0,5))) (
  sel (decide (v5=9)) (
   chk (decide ((0:Int)<=v5/\v5 < (((List.length v0):Nat):Int))) <|
   a64 v0 v2 v5 (decide (1 < ((UInt8.toNat (List.getD v0 (Int.toNat v5) (0:UInt8)):Nat):Int)))) (
   a64 v0 v2 v5 false))
def b4R (v0:List UInt8) (v2:Int) (v5:Int):Option (Int × Int × Int):=
 I2 (fun v=>b0G v.1 v.2.1 v.2.2) (v0,v2,v5)
def a3R (a0:List UInt8):Option (Int × Int × Int):=
 b4R a0 0 0
def a1v (v0:List UInt8) (v3:Int) (v6:Int) (v7:Int) (_b0:A1):Option (A1 × Int × Int):=
 chk (decide ((0:Int)<=v3/\v3<=(((List.length v0):Nat):Int)/\(((List.length v0):Nat):Int)<=(((List.length v0):Nat):Int))) <|
 (a3R (List.drop (Int.toNat v3) (List.take (Int.toNat (((List.length v0):Nat):Int)) v0))).bind fun r2=>
 sel (!decide (r2.2.2=0)) (
  some (((0:Int),(0:Int),(0:Int),[]),0,r2.2.2)) (
  sel (decide (v6=0)) (
   some (((A5 v7),v6,r2.1,[]),(A5 (v3 + r2.2.1)),0)) (
   chk (decide ((0:Int)<=(A5 (v3 + r2.2.1))/\(A5 (v3 + r2.2.1))<=(((List.length v0):Nat):Int)/\(((List.length v0):Nat):Int)<=(((List.length v0):Nat):Int))) <|
   sel (decide ((B1 (((List.length (List.drop (Int.toNat (A5 (v3 + r2.2.1))) (List.take (Int.toNat (((List.length v0):Nat):Int)) v0))):Nat):Int)) < r2.1)) (
    some (((0:Int),(0:Int),(0:Int),[]),0,5)) (
    chk (decide ((0:Int)<=0/\0<=r2.1/\r2.1<=(((List.length (List.drop (Int.toNat (A5 (v3 + r2.2.1))) (List.take (Int.toNat (((List.length v0):Nat):Int)) v0))):Nat):Int))) <|
    chk (decide ((List.length (List.take (Int.toNat r2.1) (List.drop (Int.toNat (A5 (v3 + r2.2.1))) (List.take (Int.toNat (((List.length v0):Nat):Int)) v0)))) * 1<=LIM/\(List.length (List.take (Int.toNat r2.1) (List.drop (Int.toNat (A5 (v3 + r2.2.1))) (List.take (Int.toNat (((List.length v0):Nat):Int)) v0))))<=LEN)) <|
    some (((A5 v7),v6,(0:Int),(List.take (Int.toNat r2.1) (List.drop (Int.toNat (A5 (v3 + r2.2.1))) (List.take (Int.toNat (((List.length v0):Nat):Int)) v0)))),(A5 ((A5 (v3 + r2.2.1)) + (A5 r2.1))),0))))
def a6d (a0:List UInt8):Option (A1 × Int × Int):=
 (a3R a0).bind fun r1=>
 sel (!decide (r1.2.2=0)) (
  some (((0:Int),(0:Int),(0:Int),[]),0,r1.2.2)) (
  sel (decide ((r1.1 / 2 ^ 3) < 1)) (
   some (((0:Int),(0:Int),(0:Int),[]),0,4)) (
   sel (decide (536870911 < (r1.1 / 2 ^ 3))) (
    some (((0:Int),(0:Int),(0:Int),[]),0,4)) (
    sel (!decide ((A5 (bits .and .u64 r1.1 7))=0)) (
     sel (!decide ((A5 (bits .and .u64 r1.1 7))=2)) (
      some (((0:Int),(0:Int),(0:Int),[]),0,4)) (
      a1v a0 r1.2.1 (A5 (bits .and .u64 r1.1 7)) (r1.1 / 2 ^ 3) ((0:Int),(0:Int),(0:Int),[]))) (
     a1v a0 r1.2.1 (A5 (bits .and .u64 r1.1 7)) (r1.1 / 2 ^ 3) ((0:Int),(0:Int),(0:Int),[])))))
def a65 (l0:List A1):Option (List A1 × Int × Int):=
 some (l0,0,0)
def X4 (v0:List UInt8) (v3:Int) (l0:List A1):Option ((List UInt8 × Int × List A1) ⊕ (List A1 × Int × Int)):=
 sel (decide (v3 < (((List.length v0):Nat):Int))) (
  sel (decide ((((List.length l0):Nat):Int)=1024)) (
   some (.inr ([],v3,3))) (
   chk (decide ((0:Int)<=v3/\v3<=(((List.length v0):Nat):Int)/\(((List.length v0):Nat):Int)<=(((List.length v0):Nat):Int))) <|
   (a6d (List.drop (Int.toNat v3) (List.take (Int.toNat (((List.length v0):Nat):Int)) v0))).bind fun r1=>
   sel (!decide (r1.2.2=0)) (
    some (.inr ([],v3,r1.2.2))) (
    chk (decide (((List.length l0) + 1) * 48<=LIM/\(List.length l0) + 1<=LEN)) <|
    some (.inl (v0,(A5 (v3 + r1.2.1)),(l0 ++ ([r1.1]:List A1))))))) (
  Option.map .inr (
   a65 l0))
def a6e (v0:List UInt8) (v3:Int) (l0:List A1):Option (List A1 × Int × Int):=
 I2 (fun v=>X4 v.1 v.2.1 v.2.2) (v0,v3,l0)
def a2p (a0:List UInt8):Option (List A1 × Int × Int):=
 a6e a0 0 []
def a4C (v16:Int) (v17:Int) (b0:o8) (b1:o8) (l0:List A1):Option ((Int × Int × o8 × o8 × List A1) ⊕ (o8)):=
 sel (decide (v17 < v16)) (
  chk (decide ((0:Int)<=v17/\v17 < (((List.length l0):Nat):Int))) <|
  chk (decide ((Int.toNat v17) < (List.length l0))) <|
  sel (decide ((List.getD l0 (Int.toNat v17) B7).1=1)) (
   some (.inl (v16,(A5 (v17 + 1)),b0,((List.getD l0 (Int.toNat v17) B7).2.2.2,b1.2),l0))) (
   sel (decide ((List.getD l0 (Int.toNat v17) B7).1=2)) (
    some (.inl (v16,(A5 (v17 + 1)),b0,(b1.1,(List.getD l0 (Int.toNat v17) B7).2.2.1),l0))) (
    some (.inl (v16,(A5 (v17 + 1)),b0,b1,l0))))) (
  some (.inr b1))
def a9v (v16:Int) (v17:Int) (b0:o8) (b1:o8) (l0:List A1):Option (o8):=
 I2 (fun v=>a4C v.1 v.2.1 v.2.2.1 v.2.2.2.1 v.2.2.2.2) (v16,v17,b0,b1,l0)
def a5r (a0:List UInt8):Option (o8):=
 (a2p a0).bind fun r1=>
 a9v (((List.length r1.1):Nat):Int) 0 ([],(0:Int)) ([],(0:Int)) r1.1
def a8G (v6:List A1) (v7:Int) (v8:Int) (b0_0:List UInt8) (b0_1:Int) (b0_2:Int) (b0_3:Int) (b0_4:List UInt8) (b1_0:List UInt8) (b1_1:Int) (b1_2:Int) (b1_3:Int) (b1_4:List UInt8) (l0:List o8):Option ((List A1 × Int × Int × List UInt8 × Int × Int × Int × List UInt8 × List UInt8 × Int × Int × Int × List UInt8 × List o8) ⊕ (A7)):=
 sel (decide (v8 < v7)) (
  chk (decide ((0:Int)<=v8/\v8 < (((List.length v6):Nat):Int))) <|
  sel (decide ((List.getD v6 (Int.toNat v8) B7).1=1)) (
   some (.inl (v6,v7,(A5 (v8 + 1)),b0_0,b0_1,b0_2,b0_3,b0_4,(List.getD v6 (Int.toNat v8) B7).2.2.2,b1_1,b1_2,b1_3,b1_4,l0))) (
   sel (decide ((List.getD v6 (Int.toNat v8) B7).1=2)) (
    some (.inl (v6,v7,(A5 (v8 + 1)),b0_0,b0_1,b0_2,b0_3,b0_4,b1_0,(List.getD v6 (Int.toNat v8) B7).2.2.1,b1_2,b1_3,b1_4,l0))) (
    sel (decide ((List.getD v6 (Int.toNat v8) B7).1=3)) (
     some (.inl (v6,v7,(A5 (v8 + 1)),b0_0,b0_1,b0_2,b0_3,b0_4,b1_0,b1_1,(List.getD v6 (Int.toNat v8) B7).2.2.1,b1_3,b1_4,l0))) (
     sel (decide ((List.getD v6 (Int.toNat v8) B7).1=4)) (
      some (.inl (v6,v7,(A5 (v8 + 1)),b0_0,b0_1,b0_2,b0_3,b0_4,b1_0,b1_1,b1_2,(List.getD v6 (Int.toNat v8) B7).2.2.1,b1_4,l0))) (
      sel (decide ((List.getD v6 (Int.toNat v8) B7).1=5)) (
       some (.inl (v6,v7,(A5 (v8 + 1)),b0_0,b0_1,b0_2,b0_3,b0_4,b1_0,b1_1,b1_2,b1_3,(List.getD v6 (Int.toNat v8) B7).2.2.2,l0))) (
       sel (decide ((List.getD v6 (Int.toNat v8) B7).1=6)) (
        (a5r (List.getD v6 (Int.toNat v8) B7).2.2.2).bind fun r1=>
        chk (decide (((List.length l0) + 1) * 24<=LIM/\(List.length l0) + 1<=LEN)) <|
        some (.inl (v6,v7,(A5 (v8 + 1)),b0_0,b0_1,b0_2,b0_3,b0_4,b1_0,b1_1,b1_2,b1_3,b1_4,(l0 ++ ([r1]:List o8))))) (
        some (.inl (v6,v7,(A5 (v8 + 1)),b0_0,b0_1,b0_2,b0_3,b0_4,b1_0,b1_1,b1_2,b1_3,b1_4,l0))))))))) (
  some (.inr (b1_0,b1_1,b1_2,b1_3,b1_4,l0)))
def b35 (v6:List A1) (v7:Int) (v8:Int) (b0_0:List UInt8) (b0_1:Int) (b0_2:Int) (b0_3:Int) (b0_4:List UInt8) (b1_0:List UInt8) (b1_1:Int) (b1_2:Int) (b1_3:Int) (b1_4:List UInt8) (l0:List o8):Option (A7):=
 I2 (fun v=>a8G v.1 v.2.1 v.2.2.1 v.2.2.2.1 v.2.2.2.2.1 v.2.2.2.2.2.1 v.2.2.2.2.2.2.1 v.2.2.2.2.2.2.2.1 v.2.2.2.2.2.2.2.2.1 v.2.2.2.2.2.2.2.2.2.1 v.2.2.2.2.2.2.2.2.2.2.1 v.2.2.2.2.2.2.2.2.2.2.2.1 v.2.2.2.2.2.2.2.2.2.2.2.2.1 v.2.2.2.2.2.2.2.2.2.2.2.2.2) (v6,v7,v8,b0_0,b0_1,b0_2,b0_3,b0_4,b1_0,b1_1,b1_2,b1_3,b1_4,l0)
def b36 (a0:List A1):Option (A7):=
 b35 a0 (((List.length a0):Nat):Int) 0 [] (0:Int) (0:Int) (0:Int) [] [] (0:Int) (0:Int) (0:Int) [] []
def a5b (a0:A1):Option (Bool):=
 sel (decide (a0.1 < 1)) (
  some false) (
  sel (decide (536870911 < a0.1)) (
   some false) (
   sel (decide (a0.2.1=0)) (
    sel (decide ((((List.length a0.2.2.2):Nat):Int)=0)) (
     some true) (
     sel (decide (a0.2.1=2)) (
      some (decide (a0.2.2.1=0))) (
      some false))) (
    sel (decide (a0.2.1=2)) (
     some (decide (a0.2.2.1=0))) (
     some false))))
def a9w (a0:A1):Option (Int):=
 some (B1 (A5 ((A5 (8 * a0.1)) + a0.2.1)))
def a8H (v1:Int) (l0:List UInt8):Option (List UInt8):=
 chk (decide ((0:Int)<=(wu8 v1)/\(wu8 v1) < 256)) <|
 chk (decide (((List.length l0) + 1) * 1<=LIM/\(List.length l0) + 1<=LEN)) <|
 some (l0 ++ [(UInt8.ofNat (Int.toNat (wu8 v1)))])
def a5s (v1:Int) (l0:List UInt8):Option ((Int × List UInt8) ⊕ (List UInt8)):=
 sel (decide (128<=v1)) (
  chk (decide ((0:Int)<=(bits .or .u8 (wu8 v1) 128)/\(bits .or .u8 (wu8 v1) 128) < 256)) <|
  chk (decide (((List.length l0) + 1) * 1<=LIM/\(List.length l0) + 1<=LEN)) <|
  some (.inl ((v1 / 2 ^ 7),(l0 ++ [(UInt8.ofNat (Int.toNat (bits .or .u8 (wu8 v1) 128)))])))) (
  Option.map .inr (
   a8H v1 l0))
def a70 (v1:Int) (l0:List UInt8):Option (List UInt8):=
 I2 (fun v=>a5s v.1 v.2) (v1,l0)
def U4 (a0:List UInt8) (a1:Int):Option (List UInt8):=
 chk (decide ((List.length a0) * 1<=LIM/\(List.length a0)<=LEN)) <|
 a70 a1 a0
def K0 (a0:List UInt8) (a1:A1):Option (List UInt8 × Int):=
 (a5b a1).bind fun r1=>
 sel (!r1) (
  some ([],1)) (
  (a9w a1).bind fun r2=>
  (U4 a0 r2).bind fun r3=>
  sel (decide (a1.2.1=0)) (
   (U4 r3 a1.2.2.1).bind fun r4=>
   some (r4,0)) (
   (U4 r3 (B1 (((List.length a1.2.2.2):Nat):Int))).bind fun r5=>
   chk (decide (((List.length r5) + (List.length a1.2.2.2)) * 1<=LIM/\(List.length r5) + (List.length a1.2.2.2)<=LEN)) <|
   some ((r5 ++ a1.2.2.2),0)))
def M5 (a0:List UInt8) (a1:Int) (a2:List UInt8):Option (List UInt8):=
 sel (decide (a2=[])) (
  some a0) (
  chk (decide ((List.length a2)<=maxLen)) <|
  (K0 [] (a1,2,(0:Int),a2)).bind fun r1=>
  chk (decide (((List.length a0) + (List.length r1.1)) * 1<=LIM/\(List.length a0) + (List.length r1.1)<=LEN)) <|
  some (a0 ++ r1.1))
def K3 (a0:List UInt8) (a1:Int) (a2:Int):Option (List UInt8):=
 sel (decide (a2=0)) (
  some a0) (
  (K0 [] (a1,0,a2,[])).bind fun r1=>
  chk (decide (((List.length a0) + (List.length r1.1)) * 1<=LIM/\(List.length a0) + (List.length r1.1)<=LEN)) <|
  some (a0 ++ r1.1))
def V7 (a0:List UInt8) (a1:Int) (a2:List UInt8):Option (List UInt8):=
 (K0 [] (a1,2,(0:Int),a2)).bind fun r1=>
 chk (decide (((List.length a0) + (List.length r1.1)) * 1<=LIM/\(List.length a0) + (List.length r1.1)<=LEN)) <|
 some (a0 ++ r1.1)
def a5t (v28:List o8) (v29:Int) (v30:Int) (l0:List UInt8):Option ((List o8 × Int × Int × List UInt8) ⊕ (List UInt8)):=
 sel (decide (v30 < v29)) (
  chk (decide ((0:Int)<=v30/\v30 < (((List.length v28):Nat):Int))) <|
  (M5 [] 1 (List.getD v28 (Int.toNat v30) B0).1).bind fun r6=>
  (K3 r6 2 (List.getD v28 (Int.toNat v30) B0).2).bind fun r7=>
  (V7 l0 6 r7).bind fun r8=>
  some (.inl (v28,v29,(A5 (v30 + 1)),r8))) (
  some (.inr l0))
def b0H (v28:List o8) (v29:Int) (v30:Int) (l0:List UInt8):Option (List UInt8):=
 I2 (fun v=>a5t v.1 v.2.1 v.2.2.1 v.2.2.2) (v28,v29,v30,l0)
def a8I (a0:A7):Option (List UInt8):=
 (M5 [] 1 a0.1).bind fun r1=>
 (K3 r1 2 a0.2.1).bind fun r2=>
 (K3 r2 3 a0.2.2.1).bind fun r3=>
 (K3 r3 4 a0.2.2.2.1).bind fun r4=>
 (M5 r4 5 a0.2.2.2.2.1).bind fun r5=>
 b0H a0.2.2.2.2.2 (((List.length a0.2.2.2.2.2):Nat):Int) 0 r5
def a99 (a0:List UInt8) (a1:List UInt8):Option (Bool):=
 some (decide (a0=a1))
def a82 (v0:List UInt8) (v3:Int) (l0:List (List UInt8 × Int)):Option ((List UInt8 × Int × List (List UInt8 × Int)) ⊕ (Bool)):=
 chk (Nat.beq (List.length l0) 1) <|
 sel (decide (Int.toNat (I8 l0).2 < List.length (I8 l0).1)) (
  chk ((decide (Int.toNat (I8 l0).2 < List.length (I8 l0).1))) <|
  chk ((decide (Int.toNat (I8 l0).2 < List.length (I8 l0).1))) <|
  chk (decide ((0:Int)<=(I8 l0).2/\(I8 l0).2<=(((List.length v0):Nat):Int)/\(((List.length v0):Nat):Int)<=(((List.length v0):Nat):Int))) <|
  (H0 (List.drop (Int.toNat (I8 l0).2) (List.take (Int.toNat (((List.length v0):Nat):Int)) v0))).bind fun r1=>
  sel (decide ((c2u (I8 l0).1 (I8 l0).2)=65533)) (
   sel (decide (r1.2=1)) (
    some (.inr false)) (
    some (.inl (v0,(A5 (v3 + 1)),[((I8 l0).1,(b6N (I8 l0).1 (I8 l0).2))])))) (
   some (.inl (v0,(A5 (v3 + 1)),[((I8 l0).1,(b6N (I8 l0).1 (I8 l0).2))])))) (
  some (.inr (decide (v3<=64))))
def b1g (v0:List UInt8) (v3:Int) (l0:List (List UInt8 × Int)):Option (Bool):=
 I2 (fun v=>a82 v.1 v.2.1 v.2.2) (v0,v3,l0)
def b0a (a0:List UInt8):Option (Bool):=
 b1g a0 0 [(a0,(0:Int))]
def a4D (v31:List o8) (v32:Int) (v33:Int):Option ((List o8 × Int × Int) ⊕ (Int)):=
 sel (decide (v33 < v32)) (
  chk (decide ((0:Int)<=v33/\v33 < (((List.length v31):Nat):Int))) <|
  (a6b (List.getD v31 (Int.toNat v33) B0).1).bind fun r3=>
  sel (!r3) (
   some (.inr 10)) (
   sel (decide ((List.getD v31 (Int.toNat v33) B0).2=0)) (
    some (.inr 12)) (
    some (.inl (v31,v32,(A5 (v33 + 1))))))) (
  some (.inr 0))
def a6f (v31:List o8) (v32:Int) (v33:Int):Option (Int):=
 I2 (fun v=>a4D v.1 v.2.1 v.2.2) (v31,v32,v33)
def a7G (a0:A7):Option (Int):=
 (a6b a0.1).bind fun r1=>
 sel (!r1) (
  some 10) (
  sel (decide (a0.2.2.1=0)) (
   some 15) (
   (b0a a0.2.2.2.2.1).bind fun r2=>
   sel (!r2) (
    some 11) (
    sel (decide ((((List.length a0.2.2.2.2.2):Nat):Int)=0)) (
     some 3) (
     sel (decide (16 < (((List.length a0.2.2.2.2.2):Nat):Int))) (
      some 3) (
      a6f a0.2.2.2.2.2 (((List.length a0.2.2.2.2.2):Nat):Int) 0)))))
def a71 (a0:List UInt8):Option (A7 × Int):=
 sel (decide (4096 < (((List.length a0):Nat):Int))) (
  some (([],(0:Int),(0:Int),(0:Int),[],[]),3)) (
  (a2p a0).bind fun r1=>
  (b36 r1.1).bind fun r2=>
  sel (!decide (r1.2.2=0)) (
   some (([],(0:Int),(0:Int),(0:Int),[],[]),4)) (
   (a8I r2).bind fun r3=>
   (a99 r3 a0).bind fun r4=>
   sel (!r4) (
    some (([],(0:Int),(0:Int),(0:Int),[],[]),4)) (
    (a7G r2).bind fun r5=>
    sel (!decide (r5=0)) (
     some (([],(0:Int),(0:Int),(0:Int),[],[]),r5)) (
     some (r2,0)))))
def a1c (a0:List UInt8):Option (Bool):=
 some (!decide (a0=a0))
def a1I (a0:List UInt8) (a1:List UInt8):Option (Int):=
 (a1c a0).bind fun r1=>
 (a1c a1).bind fun r2=>
 sel r1 (
  sel r2 (
   some 0) (
   some (-1))) (
  sel r2 (
   some 1) (
   sel (Op.bytesLess a0 a1) (
    some (-1)) (
    sel (!(Op.bytesLess a0 a1 || decide (a0=a1))) (
     some 1) (
     some 0))))
def a3r (a0:o7) (a1:List UInt8):Option (Int):=
 (a1I a0.1 a1).bind fun r1=>
 some r1
def C8 (v0:List o7) (v1:List UInt8) (v8:Int) (v9:Int):Option (Int × Bool):=
 sel (decide (v9 < v8)) (
  chk (decide ((0:Int)<=v9/\v9 < (((List.length v0):Nat):Int))) <|
  (a3r (List.getD v0 (Int.toNat v9) o9) v1).bind fun r1=>
  some (v9,(decide (r1=0)))) (
  some (v9,false))
def C9 (v0:List o7) (v1:List UInt8) (v8:Int) (v9:Int) (v10:Int):Option ((List o7 × List UInt8 × Int × Int × Int) ⊕ (Int × Bool)):=
 sel (decide (v9 < v10)) (
  chk (decide ((0:Int)<=(A5 ((B1 (A5 (v9 + v10))) / 2 ^ 1))/\(A5 ((B1 (A5 (v9 + v10))) / 2 ^ 1)) < (((List.length v0):Nat):Int))) <|
  (a3r (List.getD v0 (Int.toNat (A5 ((B1 (A5 (v9 + v10))) / 2 ^ 1))) o9) v1).bind fun r2=>
  sel (decide (r2 < 0)) (
   some (.inl (v0,v1,v8,(A5 ((A5 ((B1 (A5 (v9 + v10))) / 2 ^ 1)) + 1)),v10))) (
   some (.inl (v0,v1,v8,v9,(A5 ((B1 (A5 (v9 + v10))) / 2 ^ 1)))))) (
  Option.map .inr (
   C8 v0 v1 v8 v9))
def F8 (v0:List o7) (v1:List UInt8) (v8:Int) (v9:Int) (v10:Int):Option (Int × Bool):=
 I2 (fun v=>C9 v.1 v.2.1 v.2.2.1 v.2.2.2.1 v.2.2.2.2) (v0,v1,v8,v9,v10)
def C3 (a0:List o7) (a1:List UInt8):Option (Int × Bool):=
 F8 a0 a1 (((List.length a0):Nat):Int) 0 (((List.length a0):Nat):Int)
def a2q (a0:o6) (a1:List UInt8):Option (Int × Bool):=
 (C3 a0.1 a1).bind fun r1=>
 some (r1.1,r1.2)
def b0b (a0:Int):Option (Int):=
 some (B1 (min (max a0 0) 1073741824))
def b4S (a0:Int) (a1:Int):Option (Int):=
 (b0b a0).bind fun r1=>
 (b0b a1).bind fun r2=>
 some (B1 ((B1 (50 + (B1 (1 * r1)))) + (B1 (20 * r2))))
def a11 (a0:Int) (a1:Int):Option (Int × Int):=
 some ((B1 ((B1 ((B1 ((a0 / 2 ^ 32) * (a1 / 2 ^ 32))) + ((B1 ((B1 ((a0 / 2 ^ 32) * (bits .and .u64 a1 4294967295))) + ((B1 ((bits .and .u64 a0 4294967295) * (bits .and .u64 a1 4294967295))) / 2 ^ 32))) / 2 ^ 32))) + ((B1 ((bits .and .u64 (B1 ((B1 ((a0 / 2 ^ 32) * (bits .and .u64 a1 4294967295))) + ((B1 ((bits .and .u64 a0 4294967295) * (bits .and .u64 a1 4294967295))) / 2 ^ 32))) 4294967295) + (B1 ((bits .and .u64 a0 4294967295) * (a1 / 2 ^ 32))))) / 2 ^ 32))),(B1 (a0 * a1)))
def b1h (a0:Int) (a1:Bool):Option (Int × Bool):=
 sel (!a1) (
  some (0,false)) (
  some (a0,true))
def b0c (a0:Int) (a1:Int):Option (Int × Bool):=
 (a11 a0 a1).bind fun r1=>
 (b1h r1.2 (decide (r1.1=0))).bind fun r2=>
 some (r2.1,r2.2)
def b11 (a0:Int) (a1:Int):Option (Int × Bool):=
 (b0c a0 a1).bind fun r1=>
 some (r1.1,r1.2)
def a72 (l0:List Int):Option (Int × Bool):=
 (a7Z l0).bind fun r1=>
 some (r1.1,r1.2)
def a5u (v11:List o8) (v12:Int) (v13:Int) (l0:List Int):Option ((List o8 × Int × Int × List Int) ⊕ (Int × Bool)):=
 sel (decide (v13 < v12)) (
  chk (decide ((0:Int)<=v13/\v13 < (((List.length v11):Nat):Int))) <|
  chk (decide (((List.length l0) + 1) * 8<=LIM/\(List.length l0) + 1<=LEN)) <|
  some (.inl (v11,v12,(A5 (v13 + 1)),(l0 ++ [(List.getD v11 (Int.toNat v13) B0).2])))) (
  Option.map .inr (
   a72 l0))
def b0I (v11:List o8) (v12:Int) (v13:Int) (l0:List Int):Option (Int × Bool):=
 I2 (fun v=>a5u v.1 v.2.1 v.2.2.1 v.2.2.2) (v11,v12,v13,l0)
def a6K (a0:A7):Option (Int × Bool):=
 b0I a0.2.2.2.2.2 (((List.length a0.2.2.2.2.2):Nat):Int) 0 [a0.2.2.2.1]
def a4E (v12:List o8) (v13:Int) (v14:Int) (b0:o6) (l0:List (List UInt8 × Vector UInt8 0)):Option ((List o8 × Int × Int × o6 × List (List UInt8 × Vector UInt8 0)) ⊕ (Int)):=
 sel (decide (v14 < v13)) (
  chk (decide ((0:Int)<=v14/\v14 < (((List.length v12):Nat):Int))) <|
  (a2q b0 (List.getD v12 (Int.toNat v14) B0).1).bind fun r1=>
  sel (!r1.2) (
   some (.inl (v12,v13,(A5 (v14 + 1)),b0,(c6f b5K (List.getD v12 (Int.toNat v14) B0).1 (Vector.replicate 0 (0:UInt8)) l0)))) (
   some (.inl (v12,v13,(A5 (v14 + 1)),b0,l0)))) (
  some (.inr (((List.length l0):Nat):Int)))
def a9x (v12:List o8) (v13:Int) (v14:Int) (b0:o6) (l0:List (List UInt8 × Vector UInt8 0)):Option (Int):=
 I2 (fun v=>a4E v.1 v.2.1 v.2.2.1 v.2.2.2.1 v.2.2.2.2) (v12,v13,v14,b0,l0)
def a7H (a0:o6) (a1:A7):Option (Int):=
 a9x a1.2.2.2.2.2 (((List.length a1.2.2.2.2.2):Nat):Int) 0 a0 []
def a7I (a0:o6) (a1:Int) (a2:A7) (a3:Int):Option (Int):=
 (a2q a0 a2.1).bind fun r1=>
 sel (!r1.2) (
  some 13) (
  chk (decide ((0:Int)<=r1.1/\r1.1 < (((List.length a0.1):Nat):Int))) <|
  sel (!decide ((List.getD a0.1 (Int.toNat r1.1) o9).2.2=a2.2.1)) (
   some 14) (
   sel (decide ((List.getD a0.1 (Int.toNat r1.1) o9).2.2=18446744073709551615)) (
    some 6) (
    (b4S a3 (((List.length a2.2.2.2.2.2):Nat):Int)).bind fun r2=>
    sel (decide (a2.2.2.1 < r2)) (
     some 15) (
     (b11 a2.2.2.1 a1).bind fun r3=>
     sel (!r3.2) (
      some 6) (
      sel (decide (a2.2.2.2.1 < r3.1)) (
       some 16) (
       (a6K a2).bind fun r4=>
       sel (!r4.2) (
        some 6) (
        sel (decide ((List.getD a0.1 (Int.toNat r1.1) o9).2.1 < r4.1)) (
         some 17) (
         (a7H a0 a2).bind fun r5=>
         sel (decide (256 < (A5 ((((List.length a0.1):Nat):Int) + r5)))) (
          some 3) (
          some 0)))))))))
def X9 (v0:Int) (v2:Int):Option (Int):=
 chk (decide ((0:Int)<=(wu8 v0)/\(wu8 v0) < 256)) <|
 some (A5 (v2 + (A5 ((UInt8.toNat (List.getD ([0,1,2,2,3,3,3,3,4,4,4,4,4,4,4,4,5,5,5,5,5,5,5,5,5,5,5,5,5,5,5,5,6,6,6,6,6,6,6,6,6,6,6,6,6,6,6,6,6,6,6,6,6,6,6,6,6,6,6,6,6,6,6,6,7,7,7,7,7,7,7,7,7,7,7,7,7,7,7,7,7,7,7,7,7,7,7,7,7,7,7,7,7,7,7,7,7,7,7,7,7,7,7,7,7,7,7,7,7,7,7,7,7,7,7,7,7,7,7,7,7,7,7,7,7,7,7,7,8,8,8,8,8,8,8,8,8,8,8,8,8,8,8,8,8,8,8,8,8,8,8,8,8,8,8,8,8,8,8,8,8,8,8,8,8,8,8,8,8,8,8,8,8,8,8,8,8,8,8,8,8,8,8,8,8,8,8,8,8,8,8,8,8,8,8,8,8,8,8,8,8,8,8,8,8,8,8,8,8,8,8,8,8,8,8,8,8,8,8,8,8,8,8,8,8,8,8,8,8,8,8,8,8,8,8,8,8,8,8,8,8,8,8,8,8,8,8,8,8,8,8,8,8,8,8,8]:List UInt8) (Int.toNat (wu8 v0)) (0:UInt8)):Nat):Int))))
def Y0 (v0:Int) (v2:Int):Option (Int):=
 sel (decide (256<=v0)) (
  X9 (v0 / 2 ^ 8) (A5 (v2 + 8))) (
  X9 v0 v2)
def Y1 (v0:Int) (v2:Int):Option (Int):=
 sel (decide (65536<=v0)) (
  Y0 (v0 / 2 ^ 16) (A5 (v2 + 16))) (
  Y0 v0 v2)
def a12 (a0:Int):Option (Int):=
 sel (decide (4294967296<=a0)) (
  Y1 (a0 / 2 ^ 32) 32) (
  Y1 a0 0)
def R3 (a0:Int):Option (Int):=
 (a12 a0).bind fun r1=>
 some (A5 (64 - r1))
def Y2 (v2:Int) (v8:Int) (v14:Int) (v15:Int) (v17:Int) (v18:Int):Option (Int × Int):=
 chk (decide ((0:Int)<=v8)) <|
 some ((B1 ((B1 (v15 * 4294967296)) + v18)),((B1 ((B1 ((B1 (v17 * 4294967296)) + v14)) - (B1 (v18 * v2)))) / 2 ^ (min (Int.toNat v8) 64)))
def Y3 (v2:Int) (v8:Int) (v9:Int) (v10:Int) (v14:Int) (v15:Int) (v16:Int) (v17:Int) (v18:Int):Option ((Int × Int × Int × Int × Int × Int × Int × Int × Int) ⊕ (Int × Int)):=
 sel (decide (4294967296<=(B1 (v16 + v9)))) (
  Option.map .inr (
   Y2 v2 v8 v14 v15 v17 (B1 (v18 - 1)))) (
  some (.inl (v2,v8,v9,v10,v14,v15,(B1 (v16 + v9)),v17,(B1 (v18 - 1)))))
def a38 (v2:Int) (v8:Int) (v9:Int) (v10:Int) (v14:Int) (v15:Int) (v16:Int) (v17:Int) (v18:Int):Option ((Int × Int × Int × Int × Int × Int × Int × Int × Int) ⊕ (Int × Int)):=
 sel (decide (4294967296<=v18)) (
  Y3 v2 v8 v9 v10 v14 v15 v16 v17 v18) (
  sel (decide ((B1 ((B1 (4294967296 * v16)) + v14)) < (B1 (v18 * v10)))) (
   Y3 v2 v8 v9 v10 v14 v15 v16 v17 v18) (
   Option.map .inr (
    Y2 v2 v8 v14 v15 v17 v18)))
def a3s (v2:Int) (v8:Int) (v9:Int) (v10:Int) (v14:Int) (v15:Int) (v16:Int) (v17:Int) (v18:Int):Option (Int × Int):=
 I2 (fun v=>a38 v.1 v.2.1 v.2.2.1 v.2.2.2.1 v.2.2.2.2.1 v.2.2.2.2.2.1 v.2.2.2.2.2.2.1 v.2.2.2.2.2.2.2.1 v.2.2.2.2.2.2.2.2) (v2,v8,v9,v10,v14,v15,v16,v17,v18)
def N2 (v2:Int) (v8:Int) (v9:Int) (v10:Int) (v11:Int) (v13:Int) (v14:Int) (v15:Int):Option (Int × Int):=
 chk (!decide (v9=0)) <|
 a3s v2 v8 v9 v10 v14 v15 (B1 ((B1 ((B1 ((B1 (v11 * 4294967296)) + v13)) - (B1 (v15 * v2)))) - (B1 ((B1 (Int.tdiv (B1 ((B1 ((B1 (v11 * 4294967296)) + v13)) - (B1 (v15 * v2)))) v9)) * v9)))) (B1 ((B1 ((B1 (v11 * 4294967296)) + v13)) - (B1 (v15 * v2)))) (B1 (Int.tdiv (B1 ((B1 ((B1 (v11 * 4294967296)) + v13)) - (B1 (v15 * v2)))) v9))
def Y4 (v2:Int) (v8:Int) (v9:Int) (v10:Int) (v11:Int) (v13:Int) (v14:Int) (v15:Int) (v16:Int):Option ((Int × Int × Int × Int × Int × Int × Int × Int × Int) ⊕ (Int × Int)):=
 sel (decide (4294967296<=(B1 (v16 + v9)))) (
  Option.map .inr (
   N2 v2 v8 v9 v10 v11 v13 v14 (B1 (v15 - 1)))) (
  some (.inl (v2,v8,v9,v10,v11,v13,v14,(B1 (v15 - 1)),(B1 (v16 + v9)))))
def a39 (v2:Int) (v8:Int) (v9:Int) (v10:Int) (v11:Int) (v13:Int) (v14:Int) (v15:Int) (v16:Int):Option ((Int × Int × Int × Int × Int × Int × Int × Int × Int) ⊕ (Int × Int)):=
 sel (decide (4294967296<=v15)) (
  Y4 v2 v8 v9 v10 v11 v13 v14 v15 v16) (
  sel (decide ((B1 ((B1 (4294967296 * v16)) + v13)) < (B1 (v15 * v10)))) (
   Y4 v2 v8 v9 v10 v11 v13 v14 v15 v16) (
   Option.map .inr (
    N2 v2 v8 v9 v10 v11 v13 v14 v15)))
def a3t (v2:Int) (v8:Int) (v9:Int) (v10:Int) (v11:Int) (v13:Int) (v14:Int) (v15:Int) (v16:Int):Option (Int × Int):=
 I2 (fun v=>a39 v.1 v.2.1 v.2.2.1 v.2.2.2.1 v.2.2.2.2.1 v.2.2.2.2.2.1 v.2.2.2.2.2.2.1 v.2.2.2.2.2.2.2.1 v.2.2.2.2.2.2.2.2) (v2,v8,v9,v10,v11,v13,v14,v15,v16)
def a3S (a0:Int) (a1:Int) (a2:Int):Option (Int × Int):=
 sel (decide (a2=0)) (
  none) (
  sel (decide (a2<=a0)) (
   none) (
   sel (decide (a0=0)) (
    chk (!decide (a2=0)) <|
    chk (!decide (a2=0)) <|
    some ((B1 (Int.tdiv a1 a2)),(Int.tmod a1 a2))) (
    (R3 a2).bind fun r1=>
    chk (decide ((0:Int)<=(B1 r1))) <|
    chk (decide ((0:Int)<=(B1 r1))) <|
    chk (decide ((0:Int)<=(B1 (64 - (B1 r1))))) <|
    chk (decide ((0:Int)<=(B1 r1))) <|
    chk (!decide (((B1 (a2 * 2 ^ (min (Int.toNat (B1 r1)) 64))) / 2 ^ 32)=0)) <|
    a3t (B1 (a2 * 2 ^ (min (Int.toNat (B1 r1)) 64))) (B1 r1) ((B1 (a2 * 2 ^ (min (Int.toNat (B1 r1)) 64))) / 2 ^ 32) (bits .and .u64 (B1 (a2 * 2 ^ (min (Int.toNat (B1 r1)) 64))) 4294967295) (bits .or .u64 (B1 (a0 * 2 ^ (min (Int.toNat (B1 r1)) 64))) (a1 / 2 ^ (min (Int.toNat (B1 (64 - (B1 r1)))) 64))) ((B1 (a1 * 2 ^ (min (Int.toNat (B1 r1)) 64))) / 2 ^ 32) (bits .and .u64 (B1 (a1 * 2 ^ (min (Int.toNat (B1 r1)) 64))) 4294967295) (B1 (Int.tdiv (bits .or .u64 (B1 (a0 * 2 ^ (min (Int.toNat (B1 r1)) 64))) (a1 / 2 ^ (min (Int.toNat (B1 (64 - (B1 r1)))) 64))) ((B1 (a2 * 2 ^ (min (Int.toNat (B1 r1)) 64))) / 2 ^ 32))) (B1 ((bits .or .u64 (B1 (a0 * 2 ^ (min (Int.toNat (B1 r1)) 64))) (a1 / 2 ^ (min (Int.toNat (B1 (64 - (B1 r1)))) 64))) - (B1 ((B1 (Int.tdiv (bits .or .u64 (B1 (a0 * 2 ^ (min (Int.toNat (B1 r1)) 64))) (a1 / 2 ^ (min (Int.toNat (B1 (64 - (B1 r1)))) 64))) ((B1 (a2 * 2 ^ (min (Int.toNat (B1 r1)) 64))) / 2 ^ 32))) * ((B1 (a2 * 2 ^ (min (Int.toNat (B1 r1)) 64))) / 2 ^ 32))))))))
def a6A (a0:Int) (a1:Int) (a2:Int):Option (Int × Bool):=
 (a11 a0 a1).bind fun r1=>
 sel (decide (a2<=r1.1)) (
  some (0,false)) (
  (a3S r1.1 r1.2 a2).bind fun r2=>
  some (r2.1,true))
def a4w (a0:Int) (a1:Int):Option (Int):=
 sel (decide (a1=0)) (
  some 0) (
  (a6A 1000 a0 a1).bind fun r1=>
  sel (!r1.2) (
   some 18446744073709551615) (
   some r1.1))
def M0 (a0:List o7) (a1:Int) (a2:List o7):Option (List o7):=d3c a0 a1 a2
def a66 (b0_1:Int) (b1:A7) (_b2_1:Int) (l0:List o7):Option (List o7 × Int):=
 some (l0,(B1 (b0_1 + b1.2.2.2.1)))
def a2N (v11:Int) (v45:List o8) (v46:Int) (v47:Int) (b0_1:Int) (b1:A7) (b2_1:Int) (b3:o8) (l0:List o7):Option ((List o8 × Int × Int × Int × A7 × Int × List o7) ⊕ (List o7 × Int)):=
 chk (decide ((0:Int)<=v11/\v11 < (((List.length l0):Nat):Int))) <|
 chk (decide ((Int.toNat v11) < (List.length l0))) <|
 chk (decide ((0:Int)<=v11/\v11 < (((List.length l0):Nat):Int))) <|
 chk (decide ((Int.toNat v11) < (List.length l0))) <|
 some (.inl (v45,v46,(A5 (v47 + 1)),b0_1,b1,b2_1,(List.set l0 (Int.toNat v11) ((List.getD l0 (Int.toNat v11) o9).1,(B1 ((List.getD l0 (Int.toNat v11) o9).2.1 + b3.2)),(List.getD l0 (Int.toNat v11) o9).2.2))))
def a4F (v45:List o8) (v46:Int) (v47:Int) (b0_1:Int) (b1:A7) (b2_1:Int) (l0:List o7):Option ((List o8 × Int × Int × Int × A7 × Int × List o7) ⊕ (List o7 × Int)):=
 sel (decide (v47 < v46)) (
  chk (decide ((0:Int)<=v47/\v47 < (((List.length v45):Nat):Int))) <|
  (a2q (l0,b0_1) (List.getD v45 (Int.toNat v47) B0).1).bind fun r3=>
  sel (!r3.2) (
   (M0 l0 r3.1 [((List.getD v45 (Int.toNat v47) B0).1,(0:Int),(0:Int))]).bind fun r4=>
   a2N r3.1 v45 v46 v47 b0_1 b1 b2_1 (List.getD v45 (Int.toNat v47) B0) r4) (
   a2N r3.1 v45 v46 v47 b0_1 b1 b2_1 (List.getD v45 (Int.toNat v47) B0) l0)) (
  Option.map .inr (
   a66 b0_1 b1 b2_1 l0))
def a9y (v45:List o8) (v46:Int) (v47:Int) (b0_1:Int) (b1:A7) (b2_1:Int) (l0:List o7):Option (List o7 × Int):=
 I2 (fun v=>a4F v.1 v.2.1 v.2.2.1 v.2.2.2.1 v.2.2.2.2.1 v.2.2.2.2.2.1 v.2.2.2.2.2.2) (v45,v46,v47,b0_1,b1,b2_1,l0)
def a7J (a0_0:List o7) (a0_1:Int) (a1:A7):Option (List o7 × Int):=
 (a6K a1).bind fun r1=>
 (a2q (a0_0,a0_1) a1.1).bind fun r2=>
 chk (decide ((0:Int)<=r2.1/\r2.1 < (((List.length a0_0):Nat):Int))) <|
 chk (decide ((Int.toNat r2.1) < (List.length a0_0))) <|
 chk (decide ((0:Int)<=r2.1/\r2.1 < (((List.length a0_0):Nat):Int))) <|
 chk (decide ((Int.toNat r2.1) < (List.length a0_0))) <|
 chk (decide ((0:Int)<=r2.1/\r2.1 < (((List.length (List.set a0_0 (Int.toNat r2.1) ((List.getD a0_0 (Int.toNat r2.1) o9).1,(B1 ((List.getD a0_0 (Int.toNat r2.1) o9).2.1 - r1.1)),(List.getD a0_0 (Int.toNat r2.1) o9).2.2))):Nat):Int))) <|
 chk (decide ((Int.toNat r2.1) < (List.length (List.set a0_0 (Int.toNat r2.1) ((List.getD a0_0 (Int.toNat r2.1) o9).1,(B1 ((List.getD a0_0 (Int.toNat r2.1) o9).2.1 - r1.1)),(List.getD a0_0 (Int.toNat r2.1) o9).2.2))))) <|
 chk (decide ((0:Int)<=r2.1/\r2.1 < (((List.length (List.set a0_0 (Int.toNat r2.1) ((List.getD a0_0 (Int.toNat r2.1) o9).1,(B1 ((List.getD a0_0 (Int.toNat r2.1) o9).2.1 - r1.1)),(List.getD a0_0 (Int.toNat r2.1) o9).2.2))):Nat):Int))) <|
 chk (decide ((Int.toNat r2.1) < (List.length (List.set a0_0 (Int.toNat r2.1) ((List.getD a0_0 (Int.toNat r2.1) o9).1,(B1 ((List.getD a0_0 (Int.toNat r2.1) o9).2.1 - r1.1)),(List.getD a0_0 (Int.toNat r2.1) o9).2.2))))) <|
 a9y a1.2.2.2.2.2 (((List.length a1.2.2.2.2.2):Nat):Int) 0 a0_1 a1 (0:Int) (List.set (List.set a0_0 (Int.toNat r2.1) ((List.getD a0_0 (Int.toNat r2.1) o9).1,(B1 ((List.getD a0_0 (Int.toNat r2.1) o9).2.1 - r1.1)),(List.getD a0_0 (Int.toNat r2.1) o9).2.2)) (Int.toNat r2.1) ((List.getD (List.set a0_0 (Int.toNat r2.1) ((List.getD a0_0 (Int.toNat r2.1) o9).1,(B1 ((List.getD a0_0 (Int.toNat r2.1) o9).2.1 - r1.1)),(List.getD a0_0 (Int.toNat r2.1) o9).2.2)) (Int.toNat r2.1) o9).1,(List.getD (List.set a0_0 (Int.toNat r2.1) ((List.getD a0_0 (Int.toNat r2.1) o9).1,(B1 ((List.getD a0_0 (Int.toNat r2.1) o9).2.1 - r1.1)),(List.getD a0_0 (Int.toNat r2.1) o9).2.2)) (Int.toNat r2.1) o9).2.1,(B1 ((List.getD (List.set a0_0 (Int.toNat r2.1) ((List.getD a0_0 (Int.toNat r2.1) o9).1,(B1 ((List.getD a0_0 (Int.toNat r2.1) o9).2.1 - r1.1)),(List.getD a0_0 (Int.toNat r2.1) o9).2.2)) (Int.toNat r2.1) o9).2.2 + 1))))
def a0k (a0:o6) (a1:Int) (a2:List UInt8):Option (o6 × A6):=
 (a8E a0).bind fun r1=>
 (a3Q a0).bind fun r2=>
 sel (!decide (r2=0)) (
  some (r1,(1,[],(0:Int),(0:Int),(0:Int)))) (
  (a71 a2).bind fun r3=>
  sel (!decide (r3.2=0)) (
   some (r1,(r3.2,[],(0:Int),(0:Int),(0:Int)))) (
   (a7I a0 a1 r3.1 (((List.length a2):Nat):Int)).bind fun r4=>
   (a4w r3.1.2.2.2.1 r3.1.2.2.1).bind fun r5=>
   sel (decide (r4=0)) (
    (a7J r1.1 r1.2 r3.1).bind fun r6=>
    some (r6,(r4,r3.1.1,r3.1.2.1,r3.1.2.2.1,r5))) (
    some (r1,(r4,r3.1.1,r3.1.2.1,r3.1.2.2.1,r5)))))
def P6 (v22:Int) (v23:Int) (b0:o6) (b1:o6):Option ((Int × Int × o6 × o6) ⊕ (Bool)):=
 sel (decide (v23 < v22)) (
  chk (decide ((0:Int)<=v23/\v23 < (((List.length b0.1):Nat):Int))) <|
  chk (decide ((0:Int)<=v23/\v23 < (((List.length b1.1):Nat):Int))) <|
  sel (!(U.beq B5 (List.getD b0.1 (Int.toNat v23) o9) (List.getD b1.1 (Int.toNat v23) o9))) (
   some (.inr false)) (
   some (.inl (v22,(A5 (v23 + 1)),b0,b1)))) (
  some (.inr true))
def a2O (v22:Int) (v23:Int) (b0:o6) (b1:o6):Option (Bool):=
 I2 (fun v=>P6 v.1 v.2.1 v.2.2.1 v.2.2.2) (v22,v23,b0,b1)
def D4 (a0:o6) (a1:o6):Option (Bool):=
 sel (!decide ((((List.length a0.1):Nat):Int)=(((List.length a1.1):Nat):Int))) (
  some false) (
  sel (!decide (a0.2=a1.2)) (
   some false) (
   a2O (((List.length a0.1):Nat):Int) 0 a0 a1))
def D7:Option (Bool):=
 (J0 (([97,110,110]:List UInt8),(0:Int),300,600,[],[(([98,111,98]:List UInt8),5)])).bind fun r1=>
 (a0k ([(([97,110,110]:List UInt8),1000,(0:Int))],(0:Int)) 2 r1.1).bind fun r2=>
 (a0k r2.1 2 r1.1).bind fun r3=>
 sel (decide (r1.2=0)) (
  sel (decide (r2.2.1=0)) (
   sel (decide (r2.2.2.2.2.2=2000)) (
    sel (decide (r3.2.1=14)) (
     sel (decide (r3.2.2.1=([97,110,110]:List UInt8))) (
      (D4 r2.1 ([(([97,110,110]:List UInt8),395,1),(([98,111,98]:List UInt8),5,(0:Int))],600)).bind fun r4=>
      some r4) (
      some false)) (
     some false)) (
    some false)) (
   some false)) (
  some false)
def a3c (a0:List Int):Option (A0):=
 some (a0,(0:Int))
def H3 (a0:Int) (a1:Int):Option (Int):=
 chk (!decide (a1=0)) <|
 sel (decide ((Int.tmod a0 a1) < 0)) (
  some (A5 ((Int.tmod a0 a1) + a1))) (
  some (Int.tmod a0 a1))
def K5 (v1:Int) (v5:Int) (b0:A0):Option (A0 × Int):=
 (H3 v5 v1).bind fun r1=>
 some ((b0.1,(A5 (b0.2 + 1))),r1)
def A8 (a0:A0) (a1:Int):Option (A0 × Int):=
 sel (decide (a0.2 < (((List.length a0.1):Nat):Int))) (
  chk (decide ((0:Int)<=a0.2/\a0.2 < (((List.length a0.1):Nat):Int))) <|
  K5 a1 (List.getD a0.1 (Int.toNat a0.2) (0:Int)) a0) (
  K5 a1 0 a0)
def a1w (v4:Int) (b0:A0) (l0:List o7):Option ((Int × A0 × List o7) ⊕ (A0 × List o7)):=
 sel (decide (0<=v4)) (
  chk (decide ((0:Int)<=v4/\v4 < 4)) <|
  chk (decide ((Int.toNat v4) < 4)) <|
  (A8 b0 5).bind fun r2=>
  chk (decide ((0:Int)<=r2.2/\r2.2 < 5)) <|
  chk (decide ((Int.toNat r2.2) < 5)) <|
  (A8 r2.1 6).bind fun r3=>
  sel (decide (r3.2=0)) (
   (A8 r3.1 3).bind fun r4=>
   chk (decide ((0:Int)<=r4.2/\r4.2 < 3)) <|
   chk (decide ((Int.toNat r4.2) < 3)) <|
   chk (decide (((List.length l0) + 1) * 32<=LIM/\(List.length l0) + 1<=LEN)) <|
   some (.inl ((A5 (v4 - 1)),r4.1,(l0 ++ ([((List.getD [([97,110,110]:List UInt8),([98,111,98]:List UInt8),([101,118,101]:List UInt8),([122,111,101]:List UInt8)] (Int.toNat v4) []),(List.getD [100000,5000,700,0,1099511627776] (Int.toNat r2.2) (0:Int)),(List.getD [5,18446744073709551615,18446744073709551614] (Int.toNat r4.2) (0:Int)))]:List o7))))) (
   chk (decide (((List.length l0) + 1) * 32<=LIM/\(List.length l0) + 1<=LEN)) <|
   some (.inl ((A5 (v4 - 1)),r3.1,(l0 ++ ([((List.getD [([97,110,110]:List UInt8),([98,111,98]:List UInt8),([101,118,101]:List UInt8),([122,111,101]:List UInt8)] (Int.toNat v4) []),(List.getD [100000,5000,700,0,1099511627776] (Int.toNat r2.2) (0:Int)),(0:Int))]:List o7)))))) (
  some (.inr (b0,l0)))
def a33 (v4:Int) (b0:A0) (l0:List o7):Option (A0 × List o7):=
 I2 (fun v=>a1w v.1 v.2.1 v.2.2) (v4,b0,l0)
def a0L (a0:A0):Option (A0 × List o7):=
 (A8 a0 4).bind fun r1=>
 a33 r1.2 r1.1 []
def a0M (v1:List UInt8) (v7:List o7) (v8:Int) (v9:Int):Option ((List UInt8 × List o7 × Int × Int) ⊕ (Int)):=
 sel (decide (v9 < v8)) (
  chk (decide ((0:Int)<=v9/\v9 < (((List.length v7):Nat):Int))) <|
  sel (decide ((List.getD v7 (Int.toNat v9) o9).1=v1)) (
   some (.inr v9)) (
   some (.inl (v1,v7,v8,(A5 (v9 + 1)))))) (
  some (.inr (-1)))
def a5v (v1:List UInt8) (v7:List o7) (v8:Int) (v9:Int):Option (Int):=
 I2 (fun v=>a0M v.1 v.2.1 v.2.2.1 v.2.2.2) (v1,v7,v8,v9)
def O2 (a0:List o7) (a1:List UInt8):Option (Int):=
 a5v a1 a0 (((List.length a0):Nat):Int) 0
def U5 (v0:List o7) (v7:Int) (b0:o7):Option (List o7):=
 chk (decide ((0:Int)<=0/\0<=v7/\v7<=(((List.length v0):Nat):Int))) <|
 chk (decide ((0 + (List.length (List.take (Int.toNat v7) v0))) * 32<=LIM/\0 + (List.length (List.take (Int.toNat v7) v0))<=LEN)) <|
 chk (decide (((List.length (List.take (Int.toNat v7) v0)) + 1) * 32<=LIM/\(List.length (List.take (Int.toNat v7) v0)) + 1<=LEN)) <|
 chk (decide ((0:Int)<=v7/\v7<=(((List.length v0):Nat):Int)/\(((List.length v0):Nat):Int)<=(((List.length v0):Nat):Int))) <|
 chk (decide (((List.length ((List.take (Int.toNat v7) v0) ++ ([b0]:List o7))) + (List.length (List.drop (Int.toNat v7) (List.take (Int.toNat (((List.length v0):Nat):Int)) v0)))) * 32<=LIM/\(List.length ((List.take (Int.toNat v7) v0) ++ ([b0]:List o7))) + (List.length (List.drop (Int.toNat v7) (List.take (Int.toNat (((List.length v0):Nat):Int)) v0)))<=LEN)) <|
 some (((List.take (Int.toNat v7) v0) ++ ([b0]:List o7)) ++ (List.drop (Int.toNat v7) (List.take (Int.toNat (((List.length v0):Nat):Int)) v0)))
def a1d (v0:List o7) (v7:Int) (b0:o7):Option ((List o7 × Int × o7) ⊕ (List o7)):=
 sel (decide (v7 < (((List.length v0):Nat):Int))) (
  chk (decide ((0:Int)<=v7/\v7 < (((List.length v0):Nat):Int))) <|
  sel (Op.bytesLess (List.getD v0 (Int.toNat v7) o9).1 b0.1) (
   some (.inl (v0,(A5 (v7 + 1)),b0))) (
   Option.map .inr (
    U5 v0 v7 b0))) (
  Option.map .inr (
   U5 v0 v7 b0))
def a5Z (v0:List o7) (v7:Int) (b0:o7):Option (List o7):=
 I2 (fun v=>a1d v.1 v.2.1 v.2.2) (v0,v7,b0)
def V8 (a0:List o7) (a1:o7):Option (List o7):=
 (O2 a0 a1.1).bind fun r1=>
 sel (decide (0<=r1)) (
  chk (decide ((0 + (List.length a0)) * 32<=LIM/\0 + (List.length a0)<=LEN)) <|
  chk (decide ((0:Int)<=r1/\r1 < (((List.length a0):Nat):Int))) <|
  chk (decide ((Int.toNat r1) < (List.length a0))) <|
  some (List.set a0 (Int.toNat r1) a1)) (
  a5Z a0 0 a1)
def a13 (a0:Int) (a1:Int):Option (Int × Bool):=
 sel (decide ((B1 (18446744073709551615 - a1)) < a0)) (
  some (0,false)) (
  some ((B1 (a0 + a1)),true))
def a0c (v4:Int) (v12:List o7) (v13:Int) (v14:Int):Option ((Int × List o7 × Int × Int) ⊕ (Int × Bool)):=
 sel (decide (v14 < v13)) (
  chk (decide ((0:Int)<=v14/\v14 < (((List.length v12):Nat):Int))) <|
  (a13 v4 (List.getD v12 (Int.toNat v14) o9).2.1).bind fun r1=>
  sel (!r1.2) (
   some (.inr (0,false))) (
   some (.inl (r1.1,v12,v13,(A5 (v14 + 1)))))) (
  some (.inr (v4,true)))
def a5c (v4:Int) (v12:List o7) (v13:Int) (v14:Int):Option (Int × Bool):=
 I2 (fun v=>a0c v.1 v.2.1 v.2.2.1 v.2.2.2) (v4,v12,v13,v14)
def N3 (a0:o6):Option (Int × Bool):=
 a5c a0.2 a0.1 (((List.length a0.1):Nat):Int) 0
def a1x (_b0:o6) (b1_1:Int) (l0:List o7):Option (o6 × Int):=
 (N3 (l0,b1_1)).bind fun r1=>
 sel (!r1.2) (
  some (([],(0:Int)),6)) (
  some ((l0,b1_1),0))
def T7 (v13:List o7) (v14:Int) (v15:Int) (b0:o6) (b1_1:Int) (l0:List o7):Option ((List o7 × Int × Int × o6 × Int × List o7) ⊕ (o6 × Int)):=
 sel (decide (v15 < v14)) (
  chk (decide ((0:Int)<=v15/\v15 < (((List.length v13):Nat):Int))) <|
  (L8 (List.getD v13 (Int.toNat v15) o9).1).bind fun r2=>
  sel (!r2) (
   some (.inr (([],(0:Int)),10))) (
   (O2 l0 (List.getD v13 (Int.toNat v15) o9).1).bind fun r3=>
   sel (decide (0<=r3)) (
    some (.inr (([],(0:Int)),8))) (
    (V8 l0 (List.getD v13 (Int.toNat v15) o9)).bind fun r4=>
    some (.inl (v13,v14,(A5 (v15 + 1)),b0,b1_1,r4))))) (
  Option.map .inr (
   a1x b0 b1_1 l0))
def a34 (v13:List o7) (v14:Int) (v15:Int) (b0:o6) (b1_1:Int) (l0:List o7):Option (o6 × Int):=
 I2 (fun v=>T7 v.1 v.2.1 v.2.2.1 v.2.2.2.1 v.2.2.2.2.1 v.2.2.2.2.2) (v13,v14,v15,b0,b1_1,l0)
def a0N (a0:List o7):Option (o6 × Int):=
 sel (decide (256 < (((List.length a0):Nat):Int))) (
  some (([],(0:Int)),3)) (
  a34 a0 (((List.length a0):Nat):Int) 0 ([],(0:Int)) (0:Int) [])
def a2r (a0:List o7) (a1:Int):Option (L1 × Int):=
 (a0N a0).bind fun r1=>
 sel (!decide (r1.2=0)) (
  some ((([],(0:Int)),([],(0:Int)),([],(0:Int)),false,(0:Int)),r1.2)) (
  some ((r1.1,r1.1,([],(0:Int)),false,a1),0))
def a1e (a0:A0):Option (A0 × List UInt8):=
 (A8 a0 6).bind fun r1=>
 chk (decide ((0:Int)<=r1.2/\r1.2 < 6)) <|
 chk (decide ((Int.toNat r1.2) < 6)) <|
 some (r1.1,(List.getD [([97,110,110]:List UInt8),([98,111,98]:List UInt8),([101,118,101]:List UInt8),([122,111,101]:List UInt8),([110,101,119]:List UInt8),([120,45,49]:List UInt8)] (Int.toNat r1.2) []))
def a3d (a0:A0):Option (A0 × List UInt8):=
 (A8 a0 7).bind fun r1=>
 chk (decide ((0:Int)<=r1.2/\r1.2 < 7)) <|
 chk (decide ((Int.toNat r1.2) < 7)) <|
 some (r1.1,(List.getD [[],[],[],([114,101,110,116]:List UInt8),([195,169,228,184,150]:List UInt8),([97,10,98]:List UInt8),([116,104,97,110,107,115,32,102,111,114,32,97,108,108,32,116,104,101,32,102,105,115,104,44,32,97,110,100,32,102,111,114,32,116,104,101,32,99,104,105,112,115]:List UInt8)] (Int.toNat r1.2) []))
def a0o (v10:Int) (b0:A0) (b1_0:List UInt8) (b1_1:Int) (b1_2:Int) (b1_3:Int) (b1_4:List UInt8) (b2_0:List UInt8) (b2_1:Int) (b2_2:Int) (b2_3:Int) (b2_4:List UInt8) (b3:o8) (l0:List o8):Option ((Int × A0 × List UInt8 × Int × Int × Int × List UInt8 × List UInt8 × Int × Int × Int × List UInt8 × List o8) ⊕ (A0 × A7)):=
 chk (decide (((List.length l0) + 1) * 24<=LIM/\(List.length l0) + 1<=LEN)) <|
 some (.inl ((A5 (v10 - 1)),b0,b1_0,b1_1,b1_2,b1_3,b1_4,b2_0,b2_1,b2_2,b2_3,b2_4,(l0 ++ ([b3]:List o8))))
def a4N (v10:Int) (b0:A0) (b1_0:List UInt8) (b1_1:Int) (b1_2:Int) (b1_3:Int) (b1_4:List UInt8) (b2_0:List UInt8) (b2_1:Int) (b2_2:Int) (b2_3:Int) (b2_4:List UInt8) (l0:List o8):Option ((Int × A0 × List UInt8 × Int × Int × Int × List UInt8 × List UInt8 × Int × Int × Int × List UInt8 × List o8) ⊕ (A0 × A7)):=
 sel (decide (0<=v10)) (
  (a1e b0).bind fun r6=>
  (A8 r6.1 60).bind fun r7=>
  (A8 r7.1 12).bind fun r8=>
  sel (decide (r8.2=0)) (
   a0o v10 r8.1 b1_0 b1_1 b1_2 b1_3 b1_4 b2_0 b2_1 b2_2 b2_3 b2_4 (r6.2,9223372036854775808) l0) (
   a0o v10 r8.1 b1_0 b1_1 b1_2 b1_3 b1_4 b2_0 b2_1 b2_2 b2_3 b2_4 (r6.2,(B1 (1 + (B1 r7.2)))) l0)) (
  some (.inr (b0,(b2_0,b2_1,b2_2,b2_3,b2_4,l0))))
def a7n (v10:Int) (b0:A0) (b1_0:List UInt8) (b1_1:Int) (b1_2:Int) (b1_3:Int) (b1_4:List UInt8) (b2_0:List UInt8) (b2_1:Int) (b2_2:Int) (b2_3:Int) (b2_4:List UInt8) (l0:List o8):Option (A0 × A7):=
 I2 (fun v=>a4N v.1 v.2.1 v.2.2.1 v.2.2.2.1 v.2.2.2.2.1 v.2.2.2.2.2.1 v.2.2.2.2.2.2.1 v.2.2.2.2.2.2.2.1 v.2.2.2.2.2.2.2.2.1 v.2.2.2.2.2.2.2.2.2.1 v.2.2.2.2.2.2.2.2.2.2.1 v.2.2.2.2.2.2.2.2.2.2.2.1 v.2.2.2.2.2.2.2.2.2.2.2.2) (v10,b0,b1_0,b1_1,b1_2,b1_3,b1_4,b2_0,b2_1,b2_2,b2_3,b2_4,l0)
def a0p (b0:A0) (b1_0:List UInt8) (b1_1:Int) (b1_2:Int) (b1_3:Int) (b1_4:List UInt8) (b2_0:List UInt8) (b2_1:Int) (b2_2:Int) (b2_3:Int) (b2_4:List UInt8):Option (A0 × A7):=
 (A8 b0 3).bind fun r5=>
 a7n r5.2 r5.1 b1_0 b1_1 b1_2 b1_3 b1_4 b2_0 b2_1 b2_2 b2_3 b2_4 []
def a0q (v2:Int) (b0:A0) (b1_0:List UInt8) (b1_1:Int) (b1_2:Int) (b1_3:Int) (b1_4:List UInt8) (b2_0:List UInt8) (b2_1:Int) (b2_2:Int) (_b2_3:Int) (b2_4:List UInt8):Option (A0 × A7):=
 (A8 b0 5).bind fun r4=>
 (A8 r4.1 9).bind fun r9=>
 sel (decide (r9.2=0)) (
  (A8 r9.1 200).bind fun r10=>
  a0p r10.1 b1_0 b1_1 b1_2 b1_3 b1_4 b2_0 b2_1 b2_2 (B1 r10.2) b2_4) (
  a0p r9.1 b1_0 b1_1 b1_2 b1_3 b1_4 b2_0 b2_1 b2_2 (B1 ((B1 (b2_2 * v2)) * (B1 (A5 (1 + r4.2))))) b2_4)
def a0r (v2:Int) (b0:A0) (b1_0:List UInt8) (b1_1:Int) (b1_2:Int) (b1_3:Int) (b1_4:List UInt8) (b2_0:List UInt8) (b2_1:Int) (b2_2:Int) (b2_3:Int) (b2_4:List UInt8):Option (A0 × A7):=
 (A8 b0 6).bind fun r11=>
 sel (decide (r11.2=0)) (
  (A8 r11.1 3).bind fun r12=>
  a0q v2 r12.1 b1_0 b1_1 b1_2 b1_3 b1_4 b2_0 (B1 (b2_1 + (B1 r12.2))) b2_2 b2_3 b2_4) (
  a0q v2 r11.1 b1_0 b1_1 b1_2 b1_3 b1_4 b2_0 b2_1 b2_2 b2_3 b2_4)
def a0s (v2:Int) (v8:Int) (v31:Bool) (b0:A0) (b1:o6) (b2_0:List UInt8) (b2_1:Int) (b2_2:Int) (b2_3:Int) (b2_4:List UInt8) (b3_0:List UInt8) (b3_1:Int) (b3_2:Int) (b3_3:Int) (b3_4:List UInt8):Option (A0 × A7):=
 sel v31 (
  (A8 b0 v8).bind fun r13=>
  chk (decide ((0:Int)<=r13.2/\r13.2 < (((List.length b1.1):Nat):Int))) <|
  a0r v2 r13.1 b2_0 b2_1 b2_2 b2_3 b2_4 (List.getD b1.1 (Int.toNat r13.2) o9).1 (List.getD b1.1 (Int.toNat r13.2) o9).2.2 b3_2 b3_3 b3_4) (
  a0r v2 b0 b2_0 b2_1 b2_2 b2_3 b2_4 b3_0 b3_1 b3_2 b3_3 b3_4)
def a2P (a0:A0) (a1:o6) (a2:Int):Option (A0 × A7):=
 (a1e a0).bind fun r1=>
 (A8 r1.1 6).bind fun r2=>
 (a3d r2.1).bind fun r3=>
 sel (decide (0 < (((List.length a1.1):Nat):Int))) (
  (A8 r3.1 8).bind fun r14=>
  a0s a2 (((List.length a1.1):Nat):Int) (decide (0 < r14.2)) r14.1 a1 [] (0:Int) (0:Int) (0:Int) [] r1.2 (0:Int) (B1 (150 + (B1 ((B1 r2.2) * 40)))) (0:Int) r3.2) (
  a0s a2 (((List.length a1.1):Nat):Int) false r3.1 a1 [] (0:Int) (0:Int) (0:Int) [] r1.2 (0:Int) (B1 (150 + (B1 ((B1 r2.2) * 40)))) (0:Int) r3.2)
def Y5 (v25:Bool) (b0:A0) (l0:List UInt8):Option (A0 × List UInt8):=
 sel v25 (
  (A8 b0 (((List.length l0):Nat):Int)).bind fun r3=>
  (A8 r3.1 2).bind fun r4=>
  sel (decide (r4.2=0)) (
   chk (decide ((0:Int)<=0/\0<=r3.2/\r3.2<=(((List.length l0):Nat):Int))) <|
   some (r4.1,(List.take (Int.toNat r3.2) l0))) (
   chk (decide ((0 + (List.length l0)) * 1<=LIM/\0 + (List.length l0)<=LEN)) <|
   (A8 r4.1 256).bind fun r5=>
   chk (decide ((0:Int)<=r3.2/\r3.2 < (((List.length l0):Nat):Int))) <|
   chk (decide ((0:Int)<=(wu8 r5.2)/\(wu8 r5.2) < 256)) <|
   chk (decide ((Int.toNat r3.2) < (List.length l0))) <|
   some (r5.1,(List.set l0 (Int.toNat r3.2) (UInt8.ofNat (Int.toNat (wu8 r5.2))))))) (
  some (b0,l0))
def T2 (a0:A0) (a1:o6) (a2:Int):Option (A0 × List UInt8):=
 (a2P a0 a1 a2).bind fun r1=>
 (J0 r1.2).bind fun r2=>
 sel (decide (0 < (((List.length r2.1):Nat):Int))) (
  (A8 r1.1 12).bind fun r6=>
  Y5 (decide (r6.2=0)) r6.1 r2.1) (
  Y5 false r1.1 r2.1)
def Q9 (b0:o6):Option (Int):=
 (N3 b0).bind fun r1=>
 sel (!r1.2) (
  some 6) (
  some 0)
def J6 (v3:Int) (v12:List o7) (v13:Int) (v14:Int) (b0:o6) (b1:o7):Option ((List o7 × Int × Int × o6) ⊕ (Int)):=
 sel (decide (0 < v3)) (
  chk (decide ((0:Int)<=(A5 (v3 - 1))/\(A5 (v3 - 1)) < (((List.length b0.1):Nat):Int))) <|
  sel (!(Op.bytesLess (List.getD b0.1 (Int.toNat (A5 (v3 - 1))) o9).1 b1.1 || decide ((List.getD b0.1 (Int.toNat (A5 (v3 - 1))) o9).1=b1.1))) (
   some (.inr 1)) (
   some (.inl (v12,v13,(A5 (v14 + 1)),b0)))) (
  some (.inl (v12,v13,(A5 (v14 + 1)),b0)))
def L7 (v12:List o7) (v13:Int) (v14:Int) (b0:o6):Option ((List o7 × Int × Int × o6) ⊕ (Int)):=
 sel (decide (v14 < v13)) (
  chk (decide ((0:Int)<=v14/\v14 < (((List.length v12):Nat):Int))) <|
  (L8 (List.getD v12 (Int.toNat v14) o9).1).bind fun r2=>
  sel (!r2) (
   some (.inr 10)) (
   sel (decide (0 < v14)) (
    chk (decide ((0:Int)<=(A5 (v14 - 1))/\(A5 (v14 - 1)) < (((List.length b0.1):Nat):Int))) <|
    sel (decide ((List.getD b0.1 (Int.toNat (A5 (v14 - 1))) o9).1=(List.getD v12 (Int.toNat v14) o9).1)) (
     some (.inr 8)) (
     J6 v14 v12 v13 v14 b0 (List.getD v12 (Int.toNat v14) o9))) (
    J6 v14 v12 v13 v14 b0 (List.getD v12 (Int.toNat v14) o9)))) (
  Option.map .inr (
   Q9 b0))
def a1f (v12:List o7) (v13:Int) (v14:Int) (b0:o6):Option (Int):=
 I2 (fun v=>L7 v.1 v.2.1 v.2.2.1 v.2.2.2) (v12,v13,v14,b0)
def I4 (a0:o6):Option (Int):=
 sel (decide (256 < (((List.length a0.1):Nat):Int))) (
  some 3) (
  a1f a0.1 (((List.length a0.1):Nat):Int) 0 a0)
def M1 (v0:List UInt8) (v5:Int) (v6:Int):Option ((List UInt8 × Int × Int) ⊕ (Int × Int × Int)):=
 chk (decide ((0:Int)<=v6/\v6 < (((List.length v0):Nat):Int))) <|
 chk (decide ((0:Int)<=(A5 (7 * v6)))) <|
 chk (decide ((0:Int)<=v6/\v6 < (((List.length v0):Nat):Int))) <|
 sel (decide (((UInt8.toNat (List.getD v0 (Int.toNat v6) (0:UInt8)):Nat):Int) < 128)) (
  some (.inr ((bits .or .u64 v5 (B1 ((B1 (bits .and .u8 ((UInt8.toNat (List.getD v0 (Int.toNat v6) (0:UInt8)):Nat):Int) 127)) * 2 ^ (min (Int.toNat (A5 (7 * v6))) 64)))),(A5 (v6 + 1)),0))) (
  some (.inl (v0,(bits .or .u64 v5 (B1 ((B1 (bits .and .u8 ((UInt8.toNat (List.getD v0 (Int.toNat v6) (0:UInt8)):Nat):Int) 127)) * 2 ^ (min (Int.toNat (A5 (7 * v6))) 64)))),(A5 (v6 + 1)))))
def M2 (v0:List UInt8) (v5:Int) (v6:Int) (v14:Bool):Option ((List UInt8 × Int × Int) ⊕ (Int × Int × Int)):=
 sel v14 (
  some (.inr (0,0,6))) (
  sel (decide (0 < v6)) (
   chk (decide ((0:Int)<=v6/\v6 < (((List.length v0):Nat):Int))) <|
   sel (decide (((UInt8.toNat (List.getD v0 (Int.toNat v6) (0:UInt8)):Nat):Int)=0)) (
    some (.inr (0,0,4))) (
    M1 v0 v5 v6)) (
   M1 v0 v5 v6))
def U6 (v0:List UInt8) (v5:Int) (v6:Int):Option ((List UInt8 × Int × Int) ⊕ (Int × Int × Int)):=
 sel (decide ((((List.length v0):Nat):Int)<=v6)) (
  some (.inr (0,0,5))) (
  sel (decide (v6=9)) (
   chk (decide ((0:Int)<=v6/\v6 < (((List.length v0):Nat):Int))) <|
   M2 v0 v5 v6 (decide (1 < ((UInt8.toNat (List.getD v0 (Int.toNat v6) (0:UInt8)):Nat):Int)))) (
   M2 v0 v5 v6 false))
def a20 (v0:List UInt8) (v5:Int) (v6:Int):Option (Int × Int × Int):=
 I2 (fun v=>U6 v.1 v.2.1 v.2.2) (v0,v5,v6)
def L2 (a0:List UInt8):Option (Int × Int × Int):=
 a20 a0 0 0
def Q8 (v0:List UInt8) (v5:Int) (v6:Int) (v8:Int) (_b0:A1):Option (A1 × Int × Int):=
 chk (decide ((0:Int)<=v6/\v6<=(((List.length v0):Nat):Int)/\(((List.length v0):Nat):Int)<=(((List.length v0):Nat):Int))) <|
 (L2 (List.drop (Int.toNat v6) (List.take (Int.toNat (((List.length v0):Nat):Int)) v0))).bind fun r2=>
 sel (!decide (r2.2.2=0)) (
  some (((0:Int),(0:Int),(0:Int),[]),0,r2.2.2)) (
  sel (decide (v8=0)) (
   some (((A5 (B1 (Int.tdiv v5 8))),v8,r2.1,[]),(A5 (v6 + r2.2.1)),0)) (
   sel (decide ((B1 (A5 ((A5 ((((List.length v0):Nat):Int) - v6)) - r2.2.1))) < r2.1)) (
    some (((0:Int),(0:Int),(0:Int),[]),0,5)) (
    chk (decide ((0:Int)<=(A5 (v6 + r2.2.1))/\(A5 (v6 + r2.2.1))<=(A5 ((A5 (v6 + r2.2.1)) + (A5 r2.1)))/\(A5 ((A5 (v6 + r2.2.1)) + (A5 r2.1)))<=(((List.length v0):Nat):Int))) <|
    chk (decide ((0 + (List.length (List.drop (Int.toNat (A5 (v6 + r2.2.1))) (List.take (Int.toNat (A5 ((A5 (v6 + r2.2.1)) + (A5 r2.1)))) v0)))) * 1<=LIM/\0 + (List.length (List.drop (Int.toNat (A5 (v6 + r2.2.1))) (List.take (Int.toNat (A5 ((A5 (v6 + r2.2.1)) + (A5 r2.1)))) v0)))<=LEN)) <|
    some (((A5 (B1 (Int.tdiv v5 8))),v8,(0:Int),(List.drop (Int.toNat (A5 (v6 + r2.2.1))) (List.take (Int.toNat (A5 ((A5 (v6 + r2.2.1)) + (A5 r2.1)))) v0))),(A5 ((A5 (v6 + r2.2.1)) + (A5 r2.1))),0))))
def a14 (a0:List UInt8):Option (A1 × Int × Int):=
 (L2 a0).bind fun r1=>
 sel (!decide (r1.2.2=0)) (
  some (((0:Int),(0:Int),(0:Int),[]),0,r1.2.2)) (
  sel (decide ((B1 (Int.tdiv r1.1 8)) < 1)) (
   some (((0:Int),(0:Int),(0:Int),[]),0,4)) (
   sel (decide (536870911 < (B1 (Int.tdiv r1.1 8)))) (
    some (((0:Int),(0:Int),(0:Int),[]),0,4)) (
    sel (!decide ((A5 (Int.tmod r1.1 8))=0)) (
     sel (!decide ((A5 (Int.tmod r1.1 8))=2)) (
      some (((0:Int),(0:Int),(0:Int),[]),0,4)) (
      Q8 a0 r1.1 r1.2.1 (A5 (Int.tmod r1.1 8)) ((0:Int),(0:Int),(0:Int),[]))) (
     Q8 a0 r1.1 r1.2.1 (A5 (Int.tmod r1.1 8)) ((0:Int),(0:Int),(0:Int),[])))))
def a0d (l0:List A1):Option (List A1 × Int × Int):=
 some (l0,0,0)
def H5 (v0:List UInt8) (v6:Int) (l0:List A1):Option ((List UInt8 × Int × List A1) ⊕ (List A1 × Int × Int)):=
 sel (decide (v6 < (((List.length v0):Nat):Int))) (
  sel (decide (1024<=(((List.length l0):Nat):Int))) (
   some (.inr ([],v6,3))) (
   chk (decide ((0:Int)<=v6/\v6<=(((List.length v0):Nat):Int)/\(((List.length v0):Nat):Int)<=(((List.length v0):Nat):Int))) <|
   (a14 (List.drop (Int.toNat v6) (List.take (Int.toNat (((List.length v0):Nat):Int)) v0))).bind fun r1=>
   sel (!decide (r1.2.2=0)) (
    some (.inr ([],v6,r1.2.2))) (
    chk (decide (((List.length l0) + 1) * 48<=LIM/\(List.length l0) + 1<=LEN)) <|
    some (.inl (v0,(A5 (v6 + r1.2.1)),(l0 ++ ([r1.1]:List A1))))))) (
  Option.map .inr (
   a0d l0))
def a15 (v0:List UInt8) (v6:Int) (l0:List A1):Option (List A1 × Int × Int):=
 I2 (fun v=>H5 v.1 v.2.1 v.2.2) (v0,v6,l0)
def N4 (a0:List UInt8):Option (List A1 × Int × Int):=
 a15 a0 0 []
def P9 (a0:List UInt8) (a1:List UInt8):Option (Bool):=
 some (decide (a0=a1))
def a0Z (v0:List UInt8) (v6:Int) (_b0:o8) (b1:o8):Option (o8 × Bool):=
 sel (decide (v6=0)) (
  (O1 [] 1 b1.1).bind fun r2=>
  (J9 r2 2 b1.2).bind fun r3=>
  (D9 r3).bind fun r4=>
  (P9 r4 v0).bind fun r5=>
  some (b1,r5)) (
  some (b1,false))
def R4 (v0:List UInt8) (v6:Int) (v17:Int) (v18:Int) (v36:Bool) (b0:o8) (b1:o8) (b2:A1) (l0:List A1):Option ((List UInt8 × Int × Int × Int × o8 × o8 × List A1) ⊕ (o8 × Bool)):=
 sel v36 (
  some (.inl (v0,v6,v17,(A5 (v18 + 1)),b0,(b1.1,b2.2.2.1),l0))) (
  some (.inr (b1,false)))
def R5 (v0:List UInt8) (v6:Int) (v17:Int) (v18:Int) (v23:Bool) (b0:o8) (b1:o8) (b2:A1) (l0:List A1):Option ((List UInt8 × Int × Int × Int × o8 × o8 × List A1) ⊕ (o8 × Bool)):=
 sel v23 (
  some (.inl (v0,v6,v17,(A5 (v18 + 1)),b0,(b2.2.2.2,b1.2),l0))) (
  sel (decide (b2.1=2)) (
   R4 v0 v6 v17 v18 (decide (b2.2.1=0)) b0 b1 b2 l0) (
   R4 v0 v6 v17 v18 false b0 b1 b2 l0))
def R6 (v0:List UInt8) (v6:Int) (v17:Int) (v18:Int) (b0:o8) (b1:o8) (l0:List A1):Option ((List UInt8 × Int × Int × Int × o8 × o8 × List A1) ⊕ (o8 × Bool)):=
 sel (decide (v18 < v17)) (
  chk (decide ((0:Int)<=v18/\v18 < (((List.length l0):Nat):Int))) <|
  chk (decide ((Int.toNat v18) < (List.length l0))) <|
  sel (decide ((List.getD l0 (Int.toNat v18) B7).1=1)) (
   R5 v0 v6 v17 v18 (decide ((List.getD l0 (Int.toNat v18) B7).2.1=2)) b0 b1 (List.getD l0 (Int.toNat v18) B7) l0) (
   R5 v0 v6 v17 v18 false b0 b1 (List.getD l0 (Int.toNat v18) B7) l0)) (
  Option.map .inr (
   a0Z v0 v6 b0 b1))
def a3u (v0:List UInt8) (v6:Int) (v17:Int) (v18:Int) (b0:o8) (b1:o8) (l0:List A1):Option (o8 × Bool):=
 I2 (fun v=>R6 v.1 v.2.1 v.2.2.1 v.2.2.2.1 v.2.2.2.2.1 v.2.2.2.2.2.1 v.2.2.2.2.2.2) (v0,v6,v17,v18,b0,b1,l0)
def a0e (a0:List UInt8):Option (o8 × Bool):=
 (N4 a0).bind fun r1=>
 a3u a0 r1.2.2 (((List.length r1.1):Nat):Int) 0 ([],(0:Int)) ([],(0:Int)) r1.1
def S0 (v9:List A1) (v10:Int) (v11:Int) (v78:Bool) (b0_0:List UInt8) (b0_1:Int) (b0_2:Int) (b0_3:Int) (b0_4:List UInt8) (b1_0:List UInt8) (b1_1:Int) (b1_2:Int) (b1_3:Int) (b1_4:List UInt8) (b2:A1) (l0:List o8):Option ((List A1 × Int × Int × List UInt8 × Int × Int × Int × List UInt8 × List UInt8 × Int × Int × Int × List UInt8 × List o8) ⊕ (A7 × Bool)):=
 sel v78 (
  (a0e b2.2.2.2).bind fun r1=>
  sel (!r1.2) (
   some (.inr ((b1_0,b1_1,b1_2,b1_3,b1_4,l0),false))) (
   chk (decide (((List.length l0) + 1) * 24<=LIM/\(List.length l0) + 1<=LEN)) <|
   some (.inl (v9,v10,(A5 (v11 + 1)),b0_0,b0_1,b0_2,b0_3,b0_4,b1_0,b1_1,b1_2,b1_3,b1_4,(l0 ++ ([r1.1]:List o8)))))) (
  some (.inr ((b1_0,b1_1,b1_2,b1_3,b1_4,l0),false)))
def S1 (v9:List A1) (v10:Int) (v11:Int) (v65:Bool) (b0_0:List UInt8) (b0_1:Int) (b0_2:Int) (b0_3:Int) (b0_4:List UInt8) (b1_0:List UInt8) (b1_1:Int) (b1_2:Int) (b1_3:Int) (b1_4:List UInt8) (b2:A1) (l0:List o8):Option ((List A1 × Int × Int × List UInt8 × Int × Int × Int × List UInt8 × List UInt8 × Int × Int × Int × List UInt8 × List o8) ⊕ (A7 × Bool)):=
 sel v65 (
  some (.inl (v9,v10,(A5 (v11 + 1)),b0_0,b0_1,b0_2,b0_3,b0_4,b1_0,b1_1,b1_2,b1_3,b2.2.2.2,l0))) (
  sel (decide (b2.1=6)) (
   S0 v9 v10 v11 (decide (b2.2.1=2)) b0_0 b0_1 b0_2 b0_3 b0_4 b1_0 b1_1 b1_2 b1_3 b1_4 b2 l0) (
   S0 v9 v10 v11 false b0_0 b0_1 b0_2 b0_3 b0_4 b1_0 b1_1 b1_2 b1_3 b1_4 b2 l0))
def S2 (v9:List A1) (v10:Int) (v11:Int) (v53:Bool) (b0_0:List UInt8) (b0_1:Int) (b0_2:Int) (b0_3:Int) (b0_4:List UInt8) (b1_0:List UInt8) (b1_1:Int) (b1_2:Int) (b1_3:Int) (b1_4:List UInt8) (b2:A1) (l0:List o8):Option ((List A1 × Int × Int × List UInt8 × Int × Int × Int × List UInt8 × List UInt8 × Int × Int × Int × List UInt8 × List o8) ⊕ (A7 × Bool)):=
 sel v53 (
  some (.inl (v9,v10,(A5 (v11 + 1)),b0_0,b0_1,b0_2,b0_3,b0_4,b1_0,b1_1,b1_2,b2.2.2.1,b1_4,l0))) (
  sel (decide (b2.1=5)) (
   S1 v9 v10 v11 (decide (b2.2.1=2)) b0_0 b0_1 b0_2 b0_3 b0_4 b1_0 b1_1 b1_2 b1_3 b1_4 b2 l0) (
   S1 v9 v10 v11 false b0_0 b0_1 b0_2 b0_3 b0_4 b1_0 b1_1 b1_2 b1_3 b1_4 b2 l0))
def S3 (v9:List A1) (v10:Int) (v11:Int) (v41:Bool) (b0_0:List UInt8) (b0_1:Int) (b0_2:Int) (b0_3:Int) (b0_4:List UInt8) (b1_0:List UInt8) (b1_1:Int) (b1_2:Int) (b1_3:Int) (b1_4:List UInt8) (b2:A1) (l0:List o8):Option ((List A1 × Int × Int × List UInt8 × Int × Int × Int × List UInt8 × List UInt8 × Int × Int × Int × List UInt8 × List o8) ⊕ (A7 × Bool)):=
 sel v41 (
  some (.inl (v9,v10,(A5 (v11 + 1)),b0_0,b0_1,b0_2,b0_3,b0_4,b1_0,b1_1,b2.2.2.1,b1_3,b1_4,l0))) (
  sel (decide (b2.1=4)) (
   S2 v9 v10 v11 (decide (b2.2.1=0)) b0_0 b0_1 b0_2 b0_3 b0_4 b1_0 b1_1 b1_2 b1_3 b1_4 b2 l0) (
   S2 v9 v10 v11 false b0_0 b0_1 b0_2 b0_3 b0_4 b1_0 b1_1 b1_2 b1_3 b1_4 b2 l0))
def S4 (v9:List A1) (v10:Int) (v11:Int) (v29:Bool) (b0_0:List UInt8) (b0_1:Int) (b0_2:Int) (b0_3:Int) (b0_4:List UInt8) (b1_0:List UInt8) (b1_1:Int) (b1_2:Int) (b1_3:Int) (b1_4:List UInt8) (b2:A1) (l0:List o8):Option ((List A1 × Int × Int × List UInt8 × Int × Int × Int × List UInt8 × List UInt8 × Int × Int × Int × List UInt8 × List o8) ⊕ (A7 × Bool)):=
 sel v29 (
  some (.inl (v9,v10,(A5 (v11 + 1)),b0_0,b0_1,b0_2,b0_3,b0_4,b1_0,b2.2.2.1,b1_2,b1_3,b1_4,l0))) (
  sel (decide (b2.1=3)) (
   S3 v9 v10 v11 (decide (b2.2.1=0)) b0_0 b0_1 b0_2 b0_3 b0_4 b1_0 b1_1 b1_2 b1_3 b1_4 b2 l0) (
   S3 v9 v10 v11 false b0_0 b0_1 b0_2 b0_3 b0_4 b1_0 b1_1 b1_2 b1_3 b1_4 b2 l0))
def S5 (v9:List A1) (v10:Int) (v11:Int) (v16:Bool) (b0_0:List UInt8) (b0_1:Int) (b0_2:Int) (b0_3:Int) (b0_4:List UInt8) (b1_0:List UInt8) (b1_1:Int) (b1_2:Int) (b1_3:Int) (b1_4:List UInt8) (b2:A1) (l0:List o8):Option ((List A1 × Int × Int × List UInt8 × Int × Int × Int × List UInt8 × List UInt8 × Int × Int × Int × List UInt8 × List o8) ⊕ (A7 × Bool)):=
 sel v16 (
  some (.inl (v9,v10,(A5 (v11 + 1)),b0_0,b0_1,b0_2,b0_3,b0_4,b2.2.2.2,b1_1,b1_2,b1_3,b1_4,l0))) (
  sel (decide (b2.1=2)) (
   S4 v9 v10 v11 (decide (b2.2.1=0)) b0_0 b0_1 b0_2 b0_3 b0_4 b1_0 b1_1 b1_2 b1_3 b1_4 b2 l0) (
   S4 v9 v10 v11 false b0_0 b0_1 b0_2 b0_3 b0_4 b1_0 b1_1 b1_2 b1_3 b1_4 b2 l0))
def S6 (v9:List A1) (v10:Int) (v11:Int) (b0_0:List UInt8) (b0_1:Int) (b0_2:Int) (b0_3:Int) (b0_4:List UInt8) (b1_0:List UInt8) (b1_1:Int) (b1_2:Int) (b1_3:Int) (b1_4:List UInt8) (l0:List o8):Option ((List A1 × Int × Int × List UInt8 × Int × Int × Int × List UInt8 × List UInt8 × Int × Int × Int × List UInt8 × List o8) ⊕ (A7 × Bool)):=
 sel (decide (v11 < v10)) (
  chk (decide ((0:Int)<=v11/\v11 < (((List.length v9):Nat):Int))) <|
  sel (decide ((List.getD v9 (Int.toNat v11) B7).1=1)) (
   S5 v9 v10 v11 (decide ((List.getD v9 (Int.toNat v11) B7).2.1=2)) b0_0 b0_1 b0_2 b0_3 b0_4 b1_0 b1_1 b1_2 b1_3 b1_4 (List.getD v9 (Int.toNat v11) B7) l0) (
   S5 v9 v10 v11 false b0_0 b0_1 b0_2 b0_3 b0_4 b1_0 b1_1 b1_2 b1_3 b1_4 (List.getD v9 (Int.toNat v11) B7) l0)) (
  some (.inr ((b1_0,b1_1,b1_2,b1_3,b1_4,l0),true)))
def a5w (v9:List A1) (v10:Int) (v11:Int) (b0_0:List UInt8) (b0_1:Int) (b0_2:Int) (b0_3:Int) (b0_4:List UInt8) (b1_0:List UInt8) (b1_1:Int) (b1_2:Int) (b1_3:Int) (b1_4:List UInt8) (l0:List o8):Option (A7 × Bool):=
 I2 (fun v=>S6 v.1 v.2.1 v.2.2.1 v.2.2.2.1 v.2.2.2.2.1 v.2.2.2.2.2.1 v.2.2.2.2.2.2.1 v.2.2.2.2.2.2.2.1 v.2.2.2.2.2.2.2.2.1 v.2.2.2.2.2.2.2.2.2.1 v.2.2.2.2.2.2.2.2.2.2.1 v.2.2.2.2.2.2.2.2.2.2.2.1 v.2.2.2.2.2.2.2.2.2.2.2.2.1 v.2.2.2.2.2.2.2.2.2.2.2.2.2) (v9,v10,v11,b0_0,b0_1,b0_2,b0_3,b0_4,b1_0,b1_1,b1_2,b1_3,b1_4,l0)
def a2s (a0:List A1):Option (A7 × Bool):=
 a5w a0 (((List.length a0):Nat):Int) 0 [] (0:Int) (0:Int) (0:Int) [] [] (0:Int) (0:Int) (0:Int) [] []
def Q0 (a0:List UInt8):Option (A7 × Int):=
 sel (decide (4096 < (((List.length a0):Nat):Int))) (
  some (([],(0:Int),(0:Int),(0:Int),[],[]),3)) (
  (N4 a0).bind fun r1=>
  (a2s r1.1).bind fun r2=>
  sel (!decide (r1.2.2=0)) (
   some (([],(0:Int),(0:Int),(0:Int),[],[]),4)) (
   sel (!r2.2) (
    some (([],(0:Int),(0:Int),(0:Int),[],[]),4)) (
    (T0 r2.1).bind fun r3=>
    (P9 r3 a0).bind fun r4=>
    sel (!r4) (
     some (([],(0:Int),(0:Int),(0:Int),[],[]),4)) (
     (N7 r2.1).bind fun r5=>
     sel (!decide (r5=0)) (
      some (([],(0:Int),(0:Int),(0:Int),[],[]),r5)) (
      some (r2.1,0))))))
def Q3 (a0:o6) (a1:List UInt8):Option (o7 × Bool):=
 (O2 a0.1 a1).bind fun r1=>
 sel (decide (0<=r1)) (
  chk (decide ((0:Int)<=r1/\r1 < (((List.length a0.1):Nat):Int))) <|
  some ((List.getD a0.1 (Int.toNat r1) o9),true)) (
  some (([],(0:Int),(0:Int)),false))
def S7 (a0:Int):Option (Int):=
 some (B1 (max 0 (min a0 1073741824)))
def a0t (a0:Int) (a1:Int):Option (Int):=
 (S7 a0).bind fun r1=>
 (S7 a1).bind fun r2=>
 some (B1 ((B1 (50 + (B1 (1 * r1)))) + (B1 (20 * r2))))
def a3T (a0:Int) (a1:Int):Option (Int × Bool):=
 sel (!decide (a0=0)) (
  chk (!decide (a0=0)) <|
  sel (decide ((B1 (Int.tdiv 18446744073709551615 a0)) < a1)) (
   some (0,false)) (
   some ((B1 (a0 * a1)),true))) (
  some ((B1 (a0 * a1)),true))
def a0u (a0:Int) (a1:Int):Option (Int × Bool):=
 (a3T a0 a1).bind fun r1=>
 some (r1.1,r1.2)
def a1J (v4:Int) (v9:List Int) (v10:Int) (v11:Int):Option ((Int × List Int × Int × Int) ⊕ (Int × Bool)):=
 sel (decide (v11 < v10)) (
  chk (decide ((0:Int)<=v11/\v11 < (((List.length v9):Nat):Int))) <|
  (a13 v4 (List.getD v9 (Int.toNat v11) (0:Int))).bind fun r1=>
  sel (!r1.2) (
   some (.inr (0,false))) (
   some (.inl (r1.1,v9,v10,(A5 (v11 + 1)))))) (
  some (.inr (v4,true)))
def a6L (v4:Int) (v9:List Int) (v10:Int) (v11:Int):Option (Int × Bool):=
 I2 (fun v=>a1J v.1 v.2.1 v.2.2.1 v.2.2.2) (v4,v9,v10,v11)
def a3U (a0:List Int):Option (Int × Bool):=
 a6L 0 a0 (((List.length a0):Nat):Int) 0
def a22 (l0:List Int):Option (Int × Bool):=
 (a3U l0).bind fun r1=>
 some (r1.1,r1.2)
def a0O (v11:List o8) (v12:Int) (v13:Int) (l0:List Int):Option ((List o8 × Int × Int × List Int) ⊕ (Int × Bool)):=
 sel (decide (v13 < v12)) (
  chk (decide ((0:Int)<=v13/\v13 < (((List.length v11):Nat):Int))) <|
  chk (decide (((List.length l0) + 1) * 8<=LIM/\(List.length l0) + 1<=LEN)) <|
  some (.inl (v11,v12,(A5 (v13 + 1)),(l0 ++ [(List.getD v11 (Int.toNat v13) B0).2])))) (
  Option.map .inr (
   a22 l0))
def a5x (v11:List o8) (v12:Int) (v13:Int) (l0:List Int):Option (Int × Bool):=
 I2 (fun v=>a0O v.1 v.2.1 v.2.2.1 v.2.2.2) (v11,v12,v13,l0)
def a0v (a0:A7):Option (Int × Bool):=
 a5x a0.2.2.2.2.2 (((List.length a0.2.2.2.2.2):Nat):Int) 0 [a0.2.2.2.1]
def a23 (b0:o6) (b1:A7) (_b2:o6) (l0:List o7):Option (o6):=
 some (l0,(B1 (b0.2 + b1.2.2.2.1)))
def S8 (v35:List o8) (v36:Int) (v37:Int) (b0:o6) (b1:A7) (b2:o6) (b3:o8) (b4:o7) (l0:List o7):Option ((List o8 × Int × Int × o6 × A7 × o6 × List o7) ⊕ (o6)):=
 (V8 l0 (b4.1,(B1 (b4.2.1 + b3.2)),b4.2.2)).bind fun r3=>
 some (.inl (v35,v36,(A5 (v37 + 1)),b0,b1,b2,r3))
def a0P (v35:List o8) (v36:Int) (v37:Int) (b0:o6) (b1:A7) (b2:o6) (l0:List o7):Option ((List o8 × Int × Int × o6 × A7 × o6 × List o7) ⊕ (o6)):=
 sel (decide (v37 < v36)) (
  chk (decide ((0:Int)<=v37/\v37 < (((List.length v35):Nat):Int))) <|
  (O2 l0 (List.getD v35 (Int.toNat v37) B0).1).bind fun r4=>
  sel (decide (0<=r4)) (
   chk (decide ((0:Int)<=r4/\r4 < (((List.length l0):Nat):Int))) <|
   chk (decide ((Int.toNat r4) < (List.length l0))) <|
   S8 v35 v36 v37 b0 b1 b2 (List.getD v35 (Int.toNat v37) B0) (List.getD l0 (Int.toNat r4) o9) l0) (
   S8 v35 v36 v37 b0 b1 b2 (List.getD v35 (Int.toNat v37) B0) ((List.getD v35 (Int.toNat v37) B0).1,(0:Int),(0:Int)) l0)) (
  Option.map .inr (
   a23 b0 b1 b2 l0))
def a2t (v35:List o8) (v36:Int) (v37:Int) (b0:o6) (b1:A7) (b2:o6) (l0:List o7):Option (o6):=
 I2 (fun v=>a0P v.1 v.2.1 v.2.2.1 v.2.2.2.1 v.2.2.2.2.1 v.2.2.2.2.2.1 v.2.2.2.2.2.2) (v35,v36,v37,b0,b1,b2,l0)
def a0w (a0:o6) (a1:A7) (a2:Int):Option (o6):=
 (Q3 a0 a1.1).bind fun r1=>
 (V8 a0.1 (r1.1.1,(B1 (r1.1.2.1 - a2)),(B1 (r1.1.2.2 + 1)))).bind fun r2=>
 a2t a1.2.2.2.2.2 (((List.length a1.2.2.2.2.2):Nat):Int) 0 a0 a1 ([],(0:Int)) r2
def a1K (a0:o6) (a1:Int) (a2:A7) (a3:Int):Option (Int):=
 (Q3 a0 a2.1).bind fun r1=>
 sel (!r1.2) (
  some 13) (
  sel (!decide (r1.1.2.2=a2.2.1)) (
   some 14) (
   sel (decide (a2.2.1=18446744073709551615)) (
    some 6) (
    (a0t a3 (((List.length a2.2.2.2.2.2):Nat):Int)).bind fun r2=>
    sel (decide (a2.2.2.1 < r2)) (
     some 15) (
     (a0u a2.2.2.1 a1).bind fun r3=>
     (a0v a2).bind fun r4=>
     sel (!r3.2) (
      some 6) (
      sel (decide (a2.2.2.2.1 < r3.1)) (
       some 16) (
       sel (!r4.2) (
        some 6) (
        sel (decide (r1.1.2.1 < r4.1)) (
         some 17) (
         (a0w a0 a2 r4.1).bind fun r5=>
         sel (decide (256 < (((List.length r5.1):Nat):Int))) (
          some 3) (
          some 0)))))))))
def a1g (a0:Int) (a1:Int):Option (Int × Int):=
 some ((B1 ((B1 ((B1 ((B1 ((a0 / 2 ^ 32) * (a1 / 2 ^ 32))) + ((B1 ((a0 / 2 ^ 32) * (bits .and .u64 a1 4294967295))) / 2 ^ 32))) + ((B1 ((bits .and .u64 a0 4294967295) * (a1 / 2 ^ 32))) / 2 ^ 32))) + ((B1 ((B1 (((B1 ((bits .and .u64 a0 4294967295) * (bits .and .u64 a1 4294967295))) / 2 ^ 32) + (bits .and .u64 (B1 ((a0 / 2 ^ 32) * (bits .and .u64 a1 4294967295))) 4294967295))) + (bits .and .u64 (B1 ((bits .and .u64 a0 4294967295) * (a1 / 2 ^ 32))) 4294967295))) / 2 ^ 32))),(bits .or .u64 (B1 ((B1 ((B1 (((B1 ((bits .and .u64 a0 4294967295) * (bits .and .u64 a1 4294967295))) / 2 ^ 32) + (bits .and .u64 (B1 ((a0 / 2 ^ 32) * (bits .and .u64 a1 4294967295))) 4294967295))) + (bits .and .u64 (B1 ((bits .and .u64 a0 4294967295) * (a1 / 2 ^ 32))) 4294967295))) * 2 ^ 32)) (bits .and .u64 (B1 ((bits .and .u64 a0 4294967295) * (bits .and .u64 a1 4294967295))) 4294967295)))
def M6 (v2:Int) (v8:Int) (v9:Int) (v10:Int) (v11:Int) (v47:Bool):Option ((Int × Int × Int × Int × Int) ⊕ (Int × Bool)):=
 sel v47 (
  some (.inl (v2,(B1 (v8 - v2)),v9,(bits .or .u64 v10 1),(A5 (v11 - 1))))) (
  some (.inl (v2,v8,v9,v10,(A5 (v11 - 1)))))
def a2u (v2:Int) (v8:Int) (v9:Int) (v10:Int) (v11:Int):Option ((Int × Int × Int × Int × Int) ⊕ (Int × Bool)):=
 sel (decide (0<=v11)) (
  chk (decide ((0:Int)<=v11)) <|
  sel (decide ((v8 / 2 ^ 63)=1)) (
   M6 v2 (bits .or .u64 (B1 (v8 * 2 ^ 1)) (bits .and .u64 (v9 / 2 ^ (min (Int.toNat v11) 64)) 1)) v9 (B1 (v10 * 2 ^ 1)) v11 true) (
   M6 v2 (bits .or .u64 (B1 (v8 * 2 ^ 1)) (bits .and .u64 (v9 / 2 ^ (min (Int.toNat v11) 64)) 1)) v9 (B1 (v10 * 2 ^ 1)) v11 (decide (v2<=(bits .or .u64 (B1 (v8 * 2 ^ 1)) (bits .and .u64 (v9 / 2 ^ (min (Int.toNat v11) 64)) 1)))))) (
  some (.inr (v10,true)))
def a5d (v2:Int) (v8:Int) (v9:Int) (v10:Int) (v11:Int):Option (Int × Bool):=
 I2 (fun v=>a2u v.1 v.2.1 v.2.2.1 v.2.2.2.1 v.2.2.2.2) (v2,v8,v9,v10,v11)
def a1L (a0:Int) (a1:Int) (a2:Int):Option (Int × Bool):=
 (a1g a0 a1).bind fun r1=>
 sel (decide (a2=0)) (
  some (0,false)) (
  sel (decide (a2<=r1.1)) (
   some (0,false)) (
   a5d a2 r1.1 r1.2 0 63))
def Q4 (a0:Int) (a1:Int):Option (Int):=
 sel (decide (a1=0)) (
  some 0) (
  (a1L a0 1000 a1).bind fun r1=>
  sel r1.2 (
   some r1.1) (
   some 18446744073709551615))
def M7 (a0:o6) (a1:Int) (a2:List UInt8):Option (o6 × A6):=
 (I4 a0).bind fun r1=>
 sel (!decide (r1=0)) (
  some (a0,(1,[],(0:Int),(0:Int),(0:Int)))) (
  (Q0 a2).bind fun r2=>
  sel (!decide (r2.2=0)) (
   some (a0,(r2.2,[],(0:Int),(0:Int),(0:Int)))) (
   (a1K a0 a1 r2.1 (((List.length a2):Nat):Int)).bind fun r3=>
   (Q4 r2.1.2.2.2.1 r2.1.2.2.1).bind fun r4=>
   sel (!decide (r3=0)) (
    some (a0,(r3,r2.1.1,r2.1.2.1,r2.1.2.2.1,r4))) (
    (a0v r2.1).bind fun r5=>
    (a0w a0 r2.1 r5.1).bind fun r6=>
    some (r6,(r3,r2.1.1,r2.1.2.1,r2.1.2.2.1,r4)))))
def a1h (a0:L1) (a1:List UInt8):Option (L1):=
 (M7 a0.2.1 a0.2.2.2.2 a1).bind fun r1=>
 some (a0.1,r1.1,a0.2.2)
def a4a (v5:Int) (b0:A0) (b1:L1) (b2:L1):Option ((Int × A0 × L1 × L1) ⊕ (A0 × L1)):=
 sel (decide (0 < v5)) (
  (T2 b0 b2.2.1 b2.2.2.2.2).bind fun r5=>
  (a1h b2 r5.2).bind fun r6=>
  some (.inl ((A5 (v5 - 1)),r5.1,b1,r6))) (
  some (.inr (b0,b2)))
def a6M (v5:Int) (b0:A0) (b1:L1) (b2:L1):Option (A0 × L1):=
 I2 (fun v=>a4a v.1 v.2.1 v.2.2.1 v.2.2.2) (v5,b0,b1,b2)
def a16 (a0:A0):Option (A0 × L1):=
 (a0L a0).bind fun r1=>
 (A8 r1.1 3).bind fun r2=>
 (a2r r1.2 (B1 r2.2)).bind fun r3=>
 sel (!decide (r3.2=0)) (
  some (r2.1,r3.1)) (
  (A8 r2.1 3).bind fun r4=>
  a6M r4.2 r4.1 (([],(0:Int)),([],(0:Int)),([],(0:Int)),false,(0:Int)) r3.1)
def O3 (a0:List Int):Option (o6 × Int × List UInt8 × A0):=
 (a3c a0).bind fun r1=>
 (a16 r1).bind fun r2=>
 (T2 r2.1 r2.2.2.1 r2.2.2.2.2.2).bind fun r3=>
 some (r2.2.2.1,r2.2.2.2.2.2,r3.2,r3.1)
def T8 (v1:Int) (v2:List UInt8) (v10:Int) (v11:List UInt8) (v16:List UInt8) (v47:Int) (v48:Int) (v55:Int) (v56:Int) (v63:Int) (v64:Int) (b0:o6) (l0:List o6) (l1:List (List UInt8)) (l2:List Int):Option ((Int × List UInt8 × Int × List UInt8 × List UInt8 × Int × Int × Int × Int × Int × Int × o6 × List o6 × List (List UInt8) × List Int) ⊕ ((Int × List UInt8 × Int × List UInt8 × Int × Int × Int × Int × o6 × List o6 × List (List UInt8)) ⊕ ((Int × List UInt8 × Int × List UInt8 × Int × Int × List o6) ⊕ (Bool)))):=
 sel (decide (v64 < v63)) (
  chk (decide ((0:Int)<=v64/\v64 < (((List.length l2):Nat):Int))) <|
  chk (decide ((Int.toNat v64) < (List.length l2))) <|
  (a0k b0 (List.getD l2 (Int.toNat v64) (0:Int)) v16).bind fun r7=>
  (M7 b0 (List.getD l2 (Int.toNat v64) (0:Int)) v16).bind fun r8=>
  sel (!(U.beq D3 r7.2 r8.2)) (
   some (.inr (.inr (.inr false)))) (
   (D4 r7.1 r8.1).bind fun r9=>
   sel (!r9) (
    some (.inr (.inr (.inr false)))) (
    some (.inl (v1,v2,v10,v11,v16,v47,v48,v55,v56,v63,(A5 (v64 + 1)),b0,l0,l1,l2))))) (
  some (.inr (.inl (v1,v2,v10,v11,v47,v48,v55,(A5 (v56 + 1)),b0,l0,l1))))
def a01 (v1:Int) (v2:List UInt8) (v10:Int) (v11:List UInt8) (v16:List UInt8) (v47:Int) (v48:Int) (v55:Int) (v56:Int) (v63:Int) (v64:Int) (b0:o6) (l0:List o6) (l1:List (List UInt8)) (l2:List Int):Option ((Int × List UInt8 × Int × List UInt8 × Int × Int × Int × Int × o6 × List o6 × List (List UInt8)) ⊕ ((Int × List UInt8 × Int × List UInt8 × Int × Int × List o6) ⊕ (Bool))):=
 I2 (fun v=>T8 v.1 v.2.1 v.2.2.1 v.2.2.2.1 v.2.2.2.2.1 v.2.2.2.2.2.1 v.2.2.2.2.2.2.1 v.2.2.2.2.2.2.2.1 v.2.2.2.2.2.2.2.2.1 v.2.2.2.2.2.2.2.2.2.1 v.2.2.2.2.2.2.2.2.2.2.1 v.2.2.2.2.2.2.2.2.2.2.2.1 v.2.2.2.2.2.2.2.2.2.2.2.2.1 v.2.2.2.2.2.2.2.2.2.2.2.2.2.1 v.2.2.2.2.2.2.2.2.2.2.2.2.2.2) (v1,v2,v10,v11,v16,v47,v48,v55,v56,v63,v64,b0,l0,l1,l2)
def T9 (v1:Int) (v2:List UInt8) (v10:Int) (v11:List UInt8) (v47:Int) (v48:Int) (v55:Int) (v56:Int) (b0:o6) (l0:List o6) (l1:List (List UInt8)):Option ((Int × List UInt8 × Int × List UInt8 × Int × Int × Int × Int × o6 × List o6 × List (List UInt8)) ⊕ ((Int × List UInt8 × Int × List UInt8 × Int × Int × List o6) ⊕ (Bool))):=
 sel (decide (v56 < v55)) (
  chk (decide ((0:Int)<=v56/\v56 < (((List.length l1):Nat):Int))) <|
  chk (decide ((Int.toNat v56) < (List.length l1))) <|
  a01 v1 v2 v10 v11 (List.getD l1 (Int.toNat v56) []) v47 v48 v55 v56 2 0 b0 l0 l1 [v1,v10]) (
  some (.inr (.inl (v1,v2,v10,v11,v47,(A5 (v48 + 1)),l0))))
def a02 (v1:Int) (v2:List UInt8) (v10:Int) (v11:List UInt8) (v47:Int) (v48:Int) (v55:Int) (v56:Int) (b0:o6) (l0:List o6) (l1:List (List UInt8)):Option ((Int × List UInt8 × Int × List UInt8 × Int × Int × List o6) ⊕ (Bool)):=
 I2 (fun v=>T9 v.1 v.2.1 v.2.2.1 v.2.2.2.1 v.2.2.2.2.1 v.2.2.2.2.2.1 v.2.2.2.2.2.2.1 v.2.2.2.2.2.2.2.1 v.2.2.2.2.2.2.2.2.1 v.2.2.2.2.2.2.2.2.2.1 v.2.2.2.2.2.2.2.2.2.2) (v1,v2,v10,v11,v47,v48,v55,v56,b0,l0,l1)
def U0 (v1:Int) (v2:List UInt8) (v10:Int) (v11:List UInt8) (v47:Int) (v48:Int) (l0:List o6):Option ((Int × List UInt8 × Int × List UInt8 × Int × Int × List o6) ⊕ (Bool)):=
 sel (decide (v48 < v47)) (
  chk (decide ((0:Int)<=v48/\v48 < (((List.length l0):Nat):Int))) <|
  chk (decide ((Int.toNat v48) < (List.length l0))) <|
  a02 v1 v2 v10 v11 v47 v48 2 0 (List.getD l0 (Int.toNat v48) c0W) l0 [v2,v11]) (
  Option.map .inr (
   (D7).bind fun r10=>
   some r10))
def a03 (v1:Int) (v2:List UInt8) (v10:Int) (v11:List UInt8) (v47:Int) (v48:Int) (l0:List o6):Option (Bool):=
 I2 (fun v=>U0 v.1 v.2.1 v.2.2.1 v.2.2.2.1 v.2.2.2.2.1 v.2.2.2.2.2.1 v.2.2.2.2.2.2) (v1,v2,v10,v11,v47,v48,l0)
def a0Q (a0:o6) (a1:Int) (a2:List UInt8) (a3:List Int):Option (Bool):=
 (O0 [a3]).bind fun r1=>
 sel r1 (
  (D7).bind fun r2=>
  some r2) (
  (a1F a0).bind fun r3=>
  sel (!r3) (
   (D7).bind fun r4=>
   some r4) (
   sel (decide (300 < (((List.length a2):Nat):Int))) (
    (D7).bind fun r5=>
    some r5) (
    (O3 a3).bind fun r6=>
    a03 a1 a2 r6.2.1 r6.2.2.1 2 0 [a0,r6.1])))
def K6 (v5:Int) (v14:Int) (b0:o6) (l0:List UInt8):Option (Bool):=
 (H3 v5 5).bind fun r14=>
 chk (decide ((0:Int)<=r14/\r14 < 5)) <|
 chk (decide ((Int.toNat r14) < 5)) <|
 (a0k b0 (List.getD [v14,0,1,9223372036854775808,18446744073709551615] (Int.toNat r14) (0:Int)) l0).bind fun r15=>
 (M7 b0 (List.getD [v14,0,1,9223372036854775808,18446744073709551615] (Int.toNat r14) (0:Int)) l0).bind fun r16=>
 sel (U.beq D3 r15.2 r16.2) (
  (D4 r15.1 r16.1).bind fun r17=>
  sel r17 (
   (D7).bind fun r18=>
   some r18) (
   some false)) (
  some false)
def I5 (v4:Int) (v5:Int) (v14:Int) (b0:o6) (b1:A7) (b2:o7):Option (Bool):=
 chk (decide ((0 + (List.length b1.2.2.2.2.2)) * 24<=LIM/\0 + (List.length b1.2.2.2.2.2)<=LEN)) <|
 chk (decide ((0:Int)<=0/\0 < (((List.length b1.2.2.2.2.2):Nat):Int))) <|
 chk (decide (0 < (List.length b1.2.2.2.2.2))) <|
 (H3 v4 6).bind fun r12=>
 chk (decide ((0:Int)<=r12/\r12 < 6)) <|
 chk (decide ((Int.toNat r12) < 6)) <|
 chk (decide ((0:Int)<=0/\0 < (((List.length b1.2.2.2.2.2):Nat):Int))) <|
 chk (decide (0 < (List.length b1.2.2.2.2.2))) <|
 (J0 (b1.1,b1.2.1,b1.2.2.1,b1.2.2.2.1,b1.2.2.2.2.1,(List.set b1.2.2.2.2.2 0 ((List.getD b1.2.2.2.2.2 0 B0).1,(List.getD [(List.getD b1.2.2.2.2.2 0 B0).2,(B1 (b2.2.1 - b1.2.2.2.1)),(B1 ((B1 (b2.2.1 - b1.2.2.2.1)) + 1)),b2.2.1,(B1 (18446744073709551615 - b1.2.2.2.1)),(d2K .u64 b1.2.2.2.1)] (Int.toNat r12) (0:Int)))))).bind fun r13=>
 sel (!decide (r13.2=0)) (
  (T0 (b1.1,b1.2.1,b1.2.2.1,b1.2.2.2.1,b1.2.2.2.2.1,(List.set b1.2.2.2.2.2 0 ((List.getD b1.2.2.2.2.2 0 B0).1,(List.getD [(List.getD b1.2.2.2.2.2 0 B0).2,(B1 (b2.2.1 - b1.2.2.2.1)),(B1 ((B1 (b2.2.1 - b1.2.2.2.1)) + 1)),b2.2.1,(B1 (18446744073709551615 - b1.2.2.2.1)),(d2K .u64 b1.2.2.2.1)] (Int.toNat r12) (0:Int)))))).bind fun r19=>
  K6 v5 v14 b0 r19) (
  K6 v5 v14 b0 r13.1)
def R7 (a0:List Int) (a1:Int) (a2:Int) (a3:Int) (a4:Int) (a5:Int):Option (Bool):=
 (O0 [a0]).bind fun r1=>
 sel r1 (
  (D7).bind fun r2=>
  some r2) (
  (O3 a0).bind fun r3=>
  (a2P r3.2.2.2 r3.1 r3.2.1).bind fun r4=>
  (Q3 r3.1 r4.2.1).bind fun r5=>
  (J0 r4.2).bind fun r6=>
  (a0t (((List.length r6.1):Nat):Int) (((List.length r4.2.2.2.2.2.2):Nat):Int)).bind fun r7=>
  (H3 a2 5).bind fun r8=>
  chk (decide ((0:Int)<=r8/\r8 < 5)) <|
  chk (decide ((Int.toNat r8) < 5)) <|
  (a0u (List.getD [r4.2.2.2.1,(B1 (r7 - 1)),r7,(B1 (r7 + 1)),18446744073709551615] (Int.toNat r8) (0:Int)) r3.2.1).bind fun r9=>
  (H3 a1 6).bind fun r10=>
  chk (decide ((0:Int)<=r10/\r10 < 6)) <|
  chk (decide ((Int.toNat r10) < 6)) <|
  (H3 a3 3).bind fun r11=>
  (H3 a3 2).bind fun r20=>
  sel (decide (r20=0)) (
   I5 a4 a5 r3.2.1 r3.1 (r4.2.1,r5.1.2.2,(List.getD [r4.2.2.2.1,(B1 (r7 - 1)),r7,(B1 (r7 + 1)),18446744073709551615] (Int.toNat r8) (0:Int)),(List.getD [r4.2.2.2.2.1,(B1 (r9.1 - 1)),r9.1,(B1 (r9.1 + 1)),r5.1.2.1,18446744073709551615] (Int.toNat r10) (0:Int)),r4.2.2.2.2.2) r5.1) (
   I5 a4 a5 r3.2.1 r3.1 (r4.2.1,(B1 (r4.2.2.1 + (B1 ((B1 r11) - 1)))),(List.getD [r4.2.2.2.1,(B1 (r7 - 1)),r7,(B1 (r7 + 1)),18446744073709551615] (Int.toNat r8) (0:Int)),(List.getD [r4.2.2.2.2.1,(B1 (r9.1 - 1)),r9.1,(B1 (r9.1 + 1)),r5.1.2.1,18446744073709551615] (Int.toNat r10) (0:Int)),r4.2.2.2.2.2) r5.1))
def N8 (v73:List o7) (v74:Int) (v75:Int) (b0:o6) (b1:A6):Option ((List o7 × Int × Int × o6 × A6) ⊕ (Bool)):=
 sel (decide (v75 < v74)) (
  chk (decide ((0:Int)<=v75/\v75 < (((List.length v73):Nat):Int))) <|
  (Q3 b0 (List.getD v73 (Int.toNat v75) o9).1).bind fun r7=>
  sel (decide (b1.1=0)) (
   sel (decide ((List.getD v73 (Int.toNat v75) o9).1=b1.2.1)) (
    sel (!decide ((List.getD v73 (Int.toNat v75) o9).2.2=(B1 (r7.1.2.2 + 1)))) (
     some (.inr false)) (
     some (.inl (v73,v74,(A5 (v75 + 1)),b0,b1)))) (
    sel (!decide ((List.getD v73 (Int.toNat v75) o9).2.2=r7.1.2.2)) (
     some (.inr false)) (
     some (.inl (v73,v74,(A5 (v75 + 1)),b0,b1))))) (
   sel (!decide ((List.getD v73 (Int.toNat v75) o9).2.2=r7.1.2.2)) (
    some (.inr false)) (
    some (.inl (v73,v74,(A5 (v75 + 1)),b0,b1))))) (
  Option.map .inr (
   (D7).bind fun r8=>
   some r8))
def a2j (v73:List o7) (v74:Int) (v75:Int) (b0:o6) (b1:A6):Option (Bool):=
 I2 (fun v=>N8 v.1 v.2.1 v.2.2.1 v.2.2.2.1 v.2.2.2.2) (v73,v74,v75,b0,b1)
def I6 (b0:o6) (b1:o6) (b2:A6):Option (Bool):=
 a2j b1.1 (((List.length b1.1):Nat):Int) 0 b0 b2
def R8 (a0:List Int):Option (Bool):=
 (O0 [a0]).bind fun r1=>
 sel r1 (
  (D7).bind fun r2=>
  some r2) (
  (O3 a0).bind fun r3=>
  (a0k r3.1 r3.2.1 r3.2.2.1).bind fun r4=>
  (N3 r3.1).bind fun r5=>
  (N3 r4.1).bind fun r6=>
  sel (!decide (r5.1=r6.1)) (
   some false) (
   sel (!(d4H r5.2 r6.2)) (
    some false) (
    (I4 r4.1).bind fun r9=>
    (I4 r3.1).bind fun r10=>
    sel (!decide (r9=r10)) (
     some false) (
     sel (!decide (r4.2.1=0)) (
      (D4 r4.1 r3.1).bind fun r11=>
      sel (!r11) (
       some false) (
       I6 r3.1 r4.1 r4.2)) (
      I6 r3.1 r4.1 r4.2)))))
def a0x (v4:Int) (v5:List UInt8) (v9:Int) (b0:A0) (b1:o6):Option ((Int × List UInt8 × Int × A0 × o6) ⊕ (Bool)):=
 sel (decide (0<=v9)) (
  (a0k b1 v4 v5).bind fun r7=>
  sel (!decide (r7.2.1=14)) (
   some (.inr false)) (
   (T2 b0 b1 v4).bind fun r8=>
   (a0k b1 v4 r8.2).bind fun r9=>
   some (.inl (v4,v5,(A5 (v9 - 1)),r8.1,r9.1)))) (
  Option.map .inr (
   (D7).bind fun r10=>
   some r10))
def a3e (v4:Int) (v5:List UInt8) (v9:Int) (b0:A0) (b1:o6):Option (Bool):=
 I2 (fun v=>a0x v.1 v.2.1 v.2.2.1 v.2.2.2.1 v.2.2.2.2) (v4,v5,v9,b0,b1)
def V9 (a0:List Int):Option (Bool):=
 (O0 [a0]).bind fun r1=>
 sel r1 (
  (D7).bind fun r2=>
  some r2) (
  (O3 a0).bind fun r3=>
  (a0k r3.1 r3.2.1 r3.2.2.1).bind fun r4=>
  sel (!decide (r4.2.1=0)) (
   (D7).bind fun r5=>
   some r5) (
   (A8 r3.2.2.2 4).bind fun r6=>
   a3e r3.2.1 r3.2.2.1 r6.2 r6.1 r4.1))
def a0R (v3:Int) (v6:List (List Int)) (v7:Int) (v8:Int):Option ((Int × List (List Int) × Int × Int) ⊕ (Bool)):=
 sel (decide (v8 < v7)) (
  chk (decide ((0:Int)<=v8/\v8 < (((List.length v6):Nat):Int))) <|
  some (.inl ((A5 (v3 + (((List.length (List.getD v6 (Int.toNat v8) [])):Nat):Int))),v6,v7,(A5 (v8 + 1))))) (
  some (.inr (decide (160 < v3))))
def a5y (v3:Int) (v6:List (List Int)) (v7:Int) (v8:Int):Option (Bool):=
 I2 (fun v=>a0R v.1 v.2.1 v.2.2.1 v.2.2.2) (v3,v6,v7,v8)
def O4 (a0:List (List Int)):Option (Bool):=
 a5y 0 a0 (((List.length a0):Nat):Int) 0
def a24 (v0:List (List UInt8)) (v3:Int):Option (Bool):=
 sel (decide (500 < v3)) (
  some true) (
  some (decide (12 < (((List.length v0):Nat):Int))))
def a0S (v0:List (List UInt8)) (v3:Int) (v6:List (List UInt8)) (v7:Int) (v8:Int):Option ((List (List UInt8) × Int × List (List UInt8) × Int × Int) ⊕ (Bool)):=
 sel (decide (v8 < v7)) (
  chk (decide ((0:Int)<=v8/\v8 < (((List.length v6):Nat):Int))) <|
  some (.inl (v0,(A5 (v3 + (((List.length (List.getD v6 (Int.toNat v8) [])):Nat):Int))),v6,v7,(A5 (v8 + 1))))) (
  Option.map .inr (
   a24 v0 v3))
def a5z (v0:List (List UInt8)) (v3:Int) (v6:List (List UInt8)) (v7:Int) (v8:Int):Option (Bool):=
 I2 (fun v=>a0S v.1 v.2.1 v.2.2.1 v.2.2.2.1 v.2.2.2.2) (v0,v3,v6,v7,v8)
def a0y (a0:List (List UInt8)):Option (Bool):=
 a5z a0 0 a0 (((List.length a0):Nat):Int) 0
def a2Q (a0:o6):Option (o6):=
 (J4 a0.1).bind fun r1=>
 some (r1,a0.2)
def b0d (b0:o6) (_b1:o6) (l0:List A6):Option (o6 × List A6):=
 some (b0,l0)
def a7K (v1:Int) (v15:List (List UInt8)) (v16:Int) (v17:Int) (b0:o6) (b1:o6) (l0:List A6):Option ((Int × List (List UInt8) × Int × Int × o6 × o6 × List A6) ⊕ (o6 × List A6)):=
 sel (decide (v17 < v16)) (
  chk (decide ((0:Int)<=v17/\v17 < (((List.length v15):Nat):Int))) <|
  (a0k b0 v1 (List.getD v15 (Int.toNat v17) [])).bind fun r2=>
  chk (decide (((List.length l0) + 1) * 48<=LIM/\(List.length l0) + 1<=LEN)) <|
  some (.inl (v1,v15,v16,(A5 (v17 + 1)),r2.1,b1,(l0 ++ ([r2.2]:List A6))))) (
  Option.map .inr (
   b0d b0 b1 l0))
def b2K (v1:Int) (v15:List (List UInt8)) (v16:Int) (v17:Int) (b0:o6) (b1:o6) (l0:List A6):Option (o6 × List A6):=
 I2 (fun v=>a7K v.1 v.2.1 v.2.2.1 v.2.2.2.1 v.2.2.2.2.1 v.2.2.2.2.2.1 v.2.2.2.2.2.2) (v1,v15,v16,v17,b0,b1,l0)
def a5e (a0:o6) (a1:Int) (a2:List (List UInt8)):Option (o6 × List A6):=
 (a2Q a0).bind fun r1=>
 b2K a1 a2 (((List.length a2):Nat):Int) 0 r1 ([],(0:Int)) []
def a67 (b0:o6):Option (o6 × Int × Int):=
 some (b0,0,0)
def a4G (v1:Int) (v14:List (List UInt8)) (v15:Int) (v16:Int) (b0:o6):Option ((Int × List (List UInt8) × Int × Int × o6) ⊕ (o6 × Int × Int)):=
 sel (decide (v16 < v15)) (
  chk (decide ((0:Int)<=v16/\v16 < (((List.length v14):Nat):Int))) <|
  (a0k b0 v1 (List.getD v14 (Int.toNat v16) [])).bind fun r2=>
  sel (!decide (r2.2.1=0)) (
   some (.inr (([],(0:Int)),v16,r2.2.1))) (
   some (.inl (v1,v14,v15,(A5 (v16 + 1)),r2.1)))) (
  Option.map .inr (
   a67 b0))
def a9z (v1:Int) (v14:List (List UInt8)) (v15:Int) (v16:Int) (b0:o6):Option (o6 × Int × Int):=
 I2 (fun v=>a4G v.1 v.2.1 v.2.2.1 v.2.2.2.1 v.2.2.2.2) (v1,v14,v15,v16,b0)
def a3V (a0:o6) (a1:Int) (a2:List (List UInt8)):Option (o6 × Int × Int):=
 (a2Q a0).bind fun r1=>
 a9z a1 a2 (((List.length a2):Nat):Int) 0 r1
def b62:Option (Vector Int 8):=
 some (Vector.push (Vector.push (Vector.push (Vector.push (Vector.push (Vector.push (Vector.push (Vector.push #v[] 1779033703) 3144134277) 1013904242) 2773480762) 1359893119) 2600822924) 528734635) 1541459225)
def b1i:Option (A9):=
 (b62).bind fun r1=>
 some (r1,[],(0:Int))
def a5f (a0:Int) (a1:Int):Option (Int):=
 chk (decide ((0:Int)<=(bits .and .u64 (B1 a1) 31))) <|
 chk (decide ((0:Int)<=(B1 (32 - (bits .and .u64 (B1 a1) 31))))) <|
 some (bits .or .u32 (T6 (a0 * 2 ^ (min (Int.toNat (bits .and .u64 (B1 a1) 31)) 32))) (a0 / 2 ^ (min (Int.toNat (B1 (32 - (bits .and .u64 (B1 a1) 31)))) 32)))
def J3 (a0:Int) (a1:Int):Option (Int):=
 (a5f a0 (d2K .i64 a1)).bind fun r1=>
 some r1
def a17 (v5:Int) (b0:Vector Int 64) (b1:Vector Int 64):Option ((Int × Vector Int 64 × Vector Int 64) ⊕ (Vector Int 64)):=
 sel (decide (v5 < 64)) (
  chk (decide ((0:Int)<=(A5 (v5 - 15))/\(A5 (v5 - 15)) < 64)) <|
  chk (decide ((Int.toNat (A5 (v5 - 15))) < 64)) <|
  chk (decide ((0:Int)<=(A5 (v5 - 2))/\(A5 (v5 - 2)) < 64)) <|
  chk (decide ((Int.toNat (A5 (v5 - 2))) < 64)) <|
  (J3 (E8 b1 (Int.toNat (A5 (v5 - 15))) (0:Int)) 7).bind fun r1=>
  (J3 (E8 b1 (Int.toNat (A5 (v5 - 15))) (0:Int)) 18).bind fun r2=>
  (J3 (E8 b1 (Int.toNat (A5 (v5 - 2))) (0:Int)) 17).bind fun r3=>
  (J3 (E8 b1 (Int.toNat (A5 (v5 - 2))) (0:Int)) 19).bind fun r4=>
  chk (decide ((0:Int)<=(A5 (v5 - 7))/\(A5 (v5 - 7)) < 64)) <|
  chk (decide ((Int.toNat (A5 (v5 - 7))) < 64)) <|
  chk (decide ((0:Int)<=(A5 (v5 - 16))/\(A5 (v5 - 16)) < 64)) <|
  chk (decide ((Int.toNat (A5 (v5 - 16))) < 64)) <|
  chk (decide ((0:Int)<=v5/\v5 < 64)) <|
  chk (decide ((Int.toNat v5) < 64)) <|
  some (.inl ((A5 (v5 + 1)),b0,(b5m b1 (Int.toNat v5) (T6 ((T6 ((T6 ((bits .xor .u32 (bits .xor .u32 r3 r4) ((E8 b1 (Int.toNat (A5 (v5 - 2))) (0:Int)) / 2 ^ 10)) + (E8 b1 (Int.toNat (A5 (v5 - 7))) (0:Int)))) + (bits .xor .u32 (bits .xor .u32 r1 r2) ((E8 b1 (Int.toNat (A5 (v5 - 15))) (0:Int)) / 2 ^ 3)))) + (E8 b1 (Int.toNat (A5 (v5 - 16))) (0:Int)))))))) (
  some (.inr b1))
def W2 (v5:Int) (b0:Vector Int 64) (b1:Vector Int 64):Option (Vector Int 64):=
 I2 (fun v=>a17 v.1 v.2.1 v.2.2) (v5,b0,b1)
def a3W (b0:Vector Int 64) (b1:Vector Int 64):Option (Vector Int 64):=
 W2 16 b0 b1
def a18 (v0:List UInt8) (v10:Int) (b0:Vector Int 64) (b1:Vector Int 64):Option ((List UInt8 × Int × Vector Int 64 × Vector Int 64) ⊕ (Vector Int 64)):=
 sel (decide (v10 < 16)) (
  chk (decide ((0:Int)<=(A5 (4 * v10))/\(A5 (4 * v10)) < (((List.length v0):Nat):Int))) <|
  chk (decide ((0:Int)<=(A5 ((A5 (4 * v10)) + 1))/\(A5 ((A5 (4 * v10)) + 1)) < (((List.length v0):Nat):Int))) <|
  chk (decide ((0:Int)<=(A5 ((A5 (4 * v10)) + 2))/\(A5 ((A5 (4 * v10)) + 2)) < (((List.length v0):Nat):Int))) <|
  chk (decide ((0:Int)<=(A5 ((A5 (4 * v10)) + 3))/\(A5 ((A5 (4 * v10)) + 3)) < (((List.length v0):Nat):Int))) <|
  chk (decide ((0:Int)<=v10/\v10 < 64)) <|
  chk (decide ((Int.toNat v10) < 64)) <|
  some (.inl (v0,(A5 (v10 + 1)),b0,(b5m b1 (Int.toNat v10) (bits .or .u32 (bits .or .u32 (bits .or .u32 (T6 ((T6 ((UInt8.toNat (List.getD v0 (Int.toNat (A5 (4 * v10))) (0:UInt8)):Nat):Int)) * 2 ^ 24)) (T6 ((T6 ((UInt8.toNat (List.getD v0 (Int.toNat (A5 ((A5 (4 * v10)) + 1))) (0:UInt8)):Nat):Int)) * 2 ^ 16))) (T6 ((T6 ((UInt8.toNat (List.getD v0 (Int.toNat (A5 ((A5 (4 * v10)) + 2))) (0:UInt8)):Nat):Int)) * 2 ^ 8))) (T6 ((UInt8.toNat (List.getD v0 (Int.toNat (A5 ((A5 (4 * v10)) + 3))) (0:UInt8)):Nat):Int))))))) (
  Option.map .inr (
   a3W b0 b1))
def W3 (v0:List UInt8) (v10:Int) (b0:Vector Int 64) (b1:Vector Int 64):Option (Vector Int 64):=
 I2 (fun v=>a18 v.1 v.2.1 v.2.2.1 v.2.2.2) (v0,v10,b0,b1)
def a6B (a0:List UInt8):Option (Vector Int 64):=
 W3 a0 0 (Vector.replicate 64 (0:Int)) (Vector.replicate 64 (0:Int))
def a5g:Option (Vector Int 64):=
 some (Vector.push (Vector.push (Vector.push (Vector.push (Vector.push (Vector.push (Vector.push (Vector.push (Vector.push (Vector.push (Vector.push (Vector.push (Vector.push (Vector.push (Vector.push (Vector.push (Vector.push (Vector.push (Vector.push (Vector.push (Vector.push (Vector.push (Vector.push (Vector.push (Vector.push (Vector.push (Vector.push (Vector.push (Vector.push (Vector.push (Vector.push (Vector.push (Vector.push (Vector.push (Vector.push (Vector.push (Vector.push (Vector.push (Vector.push (Vector.push (Vector.push (Vector.push (Vector.push (Vector.push (Vector.push (Vector.push (Vector.push (Vector.push (Vector.push (Vector.push (Vector.push (Vector.push (Vector.push (Vector.push (Vector.push (Vector.push (Vector.push (Vector.push (Vector.push (Vector.push (Vector.push (Vector.push (Vector.push (Vector.push #v[] 1116352408) 1899447441) 3049323471) 3921009573) 961987163) 1508970993) 2453635748) 2870763221) 3624381080) 310598401) 607225278) 1426881987) 1925078388) 2162078206) 2614888103) 3248222580) 3835390401) 4022224774) 264347078) 604807628) 770255983) 1249150122) 1555081692) 1996064986) 2554220882) 2821834349) 2952996808) 3210313671) 3336571891) 3584528711) 113926993) 338241895) 666307205) 773529912) 1294757372) 1396182291) 1695183700) 1986661051) 2177026350) 2456956037) 2730485921) 2820302411) 3259730800) 3345764771) 3516065817) 3600352804) 4094571909) 275423344) 430227734) 506948616) 659060556) 883997877) 958139571) 1322822218) 1537002063) 1747873779) 1955562222) 2024104815) 2227730452) 2361852424) 2428436474) 2756734187) 3204031479) 3329325298)
def a1M (v106:Int) (b0:Vector Int 8) (b1:Vector Int 8) (b2:Vector Int 8):Option ((Int × Vector Int 8 × Vector Int 8 × Vector Int 8) ⊕ (Vector Int 8)):=
 sel (decide (v106 < 8)) (
  chk (decide ((0:Int)<=v106/\v106 < 8)) <|
  chk (decide ((Int.toNat v106) < 8)) <|
  chk (decide ((0:Int)<=v106/\v106 < 8)) <|
  chk (decide ((Int.toNat v106) < 8)) <|
  chk (decide ((0:Int)<=v106/\v106 < 8)) <|
  chk (decide ((Int.toNat v106) < 8)) <|
  some (.inl ((A5 (v106 + 1)),(b5m b0 (Int.toNat v106) (T6 ((E8 b0 (Int.toNat v106) (0:Int)) + (E8 b2 (Int.toNat v106) (0:Int))))),b1,b2))) (
  some (.inr b0))
def U7 (v106:Int) (b0:Vector Int 8) (b1:Vector Int 8) (b2:Vector Int 8):Option (Vector Int 8):=
 I2 (fun v=>a1M v.1 v.2.1 v.2.2.1 v.2.2.2) (v106,b0,b1,b2)
def a1N (b0:Vector Int 8) (b1:Vector Int 8) (b2:Vector Int 8):Option (Vector Int 8):=
 U7 0 b0 b1 b2
def Y6 (v21:Int) (b0:Vector Int 8) (b1:Vector Int 8) (b2:Vector Int 64) (b3:Vector Int 64) (b4:Vector Int 8):Option ((Int × Vector Int 8 × Vector Int 8 × Vector Int 64 × Vector Int 64 × Vector Int 8) ⊕ (Vector Int 8)):=
 sel (decide (v21 < 64)) (
  (J3 (E8 b4 4 (0:Int)) 6).bind fun r3=>
  (J3 (E8 b4 4 (0:Int)) 11).bind fun r4=>
  (J3 (E8 b4 4 (0:Int)) 25).bind fun r5=>
  chk (decide ((0:Int)<=v21/\v21 < 64)) <|
  chk (decide ((Int.toNat v21) < 64)) <|
  chk (decide ((0:Int)<=v21/\v21 < 64)) <|
  chk (decide ((Int.toNat v21) < 64)) <|
  (J3 (E8 b4 0 (0:Int)) 2).bind fun r6=>
  (J3 (E8 b4 0 (0:Int)) 13).bind fun r7=>
  (J3 (E8 b4 0 (0:Int)) 22).bind fun r8=>
  some (.inl ((A5 (v21 + 1)),b0,b1,b2,b3,(Vector.push (Vector.push (Vector.push (Vector.push (Vector.push (Vector.push (Vector.push (Vector.push #v[] (T6 ((T6 ((T6 ((T6 ((T6 ((T6 ((E8 b4 7 (0:Int)) + (bits .xor .u32 (bits .xor .u32 r3 r4) r5))) + (bits .xor .u32 (bits .and .u32 (E8 b4 4 (0:Int)) (E8 b4 5 (0:Int))) (bits .and .u32 (notI .u32 (E8 b4 4 (0:Int))) (E8 b4 6 (0:Int)))))) + (E8 b3 (Int.toNat v21) (0:Int)))) + (E8 b2 (Int.toNat v21) (0:Int)))) + (bits .xor .u32 (bits .xor .u32 r6 r7) r8))) + (bits .xor .u32 (bits .xor .u32 (bits .and .u32 (E8 b4 0 (0:Int)) (E8 b4 1 (0:Int))) (bits .and .u32 (E8 b4 0 (0:Int)) (E8 b4 2 (0:Int)))) (bits .and .u32 (E8 b4 1 (0:Int)) (E8 b4 2 (0:Int))))))) (E8 b4 0 (0:Int))) (E8 b4 1 (0:Int))) (E8 b4 2 (0:Int))) (T6 ((E8 b4 3 (0:Int)) + (T6 ((T6 ((T6 ((T6 ((E8 b4 7 (0:Int)) + (bits .xor .u32 (bits .xor .u32 r3 r4) r5))) + (bits .xor .u32 (bits .and .u32 (E8 b4 4 (0:Int)) (E8 b4 5 (0:Int))) (bits .and .u32 (notI .u32 (E8 b4 4 (0:Int))) (E8 b4 6 (0:Int)))))) + (E8 b3 (Int.toNat v21) (0:Int)))) + (E8 b2 (Int.toNat v21) (0:Int))))))) (E8 b4 4 (0:Int))) (E8 b4 5 (0:Int))) (E8 b4 6 (0:Int)))))) (
  Option.map .inr (
   a1N b0 b1 b4))
def P0 (v21:Int) (b0:Vector Int 8) (b1:Vector Int 8) (b2:Vector Int 64) (b3:Vector Int 64) (b4:Vector Int 8):Option (Vector Int 8):=
 I2 (fun v=>Y6 v.1 v.2.1 v.2.2.1 v.2.2.2.1 v.2.2.2.2.1 v.2.2.2.2.2) (v21,b0,b1,b2,b3,b4)
def M8 (a0:Vector Int 8) (a1:List UInt8):Option (Vector Int 8):=
 (a6B a1).bind fun r1=>
 (a5g).bind fun r2=>
 P0 0 a0 (Vector.replicate 8 (0:Int)) r1 r2 a0
def a3v (v4:List UInt8) (b0:A9):Option (A9):=
 chk (decide ((List.length v4) * 1<=LIM/\(List.length v4)<=LEN)) <|
 some (b0.1,v4,b0.2.2)
def a3w (v4:List UInt8) (b0:A9):Option ((List UInt8 × A9) ⊕ (A9)):=
 sel (decide (64<=(((List.length v4):Nat):Int))) (
  chk (decide ((0:Int)<=0/\(0:Int)<=64/\64<=(((List.length v4):Nat):Int))) <|
  (M8 b0.1 (List.take 64 v4)).bind fun r1=>
  chk (decide ((0:Int)<=64/\64<=(((List.length v4):Nat):Int)/\(((List.length v4):Nat):Int)<=(((List.length v4):Nat):Int))) <|
  some (.inl ((List.drop 64 (List.take (Int.toNat (((List.length v4):Nat):Int)) v4)),(r1,b0.2)))) (
  Option.map .inr (
   a3v v4 b0))
def a25 (v4:List UInt8) (b0:A9):Option (A9):=
 I2 (fun v=>a3w v.1 v.2) (v4,b0)
def L3 (a0:A9) (a1:List UInt8):Option (A9):=
 chk (decide ((List.length a0.2.1) * 1<=LIM/\(List.length a0.2.1)<=LEN)) <|
 chk (decide (((List.length a0.2.1) + (List.length a1)) * 1<=LIM/\(List.length a0.2.1) + (List.length a1)<=LEN)) <|
 a25 (a0.2.1 ++ a1) (a0.1,a0.2.1,(A5 (a0.2.2 + (((List.length a1):Nat):Int))))
def a4O (v57:Vector Int 8) (v58:Int) (b0:Vector UInt8 32) (b1:Vector UInt8 32) (b2:A9):Option ((Vector Int 8 × Int × Vector UInt8 32 × Vector UInt8 32 × A9) ⊕ (A9 × Vector UInt8 32)):=
 sel (decide (v58 < 8)) (
  chk (decide ((0:Int)<=v58/\v58 < 8)) <|
  chk (decide ((0:Int)<=(A5 (4 * v58))/\(A5 (4 * v58)) < 32)) <|
  chk (decide ((Int.toNat (A5 (4 * v58))) < 32)) <|
  chk (decide ((0:Int)<=(wu8 ((E8 v57 (Int.toNat v58) (0:Int)) / 2 ^ 24))/\(wu8 ((E8 v57 (Int.toNat v58) (0:Int)) / 2 ^ 24)) < 256)) <|
  chk (decide ((0:Int)<=(A5 ((A5 (4 * v58)) + 1))/\(A5 ((A5 (4 * v58)) + 1)) < 32)) <|
  chk (decide ((Int.toNat (A5 ((A5 (4 * v58)) + 1))) < 32)) <|
  chk (decide ((0:Int)<=(wu8 ((E8 v57 (Int.toNat v58) (0:Int)) / 2 ^ 16))/\(wu8 ((E8 v57 (Int.toNat v58) (0:Int)) / 2 ^ 16)) < 256)) <|
  chk (decide ((0:Int)<=(A5 ((A5 (4 * v58)) + 2))/\(A5 ((A5 (4 * v58)) + 2)) < 32)) <|
  chk (decide ((Int.toNat (A5 ((A5 (4 * v58)) + 2))) < 32)) <|
  chk (decide ((0:Int)<=(wu8 ((E8 v57 (Int.toNat v58) (0:Int)) / 2 ^ 8))/\(wu8 ((E8 v57 (Int.toNat v58) (0:Int)) / 2 ^ 8)) < 256)) <|
  chk (decide ((0:Int)<=(A5 ((A5 (4 * v58)) + 3))/\(A5 ((A5 (4 * v58)) + 3)) < 32)) <|
  chk (decide ((Int.toNat (A5 ((A5 (4 * v58)) + 3))) < 32)) <|
  chk (decide ((0:Int)<=(wu8 (E8 v57 (Int.toNat v58) (0:Int)))/\(wu8 (E8 v57 (Int.toNat v58) (0:Int))) < 256)) <|
  some (.inl (v57,(A5 (v58 + 1)),b0,(b5m (b5m (b5m (b5m b1 (Int.toNat (A5 (4 * v58))) (UInt8.ofNat (Int.toNat (wu8 ((E8 v57 (Int.toNat v58) (0:Int)) / 2 ^ 24))))) (Int.toNat (A5 ((A5 (4 * v58)) + 1))) (UInt8.ofNat (Int.toNat (wu8 ((E8 v57 (Int.toNat v58) (0:Int)) / 2 ^ 16))))) (Int.toNat (A5 ((A5 (4 * v58)) + 2))) (UInt8.ofNat (Int.toNat (wu8 ((E8 v57 (Int.toNat v58) (0:Int)) / 2 ^ 8))))) (Int.toNat (A5 ((A5 (4 * v58)) + 3))) (UInt8.ofNat (Int.toNat (wu8 (E8 v57 (Int.toNat v58) (0:Int)))))),b2))) (
  some (.inr (b2,b1)))
def a7o (v57:Vector Int 8) (v58:Int) (b0:Vector UInt8 32) (b1:Vector UInt8 32) (b2:A9):Option (A9 × Vector UInt8 32):=
 I2 (fun v=>a4O v.1 v.2.1 v.2.2.1 v.2.2.2.1 v.2.2.2.2) (v57,v58,b0,b1,b2)
def a0z (b0:Vector UInt8 32) (b1:Vector UInt8 32) (b2:Vector Int 8) (b3:A9):Option (A9 × Vector UInt8 32):=
 a7o b2 0 b0 b1 b3
def a4P (v4:List UInt8) (b0:Vector UInt8 32) (b1:Vector UInt8 32) (b2:Vector Int 8) (b3:A9):Option ((List UInt8 × Vector UInt8 32 × Vector UInt8 32 × Vector Int 8 × A9) ⊕ (A9 × Vector UInt8 32)):=
 sel (decide (0 < (((List.length v4):Nat):Int))) (
  chk (decide ((0:Int)<=0/\(0:Int)<=64/\64<=(((List.length v4):Nat):Int))) <|
  (M8 b2 (List.take 64 v4)).bind fun r1=>
  chk (decide ((0:Int)<=64/\64<=(((List.length v4):Nat):Int)/\(((List.length v4):Nat):Int)<=(((List.length v4):Nat):Int))) <|
  some (.inl ((List.drop 64 (List.take (Int.toNat (((List.length v4):Nat):Int)) v4)),b0,b1,r1,b3))) (
  Option.map .inr (
   a0z b0 b1 b2 b3))
def a4b (v4:List UInt8) (b0:Vector UInt8 32) (b1:Vector UInt8 32) (b2:Vector Int 8) (b3:A9):Option (A9 × Vector UInt8 32):=
 I2 (fun v=>a4P v.1 v.2.1 v.2.2.1 v.2.2.2.1 v.2.2.2.2) (v4,b0,b1,b2,b3)
def a2v (b0:A9) (b1:Vector UInt8 32) (b2:Vector UInt8 32) (l0:List UInt8):Option (A9 × Vector UInt8 32):=
 a4b l0 b1 b2 b0.1 b0
def a4Q (v5:Int) (v6:Int) (b0:A9) (b1:Vector UInt8 32) (b2:Vector UInt8 32) (l0:List UInt8):Option ((Int × Int × A9 × Vector UInt8 32 × Vector UInt8 32 × List UInt8) ⊕ (A9 × Vector UInt8 32)):=
 sel (decide (0<=v6)) (
  chk (decide ((0:Int)<=v6)) <|
  chk (decide ((0:Int)<=(wu8 (v5 / 2 ^ (min (Int.toNat v6) 64)))/\(wu8 (v5 / 2 ^ (min (Int.toNat v6) 64))) < 256)) <|
  chk (decide (((List.length l0) + 1) * 1<=LIM/\(List.length l0) + 1<=LEN)) <|
  some (.inl (v5,(A5 (v6 - 8)),b0,b1,b2,(l0 ++ [(UInt8.ofNat (Int.toNat (wu8 (v5 / 2 ^ (min (Int.toNat v6) 64)))))])))) (
  Option.map .inr (
   a2v b0 b1 b2 l0))
def a4c (v5:Int) (v6:Int) (b0:A9) (b1:Vector UInt8 32) (b2:Vector UInt8 32) (l0:List UInt8):Option (A9 × Vector UInt8 32):=
 I2 (fun v=>a4Q v.1 v.2.1 v.2.2.1 v.2.2.2.1 v.2.2.2.2.1 v.2.2.2.2.2) (v5,v6,b0,b1,b2,l0)
def a2w (b0:A9) (b1:Vector UInt8 32) (b2:Vector UInt8 32) (l0:List UInt8):Option (A9 × Vector UInt8 32):=
 a4c (B1 ((B1 b0.2.2) * 8)) 56 b0 b1 b2 l0
def a4R (b0:A9) (b1:Vector UInt8 32) (b2:Vector UInt8 32) (l0:List UInt8):Option ((A9 × Vector UInt8 32 × Vector UInt8 32 × List UInt8) ⊕ (A9 × Vector UInt8 32)):=
 sel (!decide ((Int.tmod (((List.length l0):Nat):Int) 64)=56)) (
  chk (decide (((List.length l0) + 1) * 1<=LIM/\(List.length l0) + 1<=LEN)) <|
  some (.inl (b0,b1,b2,(l0 ++ [(0:UInt8)])))) (
  Option.map .inr (
   a2w b0 b1 b2 l0))
def a4d (b0:A9) (b1:Vector UInt8 32) (b2:Vector UInt8 32) (l0:List UInt8):Option (A9 × Vector UInt8 32):=
 I2 (fun v=>a4R v.1 v.2.1 v.2.2.1 v.2.2.2) (b0,b1,b2,l0)
def a08 (a0:A9):Option (A9 × Vector UInt8 32):=
 chk (decide ((List.length a0.2.1) * 1<=LIM/\(List.length a0.2.1)<=LEN)) <|
 chk (decide (((List.length a0.2.1) + 1) * 1<=LIM/\(List.length a0.2.1) + 1<=LEN)) <|
 a4d a0 (Vector.replicate 32 (0:UInt8)) (Vector.replicate 32 (0:UInt8)) (a0.2.1 ++ [(128:UInt8)])
def b37 (a0:List UInt8):Option (Vector UInt8 32):=
 (b1i).bind fun r1=>
 (L3 r1 a0).bind fun r2=>
 (a08 r2).bind fun r3=>
 some r3.2
def a7L (a0:List UInt8):Option (Vector UInt8 32):=
 (b1i).bind fun r1=>
 (L3 r1 [(0:UInt8)]).bind fun r2=>
 (L3 r2 a0).bind fun r3=>
 (a08 r3).bind fun r4=>
 some r4.2
def a73 (a0:Int):Option (Int):=
 (a12 a0).bind fun r1=>
 some r1
def a5A (a0:Int):Option (Int):=
 (a73 (B1 (A5 (a0 - 1)))).bind fun r1=>
 chk (decide ((0:Int)<=(A5 (r1 - 1)))) <|
 some (A5 (1 * 2 ^ (min (Int.toNat (A5 (r1 - 1))) 64)))
def a6C (a0:Vector UInt8 32) (a1:Vector UInt8 32):Option (Vector UInt8 32):=
 (b1i).bind fun r1=>
 (L3 r1 [(1:UInt8)]).bind fun r2=>
 (L3 r2 (Vector.toList a0)).bind fun r3=>
 (L3 r3 (Vector.toList a1)).bind fun r4=>
 (a08 r4).bind fun r5=>
 some r5.2
noncomputable def a5B (rec:List (List UInt8)->Option (Vector UInt8 32)) (a0:List (List UInt8)):Option (Vector UInt8 32):=
 sel (decide ((((List.length a0):Nat):Int)=0)) (
  (b37 []).bind fun r1=>
  some r1) (
  sel (decide ((((List.length a0):Nat):Int)=1)) (
   chk (decide ((0:Int)<=0/\0 < (((List.length a0):Nat):Int))) <|
   (a7L (List.getD a0 0 [])).bind fun r2=>
   some r2) (
   (a5A (((List.length a0):Nat):Int)).bind fun r3=>
   chk (decide ((0:Int)<=0/\0<=r3/\r3<=(((List.length a0):Nat):Int))) <|
   (rec (List.take (Int.toNat r3) a0)).bind fun r4=>
   chk (decide ((0:Int)<=r3/\r3<=(((List.length a0):Nat):Int)/\(((List.length a0):Nat):Int)<=(((List.length a0):Nat):Int))) <|
   (rec (List.drop (Int.toNat r3) (List.take (Int.toNat (((List.length a0):Nat):Int)) a0))).bind fun r5=>
   (a6C r4 r5).bind fun r6=>
   some r6))
noncomputable def a7M (n:Nat):List (List UInt8)->Option (Vector UInt8 32):=Nat.rec (motive:=fun _=>List (List UInt8)->Option (Vector UInt8 32)) (fun _=>none) (fun _ ih=>a5B ih) n
noncomputable def a4H (v8:List A6) (v9:Int) (v10:Int) (b0:Vector UInt8 32) (l0:List (List UInt8)):Option ((List A6 × Int × Int × Vector UInt8 32 × List (List UInt8)) ⊕ (Vector UInt8 32)):=
 sel (decide (v10 < v9)) (
  chk (decide ((0:Int)<=v10/\v10 < (((List.length v8):Nat):Int))) <|
  (K0 [] (1,(0:Int),(B1 (List.getD v8 (Int.toNat v10) F7).1),[])).bind fun r1=>
  (K0 r1.1 (2,(0:Int),(List.getD v8 (Int.toNat v10) F7).2.2.2.1,[])).bind fun r2=>
  chk (decide (((List.length l0) + 1) * 24<=LIM/\(List.length l0) + 1<=LEN)) <|
  some (.inl (v8,v9,(A5 (v10 + 1)),b0,(l0 ++ [r2.1])))) (
  Option.map .inr (
   (a7M c6g l0).bind fun r3=>
   some r3))
noncomputable def a9A (v8:List A6) (v9:Int) (v10:Int) (b0:Vector UInt8 32) (l0:List (List UInt8)):Option (Vector UInt8 32):=
 I2 (fun v=>a4H v.1 v.2.1 v.2.2.1 v.2.2.2.1 v.2.2.2.2) (v8,v9,v10,b0,l0)
noncomputable def a3X (a0:List A6):Option (Vector UInt8 32):=
 a9A a0 (((List.length a0):Nat):Int) 0 (Vector.replicate 32 (0:UInt8)) []
def C5 (a0:Int) (a1:Int):Option (Int):=
 chk (decide ((0:Int)<=a1)) <|
 chk (decide ((0:Int)<=(A5 (32 - a1)))) <|
 some (bits .or .u32 (a0 / 2 ^ (min (Int.toNat a1) 32)) (T6 (a0 * 2 ^ (min (Int.toNat (A5 (32 - a1))) 32))))
def a2x:Option (Vector Int 64):=
 some (Vector.push (Vector.push (Vector.push (Vector.push (Vector.push (Vector.push (Vector.push (Vector.push (Vector.push (Vector.push (Vector.push (Vector.push (Vector.push (Vector.push (Vector.push (Vector.push (Vector.push (Vector.push (Vector.push (Vector.push (Vector.push (Vector.push (Vector.push (Vector.push (Vector.push (Vector.push (Vector.push (Vector.push (Vector.push (Vector.push (Vector.push (Vector.push (Vector.push (Vector.push (Vector.push (Vector.push (Vector.push (Vector.push (Vector.push (Vector.push (Vector.push (Vector.push (Vector.push (Vector.push (Vector.push (Vector.push (Vector.push (Vector.push (Vector.push (Vector.push (Vector.push (Vector.push (Vector.push (Vector.push (Vector.push (Vector.push (Vector.push (Vector.push (Vector.push (Vector.push (Vector.push (Vector.push (Vector.push (Vector.push #v[] 1116352408) 1899447441) 3049323471) 3921009573) 961987163) 1508970993) 2453635748) 2870763221) 3624381080) 310598401) 607225278) 1426881987) 1925078388) 2162078206) 2614888103) 3248222580) 3835390401) 4022224774) 264347078) 604807628) 770255983) 1249150122) 1555081692) 1996064986) 2554220882) 2821834349) 2952996808) 3210313671) 3336571891) 3584528711) 113926993) 338241895) 666307205) 773529912) 1294757372) 1396182291) 1695183700) 1986661051) 2177026350) 2456956037) 2730485921) 2820302411) 3259730800) 3345764771) 3516065817) 3600352804) 4094571909) 275423344) 430227734) 506948616) 659060556) 883997877) 958139571) 1322822218) 1537002063) 1747873779) 1955562222) 2024104815) 2227730452) 2361852424) 2428436474) 2756734187) 3204031479) 3329325298)
def a26 (v180:Int) (b0:Vector Int 8) (b1:Vector Int 8) (b2:Vector Int 8):Option ((Int × Vector Int 8 × Vector Int 8 × Vector Int 8) ⊕ (Vector Int 8)):=
 sel (decide (v180 < 8)) (
  chk (decide ((0:Int)<=v180/\v180 < 8)) <|
  chk (decide ((Int.toNat v180) < 8)) <|
  chk (decide ((0:Int)<=v180/\v180 < 8)) <|
  chk (decide ((Int.toNat v180) < 8)) <|
  chk (decide ((0:Int)<=v180/\v180 < 8)) <|
  chk (decide ((Int.toNat v180) < 8)) <|
  some (.inl ((A5 (v180 + 1)),(b5m b0 (Int.toNat v180) (T6 ((E8 b0 (Int.toNat v180) (0:Int)) + (E8 b2 (Int.toNat v180) (0:Int))))),b1,b2))) (
  some (.inr b0))
def a2y (v180:Int) (b0:Vector Int 8) (b1:Vector Int 8) (b2:Vector Int 8):Option (Vector Int 8):=
 I2 (fun v=>a26 v.1 v.2.1 v.2.2.1 v.2.2.2) (v180,b0,b1,b2)
def a27 (b0:Vector Int 8) (b1:Vector Int 8) (b2:Vector Int 8):Option (Vector Int 8):=
 a2y 0 b0 b1 b2
def a0T (v12:Int) (b0:Vector Int 8) (b1:Vector Int 8) (b2:Vector Int 64) (b3:Vector Int 64) (b4:Vector Int 8):Option ((Int × Vector Int 8 × Vector Int 8 × Vector Int 64 × Vector Int 64 × Vector Int 8) ⊕ (Vector Int 8)):=
 sel (decide (v12 < 64)) (
  (C5 (E8 b4 4 (0:Int)) 6).bind fun r2=>
  (C5 (E8 b4 4 (0:Int)) 11).bind fun r3=>
  (C5 (E8 b4 4 (0:Int)) 25).bind fun r4=>
  chk (decide ((0:Int)<=v12/\v12 < 64)) <|
  chk (decide ((Int.toNat v12) < 64)) <|
  chk (decide ((0:Int)<=v12/\v12 < 64)) <|
  chk (decide ((Int.toNat v12) < 64)) <|
  (C5 (E8 b4 0 (0:Int)) 2).bind fun r5=>
  (C5 (E8 b4 0 (0:Int)) 13).bind fun r6=>
  (C5 (E8 b4 0 (0:Int)) 22).bind fun r7=>
  some (.inl ((A5 (v12 + 1)),b0,b1,b2,b3,(Vector.push (Vector.push (Vector.push (Vector.push (Vector.push (Vector.push (Vector.push (Vector.push #v[] (T6 ((T6 ((T6 ((T6 ((T6 ((E8 b4 7 (0:Int)) + (bits .xor .u32 (bits .xor .u32 r2 r3) r4))) + (bits .xor .u32 (bits .and .u32 (E8 b4 4 (0:Int)) (E8 b4 5 (0:Int))) (bits .and .u32 (notI .u32 (E8 b4 4 (0:Int))) (E8 b4 6 (0:Int)))))) + (E8 b3 (Int.toNat v12) (0:Int)))) + (E8 b2 (Int.toNat v12) (0:Int)))) + (T6 ((bits .xor .u32 (bits .xor .u32 r5 r6) r7) + (bits .xor .u32 (bits .xor .u32 (bits .and .u32 (E8 b4 0 (0:Int)) (E8 b4 1 (0:Int))) (bits .and .u32 (E8 b4 0 (0:Int)) (E8 b4 2 (0:Int)))) (bits .and .u32 (E8 b4 1 (0:Int)) (E8 b4 2 (0:Int))))))))) (E8 b4 0 (0:Int))) (E8 b4 1 (0:Int))) (E8 b4 2 (0:Int))) (T6 ((E8 b4 3 (0:Int)) + (T6 ((T6 ((T6 ((T6 ((E8 b4 7 (0:Int)) + (bits .xor .u32 (bits .xor .u32 r2 r3) r4))) + (bits .xor .u32 (bits .and .u32 (E8 b4 4 (0:Int)) (E8 b4 5 (0:Int))) (bits .and .u32 (notI .u32 (E8 b4 4 (0:Int))) (E8 b4 6 (0:Int)))))) + (E8 b3 (Int.toNat v12) (0:Int)))) + (E8 b2 (Int.toNat v12) (0:Int))))))) (E8 b4 4 (0:Int))) (E8 b4 5 (0:Int))) (E8 b4 6 (0:Int)))))) (
  Option.map .inr (
   a27 b0 b1 b4))
def a0f (v12:Int) (b0:Vector Int 8) (b1:Vector Int 8) (b2:Vector Int 64) (b3:Vector Int 64) (b4:Vector Int 8):Option (Vector Int 8):=
 I2 (fun v=>a0T v.1 v.2.1 v.2.2.1 v.2.2.2.1 v.2.2.2.2.1 v.2.2.2.2.2) (v12,b0,b1,b2,b3,b4)
def S9 (b0:Vector Int 8) (b1:Vector Int 8) (b2:Vector Int 64):Option (Vector Int 8):=
 (a2x).bind fun r1=>
 a0f 0 b0 b1 b2 r1 b0
def a0U (v7:Int) (b0:Vector Int 8) (b1:Vector Int 8) (b2:Vector Int 64):Option ((Int × Vector Int 8 × Vector Int 8 × Vector Int 64) ⊕ (Vector Int 8)):=
 sel (decide (v7 < 64)) (
  chk (decide ((0:Int)<=(A5 (v7 - 15))/\(A5 (v7 - 15)) < 64)) <|
  chk (decide ((Int.toNat (A5 (v7 - 15))) < 64)) <|
  chk (decide ((0:Int)<=(A5 (v7 - 2))/\(A5 (v7 - 2)) < 64)) <|
  chk (decide ((Int.toNat (A5 (v7 - 2))) < 64)) <|
  (C5 (E8 b2 (Int.toNat (A5 (v7 - 2))) (0:Int)) 17).bind fun r8=>
  (C5 (E8 b2 (Int.toNat (A5 (v7 - 2))) (0:Int)) 19).bind fun r9=>
  chk (decide ((0:Int)<=(A5 (v7 - 7))/\(A5 (v7 - 7)) < 64)) <|
  chk (decide ((Int.toNat (A5 (v7 - 7))) < 64)) <|
  (C5 (E8 b2 (Int.toNat (A5 (v7 - 15))) (0:Int)) 7).bind fun r10=>
  (C5 (E8 b2 (Int.toNat (A5 (v7 - 15))) (0:Int)) 18).bind fun r11=>
  chk (decide ((0:Int)<=(A5 (v7 - 16))/\(A5 (v7 - 16)) < 64)) <|
  chk (decide ((Int.toNat (A5 (v7 - 16))) < 64)) <|
  chk (decide ((0:Int)<=v7/\v7 < 64)) <|
  chk (decide ((Int.toNat v7) < 64)) <|
  some (.inl ((A5 (v7 + 1)),b0,b1,(b5m b2 (Int.toNat v7) (T6 ((T6 ((T6 ((bits .xor .u32 (bits .xor .u32 r8 r9) ((E8 b2 (Int.toNat (A5 (v7 - 2))) (0:Int)) / 2 ^ 10)) + (E8 b2 (Int.toNat (A5 (v7 - 7))) (0:Int)))) + (bits .xor .u32 (bits .xor .u32 r10 r11) ((E8 b2 (Int.toNat (A5 (v7 - 15))) (0:Int)) / 2 ^ 3)))) + (E8 b2 (Int.toNat (A5 (v7 - 16))) (0:Int)))))))) (
  Option.map .inr (
   S9 b0 b1 b2))
def a2z (v7:Int) (b0:Vector Int 8) (b1:Vector Int 8) (b2:Vector Int 64):Option (Vector Int 8):=
 I2 (fun v=>a0U v.1 v.2.1 v.2.2.1 v.2.2.2) (v7,b0,b1,b2)
def a28 (b0:Vector Int 8) (b1:Vector Int 8) (b2:Vector Int 64):Option (Vector Int 8):=
 a2z 16 b0 b1 b2
def a0V (v1:List UInt8) (v6:Int) (b0:Vector Int 8) (b1:Vector Int 8) (b2:Vector Int 64):Option ((List UInt8 × Int × Vector Int 8 × Vector Int 8 × Vector Int 64) ⊕ (Vector Int 8)):=
 sel (decide (v6 < 16)) (
  chk (decide ((0:Int)<=(A5 (4 * v6))/\(A5 (4 * v6)) < (((List.length v1):Nat):Int))) <|
  chk (decide ((0:Int)<=(A5 ((A5 (4 * v6)) + 1))/\(A5 ((A5 (4 * v6)) + 1)) < (((List.length v1):Nat):Int))) <|
  chk (decide ((0:Int)<=(A5 ((A5 (4 * v6)) + 2))/\(A5 ((A5 (4 * v6)) + 2)) < (((List.length v1):Nat):Int))) <|
  chk (decide ((0:Int)<=(A5 ((A5 (4 * v6)) + 3))/\(A5 ((A5 (4 * v6)) + 3)) < (((List.length v1):Nat):Int))) <|
  chk (decide ((0:Int)<=v6/\v6 < 64)) <|
  chk (decide ((Int.toNat v6) < 64)) <|
  some (.inl (v1,(A5 (v6 + 1)),b0,b1,(b5m b2 (Int.toNat v6) (bits .or .u32 (bits .or .u32 (bits .or .u32 (T6 ((T6 ((UInt8.toNat (List.getD v1 (Int.toNat (A5 (4 * v6))) (0:UInt8)):Nat):Int)) * 2 ^ 24)) (T6 ((T6 ((UInt8.toNat (List.getD v1 (Int.toNat (A5 ((A5 (4 * v6)) + 1))) (0:UInt8)):Nat):Int)) * 2 ^ 16))) (T6 ((T6 ((UInt8.toNat (List.getD v1 (Int.toNat (A5 ((A5 (4 * v6)) + 2))) (0:UInt8)):Nat):Int)) * 2 ^ 8))) (T6 ((UInt8.toNat (List.getD v1 (Int.toNat (A5 ((A5 (4 * v6)) + 3))) (0:UInt8)):Nat):Int))))))) (
  Option.map .inr (
   a28 b0 b1 b2))
def a2A (v1:List UInt8) (v6:Int) (b0:Vector Int 8) (b1:Vector Int 8) (b2:Vector Int 64):Option (Vector Int 8):=
 I2 (fun v=>a0V v.1 v.2.1 v.2.2.1 v.2.2.2.1 v.2.2.2.2) (v1,v6,b0,b1,b2)
def a0A (a0:Vector Int 8) (a1:List UInt8):Option (Vector Int 8):=
 a2A a1 0 a0 (Vector.replicate 8 (0:Int)) (Vector.replicate 64 (0:Int))
def a4e (v52:Int) (b0:Vector UInt8 32) (b1:Vector Int 8) (b2:Vector UInt8 32):Option ((Int × Vector UInt8 32 × Vector Int 8 × Vector UInt8 32) ⊕ (Vector UInt8 32)):=
 sel (decide (v52 < 32)) (
  chk (decide ((0:Int)<=(A5 (Int.tdiv v52 4))/\(A5 (Int.tdiv v52 4)) < 8)) <|
  chk (decide ((Int.toNat (A5 (Int.tdiv v52 4))) < 8)) <|
  chk (decide ((0:Int)<=(A5 (24 - (A5 ((Int.tmod v52 4) * 8)))))) <|
  chk (decide ((0:Int)<=v52/\v52 < 32)) <|
  chk (decide ((Int.toNat v52) < 32)) <|
  chk (decide ((0:Int)<=(wu8 ((E8 b1 (Int.toNat (A5 (Int.tdiv v52 4))) (0:Int)) / 2 ^ (min (Int.toNat (A5 (24 - (A5 ((Int.tmod v52 4) * 8))))) 32)))/\(wu8 ((E8 b1 (Int.toNat (A5 (Int.tdiv v52 4))) (0:Int)) / 2 ^ (min (Int.toNat (A5 (24 - (A5 ((Int.tmod v52 4) * 8))))) 32))) < 256)) <|
  some (.inl ((A5 (v52 + 1)),b0,b1,(b5m b2 (Int.toNat v52) (UInt8.ofNat (Int.toNat (wu8 ((E8 b1 (Int.toNat (A5 (Int.tdiv v52 4))) (0:Int)) / 2 ^ (min (Int.toNat (A5 (24 - (A5 ((Int.tmod v52 4) * 8))))) 32))))))))) (
  some (.inr b2))
def a6N (v52:Int) (b0:Vector UInt8 32) (b1:Vector Int 8) (b2:Vector UInt8 32):Option (Vector UInt8 32):=
 I2 (fun v=>a4e v.1 v.2.1 v.2.2.1 v.2.2.2) (v52,b0,b1,b2)
def Y7 (b0:Vector UInt8 32) (b1:Vector Int 8):Option (Vector UInt8 32):=
 a6N 0 b0 b1 (Vector.replicate 32 (0:UInt8))
def a4f (v7:Int) (b0:Vector UInt8 32) (b1:Vector Int 8) (l0:List UInt8):Option ((Int × Vector UInt8 32 × Vector Int 8 × List UInt8) ⊕ (Vector UInt8 32)):=
 sel (decide (v7 < (((List.length l0):Nat):Int))) (
  chk (decide ((0:Int)<=v7/\v7<=(A5 (v7 + 64))/\(A5 (v7 + 64))<=(((List.length l0):Nat):Int))) <|
  (a0A b1 (List.drop (Int.toNat v7) (List.take (Int.toNat (A5 (v7 + 64))) l0))).bind fun r1=>
  some (.inl ((A5 (v7 + 64)),b0,r1,l0))) (
  Option.map .inr (
   Y7 b0 b1))
def a3x (v7:Int) (b0:Vector UInt8 32) (b1:Vector Int 8) (l0:List UInt8):Option (Vector UInt8 32):=
 I2 (fun v=>a4f v.1 v.2.1 v.2.2.1 v.2.2.2) (v7,b0,b1,l0)
def a1O (b0:Vector UInt8 32) (l0:List UInt8):Option (Vector UInt8 32):=
 a3x 0 b0 (Vector.push (Vector.push (Vector.push (Vector.push (Vector.push (Vector.push (Vector.push (Vector.push #v[] 1779033703) 3144134277) 1013904242) 2773480762) 1359893119) 2600822924) 528734635) 1541459225) l0
def a4g (v4:Int) (v5:Int) (b0:Vector UInt8 32) (l0:List UInt8):Option ((Int × Int × Vector UInt8 32 × List UInt8) ⊕ (Vector UInt8 32)):=
 sel (decide (0<=v5)) (
  chk (decide ((0:Int)<=(A5 (8 * v5)))) <|
  chk (decide ((0:Int)<=(wu8 (v4 / 2 ^ (min (Int.toNat (A5 (8 * v5))) 64)))/\(wu8 (v4 / 2 ^ (min (Int.toNat (A5 (8 * v5))) 64))) < 256)) <|
  chk (decide (((List.length l0) + 1) * 1<=LIM/\(List.length l0) + 1<=LEN)) <|
  some (.inl (v4,(A5 (v5 - 1)),b0,(l0 ++ [(UInt8.ofNat (Int.toNat (wu8 (v4 / 2 ^ (min (Int.toNat (A5 (8 * v5))) 64)))))])))) (
  Option.map .inr (
   a1O b0 l0))
def a3y (v4:Int) (v5:Int) (b0:Vector UInt8 32) (l0:List UInt8):Option (Vector UInt8 32):=
 I2 (fun v=>a4g v.1 v.2.1 v.2.2.1 v.2.2.2) (v4,v5,b0,l0)
def a1P (v0:List UInt8) (b0:Vector UInt8 32) (l0:List UInt8):Option (Vector UInt8 32):=
 a3y (B1 ((B1 (((List.length v0):Nat):Int)) * 8)) 7 b0 l0
def a4h (v0:List UInt8) (b0:Vector UInt8 32) (l0:List UInt8):Option ((List UInt8 × Vector UInt8 32 × List UInt8) ⊕ (Vector UInt8 32)):=
 sel (!decide ((Int.tmod (((List.length l0):Nat):Int) 64)=56)) (
  chk (decide (((List.length l0) + 1) * 1<=LIM/\(List.length l0) + 1<=LEN)) <|
  some (.inl (v0,b0,(l0 ++ [(0:UInt8)])))) (
  Option.map .inr (
   a1P v0 b0 l0))
def a3z (v0:List UInt8) (b0:Vector UInt8 32) (l0:List UInt8):Option (Vector UInt8 32):=
 I2 (fun v=>a4h v.1 v.2.1 v.2.2) (v0,b0,l0)
def a0l (a0:List UInt8):Option (Vector UInt8 32):=
 chk (decide ((0 + (List.length a0)) * 1<=LIM/\0 + (List.length a0)<=LEN)) <|
 chk (decide (((List.length a0) + 1) * 1<=LIM/\(List.length a0) + 1<=LEN)) <|
 a3z a0 (Vector.replicate 32 (0:UInt8)) (a0 ++ [(128:UInt8)])
def a3f (a0:List UInt8):Option (Vector UInt8 32):=
 chk (decide ((1 + (List.length a0)) * 1<=LIM/\1 + (List.length a0)<=LEN)) <|
 (a0l ([(0:UInt8)] ++ a0)).bind fun r1=>
 some r1
def a3A (v0:Int) (v3:Int):Option ((Int × Int) ⊕ (Int)):=
 sel (decide (v3 < (A5 (v0 - v3)))) (
  some (.inl (v0,(A5 (v3 * 2))))) (
  some (.inr v3))
def a50 (v0:Int) (v3:Int):Option (Int):=
 I2 (fun v=>a3A v.1 v.2) (v0,v3)
def W4 (a0:Int):Option (Int):=
 a50 a0 1
def a2B (a0:Vector UInt8 32) (a1:Vector UInt8 32):Option (Vector UInt8 32):=
 chk (decide ((1 + (List.length (Vector.toList a0))) * 1<=LIM/\1 + (List.length (Vector.toList a0))<=LEN)) <|
 chk (decide (((List.length ([(1:UInt8)] ++ (Vector.toList a0))) + (List.length (Vector.toList a1))) * 1<=LIM/\(List.length ([(1:UInt8)] ++ (Vector.toList a0))) + (List.length (Vector.toList a1))<=LEN)) <|
 (a0l (([(1:UInt8)] ++ (Vector.toList a0)) ++ (Vector.toList a1))).bind fun r1=>
 some r1
noncomputable def a2C (rec:List (List UInt8)->Option (Vector UInt8 32)) (a0:List (List UInt8)):Option (Vector UInt8 32):=
 sel (decide ((((List.length a0):Nat):Int)=0)) (
  (a0l []).bind fun r1=>
  some r1) (
  sel (decide ((((List.length a0):Nat):Int)=1)) (
   chk (decide ((0:Int)<=0/\0 < (((List.length a0):Nat):Int))) <|
   (a3f (List.getD a0 0 [])).bind fun r2=>
   some r2) (
   (W4 (((List.length a0):Nat):Int)).bind fun r3=>
   chk (decide ((0:Int)<=0/\0<=r3/\r3<=(((List.length a0):Nat):Int))) <|
   (rec (List.take (Int.toNat r3) a0)).bind fun r4=>
   chk (decide ((0:Int)<=r3/\r3<=(((List.length a0):Nat):Int)/\(((List.length a0):Nat):Int)<=(((List.length a0):Nat):Int))) <|
   (rec (List.drop (Int.toNat r3) (List.take (Int.toNat (((List.length a0):Nat):Int)) a0))).bind fun r5=>
   (a2B r4 r5).bind fun r6=>
   some r6))
noncomputable def a3g (n:Nat):List (List UInt8)->Option (Vector UInt8 32):=Nat.rec (motive:=fun _=>List (List UInt8)->Option (Vector UInt8 32)) (fun _=>none) (fun _ ih=>a2C ih) n
noncomputable def W5 (v6:List A6) (v7:Int) (v8:Int) (b0:Vector UInt8 32) (l0:List (List UInt8)):Option ((List A6 × Int × Int × Vector UInt8 32 × List (List UInt8)) ⊕ (Vector UInt8 32)):=
 sel (decide (v8 < v7)) (
  chk (decide ((0:Int)<=v8/\v8 < (((List.length v6):Nat):Int))) <|
  (D9 [(1,(0:Int),(B1 (List.getD v6 (Int.toNat v8) F7).1),[]),(2,(0:Int),(List.getD v6 (Int.toNat v8) F7).2.2.2.1,[])]).bind fun r1=>
  chk (decide (((List.length l0) + 1) * 24<=LIM/\(List.length l0) + 1<=LEN)) <|
  some (.inl (v6,v7,(A5 (v8 + 1)),b0,(l0 ++ [r1])))) (
  Option.map .inr (
   (a3g c6g l0).bind fun r2=>
   some r2))
noncomputable def a4x (v6:List A6) (v7:Int) (v8:Int) (b0:Vector UInt8 32) (l0:List (List UInt8)):Option (Vector UInt8 32):=
 I2 (fun v=>W5 v.1 v.2.1 v.2.2.1 v.2.2.2.1 v.2.2.2.2) (v6,v7,v8,b0,l0)
noncomputable def P1 (a0:List A6):Option (Vector UInt8 32):=
 a4x a0 (((List.length a0):Nat):Int) 0 (Vector.replicate 32 (0:UInt8)) []
noncomputable def D2:Option (Bool):=
 (J0 (([97,110,110]:List UInt8),(0:Int),300,(0:Int),[],[(([97,110,110]:List UInt8),5)])).bind fun r1=>
 (a5e ([(([97,110,110]:List UInt8),1000,(0:Int))],(0:Int)) 0 [r1.1,r1.1]).bind fun r2=>
 (a3V ([(([97,110,110]:List UInt8),1000,(0:Int))],(0:Int)) 0 [r1.1,r1.1]).bind fun r3=>
 sel (decide ((((List.length r2.2):Nat):Int)=2)) (
  chk (decide ((0:Int)<=0/\0 < (((List.length r2.2):Nat):Int))) <|
  chk (decide (0 < (List.length r2.2))) <|
  sel (decide ((List.getD r2.2 0 F7).1=0)) (
   chk (decide ((0:Int)<=1/\1 < (((List.length r2.2):Nat):Int))) <|
   chk (decide (1 < (List.length r2.2))) <|
   sel (decide ((List.getD r2.2 1 F7).1=14)) (
    sel (decide (r3.2.1=1)) (
     sel (decide (r3.2.2=14)) (
      sel (decide ((((List.length r2.1.1):Nat):Int)=1)) (
       chk (decide ((0:Int)<=0/\0 < (((List.length r2.1.1):Nat):Int))) <|
       sel (decide ((List.getD r2.1.1 0 o9).2.2=1)) (
        (a3X []).bind fun r4=>
        (P1 []).bind fun r5=>
        some (U.beq (.arr 32 .byte) r4 r5)) (
        some false)) (
       some false)) (
      some false)) (
     some false)) (
    some false)) (
   some false)) (
  some false)
def a2D (a0:o6) (a1:Int) (a2:List UInt8):Option (o6):=
 (M7 a0 a1 a2).bind fun r1=>
 some r1.1
def U8 (v9:Int) (v10:List UInt8) (b0:A0) (b1:L1) (b2:o6) (l0:List (List UInt8)):Option ((Int × A0 × L1 × o6 × List (List UInt8)) ⊕ (A0 × List (List UInt8))):=
 chk (decide (((List.length l0) + 1) * 24<=LIM/\(List.length l0) + 1<=LEN)) <|
 (a2D b2 b1.2.2.2.2 v10).bind fun r3=>
 some (.inl ((A5 (v9 - 1)),b0,b1,r3,(l0 ++ [v10])))
def U9 (v9:Int) (v10:List UInt8) (v33:Bool) (b0:A0) (b1:L1) (b2:o6) (l0:List (List UInt8)):Option ((Int × A0 × L1 × o6 × List (List UInt8)) ⊕ (A0 × List (List UInt8))):=
 sel v33 (
  (A8 b0 (((List.length l0):Nat):Int)).bind fun r4=>
  chk (decide ((0:Int)<=r4.2/\r4.2 < (((List.length l0):Nat):Int))) <|
  chk (decide ((Int.toNat r4.2) < (List.length l0))) <|
  U8 v9 (List.getD l0 (Int.toNat r4.2) []) r4.1 b1 b2 l0) (
  U8 v9 v10 b0 b1 b2 l0)
def a3B (v9:Int) (b0:A0) (b1:L1) (b2:o6) (l0:List (List UInt8)):Option ((Int × A0 × L1 × o6 × List (List UInt8)) ⊕ (A0 × List (List UInt8))):=
 sel (decide (0 < v9)) (
  (T2 b0 b2 b1.2.2.2.2).bind fun r2=>
  sel (decide (0 < (((List.length l0):Nat):Int))) (
   (A8 r2.1 9).bind fun r5=>
   U9 v9 r2.2 (decide (r5.2=0)) r5.1 b1 b2 l0) (
   U9 v9 r2.2 false r2.1 b1 b2 l0)) (
  some (.inr (b0,l0)))
def a51 (v9:Int) (b0:A0) (b1:L1) (b2:o6) (l0:List (List UInt8)):Option (A0 × List (List UInt8)):=
 I2 (fun v=>a3B v.1 v.2.1 v.2.2.1 v.2.2.2.1 v.2.2.2.2) (v9,b0,b1,b2,l0)
def a3h (a0:A0) (a1:L1) (a2:Int):Option (A0 × List (List UInt8)):=
 (A8 a0 (A5 (a2 + 1))).bind fun r1=>
 a51 r1.2 r1.1 a1 a1.1 []
def O5 (a0:List Int):Option (o6 × Int × List (List UInt8)):=
 (a3c a0).bind fun r1=>
 (a16 r1).bind fun r2=>
 (a3h r2.1 r2.2 6).bind fun r3=>
 some (r2.2.1,r2.2.2.2.2.2,r3.2)
def a3C (b0:o6) (_b1:o6) (l0:List A6):Option (o6 × List A6):=
 some (b0,l0)
def a1i (v1:Int) (v13:List (List UInt8)) (v14:Int) (v15:Int) (b0:o6) (b1:o6) (l0:List A6):Option ((Int × List (List UInt8) × Int × Int × o6 × o6 × List A6) ⊕ (o6 × List A6)):=
 sel (decide (v15 < v14)) (
  chk (decide ((0:Int)<=v15/\v15 < (((List.length v13):Nat):Int))) <|
  (M7 b0 v1 (List.getD v13 (Int.toNat v15) [])).bind fun r1=>
  chk (decide (((List.length l0) + 1) * 48<=LIM/\(List.length l0) + 1<=LEN)) <|
  some (.inl (v1,v13,v14,(A5 (v15 + 1)),r1.1,b1,(l0 ++ ([r1.2]:List A6))))) (
  Option.map .inr (
   a3C b0 b1 l0))
def a52 (v1:Int) (v13:List (List UInt8)) (v14:Int) (v15:Int) (b0:o6) (b1:o6) (l0:List A6):Option (o6 × List A6):=
 I2 (fun v=>a1i v.1 v.2.1 v.2.2.1 v.2.2.2.1 v.2.2.2.2.1 v.2.2.2.2.2.1 v.2.2.2.2.2.2) (v1,v13,v14,v15,b0,b1,l0)
def a1j (a0:o6) (a1:Int) (a2:List (List UInt8)):Option (o6 × List A6):=
 a52 a1 a2 (((List.length a2):Nat):Int) 0 a0 ([],(0:Int)) []
def N9 (v0:List A6) (v1:List A6) (v12:Int) (v13:Int):Option ((List A6 × List A6 × Int × Int) ⊕ (Bool)):=
 sel (decide (v13 < v12)) (
  chk (decide ((0:Int)<=v13/\v13 < (((List.length v0):Nat):Int))) <|
  chk (decide ((0:Int)<=v13/\v13 < (((List.length v1):Nat):Int))) <|
  sel (!(U.beq D3 (List.getD v0 (Int.toNat v13) F7) (List.getD v1 (Int.toNat v13) F7))) (
   some (.inr false)) (
   some (.inl (v0,v1,v12,(A5 (v13 + 1)))))) (
  some (.inr true))
def a2k (v0:List A6) (v1:List A6) (v12:Int) (v13:Int):Option (Bool):=
 I2 (fun v=>N9 v.1 v.2.1 v.2.2.1 v.2.2.2) (v0,v1,v12,v13)
def N1 (a0:List A6) (a1:List A6):Option (Bool):=
 sel (!decide ((((List.length a0):Nat):Int)=(((List.length a1):Nat):Int))) (
  some false) (
  a2k a0 a1 (((List.length a0):Nat):Int) 0)
noncomputable def U1 (v2:Int) (v8:Int) (v11:List (List UInt8)) (v40:Int) (v41:Int) (v48:Int) (v49:Int) (b0:o6) (l0:List (List (List UInt8))) (l1:List Int):Option ((Int × Int × List (List UInt8) × Int × Int × Int × Int × o6 × List (List (List UInt8)) × List Int) ⊕ ((Int × Int × Int × Int × o6 × List (List (List UInt8))) ⊕ (Bool))):=
 sel (decide (v49 < v48)) (
  chk (decide ((0:Int)<=v49/\v49 < (((List.length l1):Nat):Int))) <|
  chk (decide ((Int.toNat v49) < (List.length l1))) <|
  (a5e b0 (List.getD l1 (Int.toNat v49) (0:Int)) v11).bind fun r6=>
  (a1j b0 (List.getD l1 (Int.toNat v49) (0:Int)) v11).bind fun r7=>
  (D4 r6.1 r7.1).bind fun r8=>
  sel (!r8) (
   some (.inr (.inr false))) (
   (N1 r6.2 r7.2).bind fun r9=>
   sel (!r9) (
    some (.inr (.inr false))) (
    some (.inl (v2,v8,v11,v40,v41,v48,(A5 (v49 + 1)),b0,l0,l1))))) (
  some (.inr (.inl (v2,v8,v40,(A5 (v41 + 1)),b0,l0))))
noncomputable def a04 (v2:Int) (v8:Int) (v11:List (List UInt8)) (v40:Int) (v41:Int) (v48:Int) (v49:Int) (b0:o6) (l0:List (List (List UInt8))) (l1:List Int):Option ((Int × Int × Int × Int × o6 × List (List (List UInt8))) ⊕ (Bool)):=
 I2 (fun v=>U1 v.1 v.2.1 v.2.2.1 v.2.2.2.1 v.2.2.2.2.1 v.2.2.2.2.2.1 v.2.2.2.2.2.2.1 v.2.2.2.2.2.2.2.1 v.2.2.2.2.2.2.2.2.1 v.2.2.2.2.2.2.2.2.2) (v2,v8,v11,v40,v41,v48,v49,b0,l0,l1)
noncomputable def U2 (v2:Int) (v8:Int) (v40:Int) (v41:Int) (b0:o6) (l0:List (List (List UInt8))):Option ((Int × Int × Int × Int × o6 × List (List (List UInt8))) ⊕ (Bool)):=
 sel (decide (v41 < v40)) (
  chk (decide ((0:Int)<=v41/\v41 < (((List.length l0):Nat):Int))) <|
  chk (decide ((Int.toNat v41) < (List.length l0))) <|
  a04 v2 v8 (List.getD l0 (Int.toNat v41) []) v40 v41 2 0 b0 l0 [v8,v2]) (
  Option.map .inr (
   (D2).bind fun r10=>
   some r10))
noncomputable def a05 (v2:Int) (v8:Int) (v40:Int) (v41:Int) (b0:o6) (l0:List (List (List UInt8))):Option (Bool):=
 I2 (fun v=>U2 v.1 v.2.1 v.2.2.1 v.2.2.2.1 v.2.2.2.2.1 v.2.2.2.2.2) (v2,v8,v40,v41,b0,l0)
noncomputable def a0W (a0:List Int) (a1:List (List UInt8)) (a2:Int):Option (Bool):=
 (O4 [a0]).bind fun r1=>
 sel r1 (
  (D2).bind fun r2=>
  some r2) (
  (a0y a1).bind fun r3=>
  sel r3 (
   (D2).bind fun r4=>
   some r4) (
   (O5 a0).bind fun r5=>
   chk (decide ((0 + (List.length r5.2.2)) * 24<=LIM/\0 + (List.length r5.2.2)<=LEN)) <|
   chk (decide (((List.length r5.2.2) + (List.length a1)) * 24<=LIM/\(List.length r5.2.2) + (List.length a1)<=LEN)) <|
   a05 a2 r5.2.1 3 0 r5.1 [a1,r5.2.2,(r5.2.2 ++ a1)]))
def a19 (b0:o6) (_b1:o6):Option (o6 × Int × Int):=
 some (b0,0,0)
def W6 (v1:Int) (v13:List (List UInt8)) (v14:Int) (v15:Int) (b0:o6) (b1:o6):Option ((Int × List (List UInt8) × Int × Int × o6 × o6) ⊕ (o6 × Int × Int)):=
 sel (decide (v15 < v14)) (
  chk (decide ((0:Int)<=v15/\v15 < (((List.length v13):Nat):Int))) <|
  (M7 b0 v1 (List.getD v13 (Int.toNat v15) [])).bind fun r1=>
  sel (!decide (r1.2.1=0)) (
   some (.inr (([],(0:Int)),v15,r1.2.1))) (
   some (.inl (v1,v13,v14,(A5 (v15 + 1)),r1.1,b1)))) (
  Option.map .inr (
   a19 b0 b1))
def a4y (v1:Int) (v13:List (List UInt8)) (v14:Int) (v15:Int) (b0:o6) (b1:o6):Option (o6 × Int × Int):=
 I2 (fun v=>W6 v.1 v.2.1 v.2.2.1 v.2.2.2.1 v.2.2.2.2.1 v.2.2.2.2.2) (v1,v13,v14,v15,b0,b1)
def a1k (a0:o6) (a1:Int) (a2:List (List UInt8)):Option (o6 × Int × Int):=
 a4y a1 a2 (((List.length a2):Nat):Int) 0 a0 ([],(0:Int))
noncomputable def P7 (v8:Int) (v42:Int) (v43:Int) (b0:o6) (l0:List (List (List UInt8))):Option ((Int × Int × Int × o6 × List (List (List UInt8))) ⊕ (Bool)):=
 sel (decide (v43 < v42)) (
  chk (decide ((0:Int)<=v43/\v43 < (((List.length l0):Nat):Int))) <|
  chk (decide ((Int.toNat v43) < (List.length l0))) <|
  (a3V b0 v8 (List.getD l0 (Int.toNat v43) [])).bind fun r7=>
  (a1k b0 v8 (List.getD l0 (Int.toNat v43) [])).bind fun r8=>
  (D4 r7.1 r8.1).bind fun r9=>
  sel (!r9) (
   some (.inr false)) (
   sel (!decide (r7.2.1=r8.2.1)) (
    some (.inr false)) (
    sel (!decide (r7.2.2=r8.2.2)) (
     some (.inr false)) (
     some (.inl (v8,v42,(A5 (v43 + 1)),b0,l0)))))) (
  Option.map .inr (
   (D2).bind fun r10=>
   some r10))
noncomputable def X5 (v8:Int) (v42:Int) (v43:Int) (b0:o6) (l0:List (List (List UInt8))):Option (Bool):=
 I2 (fun v=>P7 v.1 v.2.1 v.2.2.1 v.2.2.2.1 v.2.2.2.2) (v8,v42,v43,b0,l0)
noncomputable def U3 (a0:List Int) (a1:List (List UInt8)) (a2:Int):Option (Bool):=
 (O4 [a0]).bind fun r1=>
 sel r1 (
  (D2).bind fun r2=>
  some r2) (
  (a0y a1).bind fun r3=>
  sel r3 (
   (D2).bind fun r4=>
   some r4) (
   (O5 a0).bind fun r5=>
   (H3 a2 (A5 ((((List.length r5.2.2):Nat):Int) + 1))).bind fun r6=>
   chk (decide ((0:Int)<=0/\0<=r6/\r6<=(((List.length r5.2.2):Nat):Int))) <|
   X5 r5.2.1 3 0 r5.1 [a1,r5.2.2,(List.take (Int.toNat r6) r5.2.2)]))
noncomputable def a0B (v17:Int) (b0:o6) (b1:o6):Option (Bool):=
 sel (!decide (v17=0)) (
  (D2).bind fun r11=>
  some r11) (
  (D4 b0 b1).bind fun r12=>
  sel r12 (
   (D2).bind fun r13=>
   some r13) (
   some false))
noncomputable def Q5 (v16:Int) (v17:Int) (v90:Int) (v91:Int) (b0:o6) (b1:o6) (l0:List A6):Option ((Int × Int × Int × Int × o6 × o6 × List A6) ⊕ (Bool)):=
 sel (decide (v91 < v90)) (
  chk (decide ((0:Int)<=v91/\v91 < (((List.length l0):Nat):Int))) <|
  chk (decide ((Int.toNat v91) < (List.length l0))) <|
  sel (decide (v17=0)) (
   sel (!decide ((List.getD l0 (Int.toNat v91) F7).1=0)) (
    some (.inr false)) (
    sel (!decide (v17=0)) (
     sel (decide (v91 < v16)) (
      sel (!decide ((List.getD l0 (Int.toNat v91) F7).1=0)) (
       some (.inr false)) (
       sel (decide (v91=v16)) (
        sel (!decide ((List.getD l0 (Int.toNat v91) F7).1=v17)) (
         some (.inr false)) (
         some (.inl (v16,v17,v90,(A5 (v91 + 1)),b0,b1,l0)))) (
        some (.inl (v16,v17,v90,(A5 (v91 + 1)),b0,b1,l0))))) (
      sel (decide (v91=v16)) (
       sel (!decide ((List.getD l0 (Int.toNat v91) F7).1=v17)) (
        some (.inr false)) (
        some (.inl (v16,v17,v90,(A5 (v91 + 1)),b0,b1,l0)))) (
       some (.inl (v16,v17,v90,(A5 (v91 + 1)),b0,b1,l0))))) (
     some (.inl (v16,v17,v90,(A5 (v91 + 1)),b0,b1,l0))))) (
   sel (!decide (v17=0)) (
    sel (decide (v91 < v16)) (
     sel (!decide ((List.getD l0 (Int.toNat v91) F7).1=0)) (
      some (.inr false)) (
      sel (decide (v91=v16)) (
       sel (!decide ((List.getD l0 (Int.toNat v91) F7).1=v17)) (
        some (.inr false)) (
        some (.inl (v16,v17,v90,(A5 (v91 + 1)),b0,b1,l0)))) (
       some (.inl (v16,v17,v90,(A5 (v91 + 1)),b0,b1,l0))))) (
     sel (decide (v91=v16)) (
      sel (!decide ((List.getD l0 (Int.toNat v91) F7).1=v17)) (
       some (.inr false)) (
       some (.inl (v16,v17,v90,(A5 (v91 + 1)),b0,b1,l0)))) (
      some (.inl (v16,v17,v90,(A5 (v91 + 1)),b0,b1,l0))))) (
    some (.inl (v16,v17,v90,(A5 (v91 + 1)),b0,b1,l0))))) (
  Option.map .inr (
   a0B v17 b0 b1))
noncomputable def a0g (v16:Int) (v17:Int) (v90:Int) (v91:Int) (b0:o6) (b1:o6) (l0:List A6):Option (Bool):=
 I2 (fun v=>Q5 v.1 v.2.1 v.2.2.1 v.2.2.2.1 v.2.2.2.2.1 v.2.2.2.2.2.1 v.2.2.2.2.2.2) (v16,v17,v90,v91,b0,b1,l0)
noncomputable def W7 (a0:List Int) (a1:Int):Option (Bool):=
 (O4 [a0]).bind fun r1=>
 sel r1 (
  (D2).bind fun r2=>
  some r2) (
  (O5 a0).bind fun r3=>
  (H3 a1 (A5 ((((List.length r3.2.2):Nat):Int) + 1))).bind fun r4=>
  (a5e r3.1 r3.2.1 r3.2.2).bind fun r5=>
  chk (decide ((0:Int)<=0/\0<=r4/\r4<=(((List.length r3.2.2):Nat):Int))) <|
  (a5e r3.1 r3.2.1 (List.take (Int.toNat r4) r3.2.2)).bind fun r6=>
  chk (decide ((0:Int)<=r4/\r4<=(((List.length r3.2.2):Nat):Int)/\(((List.length r3.2.2):Nat):Int)<=(((List.length r3.2.2):Nat):Int))) <|
  (a5e r6.1 r3.2.1 (List.drop (Int.toNat r4) (List.take (Int.toNat (((List.length r3.2.2):Nat):Int)) r3.2.2))).bind fun r7=>
  (a3V r3.1 r3.2.1 r3.2.2).bind fun r8=>
  (D4 r5.1 r7.1).bind fun r9=>
  sel (!r9) (
   some false) (
   chk (decide ((0 + (List.length r6.2)) * 48<=LIM/\0 + (List.length r6.2)<=LEN)) <|
   chk (decide (((List.length r6.2) + (List.length r7.2)) * 48<=LIM/\(List.length r6.2) + (List.length r7.2)<=LEN)) <|
   (N1 r5.2 (r6.2 ++ r7.2)).bind fun r10=>
   sel (!r10) (
    some false) (
    sel (!decide ((((List.length r5.2):Nat):Int)=(((List.length r3.2.2):Nat):Int))) (
     some false) (
     a0g r8.2.1 r8.2.2 (((List.length r5.2):Nat):Int) 0 r5.1 r8.1 r5.2))))
noncomputable def R9 (a0:List A6) (a1:List Int):Option (Bool):=
 (O4 [a1]).bind fun r1=>
 sel r1 (
  (D2).bind fun r2=>
  some r2) (
  sel (decide (40 < (((List.length a0):Nat):Int))) (
   (D2).bind fun r3=>
   some r3) (
   (O5 a1).bind fun r4=>
   (a1j r4.1 r4.2.1 r4.2.2).bind fun r5=>
   (a3X a0).bind fun r6=>
   (P1 a0).bind fun r7=>
   sel (U.beq (.arr 32 .byte) r6 r7) (
    (a3X r5.2).bind fun r8=>
    (P1 r5.2).bind fun r9=>
    sel (U.beq (.arr 32 .byte) r8 r9) (
     (D2).bind fun r10=>
     some r10) (
     some false)) (
    some false)))
end Go.Proofs.YtbipjlehhlkghaaGreatDoor.Am
