/- slices.SortStableFunc at any type and comparison: what the library's text computes. No conditions. -/
import Derived.Test.YtjbgdpjgfjnkbaaGreatDoorQAD
namespace Go.Proofs.YtjbgdpjgfjnkbaaGreatDoor.Am
open Go
noncomputable def Gf {α:Type} (d:α) (cmp:α->α->Option Int) (v1:Int) (v2:Int) (v8:Int) (v9:Int) (l0:List α):Option ((Int × Int × Int × Int × List α) ⊕ ((Int × Int × Int × List α) ⊕ (List α))):=
 sel (decide (v1 < v9)) (
  chk (decide ((0:Int)<=v9/\v9 < (((List.length l0):Nat):Int))) <|
  chk (decide ((Int.toNat v9) < (List.length l0))) <|
  chk (decide ((0:Int)<=(A9 (v9 - 1))/\(A9 (v9 - 1)) < (((List.length l0):Nat):Int))) <|
  chk (decide ((Int.toNat (A9 (v9 - 1))) < (List.length l0))) <|
  (cmp (List.getD l0 (Int.toNat v9) d) (List.getD l0 (Int.toNat (A9 (v9 - 1))) d)).bind λr1=>
  sel (decide (r1 < 0)) (
   chk (decide ((0:Int)<=(A9 (v9 - 1))/\(A9 (v9 - 1)) < (((List.length l0):Nat):Int))) <|
   chk (decide ((Int.toNat (A9 (v9 - 1))) < (List.length l0))) <|
   chk (decide ((0:Int)<=v9/\v9 < (((List.length l0):Nat):Int))) <|
   chk (decide ((Int.toNat v9) < (List.length l0))) <|
   chk (decide ((0:Int)<=v9/\v9 < (((List.length l0):Nat):Int))) <|
   chk (decide ((Int.toNat v9) < (List.length l0))) <|
   chk (decide ((0:Int)<=(A9 (v9 - 1))/\(A9 (v9 - 1)) < (((List.length (List.set l0 (Int.toNat v9) (List.getD l0 (Int.toNat (A9 (v9 - 1))) d))):Nat):Int))) <|
   chk (decide ((Int.toNat (A9 (v9 - 1))) < (List.length (List.set l0 (Int.toNat v9) (List.getD l0 (Int.toNat (A9 (v9 - 1))) d))))) <|
   some (.inl (v1,v2,v8,(A9 (v9 - 1)),(List.set (List.set l0 (Int.toNat v9) (List.getD l0 (Int.toNat (A9 (v9 - 1))) d)) (Int.toNat (A9 (v9 - 1))) (List.getD l0 (Int.toNat v9) d))))) (
   some (.inr (.inl (v1,v2,(A9 (v8 + 1)),l0))))) (
  some (.inr (.inl (v1,v2,(A9 (v8 + 1)),l0))))
noncomputable def Ir {α:Type} (d:α) (cmp:α->α->Option Int) (v1:Int) (v2:Int) (v8:Int) (v9:Int) (l0:List α):Option ((Int × Int × Int × List α) ⊕ (List α)):=
 F8 (λv=>(Gf d cmp) v.1 v.2.1 v.2.2.1 v.2.2.2.1 v.2.2.2.2) (v1,v2,v8,v9,l0)
noncomputable def BY {α:Type} (d:α) (cmp:α->α->Option Int) (v1:Int) (v2:Int) (v8:Int) (l0:List α):Option ((Int × Int × Int × List α) ⊕ (List α)):=
 sel (decide (v8 < v2)) (
  (Ir d cmp) v1 v2 v8 v8 l0) (
  some (.inr l0))
noncomputable def Is {α:Type} (d:α) (cmp:α->α->Option Int) (v1:Int) (v2:Int) (v8:Int) (l0:List α):Option (List α):=
 F8 (λv=>(BY d cmp) v.1 v.2.1 v.2.2.1 v.2.2.2) (v1,v2,v8,l0)
noncomputable def a0d {α:Type} (d:α) (cmp:α->α->Option Int) (a0:List α) (a1:Int) (a2:Int):Option (List α):=
 (Is d cmp) a1 a2 (A9 (a1 + 1)) a0
noncomputable def Gg {α:Type} (d:α) (_cmp:α->α->Option Int) (v1:Int) (v2:Int) (v3:Int) (v10:Int) (l0:List α):Option ((Int × Int × Int × Int × List α) ⊕ (List α)):=
 sel (decide (v10 < v3)) (
  chk (decide ((0:Int)<=(A9 (v2 + v10))/\(A9 (v2 + v10)) < (((List.length l0):Nat):Int))) <|
  chk (decide ((Int.toNat (A9 (v2 + v10))) < (List.length l0))) <|
  chk (decide ((0:Int)<=(A9 (v1 + v10))/\(A9 (v1 + v10)) < (((List.length l0):Nat):Int))) <|
  chk (decide ((Int.toNat (A9 (v1 + v10))) < (List.length l0))) <|
  chk (decide ((0:Int)<=(A9 (v1 + v10))/\(A9 (v1 + v10)) < (((List.length l0):Nat):Int))) <|
  chk (decide ((Int.toNat (A9 (v1 + v10))) < (List.length l0))) <|
  chk (decide ((0:Int)<=(A9 (v2 + v10))/\(A9 (v2 + v10)) < (((List.length (List.set l0 (Int.toNat (A9 (v1 + v10))) (List.getD l0 (Int.toNat (A9 (v2 + v10))) d))):Nat):Int))) <|
  chk (decide ((Int.toNat (A9 (v2 + v10))) < (List.length (List.set l0 (Int.toNat (A9 (v1 + v10))) (List.getD l0 (Int.toNat (A9 (v2 + v10))) d))))) <|
  some (.inl (v1,v2,v3,(A9 (v10 + 1)),(List.set (List.set l0 (Int.toNat (A9 (v1 + v10))) (List.getD l0 (Int.toNat (A9 (v2 + v10))) d)) (Int.toNat (A9 (v2 + v10))) (List.getD l0 (Int.toNat (A9 (v1 + v10))) d))))) (
  some (.inr l0))
noncomputable def It {α:Type} (d:α) (cmp:α->α->Option Int) (v1:Int) (v2:Int) (v3:Int) (v10:Int) (l0:List α):Option (List α):=
 F8 (λv=>(Gg d cmp) v.1 v.2.1 v.2.2.1 v.2.2.2.1 v.2.2.2.2) (v1,v2,v3,v10,l0)
noncomputable def YY {α:Type} (d:α) (cmp:α->α->Option Int) (a0:List α) (a1:Int) (a2:Int) (a3:Int):Option (List α):=
 (It d cmp) a1 a2 a3 0 a0
noncomputable def NG {α:Type} (d:α) (cmp:α->α->Option Int) (v2:Int) (v10:Int) (l0:List α):Option (List α):=
 ((YY d cmp) l0 (A9 (v2 - v10)) v2 v10).bind λr1=>
 some r1
noncomputable def NH {α:Type} (d:α) (cmp:α->α->Option Int) (v2:Int) (v10:Int) (v11:Int) (l0:List α):Option ((Int × Int × Int × List α) ⊕ (List α)):=
 sel (!decide (v10=v11)) (
  sel (decide (v11 < v10)) (
   ((YY d cmp) l0 (A9 (v2 - v10)) v2 v11).bind λr2=>
   some (.inl (v2,(A9 (v10 - v11)),v11,r2))) (
   ((YY d cmp) l0 (A9 (v2 - v10)) (A9 ((A9 (v2 + v11)) - v10)) v10).bind λr3=>
   some (.inl (v2,v10,(A9 (v11 - v10)),r3)))) (
  Option.map .inr (
   (NG d cmp) v2 v10 l0))
noncomputable def Iu {α:Type} (d:α) (cmp:α->α->Option Int) (v2:Int) (v10:Int) (v11:Int) (l0:List α):Option (List α):=
 F8 (λv=>(NH d cmp) v.1 v.2.1 v.2.2.1 v.2.2.2) (v2,v10,v11,l0)
noncomputable def a1c {α:Type} (d:α) (cmp:α->α->Option Int) (a0:List α) (a1:Int) (a2:Int) (a3:Int):Option (List α):=
 (Iu d cmp) a2 (A9 (a2 - a1)) (A9 (a3 - a2)) a0
noncomputable def yD {α:Type} (_d:α) (_cmp:α->α->Option Int) (rec:List α->Int->Int->Int->Option (List α)) (v3:Int) (v18:Int) (v24:Int) (l0:List α):Option (List α):=
 sel (decide (v18 < v24)) (
  sel (decide (v24 < v3)) (
   (rec l0 v18 v24 v3).bind λr1=>
   some r1) (
   some l0)) (
  some l0)
noncomputable def yE {α:Type} (d:α) (cmp:α->α->Option Int) (rec:List α->Int->Int->Int->Option (List α)) (v1:Int) (v3:Int) (v18:Int) (v20:Int) (v24:Int) (l0:List α):Option (List α):=
 sel (decide (v1 < v20)) (
  sel (decide (v20 < v18)) (
   (rec l0 v1 v20 v18).bind λr2=>
   (yD d cmp) rec v3 v18 v24 r2) (
   (yD d cmp) rec v3 v18 v24 l0)) (
  (yD d cmp) rec v3 v18 v24 l0)
noncomputable def NI {α:Type} (d:α) (cmp:α->α->Option Int) (rec:List α->Int->Int->Int->Option (List α)) (v1:Int) (v2:Int) (v3:Int) (v18:Int) (v19:Int) (v20:Int) (l0:List α):Option (List α):=
 sel (decide (v20 < v2)) (
  sel (decide (v2 < (A9 (v19 - v20)))) (
   ((a1c d cmp) l0 v20 v2 (A9 (v19 - v20))).bind λr3=>
   (yE d cmp) rec v1 v3 v18 v20 (A9 (v19 - v20)) r3) (
   (yE d cmp) rec v1 v3 v18 v20 (A9 (v19 - v20)) l0)) (
  (yE d cmp) rec v1 v3 v18 v20 (A9 (v19 - v20)) l0)
noncomputable def NJ {α:Type} (d:α) (cmp:α->α->Option Int) (rec:List α->Int->Int->Int->Option (List α)) (v1:Int) (v2:Int) (v3:Int) (v18:Int) (v19:Int) (v20:Int) (v21:Int) (v22:Int) (l0:List α):Option ((Int × Int × Int × Int × Int × Int × Int × Int × List α) ⊕ (List α)):=
 sel (decide (v20 < v21)) (
  chk (decide ((0:Int)<=(A9 (v22 - (A9 ((D7 (A9 (v20 + v21))) / 2 ^ 1))))/\(A9 (v22 - (A9 ((D7 (A9 (v20 + v21))) / 2 ^ 1)))) < (((List.length l0):Nat):Int))) <|
  chk (decide ((Int.toNat (A9 (v22 - (A9 ((D7 (A9 (v20 + v21))) / 2 ^ 1))))) < (List.length l0))) <|
  chk (decide ((0:Int)<=(A9 ((D7 (A9 (v20 + v21))) / 2 ^ 1))/\(A9 ((D7 (A9 (v20 + v21))) / 2 ^ 1)) < (((List.length l0):Nat):Int))) <|
  chk (decide ((Int.toNat (A9 ((D7 (A9 (v20 + v21))) / 2 ^ 1))) < (List.length l0))) <|
  (cmp (List.getD l0 (Int.toNat (A9 (v22 - (A9 ((D7 (A9 (v20 + v21))) / 2 ^ 1))))) d) (List.getD l0 (Int.toNat (A9 ((D7 (A9 (v20 + v21))) / 2 ^ 1))) d)).bind λr4=>
  sel (!(decide (r4 < 0))) (
   some (.inl (v1,v2,v3,v18,v19,(A9 ((A9 ((D7 (A9 (v20 + v21))) / 2 ^ 1)) + 1)),v21,v22,l0))) (
   some (.inl (v1,v2,v3,v18,v19,v20,(A9 ((D7 (A9 (v20 + v21))) / 2 ^ 1)),v22,l0)))) (
  Option.map .inr (
   (NI d cmp) rec v1 v2 v3 v18 v19 v20 l0))
noncomputable def Iv {α:Type} (d:α) (cmp:α->α->Option Int) (rec:List α->Int->Int->Int->Option (List α)) (v1:Int) (v2:Int) (v3:Int) (v18:Int) (v19:Int) (v20:Int) (v21:Int) (v22:Int) (l0:List α):Option (List α):=
 F8 (λv=>(NJ d cmp) rec v.1 v.2.1 v.2.2.1 v.2.2.2.1 v.2.2.2.2.1 v.2.2.2.2.2.1 v.2.2.2.2.2.2.1 v.2.2.2.2.2.2.2.1 v.2.2.2.2.2.2.2.2) (v1,v2,v3,v18,v19,v20,v21,v22,l0)
noncomputable def BZ {α:Type} (d:α) (cmp:α->α->Option Int) (rec:List α->Int->Int->Int->Option (List α)) (v1:Int) (v2:Int) (v3:Int) (v18:Int) (v19:Int) (v20:Int) (v21:Int) (l0:List α):Option (List α):=
 (Iv d cmp) rec v1 v2 v3 v18 v19 v20 v21 (A9 (v19 - 1)) l0
noncomputable def NK {α:Type} (d:α) (cmp:α->α->Option Int) (rec:List α->Int->Int->Int->Option (List α)) (v1:Int) (v2:Int) (v3:Int) (l0:List α):Option (List α):=
 sel (decide ((A9 ((D7 (A9 (v1 + v3))) / 2 ^ 1)) < v2)) (
  (BZ d cmp) rec v1 v2 v3 (A9 ((D7 (A9 (v1 + v3))) / 2 ^ 1)) (A9 ((A9 ((D7 (A9 (v1 + v3))) / 2 ^ 1)) + v2)) (A9 ((A9 ((A9 ((D7 (A9 (v1 + v3))) / 2 ^ 1)) + v2)) - v3)) (A9 ((D7 (A9 (v1 + v3))) / 2 ^ 1)) l0) (
  (BZ d cmp) rec v1 v2 v3 (A9 ((D7 (A9 (v1 + v3))) / 2 ^ 1)) (A9 ((A9 ((D7 (A9 (v1 + v3))) / 2 ^ 1)) + v2)) v1 v2 l0)
noncomputable def Gi {α:Type} (d:α) (_cmp:α->α->Option Int) (_rec:List α->Int->Int->Int->Option (List α)) (v14:Int) (v17:Int) (l0:List α):Option ((Int × Int × List α) ⊕ (List α)):=
 sel (decide (v14 < v17)) (
  chk (decide ((0:Int)<=(A9 (v17 - 1))/\(A9 (v17 - 1)) < (((List.length l0):Nat):Int))) <|
  chk (decide ((Int.toNat (A9 (v17 - 1))) < (List.length l0))) <|
  chk (decide ((0:Int)<=v17/\v17 < (((List.length l0):Nat):Int))) <|
  chk (decide ((Int.toNat v17) < (List.length l0))) <|
  chk (decide ((0:Int)<=v17/\v17 < (((List.length l0):Nat):Int))) <|
  chk (decide ((Int.toNat v17) < (List.length l0))) <|
  chk (decide ((0:Int)<=(A9 (v17 - 1))/\(A9 (v17 - 1)) < (((List.length (List.set l0 (Int.toNat v17) (List.getD l0 (Int.toNat (A9 (v17 - 1))) d))):Nat):Int))) <|
  chk (decide ((Int.toNat (A9 (v17 - 1))) < (List.length (List.set l0 (Int.toNat v17) (List.getD l0 (Int.toNat (A9 (v17 - 1))) d))))) <|
  some (.inl (v14,(A9 (v17 - 1)),(List.set (List.set l0 (Int.toNat v17) (List.getD l0 (Int.toNat (A9 (v17 - 1))) d)) (Int.toNat (A9 (v17 - 1))) (List.getD l0 (Int.toNat v17) d))))) (
  some (.inr l0))
noncomputable def Ca {α:Type} (d:α) (cmp:α->α->Option Int) (rec:List α->Int->Int->Int->Option (List α)) (v14:Int) (v17:Int) (l0:List α):Option (List α):=
 F8 (λv=>(Gi d cmp) rec v.1 v.2.1 v.2.2) (v14,v17,l0)
noncomputable def NL {α:Type} (d:α) (cmp:α->α->Option Int) (rec:List α->Int->Int->Int->Option (List α)) (v2:Int) (v14:Int) (l0:List α):Option (List α):=
 (Ca d cmp) rec v14 v2 l0
noncomputable def Iw {α:Type} (d:α) (cmp:α->α->Option Int) (rec:List α->Int->Int->Int->Option (List α)) (v2:Int) (v14:Int) (v15:Int) (l0:List α):Option ((Int × Int × Int × List α) ⊕ (List α)):=
 sel (decide (v14 < v15)) (
  chk (decide ((0:Int)<=v2/\v2 < (((List.length l0):Nat):Int))) <|
  chk (decide ((Int.toNat v2) < (List.length l0))) <|
  chk (decide ((0:Int)<=(A9 ((D7 (A9 (v14 + v15))) / 2 ^ 1))/\(A9 ((D7 (A9 (v14 + v15))) / 2 ^ 1)) < (((List.length l0):Nat):Int))) <|
  chk (decide ((Int.toNat (A9 ((D7 (A9 (v14 + v15))) / 2 ^ 1))) < (List.length l0))) <|
  (cmp (List.getD l0 (Int.toNat v2) d) (List.getD l0 (Int.toNat (A9 ((D7 (A9 (v14 + v15))) / 2 ^ 1))) d)).bind λr5=>
  sel (!(decide (r5 < 0))) (
   some (.inl (v2,(A9 ((A9 ((D7 (A9 (v14 + v15))) / 2 ^ 1)) + 1)),v15,l0))) (
   some (.inl (v2,v14,(A9 ((D7 (A9 (v14 + v15))) / 2 ^ 1)),l0)))) (
  Option.map .inr (
   (NL d cmp) rec v2 v14 l0))
noncomputable def yF {α:Type} (d:α) (cmp:α->α->Option Int) (rec:List α->Int->Int->Int->Option (List α)) (v2:Int) (v14:Int) (v15:Int) (l0:List α):Option (List α):=
 F8 (λv=>(Iw d cmp) rec v.1 v.2.1 v.2.2.1 v.2.2.2) (v2,v14,v15,l0)
noncomputable def NM {α:Type} (d:α) (cmp:α->α->Option Int) (rec:List α->Int->Int->Int->Option (List α)) (v1:Int) (v2:Int) (v3:Int) (l0:List α):Option (List α):=
 sel (decide ((A9 (v3 - v2))=1)) (
  (yF d cmp) rec v2 v1 v2 l0) (
  (NK d cmp) rec v1 v2 v3 l0)
noncomputable def Cb {α:Type} (d:α) (_cmp:α->α->Option Int) (_rec:List α->Int->Int->Int->Option (List α)) (v10:Int) (v13:Int) (l0:List α):Option ((Int × Int × List α) ⊕ (List α)):=
 sel (decide (v13 < (A9 (v10 - 1)))) (
  chk (decide ((0:Int)<=(A9 (v13 + 1))/\(A9 (v13 + 1)) < (((List.length l0):Nat):Int))) <|
  chk (decide ((Int.toNat (A9 (v13 + 1))) < (List.length l0))) <|
  chk (decide ((0:Int)<=v13/\v13 < (((List.length l0):Nat):Int))) <|
  chk (decide ((Int.toNat v13) < (List.length l0))) <|
  chk (decide ((0:Int)<=v13/\v13 < (((List.length l0):Nat):Int))) <|
  chk (decide ((Int.toNat v13) < (List.length l0))) <|
  chk (decide ((0:Int)<=(A9 (v13 + 1))/\(A9 (v13 + 1)) < (((List.length (List.set l0 (Int.toNat v13) (List.getD l0 (Int.toNat (A9 (v13 + 1))) d))):Nat):Int))) <|
  chk (decide ((Int.toNat (A9 (v13 + 1))) < (List.length (List.set l0 (Int.toNat v13) (List.getD l0 (Int.toNat (A9 (v13 + 1))) d))))) <|
  some (.inl (v10,(A9 (v13 + 1)),(List.set (List.set l0 (Int.toNat v13) (List.getD l0 (Int.toNat (A9 (v13 + 1))) d)) (Int.toNat (A9 (v13 + 1))) (List.getD l0 (Int.toNat v13) d))))) (
  some (.inr l0))
noncomputable def yG {α:Type} (d:α) (cmp:α->α->Option Int) (rec:List α->Int->Int->Int->Option (List α)) (v10:Int) (v13:Int) (l0:List α):Option (List α):=
 F8 (λv=>(Cb d cmp) rec v.1 v.2.1 v.2.2) (v10,v13,l0)
noncomputable def Ix {α:Type} (d:α) (cmp:α->α->Option Int) (rec:List α->Int->Int->Int->Option (List α)) (v1:Int) (v10:Int) (l0:List α):Option (List α):=
 (yG d cmp) rec v10 v1 l0
noncomputable def Iy {α:Type} (d:α) (cmp:α->α->Option Int) (rec:List α->Int->Int->Int->Option (List α)) (v1:Int) (v10:Int) (v11:Int) (l0:List α):Option ((Int × Int × Int × List α) ⊕ (List α)):=
 sel (decide (v10 < v11)) (
  chk (decide ((0:Int)<=(A9 ((D7 (A9 (v10 + v11))) / 2 ^ 1))/\(A9 ((D7 (A9 (v10 + v11))) / 2 ^ 1)) < (((List.length l0):Nat):Int))) <|
  chk (decide ((Int.toNat (A9 ((D7 (A9 (v10 + v11))) / 2 ^ 1))) < (List.length l0))) <|
  chk (decide ((0:Int)<=v1/\v1 < (((List.length l0):Nat):Int))) <|
  chk (decide ((Int.toNat v1) < (List.length l0))) <|
  (cmp (List.getD l0 (Int.toNat (A9 ((D7 (A9 (v10 + v11))) / 2 ^ 1))) d) (List.getD l0 (Int.toNat v1) d)).bind λr6=>
  sel (decide (r6 < 0)) (
   some (.inl (v1,(A9 ((A9 ((D7 (A9 (v10 + v11))) / 2 ^ 1)) + 1)),v11,l0))) (
   some (.inl (v1,v10,(A9 ((D7 (A9 (v10 + v11))) / 2 ^ 1)),l0)))) (
  Option.map .inr (
   (Ix d cmp) rec v1 v10 l0))
noncomputable def yH {α:Type} (d:α) (cmp:α->α->Option Int) (rec:List α->Int->Int->Int->Option (List α)) (v1:Int) (v10:Int) (v11:Int) (l0:List α):Option (List α):=
 F8 (λv=>(Iy d cmp) rec v.1 v.2.1 v.2.2.1 v.2.2.2) (v1,v10,v11,l0)
noncomputable def yI {α:Type} (d:α) (cmp:α->α->Option Int) (rec:List α->Int->Int->Int->Option (List α)) (a0:List α) (a1:Int) (a2:Int) (a3:Int):Option (List α):=
 sel (decide ((A9 (a2 - a1))=1)) (
  (yH d cmp) rec a1 a2 a3 a0) (
  (NM d cmp) rec a1 a2 a3 a0)
noncomputable def VA {α:Type} (d:α) (cmp:α->α->Option Int) (n:Nat):List α->Int->Int->Int->Option (List α):=Nat.rec (motive:=λ_=>List α->Int->Int->Int->Option (List α)) (λ_ _ _ _=>none) (λ_ ih=>(yI d cmp) ih) n
noncomputable def NN {α:Type} (d:α) (cmp:α->α->Option Int) (v1:Int) (v6:Int) (v7:Int) (l0:List α):Option ((Int × Int × List α) ⊕ (List α)):=
 sel (decide ((A9 (v7 + v6)) < v1)) (
  ((VA d cmp) EH l0 v7 (A9 (v7 + v6)) v1).bind λr2=>
  some (.inl (v1,(A9 (v6 * 2)),r2))) (
  some (.inl (v1,(A9 (v6 * 2)),l0)))
noncomputable def NO {α:Type} (d:α) (cmp:α->α->Option Int) (v1:Int) (v6:Int) (v7:Int) (v8:Int) (l0:List α):Option ((Int × Int × Int × Int × List α) ⊕ ((Int × Int × List α) ⊕ (List α))):=
 sel (decide (v8<=v1)) (
  ((VA d cmp) EH l0 v7 (A9 (v7 + v6)) v8).bind λr3=>
  some (.inl (v1,v6,v8,(A9 (v8 + (A9 (2 * v6)))),r3))) (
  Option.map .inr (
   (NN d cmp) v1 v6 v7 l0))
noncomputable def Cc {α:Type} (d:α) (cmp:α->α->Option Int) (v1:Int) (v6:Int) (v7:Int) (v8:Int) (l0:List α):Option ((Int × Int × List α) ⊕ (List α)):=
 F8 (λv=>(NO d cmp) v.1 v.2.1 v.2.2.1 v.2.2.2.1 v.2.2.2.2) (v1,v6,v7,v8,l0)
noncomputable def NP {α:Type} (d:α) (cmp:α->α->Option Int) (v1:Int) (v6:Int) (l0:List α):Option ((Int × Int × List α) ⊕ (List α)):=
 sel (decide (v6 < v1)) (
  (Cc d cmp) v1 v6 0 (A9 (2 * v6)) l0) (
  some (.inr l0))
noncomputable def Cd {α:Type} (d:α) (cmp:α->α->Option Int) (v1:Int) (v6:Int) (l0:List α):Option (List α):=
 F8 (λv=>(NP d cmp) v.1 v.2.1 v.2.2) (v1,v6,l0)
noncomputable def NQ {α:Type} (d:α) (cmp:α->α->Option Int) (v1:Int) (v6:Int) (v7:Int) (l0:List α):Option (List α):=
 ((a0d d cmp) l0 v7 v1).bind λr1=>
 (Cd d cmp) v1 v6 r1
noncomputable def NR {α:Type} (d:α) (cmp:α->α->Option Int) (v1:Int) (v6:Int) (v7:Int) (v8:Int) (l0:List α):Option ((Int × Int × Int × Int × List α) ⊕ (List α)):=
 sel (decide (v8<=v1)) (
  ((a0d d cmp) l0 v7 v8).bind λr4=>
  some (.inl (v1,v6,v8,(A9 (v8 + v6)),r4))) (
  Option.map .inr (
   (NQ d cmp) v1 v6 v7 l0))
noncomputable def Iz {α:Type} (d:α) (cmp:α->α->Option Int) (v1:Int) (v6:Int) (v7:Int) (v8:Int) (l0:List α):Option (List α):=
 F8 (λv=>(NR d cmp) v.1 v.2.1 v.2.2.1 v.2.2.2.1 v.2.2.2.2) (v1,v6,v7,v8,l0)
noncomputable def a1d {α:Type} (d:α) (cmp:α->α->Option Int) (a0:List α) (a1:Int):Option (List α):=
 (Iz d cmp) a1 20 0 20 a0
noncomputable def NS {α:Type} (d:α) (cmp:α->α->Option Int) (a0:List α):Option (List α):=
 ((a1d d cmp) a0 (((List.length a0):Nat):Int)).bind λr1=>
 some r1
end Go.Proofs.YtjbgdpjgfjnkbaaGreatDoor.Am
