/- slices.SortStableFunc at any type and comparison: what the library's text computes. No conditions. -/
import Derived.Test.YthmfeknfiekcmaaGList
namespace Go.Proofs.Ythmfeknfiekcmaa.Am
open Go

noncomputable def gIns_l2 {α : Type} (d : α) (cmp : α → α → Option Int) (v1 : Int) (v2 : Int) (v8 : Int) (v9 : Int) (l0 : List α) : Option ((Int × Int × Int × Int × List α) ⊕ ((Int × Int × Int × List α) ⊕ (List α))) :=
  sel (decide (v1 < v9)) (
    chk (decide ((0 : Int) ≤ v9 ∧ v9 < (((List.length l0) : Nat) : Int))) <|
    chk (decide ((Int.toNat v9) < (List.length l0))) <|
    chk (decide ((0 : Int) ≤ (wi64 (v9 - 1)) ∧ (wi64 (v9 - 1)) < (((List.length l0) : Nat) : Int))) <|
    chk (decide ((Int.toNat (wi64 (v9 - 1))) < (List.length l0))) <|
    (cmp (List.getD l0 (Int.toNat v9) d) (List.getD l0 (Int.toNat (wi64 (v9 - 1))) d)).bind fun r1 =>
    sel (decide (r1 < 0)) (
      chk (decide ((0 : Int) ≤ (wi64 (v9 - 1)) ∧ (wi64 (v9 - 1)) < (((List.length l0) : Nat) : Int))) <|
      chk (decide ((Int.toNat (wi64 (v9 - 1))) < (List.length l0))) <|
      chk (decide ((0 : Int) ≤ v9 ∧ v9 < (((List.length l0) : Nat) : Int))) <|
      chk (decide ((Int.toNat v9) < (List.length l0))) <|
      chk (decide ((0 : Int) ≤ v9 ∧ v9 < (((List.length l0) : Nat) : Int))) <|
      chk (decide ((Int.toNat v9) < (List.length l0))) <|
      chk (decide ((0 : Int) ≤ (wi64 (v9 - 1)) ∧ (wi64 (v9 - 1)) < (((List.length (List.set l0 (Int.toNat v9) (List.getD l0 (Int.toNat (wi64 (v9 - 1))) d))) : Nat) : Int))) <|
      chk (decide ((Int.toNat (wi64 (v9 - 1))) < (List.length (List.set l0 (Int.toNat v9) (List.getD l0 (Int.toNat (wi64 (v9 - 1))) d))))) <|
      some (.inl (v1, v2, v8, (wi64 (v9 - 1)), (List.set (List.set l0 (Int.toNat v9) (List.getD l0 (Int.toNat (wi64 (v9 - 1))) d)) (Int.toNat (wi64 (v9 - 1))) (List.getD l0 (Int.toNat v9) d))))) (
      some (.inr (.inl (v1, v2, (wi64 (v8 + 1)), l0))))) (
    some (.inr (.inl (v1, v2, (wi64 (v8 + 1)), l0))))
noncomputable def gIns_l2s {α : Type} (d : α) (cmp : α → α → Option Int) (v1 : Int) (v2 : Int) (v8 : Int) (v9 : Int) (l0 : List α) : Option ((Int × Int × Int × List α) ⊕ (List α)) :=
  iterO (fun v => (gIns_l2 d cmp) v.1 v.2.1 v.2.2.1 v.2.2.2.1 v.2.2.2.2) (v1, v2, v8, v9, l0)
noncomputable def gIns_l1 {α : Type} (d : α) (cmp : α → α → Option Int) (v1 : Int) (v2 : Int) (v8 : Int) (l0 : List α) : Option ((Int × Int × Int × List α) ⊕ (List α)) :=
  sel (decide (v8 < v2)) (
    (gIns_l2s d cmp) v1 v2 v8 v8 l0) (
    some (.inr l0))
noncomputable def gIns_l1s {α : Type} (d : α) (cmp : α → α → Option Int) (v1 : Int) (v2 : Int) (v8 : Int) (l0 : List α) : Option (List α) :=
  iterO (fun v => (gIns_l1 d cmp) v.1 v.2.1 v.2.2.1 v.2.2.2) (v1, v2, v8, l0)
noncomputable def gIns {α : Type} (d : α) (cmp : α → α → Option Int) (a0 : List α) (a1 : Int) (a2 : Int) : Option (List α) :=
  (gIns_l1s d cmp) a1 a2 (wi64 (a1 + 1)) a0
noncomputable def gSwp_l1 {α : Type} (d : α) (_cmp : α → α → Option Int) (v1 : Int) (v2 : Int) (v3 : Int) (v10 : Int) (l0 : List α) : Option ((Int × Int × Int × Int × List α) ⊕ (List α)) :=
  sel (decide (v10 < v3)) (
    chk (decide ((0 : Int) ≤ (wi64 (v2 + v10)) ∧ (wi64 (v2 + v10)) < (((List.length l0) : Nat) : Int))) <|
    chk (decide ((Int.toNat (wi64 (v2 + v10))) < (List.length l0))) <|
    chk (decide ((0 : Int) ≤ (wi64 (v1 + v10)) ∧ (wi64 (v1 + v10)) < (((List.length l0) : Nat) : Int))) <|
    chk (decide ((Int.toNat (wi64 (v1 + v10))) < (List.length l0))) <|
    chk (decide ((0 : Int) ≤ (wi64 (v1 + v10)) ∧ (wi64 (v1 + v10)) < (((List.length l0) : Nat) : Int))) <|
    chk (decide ((Int.toNat (wi64 (v1 + v10))) < (List.length l0))) <|
    chk (decide ((0 : Int) ≤ (wi64 (v2 + v10)) ∧ (wi64 (v2 + v10)) < (((List.length (List.set l0 (Int.toNat (wi64 (v1 + v10))) (List.getD l0 (Int.toNat (wi64 (v2 + v10))) d))) : Nat) : Int))) <|
    chk (decide ((Int.toNat (wi64 (v2 + v10))) < (List.length (List.set l0 (Int.toNat (wi64 (v1 + v10))) (List.getD l0 (Int.toNat (wi64 (v2 + v10))) d))))) <|
    some (.inl (v1, v2, v3, (wi64 (v10 + 1)), (List.set (List.set l0 (Int.toNat (wi64 (v1 + v10))) (List.getD l0 (Int.toNat (wi64 (v2 + v10))) d)) (Int.toNat (wi64 (v2 + v10))) (List.getD l0 (Int.toNat (wi64 (v1 + v10))) d))))) (
    some (.inr l0))
noncomputable def gSwp_l1s {α : Type} (d : α) (cmp : α → α → Option Int) (v1 : Int) (v2 : Int) (v3 : Int) (v10 : Int) (l0 : List α) : Option (List α) :=
  iterO (fun v => (gSwp_l1 d cmp) v.1 v.2.1 v.2.2.1 v.2.2.2.1 v.2.2.2.2) (v1, v2, v3, v10, l0)
noncomputable def gSwp {α : Type} (d : α) (cmp : α → α → Option Int) (a0 : List α) (a1 : Int) (a2 : Int) (a3 : Int) : Option (List α) :=
  (gSwp_l1s d cmp) a1 a2 a3 0 a0
noncomputable def gRot_c1 {α : Type} (d : α) (cmp : α → α → Option Int) (v2 : Int) (v10 : Int) (l0 : List α) : Option (List α) :=
  ((gSwp d cmp) l0 (wi64 (v2 - v10)) v2 v10).bind fun r1 =>
  some r1
noncomputable def gRot_l2 {α : Type} (d : α) (cmp : α → α → Option Int) (v2 : Int) (v10 : Int) (v11 : Int) (l0 : List α) : Option ((Int × Int × Int × List α) ⊕ (List α)) :=
  sel (!decide (v10 = v11)) (
    sel (decide (v11 < v10)) (
      ((gSwp d cmp) l0 (wi64 (v2 - v10)) v2 v11).bind fun r2 =>
      some (.inl (v2, (wi64 (v10 - v11)), v11, r2))) (
      ((gSwp d cmp) l0 (wi64 (v2 - v10)) (wi64 ((wi64 (v2 + v11)) - v10)) v10).bind fun r3 =>
      some (.inl (v2, v10, (wi64 (v11 - v10)), r3)))) (
    Option.map .inr (
      (gRot_c1 d cmp) v2 v10 l0))
noncomputable def gRot_l2s {α : Type} (d : α) (cmp : α → α → Option Int) (v2 : Int) (v10 : Int) (v11 : Int) (l0 : List α) : Option (List α) :=
  iterO (fun v => (gRot_l2 d cmp) v.1 v.2.1 v.2.2.1 v.2.2.2) (v2, v10, v11, l0)
noncomputable def gRot {α : Type} (d : α) (cmp : α → α → Option Int) (a0 : List α) (a1 : Int) (a2 : Int) (a3 : Int) : Option (List α) :=
  (gRot_l2s d cmp) a2 (wi64 (a2 - a1)) (wi64 (a3 - a2)) a0
noncomputable def gSym_c6 {α : Type} (_d : α) (_cmp : α → α → Option Int) (rec : List α → Int → Int → Int → Option (List α)) (v3 : Int) (v18 : Int) (v24 : Int) (l0 : List α) : Option (List α) :=
  sel (decide (v18 < v24)) (
    sel (decide (v24 < v3)) (
      (rec l0 v18 v24 v3).bind fun r1 =>
      some r1) (
      some l0)) (
    some l0)
noncomputable def gSym_c5 {α : Type} (d : α) (cmp : α → α → Option Int) (rec : List α → Int → Int → Int → Option (List α)) (v1 : Int) (v3 : Int) (v18 : Int) (v20 : Int) (v24 : Int) (l0 : List α) : Option (List α) :=
  sel (decide (v1 < v20)) (
    sel (decide (v20 < v18)) (
      (rec l0 v1 v20 v18).bind fun r2 =>
      (gSym_c6 d cmp) rec v3 v18 v24 r2) (
      (gSym_c6 d cmp) rec v3 v18 v24 l0)) (
    (gSym_c6 d cmp) rec v3 v18 v24 l0)
noncomputable def gSym_c4 {α : Type} (d : α) (cmp : α → α → Option Int) (rec : List α → Int → Int → Int → Option (List α)) (v1 : Int) (v2 : Int) (v3 : Int) (v18 : Int) (v19 : Int) (v20 : Int) (l0 : List α) : Option (List α) :=
  sel (decide (v20 < v2)) (
    sel (decide (v2 < (wi64 (v19 - v20)))) (
      ((gRot d cmp) l0 v20 v2 (wi64 (v19 - v20))).bind fun r3 =>
      (gSym_c5 d cmp) rec v1 v3 v18 v20 (wi64 (v19 - v20)) r3) (
      (gSym_c5 d cmp) rec v1 v3 v18 v20 (wi64 (v19 - v20)) l0)) (
    (gSym_c5 d cmp) rec v1 v3 v18 v20 (wi64 (v19 - v20)) l0)
noncomputable def gSym_l7 {α : Type} (d : α) (cmp : α → α → Option Int) (rec : List α → Int → Int → Int → Option (List α)) (v1 : Int) (v2 : Int) (v3 : Int) (v18 : Int) (v19 : Int) (v20 : Int) (v21 : Int) (v22 : Int) (l0 : List α) : Option ((Int × Int × Int × Int × Int × Int × Int × Int × List α) ⊕ (List α)) :=
  sel (decide (v20 < v21)) (
    chk (decide ((0 : Int) ≤ (wi64 (v22 - (wi64 ((wu64 (wi64 (v20 + v21))) / 2 ^ 1)))) ∧ (wi64 (v22 - (wi64 ((wu64 (wi64 (v20 + v21))) / 2 ^ 1)))) < (((List.length l0) : Nat) : Int))) <|
    chk (decide ((Int.toNat (wi64 (v22 - (wi64 ((wu64 (wi64 (v20 + v21))) / 2 ^ 1))))) < (List.length l0))) <|
    chk (decide ((0 : Int) ≤ (wi64 ((wu64 (wi64 (v20 + v21))) / 2 ^ 1)) ∧ (wi64 ((wu64 (wi64 (v20 + v21))) / 2 ^ 1)) < (((List.length l0) : Nat) : Int))) <|
    chk (decide ((Int.toNat (wi64 ((wu64 (wi64 (v20 + v21))) / 2 ^ 1))) < (List.length l0))) <|
    (cmp (List.getD l0 (Int.toNat (wi64 (v22 - (wi64 ((wu64 (wi64 (v20 + v21))) / 2 ^ 1))))) d) (List.getD l0 (Int.toNat (wi64 ((wu64 (wi64 (v20 + v21))) / 2 ^ 1))) d)).bind fun r4 =>
    sel (!(decide (r4 < 0))) (
      some (.inl (v1, v2, v3, v18, v19, (wi64 ((wi64 ((wu64 (wi64 (v20 + v21))) / 2 ^ 1)) + 1)), v21, v22, l0))) (
      some (.inl (v1, v2, v3, v18, v19, v20, (wi64 ((wu64 (wi64 (v20 + v21))) / 2 ^ 1)), v22, l0)))) (
    Option.map .inr (
      (gSym_c4 d cmp) rec v1 v2 v3 v18 v19 v20 l0))
noncomputable def gSym_l7s {α : Type} (d : α) (cmp : α → α → Option Int) (rec : List α → Int → Int → Int → Option (List α)) (v1 : Int) (v2 : Int) (v3 : Int) (v18 : Int) (v19 : Int) (v20 : Int) (v21 : Int) (v22 : Int) (l0 : List α) : Option (List α) :=
  iterO (fun v => (gSym_l7 d cmp) rec v.1 v.2.1 v.2.2.1 v.2.2.2.1 v.2.2.2.2.1 v.2.2.2.2.2.1 v.2.2.2.2.2.2.1 v.2.2.2.2.2.2.2.1 v.2.2.2.2.2.2.2.2) (v1, v2, v3, v18, v19, v20, v21, v22, l0)
noncomputable def gSym_c3 {α : Type} (d : α) (cmp : α → α → Option Int) (rec : List α → Int → Int → Int → Option (List α)) (v1 : Int) (v2 : Int) (v3 : Int) (v18 : Int) (v19 : Int) (v20 : Int) (v21 : Int) (l0 : List α) : Option (List α) :=
  (gSym_l7s d cmp) rec v1 v2 v3 v18 v19 v20 v21 (wi64 (v19 - 1)) l0
noncomputable def gSym_c2 {α : Type} (d : α) (cmp : α → α → Option Int) (rec : List α → Int → Int → Int → Option (List α)) (v1 : Int) (v2 : Int) (v3 : Int) (l0 : List α) : Option (List α) :=
  sel (decide ((wi64 ((wu64 (wi64 (v1 + v3))) / 2 ^ 1)) < v2)) (
    (gSym_c3 d cmp) rec v1 v2 v3 (wi64 ((wu64 (wi64 (v1 + v3))) / 2 ^ 1)) (wi64 ((wi64 ((wu64 (wi64 (v1 + v3))) / 2 ^ 1)) + v2)) (wi64 ((wi64 ((wi64 ((wu64 (wi64 (v1 + v3))) / 2 ^ 1)) + v2)) - v3)) (wi64 ((wu64 (wi64 (v1 + v3))) / 2 ^ 1)) l0) (
    (gSym_c3 d cmp) rec v1 v2 v3 (wi64 ((wu64 (wi64 (v1 + v3))) / 2 ^ 1)) (wi64 ((wi64 ((wu64 (wi64 (v1 + v3))) / 2 ^ 1)) + v2)) v1 v2 l0)
noncomputable def gSym_l9 {α : Type} (d : α) (_cmp : α → α → Option Int) (_rec : List α → Int → Int → Int → Option (List α)) (v14 : Int) (v17 : Int) (l0 : List α) : Option ((Int × Int × List α) ⊕ (List α)) :=
  sel (decide (v14 < v17)) (
    chk (decide ((0 : Int) ≤ (wi64 (v17 - 1)) ∧ (wi64 (v17 - 1)) < (((List.length l0) : Nat) : Int))) <|
    chk (decide ((Int.toNat (wi64 (v17 - 1))) < (List.length l0))) <|
    chk (decide ((0 : Int) ≤ v17 ∧ v17 < (((List.length l0) : Nat) : Int))) <|
    chk (decide ((Int.toNat v17) < (List.length l0))) <|
    chk (decide ((0 : Int) ≤ v17 ∧ v17 < (((List.length l0) : Nat) : Int))) <|
    chk (decide ((Int.toNat v17) < (List.length l0))) <|
    chk (decide ((0 : Int) ≤ (wi64 (v17 - 1)) ∧ (wi64 (v17 - 1)) < (((List.length (List.set l0 (Int.toNat v17) (List.getD l0 (Int.toNat (wi64 (v17 - 1))) d))) : Nat) : Int))) <|
    chk (decide ((Int.toNat (wi64 (v17 - 1))) < (List.length (List.set l0 (Int.toNat v17) (List.getD l0 (Int.toNat (wi64 (v17 - 1))) d))))) <|
    some (.inl (v14, (wi64 (v17 - 1)), (List.set (List.set l0 (Int.toNat v17) (List.getD l0 (Int.toNat (wi64 (v17 - 1))) d)) (Int.toNat (wi64 (v17 - 1))) (List.getD l0 (Int.toNat v17) d))))) (
    some (.inr l0))
noncomputable def gSym_l9s {α : Type} (d : α) (cmp : α → α → Option Int) (rec : List α → Int → Int → Int → Option (List α)) (v14 : Int) (v17 : Int) (l0 : List α) : Option (List α) :=
  iterO (fun v => (gSym_l9 d cmp) rec v.1 v.2.1 v.2.2) (v14, v17, l0)
noncomputable def gSym_c8 {α : Type} (d : α) (cmp : α → α → Option Int) (rec : List α → Int → Int → Int → Option (List α)) (v2 : Int) (v14 : Int) (l0 : List α) : Option (List α) :=
  (gSym_l9s d cmp) rec v14 v2 l0
noncomputable def gSym_l10 {α : Type} (d : α) (cmp : α → α → Option Int) (rec : List α → Int → Int → Int → Option (List α)) (v2 : Int) (v14 : Int) (v15 : Int) (l0 : List α) : Option ((Int × Int × Int × List α) ⊕ (List α)) :=
  sel (decide (v14 < v15)) (
    chk (decide ((0 : Int) ≤ v2 ∧ v2 < (((List.length l0) : Nat) : Int))) <|
    chk (decide ((Int.toNat v2) < (List.length l0))) <|
    chk (decide ((0 : Int) ≤ (wi64 ((wu64 (wi64 (v14 + v15))) / 2 ^ 1)) ∧ (wi64 ((wu64 (wi64 (v14 + v15))) / 2 ^ 1)) < (((List.length l0) : Nat) : Int))) <|
    chk (decide ((Int.toNat (wi64 ((wu64 (wi64 (v14 + v15))) / 2 ^ 1))) < (List.length l0))) <|
    (cmp (List.getD l0 (Int.toNat v2) d) (List.getD l0 (Int.toNat (wi64 ((wu64 (wi64 (v14 + v15))) / 2 ^ 1))) d)).bind fun r5 =>
    sel (!(decide (r5 < 0))) (
      some (.inl (v2, (wi64 ((wi64 ((wu64 (wi64 (v14 + v15))) / 2 ^ 1)) + 1)), v15, l0))) (
      some (.inl (v2, v14, (wi64 ((wu64 (wi64 (v14 + v15))) / 2 ^ 1)), l0)))) (
    Option.map .inr (
      (gSym_c8 d cmp) rec v2 v14 l0))
noncomputable def gSym_l10s {α : Type} (d : α) (cmp : α → α → Option Int) (rec : List α → Int → Int → Int → Option (List α)) (v2 : Int) (v14 : Int) (v15 : Int) (l0 : List α) : Option (List α) :=
  iterO (fun v => (gSym_l10 d cmp) rec v.1 v.2.1 v.2.2.1 v.2.2.2) (v2, v14, v15, l0)
noncomputable def gSym_c1 {α : Type} (d : α) (cmp : α → α → Option Int) (rec : List α → Int → Int → Int → Option (List α)) (v1 : Int) (v2 : Int) (v3 : Int) (l0 : List α) : Option (List α) :=
  sel (decide ((wi64 (v3 - v2)) = 1)) (
    (gSym_l10s d cmp) rec v2 v1 v2 l0) (
    (gSym_c2 d cmp) rec v1 v2 v3 l0)
noncomputable def gSym_l12 {α : Type} (d : α) (_cmp : α → α → Option Int) (_rec : List α → Int → Int → Int → Option (List α)) (v10 : Int) (v13 : Int) (l0 : List α) : Option ((Int × Int × List α) ⊕ (List α)) :=
  sel (decide (v13 < (wi64 (v10 - 1)))) (
    chk (decide ((0 : Int) ≤ (wi64 (v13 + 1)) ∧ (wi64 (v13 + 1)) < (((List.length l0) : Nat) : Int))) <|
    chk (decide ((Int.toNat (wi64 (v13 + 1))) < (List.length l0))) <|
    chk (decide ((0 : Int) ≤ v13 ∧ v13 < (((List.length l0) : Nat) : Int))) <|
    chk (decide ((Int.toNat v13) < (List.length l0))) <|
    chk (decide ((0 : Int) ≤ v13 ∧ v13 < (((List.length l0) : Nat) : Int))) <|
    chk (decide ((Int.toNat v13) < (List.length l0))) <|
    chk (decide ((0 : Int) ≤ (wi64 (v13 + 1)) ∧ (wi64 (v13 + 1)) < (((List.length (List.set l0 (Int.toNat v13) (List.getD l0 (Int.toNat (wi64 (v13 + 1))) d))) : Nat) : Int))) <|
    chk (decide ((Int.toNat (wi64 (v13 + 1))) < (List.length (List.set l0 (Int.toNat v13) (List.getD l0 (Int.toNat (wi64 (v13 + 1))) d))))) <|
    some (.inl (v10, (wi64 (v13 + 1)), (List.set (List.set l0 (Int.toNat v13) (List.getD l0 (Int.toNat (wi64 (v13 + 1))) d)) (Int.toNat (wi64 (v13 + 1))) (List.getD l0 (Int.toNat v13) d))))) (
    some (.inr l0))
noncomputable def gSym_l12s {α : Type} (d : α) (cmp : α → α → Option Int) (rec : List α → Int → Int → Int → Option (List α)) (v10 : Int) (v13 : Int) (l0 : List α) : Option (List α) :=
  iterO (fun v => (gSym_l12 d cmp) rec v.1 v.2.1 v.2.2) (v10, v13, l0)
noncomputable def gSym_c11 {α : Type} (d : α) (cmp : α → α → Option Int) (rec : List α → Int → Int → Int → Option (List α)) (v1 : Int) (v10 : Int) (l0 : List α) : Option (List α) :=
  (gSym_l12s d cmp) rec v10 v1 l0
noncomputable def gSym_l13 {α : Type} (d : α) (cmp : α → α → Option Int) (rec : List α → Int → Int → Int → Option (List α)) (v1 : Int) (v10 : Int) (v11 : Int) (l0 : List α) : Option ((Int × Int × Int × List α) ⊕ (List α)) :=
  sel (decide (v10 < v11)) (
    chk (decide ((0 : Int) ≤ (wi64 ((wu64 (wi64 (v10 + v11))) / 2 ^ 1)) ∧ (wi64 ((wu64 (wi64 (v10 + v11))) / 2 ^ 1)) < (((List.length l0) : Nat) : Int))) <|
    chk (decide ((Int.toNat (wi64 ((wu64 (wi64 (v10 + v11))) / 2 ^ 1))) < (List.length l0))) <|
    chk (decide ((0 : Int) ≤ v1 ∧ v1 < (((List.length l0) : Nat) : Int))) <|
    chk (decide ((Int.toNat v1) < (List.length l0))) <|
    (cmp (List.getD l0 (Int.toNat (wi64 ((wu64 (wi64 (v10 + v11))) / 2 ^ 1))) d) (List.getD l0 (Int.toNat v1) d)).bind fun r6 =>
    sel (decide (r6 < 0)) (
      some (.inl (v1, (wi64 ((wi64 ((wu64 (wi64 (v10 + v11))) / 2 ^ 1)) + 1)), v11, l0))) (
      some (.inl (v1, v10, (wi64 ((wu64 (wi64 (v10 + v11))) / 2 ^ 1)), l0)))) (
    Option.map .inr (
      (gSym_c11 d cmp) rec v1 v10 l0))
noncomputable def gSym_l13s {α : Type} (d : α) (cmp : α → α → Option Int) (rec : List α → Int → Int → Int → Option (List α)) (v1 : Int) (v10 : Int) (v11 : Int) (l0 : List α) : Option (List α) :=
  iterO (fun v => (gSym_l13 d cmp) rec v.1 v.2.1 v.2.2.1 v.2.2.2) (v1, v10, v11, l0)
noncomputable def gSym_body {α : Type} (d : α) (cmp : α → α → Option Int) (rec : List α → Int → Int → Int → Option (List α)) (a0 : List α) (a1 : Int) (a2 : Int) (a3 : Int) : Option (List α) :=
  sel (decide ((wi64 (a2 - a1)) = 1)) (
    (gSym_l13s d cmp) rec a1 a2 a3 a0) (
    (gSym_c1 d cmp) rec a1 a2 a3 a0)
noncomputable def gSym {α : Type} (d : α) (cmp : α → α → Option Int) (n : Nat) : List α → Int → Int → Int → Option (List α) := Nat.rec (motive := fun _ => List α → Int → Int → Int → Option (List α)) (fun _ _ _ _ => none) (fun _ ih => (gSym_body d cmp) ih) n
noncomputable def gStb_c3 {α : Type} (d : α) (cmp : α → α → Option Int) (v1 : Int) (v6 : Int) (v7 : Int) (l0 : List α) : Option ((Int × Int × List α) ⊕ (List α)) :=
  sel (decide ((wi64 (v7 + v6)) < v1)) (
    ((gSym d cmp) FUEL l0 v7 (wi64 (v7 + v6)) v1).bind fun r2 =>
    some (.inl (v1, (wi64 (v6 * 2)), r2))) (
    some (.inl (v1, (wi64 (v6 * 2)), l0)))
noncomputable def gStb_l4 {α : Type} (d : α) (cmp : α → α → Option Int) (v1 : Int) (v6 : Int) (v7 : Int) (v8 : Int) (l0 : List α) : Option ((Int × Int × Int × Int × List α) ⊕ ((Int × Int × List α) ⊕ (List α))) :=
  sel (decide (v8 ≤ v1)) (
    ((gSym d cmp) FUEL l0 v7 (wi64 (v7 + v6)) v8).bind fun r3 =>
    some (.inl (v1, v6, v8, (wi64 (v8 + (wi64 (2 * v6)))), r3))) (
    Option.map .inr (
      (gStb_c3 d cmp) v1 v6 v7 l0))
noncomputable def gStb_l4s {α : Type} (d : α) (cmp : α → α → Option Int) (v1 : Int) (v6 : Int) (v7 : Int) (v8 : Int) (l0 : List α) : Option ((Int × Int × List α) ⊕ (List α)) :=
  iterO (fun v => (gStb_l4 d cmp) v.1 v.2.1 v.2.2.1 v.2.2.2.1 v.2.2.2.2) (v1, v6, v7, v8, l0)
noncomputable def gStb_l2 {α : Type} (d : α) (cmp : α → α → Option Int) (v1 : Int) (v6 : Int) (l0 : List α) : Option ((Int × Int × List α) ⊕ (List α)) :=
  sel (decide (v6 < v1)) (
    (gStb_l4s d cmp) v1 v6 0 (wi64 (2 * v6)) l0) (
    some (.inr l0))
noncomputable def gStb_l2s {α : Type} (d : α) (cmp : α → α → Option Int) (v1 : Int) (v6 : Int) (l0 : List α) : Option (List α) :=
  iterO (fun v => (gStb_l2 d cmp) v.1 v.2.1 v.2.2) (v1, v6, l0)
noncomputable def gStb_c1 {α : Type} (d : α) (cmp : α → α → Option Int) (v1 : Int) (v6 : Int) (v7 : Int) (l0 : List α) : Option (List α) :=
  ((gIns d cmp) l0 v7 v1).bind fun r1 =>
  (gStb_l2s d cmp) v1 v6 r1
noncomputable def gStb_l5 {α : Type} (d : α) (cmp : α → α → Option Int) (v1 : Int) (v6 : Int) (v7 : Int) (v8 : Int) (l0 : List α) : Option ((Int × Int × Int × Int × List α) ⊕ (List α)) :=
  sel (decide (v8 ≤ v1)) (
    ((gIns d cmp) l0 v7 v8).bind fun r4 =>
    some (.inl (v1, v6, v8, (wi64 (v8 + v6)), r4))) (
    Option.map .inr (
      (gStb_c1 d cmp) v1 v6 v7 l0))
noncomputable def gStb_l5s {α : Type} (d : α) (cmp : α → α → Option Int) (v1 : Int) (v6 : Int) (v7 : Int) (v8 : Int) (l0 : List α) : Option (List α) :=
  iterO (fun v => (gStb_l5 d cmp) v.1 v.2.1 v.2.2.1 v.2.2.2.1 v.2.2.2.2) (v1, v6, v7, v8, l0)
noncomputable def gStb {α : Type} (d : α) (cmp : α → α → Option Int) (a0 : List α) (a1 : Int) : Option (List α) :=
  (gStb_l5s d cmp) a1 20 0 20 a0
noncomputable def gSortS {α : Type} (d : α) (cmp : α → α → Option Int) (a0 : List α) : Option (List α) :=
  ((gStb d cmp) a0 (((List.length a0) : Nat) : Int)).bind fun r1 =>
  some r1

end Go.Proofs.Ythmfeknfiekcmaa.Am
