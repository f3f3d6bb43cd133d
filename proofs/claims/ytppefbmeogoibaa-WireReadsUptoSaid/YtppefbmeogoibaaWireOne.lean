/- The walk of the reference's 'one'. -/
import Derived.Test.YtppefbmeogoibaaWireRef
namespace Go.Proofs.Ytppefbmeogoibaa
open Go.RowKit

set_option maxHeartbeats 1000000 in
set_option maxRecDepth 100000 in
theorem one_any {S : Nat → Prop} {A : Option Addr} {n c : Nat} {l : List UInt8} (w : World) (hl : Sl Rep.u8 w S A n c l) (hn : n ≤ 549755813888) :
    Calls Try.prog 34 #[.slice A n c] w fun e w' => ∃ A' n' c', e = .returned (.tuple #[.agg #[.int .i64 (rdFld l).1.num, .int .i64 (rdFld l).1.kind, .int .u64 (rdFld l).1.val, .slice A' n' c'], .int .i64 (rdFld l).2.1, .int .i64 (rdFld l).2.2]) ∧ FldIs w' (Ge w.heap.size) A' n' c' (rdFld l).1 ∧ Below w.heap.size w w' := by
  have hlen := hl.len
  have Hdef : Hid (rdFld l = _) := Lib.hid (rdFld.eq_1 l)
  have r1 := rd_lt l
  have hz : 0 + (rd l).2.1 = (rd l).2.1 := by omega
  generalize hr : rd l = r at *
  obtain ⟨t, z, er⟩ := r
  have Hr := Lib.hid hr; clear hr
  simp only at r1 Hdef
  have Hlen := Lib.hid hlen; clear hlen
  obtain ⟨q1, q2, q3⟩ := r1
  have hzn : z ≤ n := by have := Hlen.out; omega
  have Hq1 := Lib.hid q1
  clear q1 q2 hz
  go_enter Try.func34, Try.ntmps34
  go_wp2_with fail
  refine (rread_any _ (hl.keep (Same.alloc _ _ _))).mono ?_
  rintro e w1 ⟨rfl, rfl⟩
  rw [Hr.out]
  have hnil := Sl.nil_ Rep.u8 w (Ge w.heap.size)
  by_cases h0 : er = 0
  · subst h0
    rw [if_neg (by simp)] at Hdef
    have hand : IntKind.u64.wrap ((t : Int) / 8) = (t : Int) / 8 := by rw [IntKind.wrap_u64]; have h := Hq1.out; unfold U64 at h; omega
    by_cases h1 : t / 8 < 1 ∨ 536870911 < t / 8
    · rw [if_pos (by omega)] at Hdef
      rcases h1 with h1 | h1
      · have h1' : (t : Int) / 8 < 1 := by omega
        go_wp2_with fail
        rw [Hdef.out]
        refine bodyPost_ret (v := .tuple #[.agg #[.int .i64 0, .int .i64 0, .int .u64 0, .slice none 0 0], .int .i64 0, .int .i64 4]) (by simp [results, Try.results34, go_sem]) rfl ⟨none, 0, 0, rfl, fld0 _ _, ?_⟩
        exact (by repeat (first | exact Below.refl _ _ | refine Grw.alloc ?_ _ | refine Grw.setCell ?_ (by simp) _))
      · have h1' : 536870911 < (t : Int) / 8 := by omega
        go_wp2_with fail
        rw [Hdef.out]
        refine bodyPost_ret (v := .tuple #[.agg #[.int .i64 0, .int .i64 0, .int .u64 0, .slice none 0 0], .int .i64 0, .int .i64 4]) (by simp [results, Try.results34, go_sem]) rfl ⟨none, 0, 0, rfl, fld0 _ _, ?_⟩
        exact (by repeat (first | exact Below.refl _ _ | refine Grw.alloc ?_ _ | refine Grw.setCell ?_ (by simp) _))
    have h1a : (1 : Int) ≤ (t : Int) / 8 := by omega
    have h1b : (t : Int) / 8 ≤ 536870911 := by omega
    by_cases h2 : t % 8 ≠ 0 ∧ t % 8 ≠ 2
    · rw [if_pos (by omega)] at Hdef
      have h2a : ((t : Int) % 8 != 0) = true := by simp; omega
      have h2b : ((t : Int) % 8 != 2) = true := by simp; omega
      go_wp2_with fail
      rw [Hdef.out]
      refine bodyPost_ret (v := .tuple #[.agg #[.int .i64 0, .int .i64 0, .int .u64 0, .slice none 0 0], .int .i64 0, .int .i64 4]) (by simp [results, Try.results34, go_sem]) rfl ⟨none, 0, 0, rfl, fld0 _ _, ?_⟩
      exact (by repeat (first | exact Below.refl _ _ | refine Grw.alloc ?_ _ | refine Grw.setCell ?_ (by simp) _))
    rw [if_neg (by omega)] at Hdef
    obtain ⟨A1, hl1, hcut1⟩ := hl.cutL eltB hzn
    have hl0 := hl
    clear hl
    have r2 := rd_lt (l.drop z)
    generalize hrr : rd (l.drop z) = r at *
    obtain ⟨t2, z2, e2⟩ := r
    have Hrr := Lib.hid hrr; clear hrr
    simp only at r2 Hdef
    obtain ⟨p1, p2, _⟩ := r2
    have hz2 : z2 ≤ n - z := by have := hl1.len; omega
    have Hp1 := Lib.hid p1; clear p1 p2
    have Hsl : Hid (∀ W, Sl Rep.u8 W S A1 (n - z) (c - z) (l.drop z) → Calls Try.prog 19 #[.slice A1 (n - z) (c - z)] W fun e w' => e = .returned (.tuple #[.int .u64 t2, .int .i64 z2, .int .i64 e2]) ∧ W = w') :=
      Lib.hid fun W hW => (rread_any W hW).mono fun _ _ hh => by rw [Hrr.out] at hh; exact hh
    have hle := hl1.le
    by_cases h3 : e2 = 0
    · subst h3
      rw [if_neg (by simp)] at Hdef
      have hkk : t % 8 = 0 ∨ t % 8 = 2 := by omega
      by_cases hk : t % 8 = 0
      · have hk0 : ((t : Int) % 8 != 0) = false := by simp; omega
        have hk1 : ((t : Int) % 8 == 0) = true := by simp; omega
        rw [if_pos hk] at Hdef
        have HK := Lib.hid hk
        clear hk hkk h2
        go_wp2_with fail
        refine (Hsl.out _ ((hl1.keep (Same.alloc _ _ _)).keep (Same.alloc _ _ _))).mono ?_
        rintro e w1 ⟨rfl, rfl⟩
        go_wp2_with fail
        rw [Hdef.out]
        refine bodyPost_ret (v := .tuple #[.agg #[.int .i64 ((t : Int) / 8), .int .i64 0, .int .u64 t2, .slice none 0 0], .int .i64 (z + z2), .int .i64 0]) (by simp [results, Try.results34, go_sem]; have := HK.out; omega) rfl ⟨none, 0, 0, rfl, ⟨Sl.nil_ _ _ _, Hp1.out, by simp only; omega, by simp⟩, ?_⟩
        exact (by repeat (first | exact Below.refl _ _ | refine Grw.alloc ?_ _ | refine Grw.setCell ?_ (by simp) _))
      · have hk2 : t % 8 = 2 := by omega
        have hk0 : ((t : Int) % 8 != 0) = true := by simp; omega
        have hk1 : ((t : Int) % 8 != 2) = false := by simp; omega
        have hk3 : ((t : Int) % 8 == 0) = false := by simp; omega
        rw [if_neg hk] at Hdef
        have HK2 := Lib.hid hk2
        clear hk hk2 hkk h2
        have hm2 : l.length - z - z2 = n - z - z2 := by have := Hlen.out; omega
        rw [hm2] at Hdef
        clear hm2
        have hz3 : z + z2 ≤ n := by omega
        have e1 : (n : Int) - z - z2 = ((n - z - z2 : Nat) : Int) := by omega
        by_cases hbig : n - z - z2 < t2
        · have hbig' : (n : Int) - z - z2 < (t2 : Int) := by omega
          have hw1 : IntKind.u64.wrap ((n : Int) - z - z2) = (n : Int) - z - z2 := by rw [IntKind.wrap_u64]; omega
          rw [if_pos hbig] at Hdef
          clear hbig e1
          go_wp2_with fail
          refine (Hsl.out _ ((hl1.keep (Same.alloc _ _ _)).keep (Same.alloc _ _ _))).mono ?_
          rintro e w1 ⟨rfl, rfl⟩
          go_wp2_with fail
          rw [Hdef.out]
          refine bodyPost_ret (v := .tuple #[.agg #[.int .i64 0, .int .i64 0, .int .u64 0, .slice none 0 0], .int .i64 0, .int .i64 5]) (by simp [results, Try.results34, go_sem]) rfl ⟨none, 0, 0, rfl, fld0 _ _, ?_⟩
          exact (by repeat (first | exact Below.refl _ _ | refine Grw.alloc ?_ _ | refine Grw.setCell ?_ (by simp) _))
        · have hbig' : (t2 : Int) ≤ (n : Int) - z - z2 := by omega
          have hw1 : IntKind.u64.wrap ((n : Int) - z - z2) = (n : Int) - z - z2 := by rw [IntKind.wrap_u64]; omega
          rw [if_neg hbig] at Hdef
          have hend : z + z2 + t2 ≤ n := by omega
          obtain ⟨A2, hl3, hcut3⟩ := hl0.cutLH eltB (show z + z2 ≤ z + z2 + t2 by omega) hend
          have ht : (l.take (z + z2 + t2)).drop (z + z2) = (l.drop (z + z2)).take t2 := by rw [List.drop_take]; congr 1; omega
          rw [ht] at hl3
          rw [show z + z2 + t2 - (z + z2) = t2 from by omega] at hl3 hcut3
          rw [show ((z + z2 : Nat) : Int) = (z : Int) + z2 from by omega, show ((z + z2 + t2 : Nat) : Int) = (z : Int) + z2 + t2 from by omega] at hcut3
          generalize c - (z + z2) = c3 at *
          have ht2 : (t2 : Int) ≤ 549755813888 := by omega
          clear hbig e1 ht
          go_wp2_with fail
          refine (Hsl.out _ ((hl1.keep (Same.alloc _ _ _)).keep (Same.alloc _ _ _))).mono ?_
          rintro e w1 ⟨rfl, rfl⟩
          go_wp2_with (at_builtin; refine Stop.mk ?_)
          have hbox0 := (Box.new w 41 [.int .i64 0, .int .i64 0, .int .u64 0, .slice none 0 0] rfl).alloc (.cells #[.int .i64 ((t : Int) / 8), .int .i64 ((t : Int) % 8), .int .u64 0, .slice none 0 0] 41)
          have hbox1 := Box.new (w.alloc (.cells #[.int .i64 0, .int .i64 0, .int .u64 0, .slice none 0 0] 41)) 41 [.int .i64 ((t : Int) / 8), .int .i64 ((t : Int) % 8), .int .u64 0, .slice none 0 0] (b := w.heap.size + 1) (by simp)
          refine Stop.un (wpList_appE eltB rfl rfl (base := w.heap.size + 2) No (by simp) rfl (((hl3.keep (Same.alloc _ _ _)).keep (Same.alloc _ _ _)).keep (Same.alloc _ _ _)) rfl id (by omega) (by simp only [maxLen]; omega) (by simp) (fun h => h) (fun h => h) ?_)
          intro A5 c5 w5 hown5 hb5
          have g5 : Below w.heap.size w w5 := Grw.step (Grw.alloc (Grw.alloc (Below.refl _ _) _) _) hb5
          have hx0 := hbox0.below hb5
          have hx1 := hbox1.below hb5
          have k0 := hx1.cell 0 rfl
          have k1 := hx1.cell 1 rfl
          have k2 := hx1.cell 2 rfl
          have k3 := hx1.cell 3 rfl
          have f3 := hx1.frozen 3
          have m0 := hx0.cell 0 rfl
          have m1 := hx0.cell 1 rfl
          have m2 := hx0.cell 2 rfl
          have m3 := hx0.cell 3 rfl
          have e0 := hx0.frozen 0
          have e1 := hx0.frozen 1
          have e2 := hx0.frozen 2
          have e3 := hx0.frozen 3
          have hF := ((((hx0.far (p := ⟨w.heap.size + 1, 3, none⟩) (by simp) (.slice A5 t2 c5)).set_ 0 (.int .i64 ((t : Int) / 8))).set_ 1 (.int .i64 ((t : Int) % 8))).set_ 2 (.int .u64 0)).set_ 3 (.slice A5 t2 c5)
          have j0 := Lib.hid (hF.cell 0 rfl)
          have j1 := Lib.hid (hF.cell 1 rfl)
          have j2 := Lib.hid (hF.cell 2 rfl)
          have j3 := Lib.hid (hF.cell 3 rfl)
          clear hb5 hbox0 hbox1 hx0 hx1 hF
          go_wp2_with fail
          rw [Hdef.out]
          refine bodyPost_ret (v := .tuple #[.agg #[.int .i64 ((t : Int) / 8), .int .i64 2, .int .u64 0, .slice A5 t2 c5], .int .i64 (z + z2 + t2), .int .i64 0]) (by simp [results, Try.results34, go_sem, j0.out, j1.out, j2.out, j3.out]; have := HK2.out; omega) rfl ⟨A5, t2, c5, rfl, ⟨?_, by unfold U64; simp, by simp only; omega, by simp⟩, ?_⟩
          · have hS : ¬ Ge (w.heap.size + 2) w.heap.size := by unfold Ge; omega
            have hS1 : ¬ Ge (w.heap.size + 2) (w.heap.size + 1) := by unfold Ge; omega
            exact ((((((hown5.sl (S' := Ge (w.heap.size + 2)) (fun _ h => h.elim) (fun _ h _ => h)).setCell hS1 _).setCell hS _).setCell hS _).setCell hS _).setCell hS _).mono (fun b hb _ => by unfold Ge at *; omega)
          · exact (by repeat (first | exact g5 | refine Grw.setCell ?_ (by simp) _))
    · have h3' : ((e2 : Int) != 0) = true := by simp; omega
      rw [if_pos h3] at Hdef
      rcases (show t % 8 = 0 ∨ t % 8 = 2 by omega) with hk | hk
      · have hk0 : ((t : Int) % 8 != 0) = false := by simp; omega
        have Hk := Lib.hid hk; clear hk
        go_wp2_with fail
        refine (Hsl.out _ ((hl1.keep (Same.alloc _ _ _)).keep (Same.alloc _ _ _))).mono ?_
        rintro e w1 ⟨rfl, rfl⟩
        go_wp2_with fail
        rw [Hdef.out]
        refine bodyPost_ret (v := .tuple #[.agg #[.int .i64 0, .int .i64 0, .int .u64 0, .slice none 0 0], .int .i64 0, .int .i64 e2]) (by simp [results, Try.results34, go_sem]) rfl ⟨none, 0, 0, rfl, fld0 _ _, ?_⟩
        exact (by repeat (first | exact Below.refl _ _ | refine Grw.alloc ?_ _ | refine Grw.setCell ?_ (by simp) _))
      · have hk0 : ((t : Int) % 8 != 0) = true := by simp; omega
        have hk2 : ((t : Int) % 8 != 2) = false := by simp; omega
        have Hk := Lib.hid hk; clear hk
        go_wp2_with fail
        refine (Hsl.out _ ((hl1.keep (Same.alloc _ _ _)).keep (Same.alloc _ _ _))).mono ?_
        rintro e w1 ⟨rfl, rfl⟩
        go_wp2_with fail
        rw [Hdef.out]
        refine bodyPost_ret (v := .tuple #[.agg #[.int .i64 0, .int .i64 0, .int .u64 0, .slice none 0 0], .int .i64 0, .int .i64 e2]) (by simp [results, Try.results34, go_sem]) rfl ⟨none, 0, 0, rfl, fld0 _ _, ?_⟩
        exact (by repeat (first | exact Below.refl _ _ | refine Grw.alloc ?_ _ | refine Grw.setCell ?_ (by simp) _))
  · have h0' : ((er : Int) != 0) = true := by simp; omega
    rw [if_pos h0] at Hdef
    go_wp2_with fail
    rw [Hdef.out]
    refine bodyPost_ret (v := .tuple #[.agg #[.int .i64 0, .int .i64 0, .int .u64 0, .slice none 0 0], .int .i64 0, .int .i64 er]) (by simp [results, Try.results34, go_sem]) rfl ⟨none, 0, 0, rfl, fld0 _ _, ?_⟩
    exact (by repeat (first | exact Below.refl _ _ | refine Grw.alloc ?_ _ | refine Grw.setCell ?_ (by simp) _))
end Go.Proofs.Ytppefbmeogoibaa
