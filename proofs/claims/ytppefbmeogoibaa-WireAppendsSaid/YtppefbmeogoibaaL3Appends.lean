/- The walk of the statement WireAppends. -/
import Derived.Test.YtppefbmeogoibaaL3Known
namespace Go.Proofs.Ytppefbmeogoibaa
open Go.RowKit

set_option maxHeartbeats 2000000 in
set_option maxRecDepth 100000 in
theorem wappends_any {S S' : Nat → Prop} {A A' : Option Addr} {n c n' c' : Nat} {l : List UInt8} {f : Fld} (w : World) (hl : Sl Rep.u8 w S A n c l) (h : FldIs w S' A' n' c' f) (m : Nat) (hm : m < 256) :
    Calls Try.prog 10 #[.slice A n c, .agg #[.int .i64 f.num, .int .i64 f.kind, .int .u64 f.val, .slice A' n' c'], .int .u8 m] w fun e w' => e = .returned (.bool true) ∧ Below w.heap.size w w' := by
  by_cases hbig : (200 : Int) < (n : Int)
  · go_enter Try.func10, Try.ntmps10
    go_wp2_with (go_at_call 21; refine (known3 _).mono ?_; rintro e w1 ⟨rfl, h2⟩)
    go_ret
    exact ⟨rfl, Grw.step (Grw.alloc (Below.refl _ _) _) h2⟩
  by_cases hbig' : (200 : Int) < (n' : Int)
  · go_enter Try.func10, Try.ntmps10
    go_wp2_with (go_at_call 21; refine (known3 _).mono ?_; rintro e w1 ⟨rfl, h2⟩)
    go_ret
    exact ⟨rfl, Grw.step (Grw.alloc (Below.refl _ _) _) h2⟩
  have hbox := Box.new w 41 [.int .i64 f.num, .int .i64 f.kind, .int .u64 f.val, .slice A' n' c'] rfl
  have h1 := h.keep (Same.alloc S' w (.cells #[.int .i64 f.num, .int .i64 f.kind, .int .u64 f.val, .slice A' n' c'] 41))
  have hl1 := hl.keep (Same.alloc S w (.cells #[.int .i64 f.num, .int .i64 f.kind, .int .u64 f.val, .slice A' n' c'] 41))
  have g1 := Grw.alloc (Below.refl w.heap.size w) (.cells #[.int .i64 f.num, .int .i64 f.kind, .int .u64 f.val, .slice A' n' c'] 41)
  have Hlen := Lib.hid h.sl.len
  clear h hl
  go_enter Try.func10, Try.ntmps10
  go_wp2_with fail
  refine wp_world (fun W => Box W w.heap.size 41 [.int .i64 f.num, .int .i64 f.kind, .int .u64 f.val, .slice A' n' c'] ∧ FldIs W S' A' n' c' f ∧ Sl Rep.u8 W S A n c l ∧ Below w.heap.size w W) ⟨hbox, h1, hl1, g1⟩ ?_
  clear hbox h1 hl1 g1
  rintro W ⟨hbox, h1, hl1, g1⟩
  have hbd := hbox.drew
  have k0 := hbox.cell 0 rfl
  have k1 := hbox.cell 1 rfl
  have k2 := hbox.cell 2 rfl
  have k3 := hbox.cell 3 rfl
  have hw1 : (m : Int).tmod 3 = (m : Int) % 3 := by rw [Int.tmod_eq_emod_of_nonneg (by omega)]
  have hw2 := IntWalk.i64_in ((m : Int) % 3) (by omega)
  have hw3 := IntWalk.i64_in (536870911 + (m : Int) % 3) (by omega)
  have hw4 := IntWalk.i64_in (536870911 + (m : Int) % 3 - 1) (by omega)
  go_region_held3 (fun w' => w'.cell? ⟨w.heap.size, 0, none⟩ = some (.int .i64 f.num) ∧ w'.cell? ⟨w.heap.size, 1, none⟩ = some (.int .i64 f.kind) ∧ w'.cell? ⟨w.heap.size, 2, none⟩ = some (.int .u64 f.val) ∧ w'.cell? ⟨w.heap.size, 3, none⟩ = some (.slice A' n' c'))
      (first | exact ⟨k0, k1, k2, k3⟩ | exact ⟨hbx2.cell 0 rfl, hbx2.cell 1 rfl, hbx2.cell 2 rfl, hbx2.cell 3 rfl⟩ | exact ⟨hbx3.cell 0 rfl, hbx3.cell 1 rfl, hbx3.cell 2 rfl, hbx3.cell 3 rfl⟩ | go_keep)
      (first
        | (go_at_call 23; refine (near_any _ (h1.keep (Same.drew _ _)) _).mono ?_; rintro e w2 ⟨A2, n2, c2, x2, rfl, hx2, hxl2, hb2⟩; have hbx2 := hbd.below hb2)
        | (go_at_call 23; refine (near_any _ ((h1.keep (Same.drew _ _)).keep (Same.below hb2)) _).mono ?_; rintro e w3 ⟨A3, n3, c3, x3, rfl, hx3, hxl3, hb3⟩; have hbx3 := hbx2.below hb3))
  have Hw4 := Lib.hid hw4
  clear hw1 hw2 hw3 hw4 k0 k1 k2 k3 hbd
  go_wp2_with fail
  have hu4 : f.val < U64 := h1.val
  have hx4 : FldIs w3 All none 0 0 ⟨536870911 + (m : Int) % 3 - 1, 0, f.val, []⟩ := ⟨Sl.nil_ _ _ _, hu4, by simp only; omega, by simp⟩
  have hf1 : FldIs w3 All A' n' c' f := (((h1.keep (Same.drew _ _)).keep (Same.below hb2)).keep (Same.below hb3)).all
  have hf2 : FldIs w3 All A2 n2 c2 x2 := (hx2.keep (Same.below hb3)).all
  have hf3 : FldIs w3 All A3 n3 c3 x3 := hx3.all
  have hl3 := ((hl1.keep (Same.drew _ _)).keep (Same.below hb2)).keep (Same.below hb3)
  have g3 : Below w.heap.size w w3 := Grw.step (Grw.step (Grw.drew g1) hb2) hb3
  have hsm : ∀ x ∈ [f, x2, x3, ⟨536870911 + (m : Int) % 3 - 1, 0, f.val, []⟩], x.byt.length ≤ 200 := by
    have := Hlen.out
    intro x hx
    simp only [List.mem_cons, List.not_mem_nil, or_false] at hx
    rcases hx with rfl | rfl | rfl | rfl <;> first | omega | simp
  refine wp_world (fun W => Below w.heap.size w W ∧ Sl Rep.u8 W S A n c l ∧ ∃ xs : List Fld, (∀ x ∈ xs, x.byt.length ≤ 200) ∧ Sl Rep.fld W All (some ⟨w3.heap.size, 0, none⟩) 4 4 xs)
    ⟨Grw.alloc g3 _, hl3.keep (Same.alloc _ _ _), _, hsm, (Sl.litOf (R := Rep.fld) (S := All) [f, x2, x3, ⟨536870911 + (m : Int) % 3 - 1, 0, f.val, []⟩] (Fld.cons (hf1.keep (Same.alloc _ _ _)) (Fld.cons (hf2.keep (Same.alloc _ _ _)) (Fld.cons (hf3.keep (Same.alloc _ _ _)) (Fld.cons (hx4.keep (Same.alloc _ _ _)) rfl)))) rfl (by simp [maxLen]) rfl).all⟩ ?_
  generalize (some ⟨w3.heap.size, 0, none⟩ : Option Addr) = AL
  clear hx4 hf1 hf2 hf3 hl3 g3 hsm hb2 hb3 hbx2 hbx3 hx2 hx3 hxl2 hxl3 hbox h1 hl1 g1 hu4
  rintro W1 ⟨hg, hl, xs, hsm, hx⟩
  have Hxs := Lib.hid hx.len
  have Hsm := Lib.hid hsm; clear hsm
  go_loopw [39] (fun i wr => ∃ k : Nat, i = .int .i64 k ∧ k ≤ 4 ∧ Below W1.heap.size W1 wr) (fun i _ => 4 - (intOf i).toNat)
  case atStart => exact ⟨0, rfl, by omega, Below.refl _ _⟩
  case round =>
    obtain ⟨k, rfl, hk, hbel⟩ := hrel
    have hl1 := hl.keep (Same.below hbel)
    by_cases hlt : (k : Int) < 4
    · have hkl : k < xs.length := by rw [← Hxs.out]; omega
      obtain ⟨ad, B, q, d, hA, hf, c0, c1, c2, c3⟩ := (hx.keep (Same.below hbel)).fld hkl
      have hq : q ≤ 200 := by have := hf.sl.len; have := Hsm.out xs[k] (List.getElem_mem hkl); omega
      subst hA
      generalize xs[k] = x at *
      cases hok : x.ok
      · have hbx := Box.new wr 41 [.int .i64 x.num, .int .i64 x.kind, .int .u64 x.val, .slice B q d] rfl
        have hf0 := hf.keep (Same.alloc All wr (.cells #[.int .i64 x.num, .int .i64 x.kind, .int .u64 x.val, .slice B q d] 41))
        have hl0 := hl1.keep (Same.alloc S wr (.cells #[.int .i64 x.num, .int .i64 x.kind, .int .u64 x.val, .slice B q d] 41))
        clear hf hl1
        go_wp2_with fail
        refine (wappend_no _ hf0 hok).mono ?_
        rintro e w1 ⟨rfl, hb1⟩
        have j0 := (hbx.below hb1).cell 0 rfl
        have j1 := (hbx.below hb1).cell 1 rfl
        have j2 := (hbx.below hb1).cell 2 rfl
        have j3 := (hbx.below hb1).cell 3 rfl
        go_wp2_with fail
        refine (field_no _ (hf0.keep (Same.below hb1)) hok).mono ?_
        rintro e w2 ⟨rfl, hb2⟩
        have hsame := Lib.hid (fun (W : World) => same_yes W (Sl.nil_ Rep.u8 W All) (Sl.nil_ Rep.u8 W All) rfl)
        have hbx2 := ((hbx.below hb1).below hb2).drew
        have hf2 := (((hf0.keep (Same.below hb1)).keep (Same.below hb2)).keep (Same.drew _ _))
        have g2 := Grw.step (Grw.step (Grw.alloc hbel (.cells #[.int .i64 x.num, .int .i64 x.kind, .int .u64 x.val, .slice B q d] 41)) hb1) hb2
        clear j0 j1 j2 j3
        have j0 := ((hbx.below hb1).below hb2).cell 0 rfl
        have j1 := ((hbx.below hb1).below hb2).cell 1 rfl
        have j2 := ((hbx.below hb1).below hb2).cell 2 rfl
        have j3 := ((hbx.below hb1).below hb2).cell 3 rfl
        clear hbx hf0 hl0
        go_wp2_with fail
        go_region_held3 (fun w' => w'.cell? ⟨wr.heap.size, 0, none⟩ = some (.int .i64 x.num) ∧ w'.cell? ⟨wr.heap.size, 1, none⟩ = some (.int .i64 x.kind) ∧ w'.cell? ⟨wr.heap.size, 2, none⟩ = some (.int .u64 x.val) ∧ w'.cell? ⟨wr.heap.size, 3, none⟩ = some (.slice B q d))
          (first | exact ⟨j0, j1, j2, j3⟩ | exact ⟨hbx2.cell 0 rfl, hbx2.cell 1 rfl, hbx2.cell 2 rfl, hbx2.cell 3 rfl⟩ | exact ⟨hbx4.cell 0 rfl, hbx4.cell 1 rfl, hbx4.cell 2 rfl, hbx4.cell 3 rfl⟩ | exact ⟨hbx5.cell 0 rfl, hbx5.cell 1 rfl, hbx5.cell 2 rfl, hbx5.cell 3 rfl⟩)
          (first
            | (go_at_call 13; refine (hsame.out _).mono ?_; rintro e w3 ⟨rfl, rfl⟩)
            | (go_at_call 30; refine (wsize_any _ hf2 (by omega)).mono ?_; rintro e w4 ⟨rfl, hb4⟩; have hbx4 := hbx2.below hb4)
            | (go_at_call 31; refine (rsizef_any _ (hf2.keep (Same.below hb4)) (by omega)).mono ?_; rintro e w5 ⟨rfl, hb5⟩; have hbx5 := hbx4.below hb5))
        go_wp2_with fail
        go_roundw
        case rel => exact ⟨k + 1, by go_num, by omega, Grw.step (Grw.step (Grw.drew g2) hb4) hb5⟩
        case measure => simp [intOf]; omega
      · have hbx := Box.new wr 41 [.int .i64 x.num, .int .i64 x.kind, .int .u64 x.val, .slice B q d] rfl
        have hf0 := hf.keep (Same.alloc All wr (.cells #[.int .i64 x.num, .int .i64 x.kind, .int .u64 x.val, .slice B q d] 41))
        have hl0 := hl1.keep (Same.alloc S wr (.cells #[.int .i64 x.num, .int .i64 x.kind, .int .u64 x.val, .slice B q d] 41))
        clear hf hl1
        go_wp2_with fail
        refine (wappend_any _ hl0 hf0 hok (by omega) (by omega)).mono ?_
        rintro e w1 ⟨A1, n1, c1, rfl, hown1, hb1⟩
        have j0 := (hbx.below hb1).cell 0 rfl
        have j1 := (hbx.below hb1).cell 1 rfl
        have j2 := (hbx.below hb1).cell 2 rfl
        have j3 := (hbx.below hb1).cell 3 rfl
        go_wp2_with fail
        refine (field_any _ (hl0.keep (Same.below hb1)) (hf0.keep (Same.below hb1)) hok (by omega) (by omega)).mono ?_
        rintro e w2 ⟨A2, n2, c2, rfl, hown2, hb2⟩
        have hsame : Hid (Calls Try.prog 13 #[.slice A1 n1 c1, .slice A2 n2 c2] w2.drew fun e w' => e = .returned (.bool true) ∧ w2.drew = w') := Lib.hid (same_yes _ ((hown1.sla.keep (Same.below hb2)).keep (Same.drew _ _)) (hown2.sla.keep (Same.drew _ _)) rfl)
        have hbx2 := ((hbx.below hb1).below hb2).drew
        have hf2 := (((hf0.keep (Same.below hb1)).keep (Same.below hb2)).keep (Same.drew _ _))
        have g2 := Grw.step (Grw.step (Grw.alloc hbel (.cells #[.int .i64 x.num, .int .i64 x.kind, .int .u64 x.val, .slice B q d] 41)) hb1) hb2
        clear j0 j1 j2 j3
        have j0 := ((hbx.below hb1).below hb2).cell 0 rfl
        have j1 := ((hbx.below hb1).below hb2).cell 1 rfl
        have j2 := ((hbx.below hb1).below hb2).cell 2 rfl
        have j3 := ((hbx.below hb1).below hb2).cell 3 rfl
        clear hbx hf0 hl0
        go_wp2_with fail
        go_region_held3 (fun w' => w'.cell? ⟨wr.heap.size, 0, none⟩ = some (.int .i64 x.num) ∧ w'.cell? ⟨wr.heap.size, 1, none⟩ = some (.int .i64 x.kind) ∧ w'.cell? ⟨wr.heap.size, 2, none⟩ = some (.int .u64 x.val) ∧ w'.cell? ⟨wr.heap.size, 3, none⟩ = some (.slice B q d))
          (first | exact ⟨j0, j1, j2, j3⟩ | exact ⟨hbx2.cell 0 rfl, hbx2.cell 1 rfl, hbx2.cell 2 rfl, hbx2.cell 3 rfl⟩ | exact ⟨hbx4.cell 0 rfl, hbx4.cell 1 rfl, hbx4.cell 2 rfl, hbx4.cell 3 rfl⟩ | exact ⟨hbx5.cell 0 rfl, hbx5.cell 1 rfl, hbx5.cell 2 rfl, hbx5.cell 3 rfl⟩)
          (first
            | (go_at_call 13; refine hsame.out.mono ?_; rintro e w3 ⟨rfl, rfl⟩)
            | (go_at_call 30; refine (wsize_any _ hf2 (by omega)).mono ?_; rintro e w4 ⟨rfl, hb4⟩; have hbx4 := hbx2.below hb4)
            | (go_at_call 31; refine (rsizef_any _ (hf2.keep (Same.below hb4)) (by omega)).mono ?_; rintro e w5 ⟨rfl, hb5⟩; have hbx5 := hbx4.below hb5))
        go_wp2_with fail
        go_roundw
        case rel => exact ⟨k + 1, by go_num, by omega, Grw.step (Grw.step (Grw.drew g2) hb4) hb5⟩
        case measure => simp [intOf]; omega
    · go_wp2_with (go_at_call 21; refine (known3 _).mono ?_; rintro e w1 ⟨rfl, h2⟩)
      go_ret
      exact ⟨rfl, Grw.step (Grw.step hg hbel) h2⟩
end Go.Proofs.Ytppefbmeogoibaa
