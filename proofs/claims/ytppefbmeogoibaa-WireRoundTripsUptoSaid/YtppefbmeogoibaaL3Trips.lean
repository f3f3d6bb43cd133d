/- The walk of the statement WireRoundTrips, where the fields are not too large together. -/
import Derived.Test.YtppefbmeogoibaaL3Known
import Derived.Test.YtppefbmeogoibaaWireLaws
import Derived.Test.YtppefbmeogoibaaBase2
namespace Go.Proofs.Ytppefbmeogoibaa
open Go.RowKit

/-- The blocks below 'B'. -/
def Lo (B : Nat) : Nat → Prop := fun b => b < B
set_option maxHeartbeats 2000000 in
set_option maxRecDepth 100000 in
theorem wtrips_any {S : Nat → Prop} {A : Option Addr} {n c : Nat} {l : List Fld} (w : World) (hl0 : Sl Rep.fld w S A n c l) (hb : l.length + tot l ≤ 1099511627776) :
    Calls Try.prog 11 #[.slice A n c] w fun e w' => e = .returned (.bool true) ∧ Below w.heap.size w w' := by
  have hl : Sl Rep.fld w (Lo w.heap.size) A n c l := hl0.mono fun b _ hb => hb
  have hbig := big_any w hl0 hb
  clear hl0
  by_cases h400 : 400 < l.length + tot l
  · rw [decide_eq_true h400] at hbig
    have Hbig := Lib.hid hbig; clear hbig h400
    go_enter Try.func11, Try.ntmps11
    go_wp2_with fail
    refine Hbig.out.mono ?_
    rintro e w1 ⟨rfl, hb1⟩
    go_wp2_with (go_at_call 21; refine (known3 _).mono ?_; rintro e w2 ⟨rfl, h2⟩)
    go_ret
    exact ⟨rfl, Grw.step hb1 h2⟩
  rw [decide_eq_false h400] at hbig
  have Hbig := Lib.hid hbig; clear hbig
  have Hlen := Lib.hid hl.len
  have hn : n + tot l ≤ 400 := by have := hl.len; omega
  clear h400 hb
  go_enter Try.func11, Try.ntmps11
  go_wp2_with fail
  refine Hbig.out.mono ?_
  rintro e w1 ⟨rfl, hb1⟩
  go_wp2_with fail
  go_loopw [3, 5, 21] (fun v u i wr => ∃ (k m q : Nat) (A1 A2 : Option Addr) (c1 c2 : Nat) (gs : List Fld), i = .int .i64 k ∧ v = .slice A1 m c1 ∧ u = .slice A2 q c2 ∧ k ≤ n ∧ gs.length = k ∧ m ≤ 20 * k + tot (l.take k) ∧
    Sl Rep.u8 wr All A1 m c1 (encs gs) ∧ OwnG Rep.fld 41 wr w.heap.size (.slice A2 q c2) q gs ∧ (∀ f ∈ gs, f.ok = true ∧ f.val < U64 ∧ f.byt.length < U64) ∧ Below w.heap.size w wr) (fun _ _ i _ => n - (intOf i).toNat)
  case atStart => exact ⟨0, 0, 0, none, none, 0, 0, [], rfl, rfl, rfl, by omega, rfl, by omega, Sl.nil_ _ _ _, OwnG.nil_ _ _ _ _, by simp, hb1⟩
  case round =>
    obtain ⟨k, m, q, A1, A2, c1, c2, gs, rfl, rfl, rfl, hk, hgk, hm, hsm, hwant, hgs, hbel⟩ := hrel
    have hbz := hbel.size
    have htk := tot_le l k
    have hm2 : m ≤ 8400 := by omega
    have hq2 : q ≤ 400 := by have := hwant.len; omega
    have Hgk := Lib.hid hgk; have Hgs := Lib.hid hgs; have Hm := Lib.hid hm
    clear hgk hgs hm htk hb1
    by_cases hlt : (k : Int) < (n : Int)
    · have hkl : k < l.length := by rw [← Hlen.out]; omega
      obtain ⟨ad, B, qf, d, hA, hf, x0, x1, x2, x3⟩ := (hl.keep (Same.below hbel)).fld hkl
      have hbl := byt_le l hkl
      have hts := tot_take l hkl
      have Hts := Lib.hid hts
      have Hl := Lib.hid hl
      subst hA
      clear hl hts
      generalize l[k] = f at *
      go_wp2_with fail
      refine (near_zero _ (hf.keep (Same.alloc _ _ _))).mono ?_
      rintro e w2 ⟨B2, q2, d2, g, rfl, hg, hgl, hok, hb2⟩
      have g2 : Below wr.heap.size wr w2 := Grw.step (Grw.alloc (Below.refl _ _) _) hb2
      have hq2b : q2 ≤ 400 := by have := hg.sl.len; omega
      have hU : g.byt.length < U64 := by have := hg.sl.len; unfold U64; omega
      have henc := Fld.enc_le g hok hg.val hU
      have HU := Lib.hid hU
      clear hf hU x0 x1 x2 x3 hb2
      have hgb := hg.keep (Same.alloc (Lo w.heap.size) w2 (.cells #[.int .i64 g.num, .int .i64 g.kind, .int .u64 g.val, .slice B2 q2 d2] 41))
      have hbx := Box.new w2 41 [.int .i64 g.num, .int .i64 g.kind, .int .u64 g.val, .slice B2 q2 d2] rfl
      have hsmb := (hsm.keep (Same.below g2)).keep (Same.alloc All w2 (.cells #[.int .i64 g.num, .int .i64 g.kind, .int .u64 g.val, .slice B2 q2 d2] 41))
      have hwb := (hwant.below g2).alloc (.cells #[.int .i64 g.num, .int .i64 g.kind, .int .u64 g.val, .slice B2 q2 d2] 41)
      have g3 := Grw.alloc (Grw.step hbel g2) (.cells #[.int .i64 g.num, .int .i64 g.kind, .int .u64 g.val, .slice B2 q2 d2] 41)
      have hwlt2 : ∀ b, (Value.slice A2 q c2).ownBlock = some b → b < w2.heap.size := fun b hb => ((hwant.below g2).lt b hb).2
      have hwlo : ∀ b, (Value.slice A2 q c2).ownBlock = some b → w.heap.size ≤ b := fun b hb => (hwant.lt b hb).1
      clear hsm hwant g2 hg
      go_wp2_with fail
      refine (wappend_any _ hsmb hgb hok (by omega) (by omega)).mono ?_
      rintro e w4 ⟨A4, n4, c4, rfl, hown4, hb4⟩
      have hbx4 := hbx.below hb4
      have hg4 := hgb.keep (Same.below hb4)
      have hwlt := hwb.lt
      have hw4 := hwb.below hb4
      have g4 := Grw.step g3 hb4
      have hn4 : n4 = m + g.enc.length := by have := hown4.len; have := hsmb.len; simp only [List.length_append] at *; omega
      have Hn4 := Lib.hid hn4
      have hn4b : n4 ≤ 8820 := by omega
      have y0 := hbx4.cell 0 rfl
      have y1 := hbx4.cell 1 rfl
      have y2 := hbx4.cell 2 rfl
      have y3 := hbx4.cell 3 rfl
      clear hn4 hbx
      have hne : ((n4 : Int) != (m : Int) + (g.enc.length : Int)) = false := by rw [Hn4.out]; simp
      go_wp2_with fail
      refine (wsize_any _ hg4 (by omega)).mono ?_
      rintro e w5 ⟨rfl, hb5⟩
      rw [hok]
      simp only [if_true]
      have hbx5 := hbx4.below hb5
      have hg5 := hg4.keep (Same.below hb5)
      have hw5 := hw4.below hb5
      have ho5 := (hown4.below hb5).sl (S' := Ge w2.heap.size) (fun _ h => h.elim) (fun b hb _ => by unfold Ge; simp at hb; omega)
      have g5 := Grw.step g4 hb5
      clear y0 y1 y2 y3
      have y0 := hbx5.cell 0 rfl
      have y1 := hbx5.cell 1 rfl
      have y2 := hbx5.cell 2 rfl
      have y3 := hbx5.cell 3 rfl
      go_wp2_with (at_builtin; refine Stop.mk ?_)
      have hwnot : ∀ b, w2.heap.size ≤ b → (Value.slice A2 q c2).ownBlock ≠ some b := fun b hb e => by have := (hwlt2 b e); omega
      refine Stop.un (wpList_appG eltF rfl rfl (hw5.alloc _) rfl (Sl.litOf (R := Rep.fld) (S := Lo w.heap.size) [g] (Rep.all_one (hg5.keep (Same.alloc _ _ _)).shut) (by rfl) (by simp [maxLen]) (by simp)) rfl
        (fun b hb e => by
          rcases hb with hb | hb
          · have := hwlo b e; unfold Lo at hb; omega
          · exact hw5.not (by omega) e) (by omega) (by simp only [maxLen]; omega) (by have := g5.size; simp; omega) ?_)
      intro A6 n6 c6 w6 hn6 hw6 hb6 hg6
      have ho6 := ((ho5.keep (Same.alloc _ _ (.cells #[.int .i64 g.num, .int .i64 g.kind, .int .u64 g.val, .slice B2 q2 d2] 41))).keep (Same.grown hg6 (fun b hb e => hwnot b hb e.symm))).all
      have g6 := (g5.alloc (by have := g5.size; omega) (.cells #[.int .i64 g.num, .int .i64 g.kind, .int .u64 g.val, .slice B2 q2 d2] 41)).trans hb6
      rw [← encs_snoc] at ho6
      go_wp2_with fail
      go_roundw
      case rel =>
        refine ⟨k + 1, n4, n6, A4, A6, c4, c6, gs ++ [g], by go_num, rfl, rfl, by omega, by rw [List.length_append, Hgk.out]; rfl, ?_, ho6, hw6, ?_, g6⟩
        · have h1 := Hn4.out; have h2 := Hm.out; have h3 := Hts.out; omega
        · intro f' hf'
          rcases List.mem_append.1 hf' with h | h
          · exact Hgs.out f' h
          · rw [List.mem_singleton.1 h]; exact ⟨hok, hgb.val, HU.out⟩
      case measure => simp [intOf]; omega
    · have hkn : gs.length ≤ 1024 := by have := Hgk.out; omega
      have hfl := flds_encs gs hkn Hgs.out
      have Hfl := Lib.hid hfl; clear hfl hkn
      have hqn : q = gs.length := hwant.len
      have Hqn := Lib.hid hqn; clear hqn
      go_wp2_with fail
      refine (wfields_any _ hsm (by omega)).mono ?_
      rintro e w3 ⟨A3, n3, c3, rfl, hown3, hb3⟩
      rw [Hfl.out] at hown3 ⊢
      have h9 := hown3.sla
      have h9n := Lib.hid hown3.len
      have hn3 : n3 ≤ 1024 := by have := hown3.len; have := Hgk.out; simp only at *; omega
      have q0 := hwant.sla
      clear hown3 hwant hl
      go_wp2_with fail
      obtain ⟨wo, rfl⟩ : ∃ wo : World, wo = wr := ⟨_, rfl⟩
      go_loopw [4, 59] (fun v i wi => ∃ (j mm : Nat) (A' : Option Addr) (c' : Nat), i = .int .i64 j ∧ v = .slice A' mm c' ∧ j ≤ n3 ∧ mm ≤ 8400 ∧ Own Rep.u8 5 wi w3.heap.size No (.slice A' mm c') mm (encs (gs.take j)) ∧ Below w3.heap.size w3 wi) (fun _ i _ => n3 - (intOf i).toNat)
      case atStart => exact ⟨0, 0, none, 0, rfl, rfl, by omega, by omega, Own.nil_ _ _ _ _ _, Below.refl _ _⟩
      case round =>
        obtain ⟨j, mm, A', c', rfl, rfl, hj, hmm, hownm, hbelm⟩ := hrel
        by_cases hltj : (j : Int) < (n3 : Int)
        · have hjl : j < gs.length := by rw [← h9n.out]; omega
          obtain ⟨ad5, B5, q5, d5, hA5, hf5, z0, z1, z2, z3⟩ := (h9.keep (Same.below hbelm)).fld hjl
          have hok := (Hgs.out gs[j] (List.getElem_mem hjl)).1
          have hbl := byt_le_encs gs hjl hok
          have hstep := Lib.hid (encs_take gs hjl)
          have hle := encs_take_le gs (j + 1)
          have hsl := hsm.len
          have hq5 : q5 ≤ 8400 := by have := hf5.sl.len; omega
          have Hle := Lib.hid (show (encs (gs.take (j + 1))).length ≤ 8400 by omega)
          have h9' := Lib.hid h9
          subst hA5
          clear hbl hle h9 hsl
          generalize gs[j] = f5 at *
          have hf5' := hf5.keep (Same.alloc All wr (.cells #[.int .i64 f5.num, .int .i64 f5.kind, .int .u64 f5.val, .slice B5 q5 d5] 41))
          have hm5 := hownm.sla.keep (Same.alloc All wr (.cells #[.int .i64 f5.num, .int .i64 f5.kind, .int .u64 f5.val, .slice B5 q5 d5] 41))
          have g5 : Below w3.heap.size w3 (wr.alloc (.cells #[.int .i64 f5.num, .int .i64 f5.kind, .int .u64 f5.val, .slice B5 q5 d5] 41)) := Grw.alloc hbelm _
          clear hf5 hownm
          go_wp2_with fail
          refine (wappend_any _ hm5 hf5' hok (by omega) (by omega)).mono ?_
          rintro e w5 ⟨A6, n6, c6, rfl, hown6, hb6⟩
          rw [← hstep.out] at hown6
          have hn6 : n6 ≤ 8400 := by have := hown6.len; have := Hle.out; omega
          go_wp2_with fail
          go_roundw
          case rel => exact ⟨j + 1, n6, A6, c6, by go_num, rfl, by omega, hn6, hown6.base g5.size, Grw.step g5 hb6⟩
          case measure => simp [intOf]; omega
        · have hjn : j = gs.length := by have := h9n.out; omega
          have heq : encs (gs.take j) = encs gs := by rw [hjn, List.take_length]
          rw [heq] at hownm
          clear hjn heq
          go_wp2_with fail
          refine (samef_any _ (h9.keep (Same.below hbelm)) ((q0.keep (Same.below hb3)).keep (Same.below hbelm)) (by omega)).mono ?_
          rintro e w5 ⟨rfl, hb5⟩
          go_wp2_with fail
          refine (same_yes _ (hownm.sla.keep (Same.below hb5)) (((hsm.keep (Same.below hb3)).keep (Same.below hbelm)).keep (Same.below hb5)) rfl).mono ?_
          rintro e w6 ⟨rfl, rfl⟩
          go_wp2_with (go_at_call 21; refine (known3 _).mono ?_; rintro e w1 ⟨rfl, h2⟩)
          go_ret
          exact ⟨rfl, Grw.step (Grw.step (Grw.step (Grw.step hbel hb3) hbelm) hb5) h2⟩
end Go.Proofs.Ytppefbmeogoibaa
