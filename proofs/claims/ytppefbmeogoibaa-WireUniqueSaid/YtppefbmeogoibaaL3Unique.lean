/- The walk of the statement WireUnique. -/
import Derived.Test.YtppefbmeogoibaaL3Known
import Derived.Test.YtppefbmeogoibaaWireLaws
namespace Go.Proofs.Ytppefbmeogoibaa
open Go.RowKit

set_option maxHeartbeats 2000000 in
set_option maxRecDepth 100000 in
theorem wunique_any {S S' : Nat → Prop} {A A' : Option Addr} {n c n' c' : Nat} {l l' : List UInt8} (w : World) (hl : Sl Rep.u8 w S A n c l) (hl' : Sl Rep.u8 w S' A' n' c' l') :
    Calls Try.prog 8 #[.slice A n c, .slice A' n' c'] w fun e w' => e = .returned (.bool true) ∧ Below w.heap.size w w' := by
  by_cases hbig : (200 : Int) < (n : Int)
  · go_enter Try.func8, Try.ntmps8
    go_wp2_with (go_at_call 21; refine (known3 _).mono ?_; rintro e w1 ⟨rfl, h2⟩)
    go_ret
    exact ⟨rfl, h2⟩
  by_cases hbig' : (60 : Int) < (n' : Int)
  · go_enter Try.func8, Try.ntmps8
    go_wp2_with (go_at_call 21; refine (known3 _).mono ?_; rintro e w1 ⟨rfl, h2⟩)
    go_ret
    exact ⟨rfl, h2⟩
  have Hln := Lib.hid hl.len
  have Hln' := Lib.hid hl'.len
  go_enter Try.func8, Try.ntmps8
  go_wp2_with fail
  go_loopw [5, 27] (fun v i wr => ∃ (k m : Nat) (A3 : Option Addr) (c3 : Nat) (d : List UInt8), i = .int .i64 k ∧ v = .slice A3 m c3 ∧ k ≤ n' ∧ m ≤ 2 * k ∧ Own Rep.u8 5 wr w.heap.size No (.slice A3 m c3) m d ∧ Below w.heap.size w wr) (fun _ i _ => n' - (intOf i).toNat)
  case atStart => exact ⟨0, 0, none, 0, [], rfl, rfl, by omega, by omega, Own.nil_ _ _ _ _ _, Below.refl _ _⟩
  case round =>
    obtain ⟨k, m, A3, c3, d, rfl, rfl, hk, hmk, hown, hbel⟩ := hrel
    have hbz := hbel.size
    have hm : m ≤ 120 := by omega
    by_cases hlt : (k : Int) < (n' : Int)
    · have hkl : k < l'.length := by rw [← Hln'.out]; omega
      obtain ⟨ad, hA, hc⟩ := (hl'.keep (Same.below hbel)).byte hkl
      have Hl' := Lib.hid hl'; clear hl'
      subst hA
      have hx := l'[k].toNat_lt
      generalize l'[k].toNat = y at *
      have hlit := Sl.litB (w := wr) (t := 5) [8, 18, 1, 0, 2, 97, 128, 255, 26, 16] rfl (n := 10) rfl (by simp [maxLen]) (b := wr.heap.size) rfl (fr := (0, 0))
      obtain ⟨u, hu⟩ : ∃ u : UInt8, (wr.alloc (.cells #[.int .u8 8, .int .u8 18, .int .u8 1, .int .u8 0, .int .u8 2, .int .u8 97, .int .u8 128, .int .u8 255, .int .u8 26, .int .u8 16] 5)).cell? ⟨wr.heap.size, y % 10, none⟩ = some (.int .u8 (u.toNat : Int)) := by
        obtain ⟨ad2, hA2, hc2⟩ := hlit.byte (k := y % 10) (by simp; omega)
        injection hA2 with hA2; subst hA2
        have hadd : (⟨wr.heap.size, 0, none⟩ : Addr).add (y % 10) = ⟨wr.heap.size, y % 10, none⟩ := by unfold Addr.add; split <;> simp_all
        rw [hadd] at hc2
        exact ⟨_, hc2⟩
      clear hlit
      go_wp2_with (at_builtin; refine Stop.mk ?_)
      refine Stop.un (wpList_app eltB rfl rfl ((hown.alloc _).alloc _) rfl (Sl.litOf (R := Rep.u8) (S := No) [u] (Rep.all_one rfl) (by rfl) (by simp [maxLen]) (by simp)) rfl id (by omega) (by simp only [maxLen]; omega) (by simp; omega) (fun h => h) ?_)
      intro A4 n4 c4 w4 hn4 hown4 hb4 _ _
      have g4 : Below w.heap.size w w4 := ((hbel.alloc hbz _).alloc (by simp; omega) _).trans hb4
      have hn4b : n4 ≤ 121 := by have := hn4.out; omega
      have hbz4 := g4.size
      clear hu hb4 hown
      by_cases hkn : (k : Int) < (n : Int)
      · by_cases hy : (200 : Int) ≤ (y : Int)
        · have hkl2 : k < l.length := by rw [← Hln.out]; omega
          obtain ⟨ad3, hA3, hc3⟩ := (hl.keep (Same.below g4)).byte hkl2
          have Hl := Lib.hid hl; clear hl
          subst hA3
          generalize l[k] = u3 at *
          go_wp2_with (at_builtin; refine Stop.mk ?_)
          refine Stop.un (wpList_app eltB rfl rfl (hown4.alloc _) rfl (Sl.litOf (R := Rep.u8) (S := No) [u3] (Rep.all_one rfl) (by rfl) (by simp [maxLen]) (by simp)) rfl id (by omega) (by simp only [maxLen]; omega) (by simp; omega) (fun h => h) ?_)
          intro A5 n5 c5 w5 hn5 hown5 hb5 _ _
          go_wp2_with fail
          go_roundw
          case rel => exact ⟨k + 1, n5, A5, c5, _, by go_num, rfl, by omega, by have := hn4.out; have := hn5.out; omega, hown5, (g4.alloc hbz4 _).trans hb5⟩
          case measure => simp [intOf]; omega
        · go_wp2_with fail
          go_roundw
          case rel => exact ⟨k + 1, n4, A4, c4, _, by go_num, rfl, by omega, by have := hn4.out; omega, hown4, g4⟩
          case measure => simp [intOf]; omega
      · go_wp2_with fail
        go_roundw
        case rel => exact ⟨k + 1, n4, A4, c4, _, by go_num, rfl, by omega, by have := hn4.out; omega, hown4, g4⟩
        case measure => simp [intOf]; omega
    · clear hl'
      go_wp2_with fail
      have q0 := (hl.keep (Same.below hbel)).all
      have q1 := hown.sla
      have hsm : ∀ x ∈ [l, d], x.length ≤ 200 := by
        have h1 := Hln.out; have h2 := hown.len
        intro x hx
        simp only [List.mem_cons, List.not_mem_nil, or_false] at hx
        rcases hx with rfl | rfl <;> omega
      refine wp_world (fun W => Below w.heap.size w W ∧ ∃ xs : List (List UInt8), (∀ x ∈ xs, x.length ≤ 200) ∧ Sl Rep.u8.slice W All (some ⟨wr.heap.size, 0, none⟩) 2 2 xs)
        ⟨Grw.alloc hbel _, _, hsm, (Sl.litOf (R := Rep.u8.slice) (S := All) [l, d] (Rep.all_cons (Rep.slice_one (q0.keep (Same.alloc _ _ _))) (Rep.all_cons (Rep.slice_one (q1.keep (Same.alloc _ _ _))) (Rep.all_nil _ _ _))) rfl (by simp [maxLen]) rfl).all⟩ ?_
      generalize (some ⟨wr.heap.size, 0, none⟩ : Option Addr) = AL
      clear q0 q1 hbel hown hl hsm hbz
      rintro W1 ⟨hg, xs, hsm, hx⟩
      have Hxs := Lib.hid hx.len
      have Hsm := Lib.hid hsm; clear hsm
      go_loopw [60] (fun i wr => ∃ q : Nat, i = .int .i64 q ∧ q ≤ 2 ∧ Below W1.heap.size W1 wr) (fun i _ => 2 - (intOf i).toNat)
      case atStart => exact ⟨0, rfl, by omega, Below.refl _ _⟩
      case round =>
        obtain ⟨q, rfl, hq, hbel⟩ := hrel
        by_cases hlt : (q : Int) < 2
        · have hql : q < xs.length := by rw [← Hxs.out]; omega
          obtain ⟨ad, u, hA, _, _, hu, hc⟩ := (hx.keep (Same.below hbel)).cell rfl hql
          obtain ⟨A8, n8, c8, rfl, h8⟩ := Rep.slice_open hu
          have hs8 := Hsm.out xs[q] (List.getElem_mem hql)
          have h8n := Lib.hid h8.len
          have hn8 : n8 ≤ 200 := by have := h8n.out; omega
          subst hA
          clear hx hu hs8
          generalize xs[q] = y at *
          go_wp2_with fail
          refine (wfields_any _ h8 (by omega)).mono ?_
          rintro e w1 ⟨A9, n9, c9, rfl, hown9, hb9⟩
          have hinv := flds_inv y
          generalize flds y = r at *
          obtain ⟨fs, pos, er⟩ := r
          simp only at hinv hown9
          by_cases h0 : er = 0
          · subst h0
            obtain ⟨h1, h2, h3, h4⟩ := hinv.1 rfl
            subst h1
            have H2 := Lib.hid h2; have H3 := Lib.hid h3
            have h9 := hown9.sla
            have h9n := Lib.hid hown9.len
            clear hinv h2 h3 hown9
            go_wp2_with fail
            have hy200 : (encs fs).length ≤ 200 := by rw [H2.out]; have := h8n.out; omega
            obtain ⟨wo, rfl⟩ : ∃ wo : World, wo = wr := ⟨_, rfl⟩
            go_loopw [13, 87] (fun v i wi => ∃ (j mm : Nat) (A' : Option Addr) (c' : Nat), i = .int .i64 j ∧ v = .slice A' mm c' ∧ j ≤ n9 ∧ mm ≤ 200 ∧ Own Rep.u8 5 wi w1.heap.size No (.slice A' mm c') mm (encs (fs.take j)) ∧ Below w1.heap.size w1 wi) (fun _ i _ => n9 - (intOf i).toNat)
            case atStart => exact ⟨0, 0, none, 0, rfl, rfl, by omega, by omega, Own.nil_ _ _ _ _ _, Below.refl _ _⟩
            case round =>
              obtain ⟨j, mm, A', c', rfl, rfl, hj, hmm, hownm, hbelm⟩ := hrel
              by_cases hltj : (j : Int) < (n9 : Int)
              · have hjl : j < fs.length := by rw [← h9n.out]; omega
                obtain ⟨ad5, B5, q5, d5, hA5, hf5, g0, g1, g2, g3⟩ := (h9.keep (Same.below hbelm)).fld hjl
                have hok := (H3.out fs[j] (List.getElem_mem hjl)).1
                have hbl := byt_le_encs fs hjl hok
                have hstep := Lib.hid (encs_take fs hjl)
                have hle := encs_take_le fs (j + 1)
                have hq5 : q5 ≤ 200 := by have := hf5.sl.len; omega
                have Hle := Lib.hid hle
                have h9' := Lib.hid h9
                subst hA5
                clear hbl hle h9
                generalize fs[j] = f5 at *
                have hf5' := hf5.keep (Same.alloc All wr (.cells #[.int .i64 f5.num, .int .i64 f5.kind, .int .u64 f5.val, .slice B5 q5 d5] 41))
                have hm5 := hownm.sla.keep (Same.alloc All wr (.cells #[.int .i64 f5.num, .int .i64 f5.kind, .int .u64 f5.val, .slice B5 q5 d5] 41))
                have g5 : Below w1.heap.size w1 (wr.alloc (.cells #[.int .i64 f5.num, .int .i64 f5.kind, .int .u64 f5.val, .slice B5 q5 d5] 41)) := Grw.alloc hbelm _
                clear hf5 hownm
                go_wp2_with fail
                refine (wappend_any _ hm5 hf5' hok (by omega) (by omega)).mono ?_
                rintro e w5 ⟨A6, n6, c6, rfl, hown6, hb6⟩
                rw [← hstep.out] at hown6
                have hn6 : n6 ≤ 200 := by have := hown6.len; have := Hle.out; omega
                go_wp2_with fail
                go_roundw
                case rel => exact ⟨j + 1, n6, A6, c6, by go_num, rfl, by omega, hn6, hown6.base g5.size, Grw.step g5 hb6⟩
                case measure => simp [intOf]; omega
              · have hjn : j = fs.length := by have := h9n.out; omega
                have heq : encs (fs.take j) = y := by rw [hjn, List.take_length]; exact H2.out
                rw [heq] at hownm
                clear hjn heq
                go_wp2_with fail
                refine (same_yes _ hownm.sla ((h8.keep (Same.below hb9)).keep (Same.below hbelm)) rfl).mono ?_
                rintro e w5 ⟨rfl, rfl⟩
                go_wp2_with fail
                go_roundw
                case rel => exact ⟨q + 1, by go_num, by omega, Grw.step (Grw.step hbel hb9) hbelm⟩
                case measure => simp [intOf]; omega
          · obtain ⟨h1, h2⟩ := hinv.2 h0
            subst h1
            obtain rfl : n9 = 0 := hown9.len
            have h0' : ((er : Int) != 0) = true := by simp; omega
            have hp : (pos : Int) < (n8 : Int) := by have := h8n.out; omega
            clear hinv h0 h2 hown9
            go_wp2_with fail
            go_roundw
            case rel => exact ⟨q + 1, by go_num, by omega, Grw.step hbel hb9⟩
            case measure => simp [intOf]; omega
        · go_wp2_with (go_at_call 21; refine (known3 _).mono ?_; rintro e w1 ⟨rfl, h2⟩)
          go_ret
          exact ⟨rfl, Grw.step (Grw.step hg hbel) h2⟩
end Go.Proofs.Ytppefbmeogoibaa
