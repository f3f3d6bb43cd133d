/- The walk of the statement. -/
import Derived.Test.YtppefbmeogoibaaL2Known
namespace Go.Proofs.Ytppefbmeogoibaa
open Go.RowKit


set_option maxHeartbeats 1000000 in
set_option maxRecDepth 100000 in
theorem reads_any {S S' : Nat → Prop} {A A' : Option Addr} {n c n' c' : Nat} {l l' : List UInt8} (w : World) (hl : Sl Rep.u8 w S A n c l) (hl' : Sl Rep.u8 w S' A' n' c' l') (s : Nat) (hs : s < 256) :
    Calls Try.prog 4 #[.slice A n c, .slice A' n' c', .int .u8 s] w fun e w' => e = .returned (.bool true) ∧ Below w.heap.size w w' := by
  by_cases hbig : (200 : Int) < (n : Int)
  · go_enter Try.func4, Try.ntmps4
    go_wp2_with (go_at_call 12; go_must (refine (known2 _).mono ?_); rintro e w1 ⟨rfl, h2⟩)
    go_ret
    exact ⟨rfl, h2⟩
  by_cases hbig' : (14 : Int) < (n' : Int)
  · go_enter Try.func4, Try.ntmps4
    go_wp2_with (go_at_call 12; go_must (refine (known2 _).mono ?_); rintro e w1 ⟨rfl, h2⟩)
    go_ret
    exact ⟨rfl, h2⟩
  obtain ⟨us, hus⟩ := byteOf s hs
  obtain ⟨ua, hua⟩ := andbyte s hs
  have Hua := Lib.hid hua; clear hua
  have Hus := Lib.hid hus; clear hus
  have Hln := Lib.hid hl'.len
  go_enter Try.func4, Try.ntmps4
  go_wp2_with fail
  go_loopw [7, 29] (fun v i wr => ∃ (k m : Nat) (A3 : Option Addr) (c3 : Nat) (d : List UInt8), i = .int .i64 k ∧ v = .slice A3 m c3 ∧ k ≤ n' ∧ m ≤ k ∧ Own Rep.u8 5 wr w.heap.size No (.slice A3 m c3) m d ∧ Below w.heap.size w wr) (fun _ i _ => n' - (intOf i).toNat)
  case atStart => exact ⟨0, 0, none, 0, [], rfl, rfl, by omega, by omega, Own.nil_ _ _ _ _ _, Below.refl _ _⟩
  case round =>
    obtain ⟨k, m, A3, c3, d, rfl, rfl, hk, hmk, hown, hbel⟩ := hrel
    have hbz := hbel.size
    by_cases hlt : (k : Int) < (n' : Int)
    · have hkl : k < l'.length := by rw [← Hln.out]; omega
      obtain ⟨ad, hA, hc⟩ := (hl'.keep (Same.below hbel)).byte hkl
      have hl'' := Lib.hid hl'; clear hl'
      subst hA
      have hx := l'[k].toNat_lt
      generalize l'[k].toNat = y at *
      obtain ⟨u, hu⟩ := orbyte y (by omega)
      have Hu := Lib.hid hu; clear hu
      go_wp2_with (at_builtin; go_must (refine wpList_app eltB rfl rfl (hown.alloc _) rfl (Sl.litOf (R := Rep.u8) (S := No) [u] (Rep.all_one (by show [_] = [_]; rw [Hu.out])) (by rfl) (by simp [maxLen]) rfl) rfl id (by omega) (by simp only [maxLen]; omega) (by simp; omega) (fun h => h) ?_); intro A4 n4 c4 w4 hn4 hown4 hb4 _ _)
      go_roundw
      case rel => exact ⟨k + 1, n4, A4, c4, _, by go_num, rfl, by omega, by have := hn4.out; omega, hown4, (hbel.alloc hbz _).trans hb4⟩
      case measure => simp [intOf]; omega
    · clear hl'
      have hn14 : m ≤ 14 := by omega
      go_wp2_with (at_builtin; refine Stop.mk ?_)
      refine Stop.un (wpList_appE eltB rfl rfl (base := wr.heap.size) No rfl rfl (hown.alloc _).sla rfl id (by omega) (by simp only [maxLen]; omega) (Nat.le_refl _) (fun h => h) (fun h => h) ?_)
      intro A4 c4 w4 hown4 hb4
      have hbz4 := hb4.size
      go_wp2_with (at_builtin; refine Stop.mk ?_)
      refine Stop.un (wpList_app eltB rfl rfl (hown4.alloc _) rfl (Sl.litOf (R := Rep.u8) (S := No) [us] (Rep.all_one (by show [_] = [_]; rw [Hus.out])) (by rfl) (by simp [maxLen]) rfl) rfl id (by omega) (by simp only [maxLen]; omega) (by simp; omega) (fun h => h) ?_)
      intro A5 n5 c5 w5 hn5 hown5 hb5 _ _
      have g5 : Below wr.heap.size wr w5 := (Grw.alloc hb4 _).trans hb5
      clear hb4 hb5 hown4 hbz4
      go_wp2_with (at_builtin; refine Stop.mk ?_)
      refine Stop.un (wpList_appE eltB rfl rfl (base := w5.heap.size) No rfl rfl ((hown.below g5).alloc _).sla rfl id (by omega) (by simp only [maxLen]; omega) (Nat.le_refl _) (fun h => h) (fun h => h) ?_)
      intro A6 c6 w6 hown6 hb6
      have hbz6 := hb6.size
      go_wp2_with (at_builtin; refine Stop.mk ?_)
      refine Stop.un (wpList_app eltB rfl rfl (hown6.alloc _) rfl (Sl.litOf (R := Rep.u8) (S := No) [ua, 1] (Rep.all_cons (by show [_] = [_]; rw [Hua.out]) (Rep.all_one rfl)) (by rfl) (by simp [maxLen]) rfl) rfl id (by omega) (by simp only [maxLen]; omega) (by simp; omega) (fun h => h) ?_)
      intro A7 n7 c7 w7 hn7 hown7 hb7 _ _
      have g7 : Below w5.heap.size w5 w7 := (Grw.alloc hb6 _).trans hb7
      clear hb6 hb7 hown6 hbz6
      go_wp2_with fail
      have q0 := (hl.keep (Same.below (Grw.step (Grw.step hbel g5) g7))).all
      have q1 := (hown.below (Grw.step g5 g7)).sla
      have q2 := (hown5.below g7).sla
      have q3 := hown7.sla
      clear hown hown5 hown7 hl
      refine wp_world (fun W => Below w.heap.size w W ∧ ∃ xs, Sl Rep.u8.slice W All (some ⟨w7.heap.size, 0, none⟩) 4 4 xs)
        ⟨Grw.alloc (Grw.step (Grw.step hbel g5) g7) _, _, (Sl.litOf (S := All) [l, d, d ++ [us], d ++ [ua, 1]] (Rep.all_cons (Rep.slice_one (q0.keep (Same.alloc _ _ _))) (Rep.all_cons (Rep.slice_one (q1.keep (Same.alloc _ _ _))) (Rep.all_cons (Rep.slice_one (q2.keep (Same.alloc _ _ _))) (Rep.all_cons (Rep.slice_one (q3.keep (Same.alloc _ _ _))) (Rep.all_nil _ _ _))))) rfl (by simp [maxLen]) rfl).mono fun _ _ _ => trivial⟩ ?_
      generalize (some ⟨w7.heap.size, 0, none⟩ : Option Addr) = AL
      clear q0 q1 q2 q3 g5 g7 hbel
      rintro W1 ⟨hg, xs, hx⟩
      have Hxs := Lib.hid hx.len
      go_loop [56] (fun i => ∃ k : Nat, i = .int .i64 k ∧ k ≤ 4) (fun i => 4 - (intOf i).toNat)
      case atStart => exact ⟨0, rfl, by omega⟩
      case round =>
        obtain ⟨k, rfl, hk⟩ := hrel
        by_cases hlt : (k : Int) < 4
        · have hkl : k < xs.length := by rw [← Hxs.out]; omega
          obtain ⟨ad, u, hA, _, _, hu, hc⟩ := hx.cell rfl hkl
          obtain ⟨A8, n8, c8, rfl, h8⟩ := Rep.slice_open hu
          subst hA
          clear hx hu
          generalize xs[k] = y at *
          go_wp2_with fail
          refine (read_any _ h8).mono ?_
          rintro e w1 ⟨rfl, rfl⟩
          go_wp2_with fail
          refine (rread_any _ h8).mono ?_
          rintro e w1 ⟨rfl, rfl⟩
          go_wp2_with fail
          go_round
          case rel => exact ⟨k + 1, by go_num, by omega⟩
          case measure => simp [intOf]; omega
        · go_wp2_with (go_at_call 12; go_must (refine (known2 _).mono ?_); rintro e w1 ⟨rfl, h2⟩)
          go_ret
          exact ⟨rfl, Grw.step hg h2⟩end Go.Proofs.Ytppefbmeogoibaa
