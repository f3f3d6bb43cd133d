/- The walk of the statement. -/
import Derived.Test.YtppefbmeogoibaaL2Known
namespace Go.Proofs.Ytppefbmeogoibaa
open Go.RowKit


set_option maxHeartbeats 1000000 in
set_option maxRecDepth 100000 in
theorem unique_any {S : Nat → Prop} {A : Option Addr} {n c : Nat} {l : List UInt8} (w : World) (hl : Sl Rep.u8 w S A n c l) (h : Nat) :
    Calls Try.prog 6 #[.slice A n c, .int .u16 h] w fun e w' => e = .returned (.bool true) ∧ Below w.heap.size w w' := by
  by_cases hbig : (12 : Int) < (n : Int)
  · go_enter Try.func6, Try.ntmps6
    go_wp2_with (go_at_call 12; go_must (refine (known2 _).mono ?_); rintro e w1 ⟨rfl, h2⟩)
    go_ret
    exact ⟨rfl, h2⟩
  go_enter Try.func6, Try.ntmps6
  go_wp2_with (at_builtin; refine Stop.mk ?_)
  refine Stop.un (wpList_appE eltB rfl rfl (base := w.heap.size) No rfl rfl (hl.keep (Same.alloc _ _ _)) rfl id (by omega) (by simp only [maxLen]; omega) (Nat.le_refl _) (fun h => h) (fun h => h) ?_)
  intro A2 c2 w2 hown2 hb2
  clear hl
  go_wp2_with fail
  go_loopw [19] (fun i wr => ∃ (k : Nat) (d : List UInt8), i = .int .i64 k ∧ k ≤ n ∧ Own Rep.u8 5 wr w.heap.size No (.slice A2 n c2) n d ∧ Below w.heap.size w wr) (fun i _ => n - (intOf i).toNat)
  case atStart => exact ⟨0, l, rfl, by omega, hown2, hb2⟩
  case round =>
    obtain ⟨k, d, rfl, hk, hown, hbel⟩ := hrel
    clear hown2 hb2
    by_cases hlt : (k : Int) < (n : Int)
    · have hkl : k < d.length := by rw [← hown.len]; omega
      obtain ⟨g, u, hA, hgb, hgs, hu, hc, hf, hset⟩ := hown.row1 rfl hkl
      subst hA
      have hu := (List.cons.inj (show [u] = [_] from hu)).1
      subst hu
      have hx := d[k].toNat_lt
      generalize d[k].toNat = y at *
      obtain ⟨u2, hu2⟩ := orbyte y (by omega)
      have Hset := Lib.hid (hset (.int .u8 u2.toNat) u2 rfl); clear hset
      rw [← hu2] at Hset
      clear hu2
      go_wp2_with fail
      · go_roundw
        case rel => exact ⟨k + 1, _, by go_num, by omega, Hset.out, hbel.setCell hgb _⟩
        case measure => simp [intOf]; omega
      · go_roundw
        case rel => exact ⟨k + 1, d, by go_num, by omega, hown, hbel⟩
        case measure => simp [intOf]; omega
    · have hs1 := hown.sla
      have hdl := Lib.hid hown.len
      clear hown
      have hle := hs1.le
      have hcap := hs1.cap
      go_wp2_with fail
      refine (read_any _ hs1).mono ?_
      rintro e w1 ⟨rfl, rfl⟩
      have hinv := rd_inv d
      generalize rd d = r at *
      obtain ⟨N, sz, er⟩ := r
      simp only at hinv
      by_cases h0 : er = 0
      · subst h0
        obtain ⟨h1, h2, h3, h4⟩ := hinv.2 rfl
        have hsz : sz ≤ n := by have := hdl.out; omega
        clear h2 hinv
        have H3 := Lib.hid h3; have H4 := Lib.hid h4; clear h3 h4
        have i0 : (0 : Int) ≤ (sz : Int) := by omega
        have i1 : (sz : Int) ≤ (n : Int) := by omega
        have i2 : (sz : Int) ≤ (c2 : Int) := by omega
        have hd1 : decide ((1 : Int) ≤ (sz : Int)) = true := by simp; omega
        have hd2 : decide (sz ≤ n) = true := by simp; omega
        have hd3 : decide (1 ≤ sz) = true := by simp; omega
        go_wp2_with fail
        go_region_held3 (fun _ => True) (trivial)
          (first
            | (go_at_call 14; refine (append_any _ (Sl.nil_ Rep.u8 _ No) (by omega) N H4.out).mono ?_; rintro e w5 ⟨A5, n5, c5, rfl, hown5, hb5⟩)
            | (go_at_call 13; refine (same_yes _ hown5.sla (((hs1.take (k := sz) hsz).keep (Same.drew _ _)).keep (Same.below hb5)) (by rw [List.nil_append]; exact H3.out)).mono ?_; rintro e w6 ⟨rfl, rfl⟩)
            | (go_at_call 12; refine (known2 _).mono ?_; rintro e w7 ⟨rfl, h7⟩))
        go_wp2
        go_ret
        exact ⟨rfl, Grw.step (Grw.step (Grw.drew hbel) hb5) h7⟩
      · have h1 := hinv.1 h0
        injection h1 with h1 h2
        injection h2 with h2 _
        subst h1; subst h2
        have h0' : ((er : Int) == 0) = false := by simp; omega
        have h0'' : ((er : Int) != 0) = true := by simp; omega
        clear hinv h0
        go_wp2_with (go_at_call 12; go_must (refine (known2 _).mono ?_); rintro e w1 ⟨rfl, h2⟩)
        go_ret
        exact ⟨rfl, Grw.step hbel h2⟩
end Go.Proofs.Ytppefbmeogoibaa
