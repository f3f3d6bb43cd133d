/- The walk of the statement WireLimits. -/
import Derived.Test.YtppefbmeogoibaaL3Known
import Derived.Test.YtppefbmeogoibaaWireLaws
import Derived.Test.YtppefbmeogoibaaBase2
namespace Go.Proofs.Ytppefbmeogoibaa
open Go.RowKit

/-- A field of two bytes. -/
def fld81 : Fld := ⟨1, 0, 1, []⟩
theorem enc81 : fld81.enc = [8, 1] := by kernel_rfl
theorem encs81 (j : Nat) : encs (List.replicate (j + 1) fld81) = encs (List.replicate j fld81) ++ [8, 1] := by
  rw [List.replicate_succ', encs_snoc, enc81]
theorem encs81_len : ∀ j : Nat, (encs (List.replicate j fld81)).length = 2 * j
  | 0 => rfl
  | j + 1 => by rw [encs81, List.length_append, encs81_len j]; simp; omega
theorem all81 (k : Nat) : ∀ f ∈ List.replicate k fld81, f.ok = true ∧ f.val < U64 ∧ f.byt.length < U64 := by
  intro f hf
  rw [List.eq_of_mem_replicate hf]
  exact ⟨by rfl, by unfold U64 fld81; simp, by unfold U64 fld81; simp⟩
theorem flds81 (k : Nat) (h : k ≤ 1024) : flds (encs (List.replicate k fld81)) = (List.replicate k fld81, 0, 0) := flds_encs _ (by simpa using h) (all81 k)
theorem flds81_full (k : Nat) (h : 1024 < k) : flds (encs (List.replicate k fld81)) = ([], 2048, 3) := by
  rw [flds, fldsF_full _ _ 0 [] (by omega) (by simp only [List.length_nil]; omega) (by simpa using h) (all81 _)]
  simp only [List.length_nil, Nat.sub_zero, List.take_replicate, encs81_len]
  rw [Nat.min_eq_left (by omega)]
set_option maxHeartbeats 2000000 in
set_option maxRecDepth 100000 in
theorem wlimits_any (w : World) (n : Nat) (hn : n < 256) (x : Int) :
    Calls Try.prog 9 #[.int .u8 n, .int .i64 x] w fun e w' => e = .returned (.bool true) ∧ Below w.heap.size w w' := by
  obtain ⟨k, hk, hk1, hk2⟩ : ∃ k : Nat, (1023 : Int) + (n : Int) % 3 = (k : Int) ∧ 1023 ≤ k ∧ k ≤ 1025 := ⟨1023 + n % 3, by omega, by omega, by omega⟩
  obtain ⟨C, hC, hmk⟩ := run_made eltB (2 * k) (by omega) (by omega)
  rw [show ((2 * k : Nat) : Int) = 2 * (k : Int) from by omega] at hmk
  go_enter Try.func9, Try.ntmps9
  go_wp2_with fail
  have h0 : Own Rep.u8 5 (w.alloc (.cells C 5)) w.heap.size No (.slice (some ⟨w.heap.size, 0, none⟩) 0 (2 * k)) 0 [] := Own.made hC (by simp only [maxLen]; omega) (Nat.le_refl _) (fun h => h) rfl
  have Hk := Lib.hid hk
  go_loopw [6, 7] (fun v i wr => ∃ (j n' : Nat) (A' : Option Addr) (c' : Nat), i = .int .i64 j ∧ v = .slice A' n' c' ∧ j ≤ k ∧ n' = 2 * j ∧ Own Rep.u8 5 wr w.heap.size No (.slice A' n' c') n' (encs (List.replicate j fld81)) ∧ Below w.heap.size w wr) (fun _ i _ => k - (intOf i).toNat)
  case atStart => exact ⟨0, 0, _, _, rfl, rfl, by omega, by omega, h0, Grw.alloc (Below.refl _ _) _⟩
  case round =>
    obtain ⟨j, n', A', c', rfl, rfl, hj, hn', hown, hbel⟩ := hrel
    have hbz := hbel.size
    have hn2 : n' ≤ 2050 := by omega
    have Hn' := Lib.hid hn'
    clear hn' h0 hmk hC
    by_cases hlt : (j : Int) < (k : Int)
    · go_wp2_with (at_builtin; refine Stop.mk ?_)
      refine Stop.un (wpList_app eltB rfl rfl (hown.alloc _) rfl (Sl.litB [8, 1] (by rfl) (by rfl) (by simp [maxLen]) (by rfl)) rfl id (by simp; omega) (by simp only [maxLen]; simp; omega) (by simp; omega) (fun h => h) ?_)
      intro A3 n3 c3 w3 hn3 hown3 hb3 _ _
      rw [← encs81] at hown3
      go_wp2_with fail
      go_roundw
      case rel => exact ⟨j + 1, n3, A3, c3, by go_num, rfl, by omega, by have := hn3.out; have := Hn'.out; simp at *; omega, hown3, (hbel.alloc hbz _).trans hb3⟩
      case measure => simp [intOf]; omega
    · have hjk : j = k := by omega
      subst hjk
      go_wp2_with fail
      refine (wfields_any _ hown.sla (by omega)).mono ?_
      rintro e w3 ⟨A3, n3, c3, rfl, hown3, hb3⟩
      have g3 : Below w.heap.size w w3 := Grw.step hbel hb3
      have hmod : -1099511627776 ≤ x.tmod 1099511627776 ∧ x.tmod 1099511627776 ≤ 1099511627776 := by
        have h1 := Int.tmod_lt_of_pos x (show (0 : Int) < 1099511627776 by omega)
        have h2 := Int.lt_tmod_of_pos x (show (0 : Int) < 1099511627776 by omega)
        omega
      have hbd : ∀ z ∈ [x.tmod 1099511627776, -1, 0, 127, 128, 16383, 16384], -1099511627776 ≤ z ∧ z ≤ 1099511627776 := by
        intro z hz
        simp only [List.mem_cons, List.not_mem_nil, or_false] at hz
        rcases hz with rfl | rfl | rfl | rfl | rfl | rfl | rfl <;> omega
      have hbd2 : ∀ z ∈ [x.tmod 1099511627776, -1, 0, 127, 128, 16383, 16384], -9223372036854775808 ≤ z ∧ z ≤ 9223372036854775807 := fun z hz => by have := hbd z hz; omega
      clear hown hbz hb3
      by_cases hj1 : j ≤ 1024
      · rw [flds81 j hj1] at hown3 ⊢
        have hl3 := hown3.len.symm
        rw [List.length_replicate] at hl3
        subst hl3
        have hj2 : (j : Int) ≤ 1024 := by omega
        clear hown3
        go_wp2_with fail
        refine wp_world (fun W => Below w.heap.size w W ∧ ∃ xs : List Int, (∀ z ∈ xs, -1099511627776 ≤ z ∧ z ≤ 1099511627776) ∧ Sl Rep.int W All (some ⟨w3.heap.size, 0, none⟩) 7 7 xs)
          ⟨Grw.alloc g3 _, [x.tmod 1099511627776, -1, 0, 127, 128, 16383, 16384], hbd, (Sl.litOf (R := Rep.int) (S := All) _ (Rep.int_mk _ _ _ hbd2) rfl (by simp [maxLen]) rfl).all⟩ ?_
        generalize (some ⟨w3.heap.size, 0, none⟩ : Option Addr) = AL
        clear g3 hbd hbd2 hmod
        rintro W1 ⟨hg, xs, hxb, hx⟩
        have Hxs := Lib.hid hx.len
        have Hxb := Lib.hid hxb; clear hxb
        go_loopw [67] (fun i wr => ∃ q : Nat, i = .int .i64 q ∧ q ≤ 7 ∧ Below W1.heap.size W1 wr) (fun i _ => 7 - (intOf i).toNat)
        case atStart => exact ⟨0, rfl, by omega, Below.refl _ _⟩
        case round =>
          obtain ⟨q, rfl, hq, hbel⟩ := hrel
          by_cases hlt : (q : Int) < 7
          · have hql : q < xs.length := by rw [← Hxs.out]; omega
            obtain ⟨ad, u, hA, _, _, ⟨hu, _⟩, hc⟩ := (hx.keep (Same.below hbel)).cell rfl hql
            obtain ⟨z1, z2⟩ := Hxb.out xs[q] (List.getElem_mem hql)
            subst hA
            injection hu with hu; subst hu
            generalize xs[q] = z at *
            go_wp2_with fail
            refine (sizeb_any z _ z1 z2).mono ?_
            rintro e w5 ⟨rfl, rfl⟩
            go_wp2_with fail
            refine (rsizeb_any z _ z1 z2).mono ?_
            rintro e w5 ⟨rfl, hb5⟩
            go_wp2_with fail
            go_roundw
            case rel => exact ⟨q + 1, by go_num, by omega, Grw.step hbel hb5⟩
            case measure => simp [intOf]; omega
          · go_wp2_with (go_at_call 21; refine (known3 _).mono ?_; rintro e w1 ⟨rfl, h2⟩)
            go_ret
            exact ⟨rfl, Grw.step (Grw.step hg hbel) h2⟩
      · rw [flds81_full j (by omega)] at hown3 ⊢
        have hl3 := hown3.len.symm
        rw [List.length_nil] at hl3
        subst hl3
        have hj2 : (1024 : Int) < j := by omega
        clear hown3
        go_wp2_with fail
        refine wp_world (fun W => Below w.heap.size w W ∧ ∃ xs : List Int, (∀ z ∈ xs, -1099511627776 ≤ z ∧ z ≤ 1099511627776) ∧ Sl Rep.int W All (some ⟨w3.heap.size, 0, none⟩) 7 7 xs)
          ⟨Grw.alloc g3 _, [x.tmod 1099511627776, -1, 0, 127, 128, 16383, 16384], hbd, (Sl.litOf (R := Rep.int) (S := All) _ (Rep.int_mk _ _ _ hbd2) rfl (by simp [maxLen]) rfl).all⟩ ?_
        generalize (some ⟨w3.heap.size, 0, none⟩ : Option Addr) = AL
        clear g3 hbd hbd2 hmod
        rintro W1 ⟨hg, xs, hxb, hx⟩
        have Hxs := Lib.hid hx.len
        have Hxb := Lib.hid hxb; clear hxb
        go_loopw [67] (fun i wr => ∃ q : Nat, i = .int .i64 q ∧ q ≤ 7 ∧ Below W1.heap.size W1 wr) (fun i _ => 7 - (intOf i).toNat)
        case atStart => exact ⟨0, rfl, by omega, Below.refl _ _⟩
        case round =>
          obtain ⟨q, rfl, hq, hbel⟩ := hrel
          by_cases hlt : (q : Int) < 7
          · have hql : q < xs.length := by rw [← Hxs.out]; omega
            obtain ⟨ad, u, hA, _, _, ⟨hu, _⟩, hc⟩ := (hx.keep (Same.below hbel)).cell rfl hql
            obtain ⟨z1, z2⟩ := Hxb.out xs[q] (List.getElem_mem hql)
            subst hA
            injection hu with hu; subst hu
            generalize xs[q] = z at *
            go_wp2_with fail
            refine (sizeb_any z _ z1 z2).mono ?_
            rintro e w5 ⟨rfl, rfl⟩
            go_wp2_with fail
            refine (rsizeb_any z _ z1 z2).mono ?_
            rintro e w5 ⟨rfl, hb5⟩
            go_wp2_with fail
            go_roundw
            case rel => exact ⟨q + 1, by go_num, by omega, Grw.step hbel hb5⟩
            case measure => simp [intOf]; omega
          · go_wp2_with (go_at_call 21; refine (known3 _).mono ?_; rintro e w1 ⟨rfl, h2⟩)
            go_ret
            exact ⟨rfl, Grw.step (Grw.step hg hbel) h2⟩
end Go.Proofs.Ytppefbmeogoibaa
