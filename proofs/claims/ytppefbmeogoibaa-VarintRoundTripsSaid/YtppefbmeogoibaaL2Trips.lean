/- The walk of the statement. -/
import Derived.Test.YtppefbmeogoibaaL2Known
namespace Go.Proofs.Ytppefbmeogoibaa
open Go.RowKit


set_option maxHeartbeats 1000000 in
set_option maxRecDepth 100000 in
theorem trips_any {S : Nat → Prop} {A : Option Addr} {n c : Nat} {l : List UInt8} (w : World) (N : Nat) (hN : N < U64) (s : Nat) (hs : s < 256) (hl : Sl Rep.u8 w S A n c l) :
    Calls Try.prog 5 #[.int .u64 N, .int .u8 s, .slice A n c] w fun e w' => e = .returned (.bool true) ∧ Below w.heap.size w w' := by
  have HN := Lib.hid hN; clear hN
  by_cases hbig : (100 : Int) < (n : Int)
  · go_enter Try.func5, Try.ntmps5
    go_wp2_with (go_at_call 12; go_must (refine (known2 _).mono ?_); rintro e w1 ⟨rfl, h2⟩)
    go_ret
    exact ⟨rfl, h2⟩
  go_enter Try.func5, Try.ntmps5
  go_wp2_with fail
  obtain ⟨x, hx, hb2⟩ : ∃ x : Nat, ((N : Int) / 2 ^ (s % 64)) = (x : Int) ∧ x < U64 := ⟨N / 2 ^ (s % 64), by simp, Nat.lt_of_le_of_lt (Nat.div_le_self _ _) HN.out⟩
  rw [hx]
  clear hx
  have Hx := Lib.hid hb2; clear hb2
  refine (append_any w (Sl.nil_ Rep.u8 w No) (by omega) x Hx.out).mono ?_
  rintro e w1 ⟨A1, n1, c1, rfl, hown1, hb1⟩
  rw [List.nil_append] at hown1
  have hn10 : n1 ≤ 10 := by have := hown1.len; have := enc_len10 x Hx.out; omega
  have Hn1 := Lib.hid hown1.len
  have Hrd : Hid (rd (enc x ++ l) = (x, n1, 0)) := by
    have h := rd_enc x l Hx.out
    rw [← hown1.len] at h
    exact Lib.hid h
  have Hcut : Hid (∀ j, j < n1 → rd ((enc x).take j) = (0, 0, 5)) := Lib.hid fun j hj => rd_cut x j Hx.out (by rw [← Hn1.out]; exact hj)
  go_wp2_with (at_builtin; refine Stop.mk ?_)
  refine Stop.un (wpList_appE eltB rfl rfl (base := w1.heap.size) No rfl rfl (hown1.alloc _).sla rfl id (by omega) (by simp only [maxLen]; omega) (Nat.le_refl _) (fun h => h) (fun h => h) ?_)
  intro A2 c2 w2 hown2 hb2
  have hbz2 := hb2.size
  go_wp2_with (at_builtin; refine Stop.mk ?_)
  refine Stop.un (wpList_app eltB rfl rfl hown2 rfl (hl.keep (Same.below (Grw.step hb1 hb2))) rfl id (by omega) (by simp only [maxLen]; omega) (by omega) (fun h => h) ?_)
  intro A3 n3 c3 w3 hn3 hown3 hb3 _ _
  have g3 : Below w1.heap.size w1 w3 := hb2.trans hb3
  go_wp2_with fail
  refine (read_any _ hown3.sla).mono ?_
  rintro e w4 ⟨rfl, rfl⟩
  rw [Hrd.out]
  have g : Below w.heap.size w w3 := Grw.step hb1 g3
  have hs1 := (hown1.below g3).sla
  clear hb1 hb2 hb3 g3 hown1 hown2 hown3 hl hbz2 hn3
  go_wp2_with fail
  go_loop [37] (fun i => ∃ k : Nat, i = .int .i64 k ∧ k ≤ n1) (fun i => n1 - (intOf i).toNat)
  case atStart => exact ⟨0, rfl, by omega⟩
  case round =>
    obtain ⟨k, rfl, hk⟩ := hrel
    by_cases hlt : (k : Int) < (n1 : Int)
    · have hk1 := hs1.take (k := k) (by omega)
      have hcap := hs1.le
      go_wp2_with fail
      refine (read_any _ hk1).mono ?_
      rintro e w1 ⟨rfl, rfl⟩
      rw [Hcut.out k (by omega)]
      go_wp2_with fail
      go_round
      case rel => exact ⟨k + 1, by go_num, by omega⟩
      case measure => simp [intOf]; omega
    · go_wp2_with fail
      refine (size_any x _ Hx.out).mono ?_
      rintro e w5 ⟨rfl, rfl⟩
      rw [← Hn1.out]
      go_wp2_with (go_at_call 12; go_must (refine (known2 _).mono ?_); rintro e w1 ⟨rfl, h2⟩)
      go_ret
      exact ⟨rfl, Grw.step g h2⟩end Go.Proofs.Ytppefbmeogoibaa
