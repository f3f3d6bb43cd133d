/- The walk of the statement. -/
import Derived.Test.YtppefbmeogoibaaL2Known
namespace Go.Proofs.Ytppefbmeogoibaa
open Go.RowKit


set_option maxHeartbeats 400000 in
set_option maxRecDepth 100000 in
theorem appends_any {S : Nat → Prop} {A : Option Addr} {n c : Nat} {l : List UInt8} (w : World) (hl : Sl Rep.u8 w S A n c l) (N : Nat) (hN : N < U64) (s : Nat) (hs : s < 256) :
    Calls Try.prog 3 #[.slice A n c, .int .u64 N, .int .u8 s] w fun e w' => e = .returned (.bool true) ∧ Below w.heap.size w w' := by
  have HN := Lib.hid hN; clear hN
  by_cases hbig : (200 : Int) < (n : Int)
  · go_enter Try.func3, Try.ntmps3
    go_wp2_with (go_at_call 12; go_must (refine (known2 _).mono ?_); rintro e w1 ⟨rfl, h2⟩)
    go_ret
    exact ⟨rfl, h2⟩
  · go_enter Try.func3, Try.ntmps3
    go_wp2_with fail
    obtain ⟨x2, hx2, hb2⟩ : ∃ x : Nat, ((N : Int) / 2 ^ (s % 64)) = (x : Int) ∧ x < U64 := ⟨N / 2 ^ (s % 64), by simp, Nat.lt_of_le_of_lt (Nat.div_le_self _ _) HN.out⟩
    obtain ⟨x3, hx3, hb3⟩ := wrap64_range (IntKind.u64.wrap (2 ^ (s % 64)) - 1)
    obtain ⟨x4, hx4, hb4⟩ := wrap64_range (2 ^ (s % 64))
    rw [hx2, hx3, hx4]
    clear hx2 hx3 hx4
    have hb : ∀ x ∈ [N, x2, x3, x4], x < U64 := by
      intro x hx
      simp only [List.mem_cons, List.not_mem_nil, or_false] at hx
      rcases hx with h | h | h | h <;> rw [h] <;> first | exact HN.out | assumption
    have Hb := Lib.hid hb; clear hb hb2 hb3 hb4
    refine wp_world (fun W => Below w.heap.size w W ∧ Sl Rep.u8 W S A n c l ∧ Sl Rep.u64 W (fun _ => True) (some ⟨w.heap.size, 0, none⟩) 4 4 [N, x2, x3, x4])
      ⟨Grw.alloc (Below.refl _ _) _, hl.keep (Same.alloc _ _ _), (Sl.litOf (S := No) [N, x2, x3, x4] (Rep.u64_mk _ _ _ Hb.out) rfl (by simp [maxLen]) rfl).mono fun _ _ _ => trivial⟩ ?_
    clear hl
    generalize (some ⟨w.heap.size, 0, none⟩ : Option Addr) = AL
    rintro W1 ⟨hg, hl, hx⟩
    generalize [N, x2, x3, x4] = xs at *
    have Hxs := Lib.hid hx.len
    go_loopw [27] (fun i wr => ∃ k : Nat, i = .int .i64 k ∧ k ≤ 4 ∧ Below W1.heap.size W1 wr) (fun i _ => 4 - (intOf i).toNat)
    case atStart => exact ⟨0, rfl, by omega, Below.refl _ _⟩
    case round =>
      obtain ⟨k, rfl, hk, hbel⟩ := hrel
      have hl1 := hl.keep (Same.below hbel)
      have hx1 := hx.keep (Same.below hbel)
      by_cases hlt : (k : Int) < 4
      · have hkl : k < xs.length := by rw [← Hxs.out]; omega
        obtain ⟨ad, u, hA, _, _, ⟨hu, hu64⟩, hc⟩ := hx1.cell rfl hkl
        subst hA
        injection hu with hu; subst hu
        generalize xs[k] = x at *
        go_wp2_with fail
        refine (append_any _ hl1 (by omega) x hu64).mono ?_
        rintro e w1 ⟨A1, n1, c1, rfl, hown1, hb1⟩
        go_wp2_with fail
        refine (rappend_any _ (hl1.keep (Same.below hb1)) (by omega) x hu64).mono ?_
        rintro e w2 ⟨A2, n2, c2, rfl, hown2, hb2⟩
        have hs1 := (hown1.sl (S' := fun _ => True) (fun _ _ => trivial) (fun _ _ _ => trivial)).keep (Same.below hb2)
        have hs2 := (hown2.sl (S' := fun _ => True) (fun _ _ => trivial) (fun _ _ _ => trivial))
        go_wp2_with fail
        refine (same_yes _ hs1 hs2 rfl).mono ?_
        rintro e w3 ⟨rfl, rfl⟩
        go_wp2_with fail
        refine (size_any x _ hu64).mono ?_
        rintro e w3 ⟨rfl, rfl⟩
        go_wp2_with fail
        refine (rsize_any x _ hu64).mono ?_
        rintro e w3 ⟨rfl, hb3⟩
        go_wp2_with fail
        go_roundw
        case rel => exact ⟨k + 1, by go_num, by omega, Grw.step (Grw.step (Grw.step hbel hb1) hb2) hb3⟩
        case measure => simp [intOf]; omega
      · go_wp2_with (go_at_call 12; go_must (refine (known2 _).mono ?_); rintro e w1 ⟨rfl, h2⟩)
        go_ret
        exact ⟨rfl, Grw.step (Grw.step hg hbel) h2⟩end Go.Proofs.Ytppefbmeogoibaa
