/- Entries that are made from numbers: few and small. No conditions. -/
import Derived.Test.YthmfeknfiekcmaaPNum
import Derived.Test.YthmfeknfiekcmaaPShaR
namespace Go.Proofs.Ythmfeknfiekcmaa.Am
open Go

theorem name_s {L : List Int} {k : Int} {s : D_mempoolmake_Numbers} (hs : NumS L k s) (hk : k < 4611686018427387904) : Ok (F_mempoolmake_Name s) fun r => NumS L (k + 1) r.1 ∧ s.2 < r.1.2 ∧ r.2.length ≤ 3 := by
  unfold F_mempoolmake_Name
  rw [ok_bind]
  refine (next_s hs (by omega) (by omega) hk).mono ?_
  rintro ⟨s1, i⟩ ⟨h1, h2, h3, h4⟩
  dsimp only at h1 h2 h3 h4 ⊢
  simp only [ok_chk, ok_some, decide_eq_true_eq]
  refine ⟨⟨h3, h4⟩, by omega, h1, h2, ?_⟩
  have : i = 0 ∨ i = 1 ∨ i = 2 ∨ i = 3 ∨ i = 4 ∨ i = 5 := by omega
  rcases this with rfl | rfl | rfl | rfl | rfl | rfl <;> decide
/-- An entry as Entry makes it. -/
def EntM (e : D_api_Entry) : Prop := e.2.1.length ≤ 8 ∧ e.2.2.1.length ≤ 3 ∧ (0 ≤ e.2.2.2.1 ∧ e.2.2.2.1 < 4) ∧ (0 ≤ e.2.2.2.2.1 ∧ e.2.2.2.2.1 < 50) ∧ (0 ≤ e.2.2.2.2.2.1 ∧ e.2.2.2.2.2.1 < 5) ∧ (0 ≤ e.2.2.2.2.2.2.1 ∧ e.2.2.2.2.2.2.1 < 9) ∧ (0 ≤ e.2.2.2.2.2.2.2.1 ∧ e.2.2.2.2.2.2.2.1 < 30) ∧ (0 ≤ e.2.2.2.2.2.2.2.2.1 ∧ e.2.2.2.2.2.2.2.2.1 < 1000) ∧ e.2.2.2.2.2.2.2.2.2.length ≤ 2
theorem entry_s {L : List Int} {k : Int} {s : D_mempoolmake_Numbers} (hs : NumS L k s) (hk : k < 1000000000000) (h0 : 0 ≤ k) : Ok (F_mempoolmake_Entry s) fun r => NumS L (k + 19) r.1 ∧ s.2 < r.1.2 ∧ EntM r.2 ∧ r.2.2.2.2.2.2.2.2.2.1 < 9 := by
  unfold F_mempoolmake_Entry
  rw [ok_bind]
  refine (next_s hs (by omega) (by omega) (by omega)).mono ?_
  rintro ⟨s1, n⟩ ⟨h1, h2, h3, h4⟩
  dsimp only at h1 h2 h3 h4 ⊢
  simp only [ok_chk, decide_eq_true_eq]
  refine ⟨⟨h3, by omega, by omega, by omega⟩, ?_⟩
  unfold F_mempoolmake_Entry_l3s
  refine ok_iterE (fun m v => ∃ (i : Nat) (l : List UInt8), l.length ≤ 8 ∧ i + m = l.length ∧ NumS L (k + 1 + i) v.2.2.1 ∧ s.2 < v.2.2.1.2 ∧ v.1 = (l.length : Int) ∧ v.2.1 = (i : Int) ∧ v.2.2.2.2 = l) ?_ ⟨0, List.replicate (Int.toNat n) (0 : UInt8), by simp; omega, Nat.zero_add _, by simpa using h1, h2, rfl, rfl, rfl⟩ (by simp; omega)
  rintro m ⟨v0, v1, sx, ex, l'⟩ ⟨i, l, hl, hi, hn, hlt, g1, g2, g3⟩
  dsimp only at hn hlt g1 g2 g3 ⊢
  subst g1 g2 g3
  simp only [F_mempoolmake_Entry_l3, wi_succ (i := i) (by omega), ok_sel, ok_chk, ok_bind, ok_some, ok_map, nxt_inl, nxt_inr, decide_eq_true_eq, decide_eq_false_iff_not, Int.toNat_natCast]
  refine ⟨fun h => ?_, fun h => ?_⟩
  · refine (next_s hn (by omega) (by omega) (by omega)).mono ?_
    rintro ⟨s2, x⟩ ⟨q1, q2, q3, q4⟩
    dsimp only at q1 q2 q3 q4 ⊢
    refine ⟨by omega, wu8_range _, by omega, m - 1, by omega, i + 1, _, by rw [List.length_set]; exact hl, by rw [List.length_set]; omega, ?_, by omega, by rw [List.length_set], rfl, rfl⟩
    exact q1.le (by omega)
  · have hn9 := hn.le (m := k + 9) (by omega)
    unfold F_mempoolmake_Entry_c1
    rw [ok_bind]
    refine (shaR_ans (by omega)).mono fun key _ => ?_
    rw [ok_bind]
    refine (name_s hn9 (by omega)).mono ?_
    rintro ⟨s3, nm⟩ ⟨a1, a2, a3⟩
    dsimp only at a1 a2 a3 ⊢
    rw [ok_bind]
    refine (next_s a1 (by omega) (by omega) (by omega)).mono ?_
    rintro ⟨s4, x4⟩ ⟨b1, b2, b3, b4⟩
    dsimp only at b1 b2 b3 b4 ⊢
    rw [ok_bind]
    refine (next_s b1 (by omega) (by omega) (by omega)).mono ?_
    rintro ⟨s5, x5⟩ ⟨c1, c2, c3, c4⟩
    dsimp only at c1 c2 c3 c4 ⊢
    rw [ok_bind]
    refine (next_s c1 (by omega) (by omega) (by omega)).mono ?_
    rintro ⟨s6, x6⟩ ⟨d1, d2, d3, d4⟩
    dsimp only at d1 d2 d3 d4 ⊢
    rw [ok_bind]
    refine (next_s d1 (by omega) (by omega) (by omega)).mono ?_
    rintro ⟨s7, x7⟩ ⟨e1, e2, e3, e4⟩
    dsimp only at e1 e2 e3 e4 ⊢
    rw [ok_bind]
    refine (next_s e1 (by omega) (by omega) (by omega)).mono ?_
    rintro ⟨s8, x8⟩ ⟨f1, f2, f3, f4⟩
    dsimp only at f1 f2 f3 f4 ⊢
    rw [ok_bind]
    refine (next_s f1 (by omega) (by omega) (by omega)).mono ?_
    rintro ⟨s9, x9⟩ ⟨i1, i2, i3, i4⟩
    dsimp only at i1 i2 i3 i4 ⊢
    rw [ok_bind]
    refine (next_s i1 (by omega) (by omega) (by omega)).mono ?_
    rintro ⟨s10, x10⟩ ⟨j1, j2, j3, j4⟩
    dsimp only at j1 j2 j3 j4 ⊢
    have w4 : wu64 x4 = x4 := wu64_id (by omega) (by omega)
    have w5 : wu64 x5 = x5 := wu64_id (by omega) (by omega)
    have w6 : wu64 x6 = x6 := wu64_id (by omega) (by omega)
    rw [w4, w5, w6]
    unfold F_mempoolmake_Entry_l2s
    refine ok_iterE (fun m v => ∃ (sx : D_mempoolmake_Numbers) (ps : List Int), m ≤ 2 ∧ ps.length + m ≤ 2 ∧ NumS L (k + 19 - m) sx ∧ s.2 < sx.2 ∧ v = ((m : Int), sx, ex, key, nm, x4, x5, x6, x7, x8, x9, l', ps)) ?_ (n := x10.toNat) ⟨s10, [], by omega, by simp; omega, j1.le (by omega), by omega, by rw [Int.toNat_of_nonneg (by omega)]⟩ (by omega)
    rintro m v ⟨sx, ps, hm, hps, hsx, hlt2, rfl⟩
    dsimp only
    have w0 : wi64 ((m : Int) - 1) = (m : Int) - 1 := wi64_id (by omega) (by omega)
    simp only [F_mempoolmake_Entry_l2, w0, ok_sel, ok_chk, ok_bind, ok_some, nxt_inl, nxt_inr, decide_eq_true_eq, decide_eq_false_iff_not]
    refine ⟨fun h => ?_, fun h => ?_⟩
    · refine (next_s hsx (by omega) (by omega) (by omega)).mono ?_
      rintro ⟨s11, x11⟩ ⟨k1, k2, k3, k4⟩
      dsimp only at k1 k2 k3 k4 ⊢
      refine ⟨⟨by unfold LIM; omega, by unfold LEN; omega⟩, m - 1, by omega, s11, ps ++ [wi64 (1 + x11)], by omega, ?_, k1.le (by omega), by omega, ?_⟩
      · simp; omega
      · have : ((m - 1 : Nat) : Int) = (m : Int) - 1 := by omega
        rw [this]
    · exact ⟨hsx.le (by omega), hlt2, ⟨hl, a3, ⟨b3, b4⟩, ⟨c3, c4⟩, ⟨d3, d4⟩, ⟨e3, e4⟩, ⟨f3, f4⟩, ⟨i3, by dsimp only; omega⟩, by dsimp only; omega⟩, i4⟩
end Go.Proofs.Ythmfeknfiekcmaa.Am
