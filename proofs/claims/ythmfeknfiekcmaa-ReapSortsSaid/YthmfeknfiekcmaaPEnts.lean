/- Lists of entries that are made from numbers: few and small. No conditions. -/
import Derived.Test.YthmfeknfiekcmaaPEnt
namespace Go.Proofs.Ythmfeknfiekcmaa.Am
open Go

/-- Some entries. -/
def EntsM (l : List D_api_Entry) : Prop := ∀ e ∈ l, EntM e
theorem entries_s {L : List Int} {k : Int} {s : D_mempoolmake_Numbers} {n : Int} (hs : NumS L k s) (hk : k < 1000000000) (h0 : 0 ≤ k) (hn0 : 0 ≤ n) (hn1 : n ≤ 10) : Ok (F_mempoolmake_Entries s n) fun r => NumS L (k + 201) r.1 ∧ (r.2.length : Int) ≤ n ∧ EntsM r.2 := by
  have w0 : wi64 (n + 1) = n + 1 := wi64_id (by omega) (by omega)
  unfold F_mempoolmake_Entries
  rw [w0, ok_bind]
  refine (next_s hs (by omega) (by omega) (by omega)).mono ?_
  rintro ⟨s1, c⟩ ⟨h1, h2, h3, h4⟩
  dsimp only at h1 h2 h3 h4 ⊢
  unfold F_mempoolmake_Entries_l1s
  refine ok_iterE (fun m v => v.1 = (m : Int) ∧ NumS L (k + 1 + (10 - m) * 20) v.2.1 ∧ (m : Int) + v.2.2.length ≤ n ∧ EntsM v.2.2) ?_ (n := c.toNat) ⟨by dsimp only; omega, h1.le (by omega), by simp; omega, by simp [EntsM]⟩ (by omega)
  rintro m ⟨v0, sx, l⟩ ⟨g0, g1, g2, g3⟩
  dsimp only at g0 g1 g2 g3 ⊢
  subst g0
  simp only [F_mempoolmake_Entries_l1, ok_sel, ok_bind, ok_some, nxt_inr, decide_eq_true_eq, decide_eq_false_iff_not]
  refine ⟨fun h => ?_, fun h => ⟨g1.le (by omega), by omega, g3⟩⟩
  refine (entry_s g1 (by omega) (by omega)).mono ?_
  rintro ⟨s2, e⟩ ⟨a1, a2, a3, a4⟩
  dsimp only at a1 a2 a3 a4 ⊢
  have w1 : wi64 ((m : Int) - 1) = (m : Int) - 1 := wi64_id (by omega) (by omega)
  have em : ((m - 1 : Nat) : Int) = (m : Int) - 1 := by omega
  unfold F_mempoolmake_Entries_l3s
  refine ok_range l (fun i (b : Bool) => ((m : Int), b, ((l.length : Nat) : Int), ((i : Nat) : Int), s2, e, l)) (fun _ _ => True) (fun i b hi _ => ?_) (fun b _ => ?_) (b0 := false) trivial (by omega)
  · simp only [F_mempoolmake_Entries_l3, wi_succ (i := i) (by omega), ok_sel, ok_chk, ok_some, ok_map, nxt_inl, nxt_inr, decide_eq_true_eq, decide_eq_false_iff_not, Int.toNat_natCast]
    exact ⟨fun _ => ⟨by omega, by omega, fun hb => ⟨true, rfl, trivial⟩, fun hb => ⟨_, rfl, trivial⟩⟩, fun h => by omega⟩
  · simp only [F_mempoolmake_Entries_l3, F_mempoolmake_Entries_c2, w1, ok_sel, ok_chk, ok_bind, ok_some, ok_map, nxt_inl, nxt_inr, decide_eq_true_eq, decide_eq_false_iff_not, Bool.not_eq_true', Bool.not_eq_false', Int.toNat_natCast]
    refine ⟨fun h => by omega, fun _ => ⟨fun hb => ?_, fun hb => ⟨m - 1, by omega, em.symm, a1.le (by omega), by omega, g3⟩⟩⟩
    refine (next_s a1 (by omega) (by omega) (by omega)).mono ?_
    rintro ⟨s3, x⟩ ⟨b1, b2, b3, b4⟩
    dsimp only at b1 b2 b3 b4 ⊢
    have hx : x = 0 ∨ x = 1 := by omega
    have hmul : (l.length : Int) * x = 0 ∨ (l.length : Int) * x = l.length := by rcases hx with rfl | rfl <;> simp
    have w2 : wi64 ((l.length : Int) * x) = (l.length : Int) * x := wi64_id (by omega) (by omega)
    have ha := a3.2.2.2.2.2.2.2.1
    have w3 : wi64 (e.2.2.2.2.2.2.2.2.1 + (l.length : Int) * x) = e.2.2.2.2.2.2.2.2.1 + (l.length : Int) * x := wi64_id (by omega) (by omega)
    rw [w2, w3]
    refine ⟨⟨by unfold LIM; omega, by unfold LEN; omega⟩, m - 1, by omega, em.symm, b1.le (by omega), (by rw [List.length_append]; show ((m - 1 : Nat) : Int) + ((l.length + 1 : Nat) : Int) ≤ n; omega), fun f hf => ?_⟩
    rcases List.mem_append.1 hf with hf | hf
    · exact g3 f hf
    · have hf' := List.mem_singleton.1 hf
      subst hf'
      obtain ⟨c1, c2, c3, c4, c5, c6, c7, c8, c9⟩ := a3
      exact ⟨c1, c2, c3, c4, c5, c6, c7, ⟨by dsimp only; omega, by dsimp only; omega⟩, c9⟩
end Go.Proofs.Ythmfeknfiekcmaa.Am
