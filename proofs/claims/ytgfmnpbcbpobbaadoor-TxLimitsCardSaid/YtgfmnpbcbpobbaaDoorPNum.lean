/- Numbers that are used one after another. No conditions. -/
import Derived.Test.YtgfmnpbcbpobbaaDoorFAll
import Derived.Test.YtgfmnpbcbpobbaaDoorPLoop
namespace Go.Proofs.YtgfmnpbcbpobbaaDoor.Am
open Go

theorem place_ok {x n : Int} (hn : 1 ≤ n) (hn2 : n ≤ 4611686018427387904) : Ok (F_mempoolmake_Place x n) fun r => 0 ≤ r ∧ r < n ∧ r = x % n := by
  have h1 := Int.tmod_eq_emod (a := x) (b := n)
  have h2 := Int.emod_nonneg x (show n ≠ 0 by omega)
  have h3 := Int.emod_lt_of_pos x (show 0 < n by omega)
  have h4 : ((n.natAbs : Nat) : Int) = n := by omega
  simp only [F_mempoolmake_Place, ok_sel, ok_chk, ok_some, decide_eq_true_eq, decide_eq_false_iff_not, Bool.not_eq_true']
  refine ⟨by omega, fun h => ?_, fun h => ?_⟩
  · rw [wi64_id]
    · split at h1 <;> omega
    · split at h1 <;> omega
    · split at h1 <;> omega
  · split at h1 <;> omega
/-- One number more. -/
theorem next_ok {s : D_mempoolmake_Numbers} {n : Int} (hn : 1 ≤ n) (hn2 : n ≤ 4611686018427387904) (h0 : 0 ≤ s.2) (h1 : s.2 < 4611686018427387904) : Ok (F_mempoolmake_Numbers_Next s n) fun r => r.1.1 = s.1 ∧ r.1.2 = s.2 + 1 ∧ 0 ≤ r.2 ∧ r.2 < n := by
  have hw : wi64 (s.2 + 1) = s.2 + 1 := wi64_id (by omega) (by omega)
  have hp : ∀ x, Ok (F_mempoolmake_Numbers_Next_c1 n x s) fun r => r.1.1 = s.1 ∧ r.1.2 = s.2 + 1 ∧ 0 ≤ r.2 ∧ r.2 < n := fun x => by
    unfold F_mempoolmake_Numbers_Next_c1
    rw [ok_bind]
    refine (place_ok hn hn2).mono fun r hr => ?_
    rw [ok_some, hw]
    exact ⟨rfl, rfl, hr.1, hr.2.1⟩
  simp only [F_mempoolmake_Numbers_Next, ok_sel, ok_chk, decide_eq_true_eq, decide_eq_false_iff_not]
  exact ⟨fun h => ⟨⟨h0, h⟩, hp _⟩, fun _ => hp _⟩
/-- .. as a state that has been asked 'k' times at most. -/
def NumS (L : List Int) (k : Int) (s : D_mempoolmake_Numbers) : Prop := s.1 = L ∧ 0 ≤ s.2 ∧ s.2 ≤ k
theorem next_s {L : List Int} {k : Int} {s : D_mempoolmake_Numbers} {n : Int} (hs : NumS L k s) (hn : 1 ≤ n) (hn2 : n ≤ 4611686018427387904) (hk : k < 4611686018427387904) : Ok (F_mempoolmake_Numbers_Next s n) fun r => NumS L (k + 1) r.1 ∧ s.2 < r.1.2 ∧ 0 ≤ r.2 ∧ r.2 < n := by
  obtain ⟨h1, h2, h3⟩ := hs
  refine (next_ok hn hn2 h2 (by omega)).mono fun r hr => ?_
  obtain ⟨a1, a2, a3, a4⟩ := hr
  exact ⟨⟨a1.trans h1, by omega, by omega⟩, by omega, a3, a4⟩
theorem NumS.le {L : List Int} {k m : Int} {s : D_mempoolmake_Numbers} (h : NumS L k s) (hkm : k ≤ m) : NumS L m s := ⟨h.1, h.2.1, by have := h.2.2; omega⟩
def numOf (L : List Int) : D_mempoolmake_Numbers := (L, 0)
theorem from_ok (L : List Int) : F_mempoolmake_From L = some (numOf L) := rfl
theorem numS0 (L : List Int) : NumS L 0 (numOf L) := ⟨rfl, Int.le_refl _, Int.le_refl _⟩
end Go.Proofs.YtgfmnpbcbpobbaaDoor.Am
