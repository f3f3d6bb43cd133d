/- Names, on plain data. No conditions. -/
import Derived.Test.YtgfmnpbcbpobbaaDoorFAll
import Derived.Test.YtgfmnpbcbpobbaaDoorPLoop
namespace Go.Proofs.YtgfmnpbcbpobbaaDoor.Am
open Go

def nameP (x : UInt8) : Prop := (97 ≤ x.toNat ∧ x.toNat ≤ 122) ∨ (48 ≤ x.toNat ∧ x.toNat ≤ 57) ∨ x.toNat = 45
instance (x : UInt8) : Decidable (nameP x) := by unfold nameP; infer_instance
def isName (s : List UInt8) : Bool := s.all (fun x => decide (nameP x)) && decide (1 ≤ s.length ∧ s.length ≤ 20)
theorem isName_no {s : List UInt8} {i : Nat} (h : i < s.length) (hn : ¬ nameP s[i]) : isName s = false := by
  unfold isName
  have : s.all (fun x => decide (nameP x)) = false := by
    rw [List.all_eq_false]
    exact ⟨s[i], List.getElem_mem h, by simpa using hn⟩
  rw [this]; rfl
theorem isName_len {s : List UInt8} (h : ∀ j (hj : j < s.length), nameP s[j]) : isName s = decide (1 ≤ s.length ∧ s.length ≤ 20) := by
  unfold isName
  have : s.all (fun x => decide (nameP x)) = true := by
    rw [List.all_eq_true]
    intro x hx
    obtain ⟨j, hj, rfl⟩ := List.mem_iff_getElem.1 hx
    simpa using h j hj
  rw [this]; rfl
theorem name_step {s : List UInt8} {i : Nat} (h : i < s.length) (hl : s.length ≤ 1000000000000000) : Ok (F_tx_IsName_l2 s ((s.length : Nat) : Int) ((i : Nat) : Int)) (· = if nameP s[i] then .inl (s, ((s.length : Nat) : Int), ((i + 1 : Nat) : Int)) else .inr false) := by
  simp only [F_tx_IsName_l2, ok_sel, ok_chk, ok_some, ok_map, decide_eq_true_eq, decide_eq_false_iff_not, Bool.not_eq_true', Bool.not_eq_false', Int.toNat_natCast, getD_lt h, wi_succ (i := i) (by omega)]
  generalize s[i] = x
  have hx := x.toNat_lt
  refine ⟨fun _ => ⟨by omega, ?_⟩, fun h => absurd h (by omega)⟩
  repeat' first | apply And.intro | intro _
  all_goals first | (exfalso; omega) | (rw [if_pos (by unfold nameP; omega)]) | (rw [if_neg (by unfold nameP; omega)])
theorem name_tx {s : List UInt8} (hl : s.length ≤ 1000000000000000) : F_tx_IsName s = some (isName s) := by
  rw [← ok_eq]
  unfold F_tx_IsName F_tx_IsName_l2s
  refine ok_range s (fun i (_ : Unit) => (s, ((s.length : Nat) : Int), ((i : Nat) : Int))) (fun i _ => ∀ j (hj : j < s.length), j < i → nameP s[j]) (fun i _ hi hv => ?_) (fun _ hv => ?_) (b0 := ()) (fun j hj h => by omega) (by omega)
  · refine (name_step hi hl).mono fun r hr => ?_
    subst hr
    by_cases hn : nameP s[i]
    · rw [if_pos hn, nxt_inl]
      refine ⟨(), rfl, fun j hj hlt => ?_⟩
      by_cases e : j = i
      · subst e; exact hn
      · exact hv j hj (by omega)
    · rw [if_neg hn, nxt_inr, isName_no hi hn]
  · rw [isName_len (fun j hj => hv j hj hj)]
    simp only [F_tx_IsName_l2, F_tx_IsName_c1, ok_sel, ok_chk, ok_some, ok_map, nxt_inl, nxt_inr, decide_eq_true_eq, decide_eq_false_iff_not, Bool.not_eq_true', Bool.not_eq_false', Int.toNat_natCast]
    refine ⟨fun h => absurd h (by omega), fun _ => ⟨fun h => ?_, fun h => ?_⟩⟩
    · rw [decide_eq_decide]; omega
    · symm; rw [decide_eq_false_iff_not]; omega
theorem name_step' {s : List UInt8} {i : Nat} (h : i < s.length) (hl : s.length ≤ 1000000000000000) : Ok (F_mempoolref10_IsName_l2 s ((i : Nat) : Int)) (· = if nameP s[i] then .inl (s, ((i + 1 : Nat) : Int)) else .inr false) := by
  simp only [F_mempoolref10_IsName_l2, ok_sel, ok_chk, ok_some, ok_map, decide_eq_true_eq, decide_eq_false_iff_not, Bool.not_eq_true', Bool.not_eq_false', Int.toNat_natCast, getD_lt h, wi_succ (i := i) (by omega)]
  generalize s[i] = x
  have hx := x.toNat_lt
  refine ⟨fun _ => ⟨by omega, ?_⟩, fun h => absurd h (by omega)⟩
  repeat' first | apply And.intro | intro _
  all_goals first | (exfalso; omega) | (rw [if_pos (by unfold nameP; omega)]) | (rw [if_neg (by unfold nameP; omega)])
theorem name_ref {s : List UInt8} (hl : s.length ≤ 1000000000000000) : F_mempoolref10_IsName s = some (isName s) := by
  rw [← ok_eq]
  unfold F_mempoolref10_IsName F_mempoolref10_IsName_l2s
  refine ok_range s (fun i (_ : Unit) => (s, ((i : Nat) : Int))) (fun i _ => ∀ j (hj : j < s.length), j < i → nameP s[j]) (fun i _ hi hv => ?_) (fun _ hv => ?_) (b0 := ()) (fun j hj h => by omega) (by omega)
  · refine (name_step' hi hl).mono fun r hr => ?_
    subst hr
    by_cases hn : nameP s[i]
    · rw [if_pos hn, nxt_inl]
      refine ⟨(), rfl, fun j hj hlt => ?_⟩
      by_cases e : j = i
      · subst e; exact hn
      · exact hv j hj (by omega)
    · rw [if_neg hn, nxt_inr, isName_no hi hn]
  · rw [isName_len (fun j hj => hv j hj hj)]
    simp only [F_mempoolref10_IsName_l2, F_mempoolref10_IsName_c1, ok_sel, ok_chk, ok_some, ok_map, nxt_inl, nxt_inr, decide_eq_true_eq, decide_eq_false_iff_not, Bool.not_eq_true', Bool.not_eq_false', Int.toNat_natCast]
    refine ⟨fun h => absurd h (by omega), fun _ => ⟨fun h => ?_, fun h => ?_⟩⟩
    · rw [decide_eq_decide]; omega
    · symm; rw [decide_eq_false_iff_not]; omega
end Go.Proofs.YtgfmnpbcbpobbaaDoor.Am
