/- Lists that are compared. No conditions. -/
import Derived.Test.YthmfeknfiekcmaaFAll
import Derived.Test.YthmfeknfiekcmaaPLoop
namespace Go.Proofs.Ythmfeknfiekcmaa.Am
open Go

theorem sameLists_self {l : List (List UInt8)} (h : l.length < 9223372036854775807) : F_mempoolref1_SameLists l l = some true := by
  refine ok_eq.1 ?_
  simp only [F_mempoolref1_SameLists, ok_sel, ok_some, decide_eq_true_eq, decide_eq_false_iff_not, Bool.not_eq_true', Bool.not_eq_false']
  refine ⟨fun h => (h trivial).elim, fun _ => ?_⟩
  unfold F_mempoolref1_SameLists_l1s
  refine ok_range l (fun i (_ : Unit) => (l, l, ((l.length : Nat) : Int), ((i : Nat) : Int))) (fun _ _ => True) (fun i b hi _ => ?_) (fun b _ => ?_) (b0 := ()) trivial (by omega)
  · simp only [F_mempoolref1_SameLists_l1, F_mempoolref1_SameBytes, wi_succ (i := i) (by omega), ok_sel, ok_chk, ok_bind, ok_some, nxt_inl, nxt_inr, decide_eq_true_eq, decide_eq_false_iff_not, Bool.not_eq_true', Bool.not_eq_false', Int.toNat_natCast, decide_true]
    refine ⟨fun _ => ⟨by omega, by omega, ?_⟩, fun h => by omega⟩
    simp
  · simp only [F_mempoolref1_SameLists_l1, ok_sel, ok_chk, ok_bind, ok_some, nxt_inl, nxt_inr, decide_eq_true_eq, decide_eq_false_iff_not, Bool.not_eq_true', Bool.not_eq_false', Int.toNat_natCast]
    exact ⟨fun h => by omega, fun _ => trivial⟩
theorem sameInts_self {l : List Int} (h : l.length < 9223372036854775807) : F_mempoolref1_SameInts l l = some true := by
  refine ok_eq.1 ?_
  simp only [F_mempoolref1_SameInts, ok_sel, ok_some, decide_eq_true_eq, decide_eq_false_iff_not, Bool.not_eq_true', Bool.not_eq_false']
  refine ⟨fun h => (h trivial).elim, fun _ => ?_⟩
  unfold F_mempoolref1_SameInts_l1s
  refine ok_range l (fun i (_ : Unit) => (l, l, ((l.length : Nat) : Int), ((i : Nat) : Int))) (fun _ _ => True) (fun i b hi _ => ?_) (fun b _ => ?_) (b0 := ()) trivial (by omega)
  · simp only [F_mempoolref1_SameInts_l1, wi_succ (i := i) (by omega), ok_sel, ok_chk, ok_some, nxt_inl, nxt_inr, decide_eq_true_eq, decide_eq_false_iff_not, Bool.not_eq_true', Bool.not_eq_false', Int.toNat_natCast]
    refine ⟨fun _ => ⟨by omega, by omega, ?_⟩, fun h => by omega⟩
    simp
  · simp only [F_mempoolref1_SameInts_l1, ok_sel, ok_chk, ok_some, nxt_inl, nxt_inr, decide_eq_true_eq, decide_eq_false_iff_not, Bool.not_eq_true', Bool.not_eq_false', Int.toNat_natCast]
    exact ⟨fun h => by omega, fun _ => trivial⟩
end Go.Proofs.Ythmfeknfiekcmaa.Am
