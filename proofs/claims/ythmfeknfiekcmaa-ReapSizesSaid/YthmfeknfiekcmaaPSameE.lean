/- Lists of entries that are compared. No conditions. -/
import Derived.Test.YthmfeknfiekcmaaPSame
namespace Go.Proofs.Ythmfeknfiekcmaa.Am
open Go

theorem sameEntry_self {e : D_api_Entry} (h : e.2.2.2.2.2.2.2.2.2.length < 9223372036854775807) : F_mempoolref16_SameEntry e e = some true := by
  have hk : U.beq (.arr 32 .byte) e.1 e.1 = true := (U.beq_iff _ _ rfl _ _).2 rfl
  simp only [F_mempoolref16_SameEntry, hk, F_mempoolref1_SameBytes, sameInts_self h, sel, decide_true, Option.bind_some]
theorem sameEntries_self {l : List D_api_Entry} (h : l.length < 9223372036854775807) (he : ∀ e ∈ l, e.2.2.2.2.2.2.2.2.2.length < 9223372036854775807) : F_mempoolref16_SameEntries l l = some true := by
  refine ok_eq.1 ?_
  simp only [F_mempoolref16_SameEntries, ok_sel, ok_some, decide_eq_true_eq, decide_eq_false_iff_not, Bool.not_eq_true', Bool.not_eq_false']
  refine ⟨fun h => (h trivial).elim, fun _ => ?_⟩
  unfold F_mempoolref16_SameEntries_l1s
  refine ok_range l (fun i (_ : Unit) => (l, l, ((l.length : Nat) : Int), ((i : Nat) : Int))) (fun _ _ => True) (fun i b hi _ => ?_) (fun b _ => ?_) (b0 := ()) trivial (by omega)
  · have hs : F_mempoolref16_SameEntry (l.getD i d_api_Entry) (l.getD i d_api_Entry) = some true := sameEntry_self (he _ (by rw [getD_lt hi]; exact List.getElem_mem hi))
    simp only [F_mempoolref16_SameEntries_l1, wi_succ (i := i) (by omega), ok_sel, ok_chk, ok_bind, ok_some, nxt_inl, nxt_inr, decide_eq_true_eq, decide_eq_false_iff_not, Bool.not_eq_true', Bool.not_eq_false', Int.toNat_natCast, hs]
    refine ⟨fun _ => ⟨by omega, by omega, ?_⟩, fun h => by omega⟩
    simp
  · simp only [F_mempoolref16_SameEntries_l1, ok_sel, ok_chk, ok_bind, ok_some, nxt_inl, nxt_inr, decide_eq_true_eq, decide_eq_false_iff_not, Bool.not_eq_true', Bool.not_eq_false', Int.toNat_natCast]
    exact ⟨fun h => by omega, fun _ => trivial⟩
end Go.Proofs.Ythmfeknfiekcmaa.Am
