/- Law 10, validity, on plain data. No conditions. -/
import Derived.Test.YtaminglbenglfaaDoorPValid
import Derived.Test.YtaminglbenglfaaDoorTmRow
import Derived.Test.YtaminglbenglfaaDoorFAllKmempoollaw10
namespace Go.Proofs.YtaminglbenglfaaDoor.Am
open Go

theorem validates_true (a0 : D_api_Tx) (a1 : List Int) (_w0 : wfU U_api_Tx a0) (w1 : wfU (.sl (.int .i64)) a1) (z0 : szU U_api_Tx a0) (_z1 : szU (.sl (.int .i64)) a1) : F_mempoollaw10_TxValidates a0 a1 = some true := by
  rw [← ok_eq]
  have hl : a1.length ≤ maxLen := w1.1
  obtain ⟨hb, h24⟩ := sz_tx z0
  unfold F_mempoollaw10_TxValidates
  rw [long10 hl, Option.bind_some, ok_sel]
  refine ⟨fun _ => by rw [T_mempoollaw10_known]; exact ⟨true, rfl, rfl⟩, fun _ => ?_⟩
  rw [ok_bind]
  refine (big10 hb).mono fun r3 _ => ?_
  rw [ok_sel]
  refine ⟨fun _ => by rw [T_mempoollaw10_known]; exact ⟨true, rfl, rfl⟩, fun _ => ?_⟩
  rw [ok_bind]
  refine (made_s hb h24).mono fun r5 h5 => ?_
  have v1 := h5.1.valid
  simp only [valid_tx hb, valid_ref hb, valid_tx h5.1.b, v1, valid_tx h5.2, valid_ref h5.2, T_mempoollaw10_known, ok_sel, ok_bind, ok_some, decide_eq_true_eq, decide_eq_false_iff_not]
  simp
end Go.Proofs.YtaminglbenglfaaDoor.Am
