/- 'HeapNil' holds for every input: the call returns true and leaves its arguments as they were. No conditions. -/
import Derived.Test.YthmfeknfiekcmaaTmRow
import Derived.Test.YthmfeknfiekcmaaFAllOk
import Derived.Test.YthmfeknfiekcmaaPLaw9
import Derived.Test.YthmfeknfiekcmaaRows
import Derived.KernelRfl
namespace Go.Proofs.Ythmfeknfiekcmaa.rowHeapNil
open Go.ChangeShapes Go.WideShapes Go.ChangeAt Go.RowKit Go.Proofs.Ythmfeknfiekcmaa.Am

theorem rd3 {H : Type} {enc : TypeId × Value → H} {W : World} : Rd' enc Try.prog W 3 (.int .i64) := Rd'.int Try.underlying3
theorem rd47 {H : Type} {enc : TypeId × Value → H} {W : World} : Rd' enc Try.prog W 47 (.int .u64) := Rd'.int Try.underlying47
theorem rd55 {H : Type} {enc : TypeId × Value → H} {W : World} : Rd' enc Try.prog W 55 U_api_Item := Rd'.st Try.underlying55 (by kernel_rfl) (.cons rfl (by kernel_rfl) rd3 (.cons rfl (by kernel_rfl) rd47 (.one rfl (by kernel_rfl) rd3)))
theorem own : ownKnob Try.prog.godebug = none := by kernel_rfl
theorem laidOut : laidOutB Try.prog = true := by kernel_rfl
theorem readable : (Try.f10.params.toList.all fun t => Try.prog.readableRec t && decide (t < Try.prog.types.size)) = true := by kernel_rfl
set_option maxRecDepth 100000 in
theorem lifted (os : Os) (started : os.Started) (H : Type) (enc : TypeId × Value → H) :
    ReturnsInHanded {} Try.checked os 10 .any (Rows.heapNilSpec.pre6 enc Try.prog Try.f10 Rows.heapNilRow.domain false) (Rows.heapNilSpec.post enc Try.prog Try.f10 false true false false) := by
  refine returnsInHanded_of_change_sized (C := Try.checked) own started (by kernel_rfl) Try.func10
    (ChangeSpec.witness6 (enc := enc) (C := Try.checked) false ⟨#[], #[.agg #[.int .i64 0, .int .u64 0, .int .i64 0]], []⟩ 64 (by kernel_rfl) (by kernel_rfl) (by kernel_rfl) (by kernel_rfl)) ?_
  intro W base args ds gs before hval0 hW hcnd hZ _
  have hval : ∀ (j : Nat) t v, Try.f10.params[j]? = some t → args[j]? = some v → Value.okWide Try.prog W .any base t v := hval0
  clear hval0
  have hW' := hW
  obtain ⟨p, q, hA0, hV, rfl, hfz, hnd⟩ := hW
  have hA : DataW.TrodAll enc Try.prog W 0 (fun _ => true) true Try.f10.params.toList args.toList ds p := hA0
  rw [Try.params10] at hA hval hZ
  obtain ⟨v0, vs0, d0, ds0, p0, q0, hargs, rfl, rfl, h0, r0⟩ := trodAll_cons hA
  obtain ⟨rfl, rfl, rfl⟩ := trodAll_nil r0
  obtain rfl : args = #[v0] := by cases args; simp_all
  obtain ⟨rfl, rfl⟩ := trodVars_none hV
  obtain ⟨x0, o0, w0, b0, z0⟩ := arg_agg (enc := enc) (u := U_api_Item) rd55 (agg_of (.inl ⟨_, Try.underlying55⟩) (hval 0 55 v0 rfl rfl)) h0
  clear hA0 hval
  refine (law_call ok_mempoollaw9_HeapNil rfl #[v0] ((x0, ()), ()) (fun _ _ _ h => by cases h) (oas_cons o0 oas_nil) (r := true) (show F_mempoollaw9_HeapNil x0 = some true from heapNil_law x0 w0 (z0 (inr_at hZ (j := 0) rfl rfl)) ) rfl).mono fun e W' ⟨he, hb⟩ => ?_
  subst he
  exact ⟨_, rfl, law_post (s := Rows.heapNilSpec) laidOut readable (by kernel_rfl) Try.underlying4 rfl hW' rfl hb⟩

theorem proved : Rows.HeapNilSaid :=
  OpenClaim.holds_of_wide 10 Try.f10 rfl rfl rfl rfl rfl rfl rfl ⟨rfl, rfl, rfl, rfl, rfl⟩ rfl rfl rfl rfl rfl (by kernel_rfl) Try.func10 (by kernel_rfl)
    (of_decide_eq_true (by kernel_rfl)) (by unfold Func.isWrapper; rw [if_neg (of_decide_eq_false (by kernel_rfl))]; exact ⟨rfl, rfl⟩)
    (fun os started H enc _ => lifted os started H enc)
end Go.Proofs.Ythmfeknfiekcmaa.rowHeapNil
