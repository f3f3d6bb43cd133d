/- 'LedgerLimits' holds for every input: the call returns true and leaves its arguments as they were. No conditions. -/
import Derived.Test.YtfaceeglocjkbaaTmRow
import Derived.Test.YtfaceeglocjkbaaFAllOk
import Derived.Test.YtfaceeglocjkbaaPLaw11S
import Derived.Test.YtfaceeglocjkbaaRows
import Derived.KernelRfl
namespace Go.Proofs.Ytfaceeglocjkbaa.rowLedgerLimits
open Go.ChangeShapes Go.WideShapes Go.ChangeAt Go.RowKit Go.Proofs.Ytfaceeglocjkbaa.Am

theorem rd3 {H : Type} {enc : TypeId × Value → H} {W : World} : Rd' enc Try.prog W 3 (.int .i64) := Rd'.int Try.underlying3
theorem rd4 {H : Type} {enc : TypeId × Value → H} {W : World} : Rd' enc Try.prog W 4 .bool := Rd'.bool Try.underlying4
theorem own : ownKnob Try.prog.godebug = none := by kernel_rfl
theorem laidOut : laidOutB Try.prog = true := by kernel_rfl
theorem readable : (Try.f7.params.toList.all fun t => Try.prog.readableRec t && decide (t < Try.prog.types.size)) = true := by kernel_rfl
set_option maxRecDepth 100000 in
theorem lifted (os : Os) (started : os.Started) (H : Type) (enc : TypeId × Value → H) :
    ReturnsInHanded {} Try.checked os 7 .any (Rows.ledgerLimitsSpec.pre6 enc Try.prog Try.f7 Rows.ledgerLimitsRow.domain false) (Rows.ledgerLimitsSpec.post enc Try.prog Try.f7 false true false false) := by
  refine returnsInHanded_of_change_sized (C := Try.checked) own started (by kernel_rfl) Try.func7
    (ChangeSpec.witness6 (enc := enc) (C := Try.checked) false ⟨#[], #[.int .i64 0, .bool false], []⟩ 64 (by kernel_rfl) (by kernel_rfl) (by kernel_rfl) (by kernel_rfl)) ?_
  intro W base args ds gs before hval0 hW hcnd hZ _
  have hval : ∀ (j : Nat) t v, Try.f7.params[j]? = some t → args[j]? = some v → Value.okWide Try.prog W .any base t v := hval0
  clear hval0
  have hW' := hW
  obtain ⟨p, q, hA0, hV, rfl, hfz, hnd⟩ := hW
  have hA : DataW.TrodAll enc Try.prog W 0 (fun _ => true) true Try.f7.params.toList args.toList ds p := hA0
  rw [Try.params7] at hA hval hZ
  obtain ⟨v0, vs0, d0, ds0, p0, q0, hargs, rfl, rfl, h0, r0⟩ := trodAll_cons hA
  obtain ⟨v1, vs1, d1, ds1, p1, q1, rfl, rfl, rfl, h1, r1⟩ := trodAll_cons r0
  obtain ⟨rfl, rfl, rfl⟩ := trodAll_nil r1
  obtain rfl : args = #[v0, v1] := by cases args; simp_all
  obtain ⟨rfl, rfl⟩ := trodVars_none hV
  obtain ⟨x0, o0, w0, b0, z0⟩ := arg_one (enc := enc) (u := (.int .i64)) rfl rd3 (one_of (by first | exact .inl ⟨_, Try.underlying3⟩ | exact .inr (.inl Try.underlying3) | exact .inr (.inr (.inl Try.underlying3)) | exact .inr (.inr (.inr ⟨_, Try.underlying3⟩))) (hval 0 3 v0 rfl rfl)) h0
  obtain ⟨x1, o1, w1, b1, z1⟩ := arg_one (enc := enc) (u := .bool) rfl rd4 (one_of (by first | exact .inl ⟨_, Try.underlying4⟩ | exact .inr (.inl Try.underlying4) | exact .inr (.inr (.inl Try.underlying4)) | exact .inr (.inr (.inr ⟨_, Try.underlying4⟩))) (hval 1 4 v1 rfl rfl)) h1
  clear hA0 hval
  refine (law_call ok_mempoollaw11_LedgerLimits rfl #[v0, v1] (x0, x1, ()) (fun _ _ _ h => by cases h) (oas_cons o0 (oas_cons o1 oas_nil)) (r := true) (show F_mempoollaw11_LedgerLimits x0 x1 = some true from ledgerLimits_law x0 x1 w0 w1 (z0 (inr_at hZ (j := 0) rfl rfl)) (z1 (inr_at hZ (j := 1) rfl rfl)) ) rfl).mono fun e W' ⟨he, hb⟩ => ?_
  subst he
  exact ⟨_, rfl, law_post (s := Rows.ledgerLimitsSpec) laidOut readable (by kernel_rfl) Try.underlying4 rfl hW' rfl hb⟩

theorem proved : Rows.LedgerLimitsSaid :=
  OpenClaim.holds_of_wide 7 Try.f7 rfl rfl rfl rfl rfl rfl rfl ⟨rfl, rfl, rfl, rfl, rfl⟩ rfl rfl rfl rfl rfl (by kernel_rfl) Try.func7 (by kernel_rfl)
    (of_decide_eq_true (by kernel_rfl)) (by unfold Func.isWrapper; rw [if_neg (of_decide_eq_false (by kernel_rfl))]; exact ⟨rfl, rfl⟩)
    (fun os started H enc _ => lifted os started H enc)
end Go.Proofs.Ytfaceeglocjkbaa.rowLedgerLimits
