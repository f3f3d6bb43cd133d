/- 'LedgerDigests' holds for every input: the call returns true and leaves its arguments as they were. No conditions. -/
import Derived.Test.YtfaceeglocjkbaaTmRow
import Derived.Test.YtfaceeglocjkbaaFAllOk
import Derived.Test.YtfaceeglocjkbaaPLaw11D
import Derived.Test.YtfaceeglocjkbaaRows
import Derived.KernelRfl
namespace Go.Proofs.Ytfaceeglocjkbaa.rowLedgerDigests
open Go.ChangeShapes Go.WideShapes Go.ChangeAt Go.RowKit Go.Proofs.Ytfaceeglocjkbaa.Am

theorem rd23 {H : Type} {enc : TypeId × Value → H} {W : World} : Rd' enc Try.prog W 23 (.int .u64) := Rd'.int Try.underlying23
theorem rd9 {H : Type} {enc : TypeId × Value → H} {W : World} : Rd' enc Try.prog W 9 .str := Rd'.str Try.underlying9
theorem rd28 {H : Type} {enc : TypeId × Value → H} {W : World} : Rd' enc Try.prog W 28 U_api_Account := Rd'.st Try.underlying28 (by kernel_rfl) (.cons rfl (by kernel_rfl) rd9 (.cons rfl (by kernel_rfl) rd23 (.one rfl (by kernel_rfl) rd23)))
theorem rd22 {H : Type} {enc : TypeId × Value → H} {W : World} : Rd' enc Try.prog W 22 (.sl U_api_Account) := Rd'.sl Try.underlying22 (by kernel_rfl) (by decide) (of_decide_eq_true (by kernel_rfl)) rd28
theorem rd25 {H : Type} {enc : TypeId × Value → H} {W : World} : Rd' enc Try.prog W 25 U_api_Ledger := Rd'.st Try.underlying25 (by kernel_rfl) (.cons rfl (by kernel_rfl) rd22 (.one rfl (by kernel_rfl) rd23))
theorem rd3 {H : Type} {enc : TypeId × Value → H} {W : World} : Rd' enc Try.prog W 3 (.int .i64) := Rd'.int Try.underlying3
theorem rd26 {H : Type} {enc : TypeId × Value → H} {W : World} : Rd' enc Try.prog W 26 (.sl (.int .i64)) := Rd'.sl Try.underlying26 (by kernel_rfl) (by decide) (of_decide_eq_true (by kernel_rfl)) rd3
theorem own : ownKnob Try.prog.godebug = none := by kernel_rfl
theorem laidOut : laidOutB Try.prog = true := by kernel_rfl
theorem readable : (Try.f8.params.toList.all fun t => Try.prog.readableRec t && decide (t < Try.prog.types.size)) = true := by kernel_rfl
set_option maxRecDepth 100000 in
theorem lifted (os : Os) (started : os.Started) (H : Type) (enc : TypeId × Value → H) :
    ReturnsInHanded {} Try.checked os 8 .any (Rows.ledgerDigestsSpec.pre6 enc Try.prog Try.f8 Rows.ledgerDigestsRow.domain false) (Rows.ledgerDigestsSpec.post enc Try.prog Try.f8 false true false false) := by
  refine returnsInHanded_of_change_sized (C := Try.checked) own started (by kernel_rfl) Try.func8
    (ChangeSpec.witness6 (enc := enc) (C := Try.checked) false ⟨#[], #[.agg #[.slice none 0 0, .int .u64 0], .slice none 0 0], []⟩ 64 (by kernel_rfl) (by kernel_rfl) (by kernel_rfl) (by kernel_rfl)) ?_
  intro W base args ds gs before hval0 hW hcnd hZ _
  have hval : ∀ (j : Nat) t v, Try.f8.params[j]? = some t → args[j]? = some v → Value.okWide Try.prog W .any base t v := hval0
  clear hval0
  have hW' := hW
  obtain ⟨p, q, hA0, hV, rfl, hfz, hnd⟩ := hW
  have hA : DataW.TrodAll enc Try.prog W 0 (fun _ => true) true Try.f8.params.toList args.toList ds p := hA0
  rw [Try.params8] at hA hval hZ
  obtain ⟨v0, vs0, d0, ds0, p0, q0, hargs, rfl, rfl, h0, r0⟩ := trodAll_cons hA
  obtain ⟨v1, vs1, d1, ds1, p1, q1, rfl, rfl, rfl, h1, r1⟩ := trodAll_cons r0
  obtain ⟨rfl, rfl, rfl⟩ := trodAll_nil r1
  obtain rfl : args = #[v0, v1] := by cases args; simp_all
  obtain ⟨rfl, rfl⟩ := trodVars_none hV
  obtain ⟨x0, o0, w0, b0, z0⟩ := arg_agg (enc := enc) (u := U_api_Ledger) rd25 (agg_of (.inl ⟨_, Try.underlying25⟩) (hval 0 25 v0 rfl rfl)) h0
  obtain ⟨x1, o1, w1, b1, z1⟩ := arg_one (enc := enc) (u := (.sl (.int .i64))) rfl rd26 (one_of (by first | exact .inl ⟨_, Try.underlying26⟩ | exact .inr (.inl Try.underlying26) | exact .inr (.inr (.inl Try.underlying26)) | exact .inr (.inr (.inr ⟨_, Try.underlying26⟩))) (hval 1 26 v1 rfl rfl)) h1
  clear hA0 hval
  refine (law_call ok_mempoollaw11_LedgerDigests rfl #[v0, v1] ((x0, ()), x1, ()) (fun _ _ _ h => by cases h) (oas_cons o0 (oas_cons o1 oas_nil)) (r := true) (show F_mempoollaw11_LedgerDigests x0 x1 = some true from ledgerDigests_law x0 x1 w0 w1 (z0 (inr_at hZ (j := 0) rfl rfl)) (z1 (inr_at hZ (j := 1) rfl rfl)) ) rfl).mono fun e W' ⟨he, hb⟩ => ?_
  subst he
  exact ⟨_, rfl, law_post (s := Rows.ledgerDigestsSpec) laidOut readable (by kernel_rfl) Try.underlying4 rfl hW' rfl hb⟩

theorem proved : Rows.LedgerDigestsSaid :=
  OpenClaim.holds_of_wide 8 Try.f8 rfl rfl rfl rfl rfl rfl rfl ⟨rfl, rfl, rfl, rfl, rfl⟩ rfl rfl rfl rfl rfl (by kernel_rfl) Try.func8 (by kernel_rfl)
    (of_decide_eq_true (by kernel_rfl)) (by unfold Func.isWrapper; rw [if_neg (of_decide_eq_false (by kernel_rfl))]; exact ⟨rfl, rfl⟩)
    (fun os started H enc _ => lifted os started H enc)
end Go.Proofs.Ytfaceeglocjkbaa.rowLedgerDigests
