/- 'LedgerSets' holds for every input: the call returns true and leaves its arguments as they were. No conditions. -/
import Derived.Test.YtfaceeglocjkbaaTmRow
import Derived.Test.YtfaceeglocjkbaaFAllOk
import Derived.Test.YtfaceeglocjkbaaPLaw11S
import Derived.Test.YtfaceeglocjkbaaRows
import Derived.KernelRfl
namespace Go.Proofs.Ytfaceeglocjkbaa.rowLedgerSets
open Go.ChangeShapes Go.WideShapes Go.ChangeAt Go.RowKit Go.Proofs.Ytfaceeglocjkbaa.Am

theorem rd23 {H : Type} {enc : TypeId × Value → H} {W : World} : Rd' enc Try.prog W 23 (.int .u64) := Rd'.int Try.underlying23
theorem rd9 {H : Type} {enc : TypeId × Value → H} {W : World} : Rd' enc Try.prog W 9 .str := Rd'.str Try.underlying9
theorem rd28 {H : Type} {enc : TypeId × Value → H} {W : World} : Rd' enc Try.prog W 28 U_api_Account := Rd'.st Try.underlying28 (by kernel_rfl) (.cons rfl (by kernel_rfl) rd9 (.cons rfl (by kernel_rfl) rd23 (.one rfl (by kernel_rfl) rd23)))
theorem rd22 {H : Type} {enc : TypeId × Value → H} {W : World} : Rd' enc Try.prog W 22 (.sl U_api_Account) := Rd'.sl Try.underlying22 (by kernel_rfl) (by decide) (of_decide_eq_true (by kernel_rfl)) rd28
theorem rd25 {H : Type} {enc : TypeId × Value → H} {W : World} : Rd' enc Try.prog W 25 U_api_Ledger := Rd'.st Try.underlying25 (by kernel_rfl) (.cons rfl (by kernel_rfl) rd22 (.one rfl (by kernel_rfl) rd23))
theorem rd3 {H : Type} {enc : TypeId × Value → H} {W : World} : Rd' enc Try.prog W 3 (.int .i64) := Rd'.int Try.underlying3
theorem rd26 {H : Type} {enc : TypeId × Value → H} {W : World} : Rd' enc Try.prog W 26 (.sl (.int .i64)) := Rd'.sl Try.underlying26 (by kernel_rfl) (by decide) (of_decide_eq_true (by kernel_rfl)) rd3
theorem own : ownKnob Try.prog.godebug = none := by kernel_rfl
theorem laidOut : laidOutB Try.prog = true := by kernel_rfl
theorem readable : (Try.f5.params.toList.all fun t => Try.prog.readableRec t && decide (t < Try.prog.types.size)) = true := by kernel_rfl
set_option maxRecDepth 100000 in
theorem lifted (os : Os) (started : os.Started) (H : Type) (enc : TypeId × Value → H) :
    ReturnsInHanded {} Try.checked os 5 .any (Rows.ledgerSetsSpec.pre6 enc Try.prog Try.f5 Rows.ledgerSetsRow.domain false) (Rows.ledgerSetsSpec.post enc Try.prog Try.f5 false true false false) := by
  refine returnsInHanded_of_change_sized (C := Try.checked) own started (by kernel_rfl) Try.func5
    (ChangeSpec.witness6 (enc := enc) (C := Try.checked) false ⟨#[], #[.agg #[.slice none 0 0, .int .u64 0], .slice none 0 0, .agg #[.string ⟨#[]⟩, .int .u64 0, .int .u64 0], .int .i64 0], []⟩ 64 (by kernel_rfl) (by kernel_rfl) (by kernel_rfl) (by kernel_rfl)) ?_
  intro W base args ds gs before hval0 hW hcnd hZ _
  have hval : ∀ (j : Nat) t v, Try.f5.params[j]? = some t → args[j]? = some v → Value.okWide Try.prog W .any base t v := hval0
  clear hval0
  have hW' := hW
  obtain ⟨p, q, hA0, hV, rfl, hfz, hnd⟩ := hW
  have hA : DataW.TrodAll enc Try.prog W 0 (fun _ => true) true Try.f5.params.toList args.toList ds p := hA0
  rw [Try.params5] at hA hval hZ
  obtain ⟨v0, vs0, d0, ds0, p0, q0, hargs, rfl, rfl, h0, r0⟩ := trodAll_cons hA
  obtain ⟨v1, vs1, d1, ds1, p1, q1, rfl, rfl, rfl, h1, r1⟩ := trodAll_cons r0
  obtain ⟨v2, vs2, d2, ds2, p2, q2, rfl, rfl, rfl, h2, r2⟩ := trodAll_cons r1
  obtain ⟨v3, vs3, d3, ds3, p3, q3, rfl, rfl, rfl, h3, r3⟩ := trodAll_cons r2
  obtain ⟨rfl, rfl, rfl⟩ := trodAll_nil r3
  obtain rfl : args = #[v0, v1, v2, v3] := by cases args; simp_all
  obtain ⟨rfl, rfl⟩ := trodVars_none hV
  obtain ⟨x0, o0, w0, b0, z0⟩ := arg_agg (enc := enc) (u := U_api_Ledger) rd25 (agg_of (.inl ⟨_, Try.underlying25⟩) (hval 0 25 v0 rfl rfl)) h0
  obtain ⟨x1, o1, w1, b1, z1⟩ := arg_one (enc := enc) (u := (.sl (.int .i64))) rfl rd26 (one_of (by first | exact .inl ⟨_, Try.underlying26⟩ | exact .inr (.inl Try.underlying26) | exact .inr (.inr (.inl Try.underlying26)) | exact .inr (.inr (.inr ⟨_, Try.underlying26⟩))) (hval 1 26 v1 rfl rfl)) h1
  obtain ⟨x2, o2, w2, b2, z2⟩ := arg_agg (enc := enc) (u := U_api_Account) rd28 (agg_of (.inl ⟨_, Try.underlying28⟩) (hval 2 28 v2 rfl rfl)) h2
  obtain ⟨x3, o3, w3, b3, z3⟩ := arg_one (enc := enc) (u := (.int .i64)) rfl rd3 (one_of (by first | exact .inl ⟨_, Try.underlying3⟩ | exact .inr (.inl Try.underlying3) | exact .inr (.inr (.inl Try.underlying3)) | exact .inr (.inr (.inr ⟨_, Try.underlying3⟩))) (hval 3 3 v3 rfl rfl)) h3
  clear hA0 hval
  refine (law_call ok_mempoollaw11_LedgerSets rfl #[v0, v1, v2, v3] ((x0, ()), x1, (x2, ()), x3, ()) (fun _ _ _ h => by cases h) (oas_cons o0 (oas_cons o1 (oas_cons o2 (oas_cons o3 oas_nil)))) (r := true) (show F_mempoollaw11_LedgerSets x0 x1 x2 x3 = some true from ledgerSets_law x0 x1 x2 x3 w0 w1 w2 w3 (z0 (inr_at hZ (j := 0) rfl rfl)) (z1 (inr_at hZ (j := 1) rfl rfl)) (z2 (inr_at hZ (j := 2) rfl rfl)) (z3 (inr_at hZ (j := 3) rfl rfl)) ) rfl).mono fun e W' ⟨he, hb⟩ => ?_
  subst he
  exact ⟨_, rfl, law_post (s := Rows.ledgerSetsSpec) laidOut readable (by kernel_rfl) Try.underlying4 rfl hW' rfl hb⟩

theorem proved : Rows.LedgerSetsSaid :=
  OpenClaim.holds_of_wide 5 Try.f5 rfl rfl rfl rfl rfl rfl rfl ⟨rfl, rfl, rfl, rfl, rfl⟩ rfl rfl rfl rfl rfl (by kernel_rfl) Try.func5 (by kernel_rfl)
    (of_decide_eq_true (by kernel_rfl)) (by unfold Func.isWrapper; rw [if_neg (of_decide_eq_false (by kernel_rfl))]; exact ⟨rfl, rfl⟩)
    (fun os started H enc _ => lifted os started H enc)
end Go.Proofs.Ytfaceeglocjkbaa.rowLedgerSets
