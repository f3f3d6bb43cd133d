/- 'ReapSizes' holds for every input: the call returns true and leaves its arguments as they were. No conditions. -/
import Derived.Test.YthmfeknfiekcmaaTmRow
import Derived.Test.YthmfeknfiekcmaaFAllOk
import Derived.Test.YthmfeknfiekcmaaPLaw24
import Derived.Test.YthmfeknfiekcmaaRows
import Derived.KernelRfl
namespace Go.Proofs.Ythmfeknfiekcmaa.rowReapSizes
open Go.ChangeShapes Go.WideShapes Go.ChangeAt Go.RowKit Go.Proofs.Ythmfeknfiekcmaa.Am

theorem rd5 {H : Type} {enc : TypeId × Value → H} {W : World} : Rd' enc Try.prog W 5 .byte := Rd'.byte Try.underlying5
theorem rd45 {H : Type} {enc : TypeId × Value → H} {W : World} : Rd' enc Try.prog W 45 (.sl .byte) := Rd'.sl Try.underlying45 (by kernel_rfl) (by decide) (of_decide_eq_true (by kernel_rfl)) rd5
theorem rd35 {H : Type} {enc : TypeId × Value → H} {W : World} : Rd' enc Try.prog W 35 (.sl (.sl .byte)) := Rd'.sl Try.underlying35 (by kernel_rfl) (by decide) (of_decide_eq_true (by kernel_rfl)) rd45
theorem rd43 {H : Type} {enc : TypeId × Value → H} {W : World} : Rd' enc Try.prog W 43 (.int .u16) := Rd'.int Try.underlying43
theorem own : ownKnob Try.prog.godebug = none := by kernel_rfl
theorem laidOut : laidOutB Try.prog = true := by kernel_rfl
theorem readable : (Try.f5.params.toList.all fun t => Try.prog.readableRec t && decide (t < Try.prog.types.size)) = true := by kernel_rfl
set_option maxRecDepth 100000 in
theorem lifted (os : Os) (started : os.Started) (H : Type) (enc : TypeId × Value → H) :
    ReturnsInHanded {} Try.checked os 5 .any (Rows.reapSizesSpec.pre6 enc Try.prog Try.f5 Rows.reapSizesRow.domain false) (Rows.reapSizesSpec.post enc Try.prog Try.f5 false true false false) := by
  refine returnsInHanded_of_change_sized (C := Try.checked) own started (by kernel_rfl) Try.func5
    (ChangeSpec.witness6 (enc := enc) (C := Try.checked) false ⟨#[], #[.slice none 0 0, .slice none 0 0, .int .u16 0], []⟩ 64 (by kernel_rfl) (by kernel_rfl) (by kernel_rfl) (by kernel_rfl)) ?_
  intro W base args ds gs before hval0 hW hcnd hZ _
  have hval : ∀ (j : Nat) t v, Try.f5.params[j]? = some t → args[j]? = some v → Value.okWide Try.prog W .any base t v := hval0
  clear hval0
  have hW' := hW
  obtain ⟨p, q, hA0, hV, rfl, hfz, hnd⟩ := hW
  have hA : DataW.TrodAll enc Try.prog W 0 (fun _ => true) true Try.f5.params.toList args.toList ds p := hA0
  rw [Try.params5] at hA hval hZ
  obtain ⟨v0, vs0, d0, ds0, p0, q0, hargs, rfl, rfl, h0, r0⟩ := trodAll_cons hA
  obtain ⟨v1, vs1, d1, ds1, p1, q1, rfl, rfl, rfl, h1, r1⟩ := trodAll_cons r0
  obtain ⟨v2, vs2, d2, ds2, p2, q2, rfl, rfl, rfl, h2, r2⟩ := trodAll_cons r1
  obtain ⟨rfl, rfl, rfl⟩ := trodAll_nil r2
  obtain rfl : args = #[v0, v1, v2] := by cases args; simp_all
  obtain ⟨rfl, rfl⟩ := trodVars_none hV
  obtain ⟨x0, o0, w0, b0, z0⟩ := arg_one (enc := enc) (u := (.sl (.sl .byte))) rfl rd35 (one_of (by first | exact .inl ⟨_, Try.underlying35⟩ | exact .inr (.inl Try.underlying35) | exact .inr (.inr (.inl Try.underlying35)) | exact .inr (.inr (.inr ⟨_, Try.underlying35⟩))) (hval 0 35 v0 rfl rfl)) h0
  obtain ⟨x1, o1, w1, b1, z1⟩ := arg_one (enc := enc) (u := (.sl (.sl .byte))) rfl rd35 (one_of (by first | exact .inl ⟨_, Try.underlying35⟩ | exact .inr (.inl Try.underlying35) | exact .inr (.inr (.inl Try.underlying35)) | exact .inr (.inr (.inr ⟨_, Try.underlying35⟩))) (hval 1 35 v1 rfl rfl)) h1
  obtain ⟨x2, o2, w2, b2, z2⟩ := arg_one (enc := enc) (u := (.int .u16)) rfl rd43 (one_of (by first | exact .inl ⟨_, Try.underlying43⟩ | exact .inr (.inl Try.underlying43) | exact .inr (.inr (.inl Try.underlying43)) | exact .inr (.inr (.inr ⟨_, Try.underlying43⟩))) (hval 2 43 v2 rfl rfl)) h2
  clear hA0 hval
  refine (law_call ok_mempoollaw24_ReapSizes rfl #[v0, v1, v2] (x0, x1, x2, ()) (fun _ _ _ h => by cases h) (oas_cons o0 (oas_cons o1 (oas_cons o2 oas_nil))) (r := true) (show F_mempoollaw24_ReapSizes x0 x1 x2 = some true from reapSizes_law x0 x1 x2 w0 w1 w2 (z0 (inr_at hZ (j := 0) rfl rfl)) (z1 (inr_at hZ (j := 1) rfl rfl)) (z2 (inr_at hZ (j := 2) rfl rfl)) ) rfl).mono fun e W' ⟨he, hb⟩ => ?_
  subst he
  exact ⟨_, rfl, law_post (s := Rows.reapSizesSpec) laidOut readable (by kernel_rfl) Try.underlying4 rfl hW' rfl hb⟩

theorem proved : Rows.ReapSizesSaid :=
  OpenClaim.holds_of_wide 5 Try.f5 rfl rfl rfl rfl rfl rfl rfl ⟨rfl, rfl, rfl, rfl, rfl⟩ rfl rfl rfl rfl rfl (by kernel_rfl) Try.func5 (by kernel_rfl)
    (of_decide_eq_true (by kernel_rfl)) (by unfold Func.isWrapper; rw [if_neg (of_decide_eq_false (by kernel_rfl))]; exact ⟨rfl, rfl⟩)
    (fun os started H enc _ => lifted os started H enc)
end Go.Proofs.Ythmfeknfiekcmaa.rowReapSizes
