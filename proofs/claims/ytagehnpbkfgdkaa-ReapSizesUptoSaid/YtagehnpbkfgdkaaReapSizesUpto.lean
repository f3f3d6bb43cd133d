/- 'ReapSizes' holds for every input of bulk at most 1048576: the call returns true and leaves its arguments as they were. Condition: the bulk (uptoSmall). -/
import Derived.Test.YtagehnpbkfgdkaaTmRow
import Derived.Test.YtagehnpbkfgdkaaFAllOk
import Derived.Test.YtagehnpbkfgdkaaPLaw24
import Derived.Test.YtagehnpbkfgdkaaRows
import Derived.KernelRfl
namespace Go.Proofs.Ytagehnpbkfgdkaa.rowReapSizesUpto
open Go.ChangeShapes Go.WideShapes Go.ChangeAt Go.RowKit Go.Proofs.Ytagehnpbkfgdkaa.Am

theorem rd5 {H : Type} {enc : TypeId × Value → H} {W : World} : Rd' enc Try.prog W 5 .byte := Rd'.byte Try.underlying5
theorem rd45 {H : Type} {enc : TypeId × Value → H} {W : World} : Rd' enc Try.prog W 45 (.sl .byte) := Rd'.sl Try.underlying45 (by kernel_rfl) (by decide) rd5
theorem rd35 {H : Type} {enc : TypeId × Value → H} {W : World} : Rd' enc Try.prog W 35 (.sl (.sl .byte)) := Rd'.sl Try.underlying35 (by kernel_rfl) (by decide) rd45
theorem rd43 {H : Type} {enc : TypeId × Value → H} {W : World} : Rd' enc Try.prog W 43 (.int .u16) := Rd'.int Try.underlying43
theorem own : ownKnob Try.prog.godebug = none := by kernel_rfl
theorem laidOut : laidOutB Try.prog = true := by kernel_rfl
theorem readable : (Try.f5.params.toList.all fun t => Try.prog.readableRec t && decide (t < Try.prog.types.size)) = true := by kernel_rfl
set_option maxRecDepth 100000 in
theorem contract (H : Type) (enc : TypeId × Value → H) (W : World) (base : Nat) (args : Array Value) (ds gs : List (DataW H)) (before : List MemPlace)
    (hval : ∀ (j : Nat) t v, Try.f5.params[j]? = some t → args[j]? = some v → Value.okWide Try.prog W .any base t v)
    (hW : DataW.Whole enc Try.prog Try.f5.params.toList Rows.reapSizesSpec.vars false W args.toList ds gs before) (hk : Rows.uptoSmall H (ds ++ gs) = true) :
    Calls Try.prog 5 args W fun e W' => ∃ v, e = .returned v ∧ Rows.reapSizesSpec.post enc Try.prog Try.f5 false true false false W args v W' := by
  have hW' := hW
  obtain ⟨p, q, hA0, hV, rfl, hfz, hnd⟩ := hW
  have hA : DataW.TrodAll enc Try.prog W 0 (fun _ => true) true Try.f5.params.toList args.toList ds p := hA0
  rw [Try.params5] at hA hval
  obtain ⟨v0, vs0, d0, ds0, p0, q0, hargs, rfl, rfl, h0, r0⟩ := trodAll_cons hA
  obtain ⟨v1, vs1, d1, ds1, p1, q1, rfl, rfl, rfl, h1, r1⟩ := trodAll_cons r0
  obtain ⟨v2, vs2, d2, ds2, p2, q2, rfl, rfl, rfl, h2, r2⟩ := trodAll_cons r1
  obtain ⟨rfl, rfl, rfl⟩ := trodAll_nil r2
  obtain rfl : args = #[v0, v1, v2] := by cases args; simp_all
  obtain ⟨rfl, rfl⟩ := trodVars_none hV
  obtain ⟨x0, o0, w0, b0⟩ := arg_one (enc := enc) (u := (.sl (.sl .byte))) rfl rd35 (one_of (by first | exact .inl ⟨_, Try.underlying35⟩ | exact .inr (.inl Try.underlying35) | exact .inr (.inr (.inl Try.underlying35)) | exact .inr (.inr (.inr ⟨_, Try.underlying35⟩))) (hval 0 35 v0 rfl rfl)) h0
  obtain ⟨x1, o1, w1, b1⟩ := arg_one (enc := enc) (u := (.sl (.sl .byte))) rfl rd35 (one_of (by first | exact .inl ⟨_, Try.underlying35⟩ | exact .inr (.inl Try.underlying35) | exact .inr (.inr (.inl Try.underlying35)) | exact .inr (.inr (.inr ⟨_, Try.underlying35⟩))) (hval 1 35 v1 rfl rfl)) h1
  obtain ⟨x2, o2, w2, b2⟩ := arg_one (enc := enc) (u := (.int .u16)) rfl rd43 (one_of (by first | exact .inl ⟨_, Try.underlying43⟩ | exact .inr (.inl Try.underlying43) | exact .inr (.inr (.inl Try.underlying43)) | exact .inr (.inr (.inr ⟨_, Try.underlying43⟩))) (hval 2 43 v2 rfl rfl)) h2
  have hk' : Rows.uptoSmall H [d0, d1, d2] = true := by simpa only [List.append_nil] using hk
  have HB : Rows.uptoBulkAll [d0, d1, d2] ≤ 1048576 := of_decide_eq_true hk'
  simp only [Rows.uptoBulkAll] at HB
  clear hA0 hval
  refine (law_call ok_mempoollaw24_ReapSizes rfl #[v0, v1, v2] (x0, x1, x2, ()) (oas_cons o0 (oas_cons o1 (oas_cons o2 oas_nil))) (r := true) (show F_mempoollaw24_ReapSizes x0 x1 x2 = some true from reapSizes_law x0 x1 x2 w0 w1 w2 (by omega)) rfl).mono fun e W' ⟨he, hb⟩ => ?_
  subst he
  exact ⟨_, rfl, law_post (s := Rows.reapSizesSpec) laidOut readable (by kernel_rfl) Try.underlying4 rfl hW' rfl hb⟩

set_option maxRecDepth 100000 in
theorem lifted (os : Os) (started : os.Started) (H : Type) (enc : TypeId × Value → H) (F : Stop.Interp) :
    ReturnsInHanded {} Try.checked os 5 .any ((Rows.OpenSpec.upto Rows.reapSizesSpec).pre6 enc Try.prog Try.f5 Rows.reapSizesUptoRow.domain false) (((Rows.OpenSpec.upto Rows.reapSizesSpec).at F).post enc Try.prog Try.f5 false true false false) := by
  refine returnsInHanded_of_cond (C := Try.checked) (s := Rows.OpenSpec.upto Rows.reapSizesSpec) (k := Rows.uptoSmall) rfl own started (by kernel_rfl) Try.func5
    (OpenSpec.witness (enc := enc) (C := Try.checked) (s := Rows.OpenSpec.upto Rows.reapSizesSpec) (k := Rows.uptoSmall) rfl false ⟨#[], #[.slice none 0 0, .slice none 0 0, .int .u16 0], []⟩ 64 (by kernel_rfl) (by kernel_rfl) (by kernel_rfl)
      (x := ([.nil, .nil, .lit (.int .u16 0)], [], [])) (by kernel_rfl) rfl (by kernel_rfl)) ?_
  intro W base args ds gs before hval hW _ hk _
  exact contract H enc W base args ds gs before hval hW hk

theorem proved : Rows.ReapSizesUptoSaid :=
  OpenClaim.holds_of_cond 5 Try.f5 rfl rfl rfl rfl rfl rfl rfl ⟨rfl, rfl, rfl, rfl, rfl⟩ rfl rfl rfl rfl rfl (by kernel_rfl) Try.func5 (by kernel_rfl)
    (of_decide_eq_true (by kernel_rfl)) (by unfold Func.isWrapper; rw [if_neg (of_decide_eq_false (by kernel_rfl))]; exact ⟨rfl, rfl⟩)
    (fun os started H enc _ F => lifted os started H enc F)
end Go.Proofs.Ytagehnpbkfgdkaa.rowReapSizesUpto
