/- 'PoolAgrees' holds for every input: the call returns true and leaves its arguments as they were. No conditions. -/
import Derived.Test.YtacnfjjkhpkloaaGreatQAB
import Derived.Test.YtacnfjjkhpkloaaGreatFAllOk
import Derived.Test.YtacnfjjkhpkloaaGreatPLaw20C
import Derived.Test.YtacnfjjkhpkloaaGreatRows
import Derived.KernelRfl
namespace Go.Proofs.YtacnfjjkhpkloaaGreat.rowPoolAgrees
open Go.ChangeShapes Go.WideShapes Go.ChangeAt Go.RowKit Go.Proofs.YtacnfjjkhpkloaaGreat.Am
theorem rd3 {H:Type} {enc:TypeId × Value->H} {W:World}:Rd' enc Tryz.prog W 3 (.int .i64):=Rd'.int Tryz.underlying3
theorem rd22 {H:Type} {enc:TypeId × Value->H} {W:World}:Rd' enc Tryz.prog W 22 (.sl (.int .i64)):=Rd'.sl Tryz.underlying22 (by kernel_rfl) (by decide) (of_decide_eq_true (by kernel_rfl)) rd3
theorem own:ownKnob Tryz.prog.godebug=none:=by kernel_rfl
theorem laidOut:laidOutB Tryz.prog=true:=by kernel_rfl
theorem readable:(Tryz.f5.params.toList.all fun t=>Tryz.prog.readableRec t && decide (t < Tryz.prog.types.size))=true:=by kernel_rfl
set_option maxRecDepth 100000 in
theorem lifted (os:Os) (started:os.Started) (H:Type) (enc:TypeId × Value->H) :
  ReturnsInHanded {} Tryz.checked os 5 .any (Rows.poolAgreesSpec.pre6 enc Tryz.prog Tryz.f5 Rows.poolAgreesRow.domain false) (Rows.poolAgreesSpec.post enc Tryz.prog Tryz.f5 false true false false):=by
 refine returnsInHanded_of_change_sized (C:=Tryz.checked) own started (by kernel_rfl) Tryz.func5
  (ChangeSpec.witness6 (enc:=enc) (C:=Tryz.checked) false ⟨#[],#[.slice none 0 0],[]⟩ 64 (by kernel_rfl) (by kernel_rfl) (by kernel_rfl) (by kernel_rfl)) ?_
 intro W base args ds gs before hval0 hW hcnd hZ _
 have hval:∀ (j:Nat) t v,Tryz.f5.params[j]?=some t->args[j]?=some v->Value.okWide Tryz.prog W .any base t v:=hval0
 clear hval0
 have hW':=hW
 obtain⟨p,q,hA0,hV,rfl,hfz,hnd⟩:=hW
 have hA:DataW.TrodAll enc Tryz.prog W 0 (fun _=>true) true Tryz.f5.params.toList args.toList ds p:=hA0
 rw [Tryz.params5] at hA hval hZ
 obtain⟨v0,vs0,d0,ds0,p0,q0,hargs,rfl,rfl,h0,r0⟩:=trodAll_cons hA
 obtain⟨rfl,rfl,rfl⟩:=trodAll_nil r0
 obtain rfl:args= #[v0]:=by cases args;simp_all
 obtain⟨rfl,rfl⟩:=trodVars_none hV
 obtain⟨x0,o0,w0,b0,z0⟩:=a7e (enc:=enc) (u:=(.sl (.int .i64))) rfl rd22 (a97 (by first | exact .inl ⟨_,Tryz.underlying22⟩ | exact .inr (.inl Tryz.underlying22) | exact .inr (.inr (.inl Tryz.underlying22)) | exact .inr (.inr (.inr ⟨_,Tryz.underlying22⟩))) (hval 0 22 v0 rfl rfl)) h0
 clear hA0 hval
 refine(a9j a37 rfl #[v0] (x0,()) (fun _ _ _ h=>by cases h) (a2L o0 b2c) (r:=true) (show O1 x0=some true from b0E x0 w0 (z0 (a6P hZ (j:=0) rfl rfl))) rfl).mono fun e W' ⟨he,hb⟩=>?_
 subst he
 exact⟨_,rfl,a83 (s:=Rows.poolAgreesSpec) laidOut readable (by kernel_rfl) Tryz.underlying4 rfl hW' rfl hb⟩
theorem proved:Rows.PoolAgreesSaid:=
 OpenClaim.holds_of_wide 5 Tryz.f5 rfl rfl rfl rfl rfl rfl rfl ⟨rfl,rfl,rfl,rfl,rfl⟩ rfl rfl rfl rfl rfl (by kernel_rfl) Tryz.func5 (by kernel_rfl)
  (of_decide_eq_true (by kernel_rfl)) (by unfold Func.isWrapper;rw [if_neg (of_decide_eq_false (by kernel_rfl))];exact⟨rfl,rfl⟩)
  (fun os started H enc _=>lifted os started H enc)
end Go.Proofs.YtacnfjjkhpkloaaGreat.rowPoolAgrees
