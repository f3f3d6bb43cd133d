/- 'PoolApart' holds for every input: the call returns true and leaves its arguments as they were. No conditions. -/
import Derived.Test.YthkhcbphbabefaaGreatQAI
import Derived.KernelRfl
namespace Go.Proofs.YthkhcbphbabefaaGreat.rowPoolApart
open Go.ChangeShapes Go.WideShapes Go.ChangeAt Go.RowKit Go.Proofs.YthkhcbphbabefaaGreat.Am
theorem rd3 {H:Type} {enc:TypeId × Value->H} {W:World}:Rd' enc Tryz.prog W 3 (.int .i64):=Rd'.int Tryz.underlying3
theorem rd22 {H:Type} {enc:TypeId × Value->H} {W:World}:Rd' enc Tryz.prog W 22 (.sl (.int .i64)):=Rd'.sl Tryz.underlying22 (by kernel_rfl) (by decide) (of_decide_eq_true (by kernel_rfl)) rd3
theorem rd5 {H:Type} {enc:TypeId × Value->H} {W:World}:Rd' enc Tryz.prog W 5 .byte:=Rd'.byte Tryz.underlying5
theorem own:ownKnob Tryz.prog.godebug=none:=by kernel_rfl
theorem laidOut:laidOutB Tryz.prog=true:=by kernel_rfl
theorem readable:(Tryz.f3.params.toList.all λt=>Tryz.prog.readableRec t && decide (t < Tryz.prog.types.size))=true:=by kernel_rfl
set_option maxRecDepth 100000 in
theorem lifted (os:Os) (started:os.Started) (H:Type) (enc:TypeId × Value->H) :
  ReturnsInHanded {} Tryz.checked os 3 .any (Rows.poolApartSpec.pre6 enc Tryz.prog Tryz.f3 Rows.poolApartRow.domain false) (Rows.poolApartSpec.post enc Tryz.prog Tryz.f3 false true false false):=by
 refine returnsInHanded_of_change_sized (C:=Tryz.checked) own started (by kernel_rfl) Tryz.func3
  (ChangeSpec.witness6 (enc:=enc) (C:=Tryz.checked) false ⟨#[],#[.slice none 0 0,.int .u8 0],[]⟩ 64 (by kernel_rfl) (by kernel_rfl) (by kernel_rfl) (by kernel_rfl)) ?_
 intro W base args ds gs before hval0 hW hcnd hZ _
 have hval:∀ (j:Nat) t v,Tryz.f3.params[j]?=some t->args[j]?=some v->Value.okWide Tryz.prog W .any base t v:=hval0
 clear hval0
 have hW':=hW
 obtain⟨p,q,hA0,hV,rfl,hfz,hnd⟩:=hW
 have hA:DataW.TrodAll enc Tryz.prog W 0 (λ_=>true) true Tryz.f3.params.toList args.toList ds p:=hA0
 rw [Tryz.params3] at hA hval hZ
 obtain⟨v0,vs0,d0,ds0,p0,q0,hargs,rfl,rfl,h0,r0⟩:=trodAll_cons hA
 obtain⟨v1,vs1,d1,ds1,p1,q1,rfl,rfl,rfl,h1,r1⟩:=trodAll_cons r0
 obtain⟨rfl,rfl,rfl⟩:=trodAll_nil r1
 obtain rfl:args= #[v0,v1]:=by cases args;simp_all
 obtain⟨rfl,rfl⟩:=trodVars_none hV
 obtain⟨x0,o0,w0,b0,z0⟩:=Af (enc:=enc) (u:=(.sl (.int .i64))) rfl rd22 (Fh (by first | exact .inl ⟨_,Tryz.underlying22⟩ | exact .inr (.inl Tryz.underlying22) | exact .inr (.inr (.inl Tryz.underlying22)) | exact .inr (.inr (.inr ⟨_,Tryz.underlying22⟩))) (hval 0 22 v0 rfl rfl)) h0
 obtain⟨x1,o1,w1,b1,z1⟩:=Af (enc:=enc) (u:= .byte) rfl rd5 (Fh (by first | exact .inl ⟨_,Tryz.underlying5⟩ | exact .inr (.inl Tryz.underlying5) | exact .inr (.inr (.inl Tryz.underlying5)) | exact .inr (.inr (.inr ⟨_,Tryz.underlying5⟩))) (hval 1 5 v1 rfl rfl)) h1
 clear hA0 hval
 refine(DB du rfl #[v0,v1] (x0,x1,()) (λ_ _ _ h=>by cases h) (vM o0 (vM o1 GQ)) (r:=true) (show E6 x0 x1=some true from qc x0 x1 w0 w1 (z0 (Fi hZ (j:=0) rfl rfl)) (z1 (Fi hZ (j:=1) rfl rfl))) rfl).mono λe W' ⟨he,hb⟩=>?_
 subst he
 exact⟨_,rfl,Cb (s:=Rows.poolApartSpec) laidOut readable (by kernel_rfl) Tryz.underlying4 rfl hW' rfl hb⟩
theorem proved:Rows.PoolApartSaid:=
 OpenClaim.holds_of_wide 3 Tryz.f3 rfl rfl rfl rfl rfl rfl rfl ⟨rfl,rfl,rfl,rfl,rfl⟩ rfl rfl rfl rfl rfl (by kernel_rfl) Tryz.func3 (by kernel_rfl)
  (of_decide_eq_true (by kernel_rfl)) (by unfold Func.isWrapper;rw [if_neg (of_decide_eq_false (by kernel_rfl))];exact⟨rfl,rfl⟩)
  (λos started H enc _=>lifted os started H enc)
end Go.Proofs.YthkhcbphbabefaaGreat.rowPoolApart
