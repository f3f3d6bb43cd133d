/- 'PoolReads' holds for every input: the call returns true and leaves its arguments as they were. No conditions. -/
import Derived.Test.YtacnfjjkhpkloaaGreatQAB
import Derived.Test.YtacnfjjkhpkloaaGreatFAllOk
import Derived.Test.YtacnfjjkhpkloaaGreatPLaw20B
import Derived.Test.YtacnfjjkhpkloaaGreatRows
import Derived.KernelRfl
namespace Go.Proofs.YtacnfjjkhpkloaaGreat.rowPoolReads
open Go.ChangeShapes Go.WideShapes Go.ChangeAt Go.RowKit Go.Proofs.YtacnfjjkhpkloaaGreat.Am
theorem rd3 {H:Type} {enc:TypeId × Value->H} {W:World}:Rd' enc Tryz.prog W 3 (.int .i64):=Rd'.int Tryz.underlying3
theorem rd22 {H:Type} {enc:TypeId × Value->H} {W:World}:Rd' enc Tryz.prog W 22 (.sl (.int .i64)):=Rd'.sl Tryz.underlying22 (by kernel_rfl) (by decide) (of_decide_eq_true (by kernel_rfl)) rd3
theorem rd23 {H:Type} {enc:TypeId × Value->H} {W:World}:Rd' enc Tryz.prog W 23 (.int .u64):=Rd'.int Tryz.underlying23
theorem rd4 {H:Type} {enc:TypeId × Value->H} {W:World}:Rd' enc Tryz.prog W 4 .bool:=Rd'.bool Tryz.underlying4
theorem rd25 {H:Type} {enc:TypeId × Value->H} {W:World}:Rd' enc Tryz.prog W 25 A8:=Rd'.st Tryz.underlying25 (by kernel_rfl) (.cons rfl (by kernel_rfl) rd3 (.cons rfl (by kernel_rfl) rd3 (.cons rfl (by kernel_rfl) rd3 (.cons rfl (by kernel_rfl) rd3 (.cons rfl (by kernel_rfl) rd3 (.cons rfl (by kernel_rfl) rd3 (.cons rfl (by kernel_rfl) rd4 (.cons rfl (by kernel_rfl) rd3 (.cons rfl (by kernel_rfl) rd3 (.cons rfl (by kernel_rfl) rd23 (.cons rfl (by kernel_rfl) rd3 (.one rfl (by kernel_rfl) rd3))))))))))))
theorem rd5 {H:Type} {enc:TypeId × Value->H} {W:World}:Rd' enc Tryz.prog W 5 .byte:=Rd'.byte Tryz.underlying5
theorem rd27 {H:Type} {enc:TypeId × Value->H} {W:World}:Rd' enc Tryz.prog W 27 (.arr 32 .byte):=Rd'.arr Tryz.underlying27 (by kernel_rfl) (by kernel_rfl) rd5
theorem own:ownKnob Tryz.prog.godebug=none:=by kernel_rfl
theorem laidOut:laidOutB Tryz.prog=true:=by kernel_rfl
theorem readable:(Tryz.f3.params.toList.all fun t=>Tryz.prog.readableRec t && decide (t < Tryz.prog.types.size))=true:=by kernel_rfl
set_option maxRecDepth 100000 in
theorem lifted (os:Os) (started:os.Started) (H:Type) (enc:TypeId × Value->H) :
  ReturnsInHanded {} Tryz.checked os 3 .any (Rows.poolReadsSpec.pre6 enc Tryz.prog Tryz.f3 Rows.poolReadsRow.domain false) (Rows.poolReadsSpec.post enc Tryz.prog Tryz.f3 false true false false):=by
 refine returnsInHanded_of_change_sized (C:=Tryz.checked) own started (by kernel_rfl) Tryz.func3
  (ChangeSpec.witness6 (enc:=enc) (C:=Tryz.checked) false ⟨#[],#[.slice none 0 0,.agg #[.int .i64 0,.int .i64 0,.int .i64 0,.int .i64 0,.int .i64 0,.int .i64 0,.bool false,.int .i64 0,.int .i64 0,.int .u64 0,.int .i64 0,.int .i64 0],.int .i64 0,.int .i64 0,.agg #[.int .u8 0,.int .u8 0,.int .u8 0,.int .u8 0,.int .u8 0,.int .u8 0,.int .u8 0,.int .u8 0,.int .u8 0,.int .u8 0,.int .u8 0,.int .u8 0,.int .u8 0,.int .u8 0,.int .u8 0,.int .u8 0,.int .u8 0,.int .u8 0,.int .u8 0,.int .u8 0,.int .u8 0,.int .u8 0,.int .u8 0,.int .u8 0,.int .u8 0,.int .u8 0,.int .u8 0,.int .u8 0,.int .u8 0,.int .u8 0,.int .u8 0,.int .u8 0]],[]⟩ 64 (by kernel_rfl) (by kernel_rfl) (by kernel_rfl) (by kernel_rfl)) ?_
 intro W base args ds gs before hval0 hW hcnd hZ _
 have hval:∀ (j:Nat) t v,Tryz.f3.params[j]?=some t->args[j]?=some v->Value.okWide Tryz.prog W .any base t v:=hval0
 clear hval0
 have hW':=hW
 obtain⟨p,q,hA0,hV,rfl,hfz,hnd⟩:=hW
 have hA:DataW.TrodAll enc Tryz.prog W 0 (fun _=>true) true Tryz.f3.params.toList args.toList ds p:=hA0
 rw [Tryz.params3] at hA hval hZ
 obtain⟨v0,vs0,d0,ds0,p0,q0,hargs,rfl,rfl,h0,r0⟩:=trodAll_cons hA
 obtain⟨v1,vs1,d1,ds1,p1,q1,rfl,rfl,rfl,h1,r1⟩:=trodAll_cons r0
 obtain⟨v2,vs2,d2,ds2,p2,q2,rfl,rfl,rfl,h2,r2⟩:=trodAll_cons r1
 obtain⟨v3,vs3,d3,ds3,p3,q3,rfl,rfl,rfl,h3,r3⟩:=trodAll_cons r2
 obtain⟨v4,vs4,d4,ds4,p4,q4,rfl,rfl,rfl,h4,r4⟩:=trodAll_cons r3
 obtain⟨rfl,rfl,rfl⟩:=trodAll_nil r4
 obtain rfl:args= #[v0,v1,v2,v3,v4]:=by cases args;simp_all
 obtain⟨rfl,rfl⟩:=trodVars_none hV
 obtain⟨x0,o0,w0,b0,z0⟩:=a7e (enc:=enc) (u:=(.sl (.int .i64))) rfl rd22 (a97 (by first | exact .inl ⟨_,Tryz.underlying22⟩ | exact .inr (.inl Tryz.underlying22) | exact .inr (.inr (.inl Tryz.underlying22)) | exact .inr (.inr (.inr ⟨_,Tryz.underlying22⟩))) (hval 0 22 v0 rfl rfl)) h0
 obtain⟨x1,o1,w1,b1,z1⟩:=b4T (enc:=enc) (u:=A8) rd25 (b9K (.inl ⟨_,Tryz.underlying25⟩) (hval 1 25 v1 rfl rfl)) h1
 obtain⟨x2,o2,w2,b2,z2⟩:=a7e (enc:=enc) (u:=(.int .i64)) rfl rd3 (a97 (by first | exact .inl ⟨_,Tryz.underlying3⟩ | exact .inr (.inl Tryz.underlying3) | exact .inr (.inr (.inl Tryz.underlying3)) | exact .inr (.inr (.inr ⟨_,Tryz.underlying3⟩))) (hval 2 3 v2 rfl rfl)) h2
 obtain⟨x3,o3,w3,b3,z3⟩:=a7e (enc:=enc) (u:=(.int .i64)) rfl rd3 (a97 (by first | exact .inl ⟨_,Tryz.underlying3⟩ | exact .inr (.inl Tryz.underlying3) | exact .inr (.inr (.inl Tryz.underlying3)) | exact .inr (.inr (.inr ⟨_,Tryz.underlying3⟩))) (hval 3 3 v3 rfl rfl)) h3
 obtain⟨x4,o4,w4,b4,z4⟩:=b4T (enc:=enc) (u:=(.arr 32 .byte)) rd27 (b9K (by right;exact⟨(_,_),Tryz.underlying27⟩) (hval 4 27 v4 rfl rfl)) h4
 clear hA0 hval
 refine(a9j a4u rfl #[v0,v1,v2,v3,v4] (x0,(x1,()),x2,x3,(x4,()),()) (fun _ _ _ h=>by cases h) (a2L o0 (a2L o1 (a2L o2 (a2L o3 (a2L o4 b2c))))) (r:=true) (show Q1 x0 x1 x2 x3 x4=some true from b2F x0 x1 x2 x3 x4 w0 w1 w2 w3 w4 (z0 (a6P hZ (j:=0) rfl rfl)) (z1 (a6P hZ (j:=1) rfl rfl)) (z2 (a6P hZ (j:=2) rfl rfl)) (z3 (a6P hZ (j:=3) rfl rfl)) (z4 (a6P hZ (j:=4) rfl rfl))) rfl).mono fun e W' ⟨he,hb⟩=>?_
 subst he
 exact⟨_,rfl,a83 (s:=Rows.poolReadsSpec) laidOut readable (by kernel_rfl) Tryz.underlying4 rfl hW' rfl hb⟩
theorem proved:Rows.PoolReadsSaid:=
 OpenClaim.holds_of_wide 3 Tryz.f3 rfl rfl rfl rfl rfl rfl rfl ⟨rfl,rfl,rfl,rfl,rfl⟩ rfl rfl rfl rfl rfl (by kernel_rfl) Tryz.func3 (by kernel_rfl)
  (of_decide_eq_true (by kernel_rfl)) (by unfold Func.isWrapper;rw [if_neg (of_decide_eq_false (by kernel_rfl))];exact⟨rfl,rfl⟩)
  (fun os started H enc _=>lifted os started H enc)
end Go.Proofs.YtacnfjjkhpkloaaGreat.rowPoolReads
