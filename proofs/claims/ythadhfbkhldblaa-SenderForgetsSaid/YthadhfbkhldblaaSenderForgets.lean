/- 'SenderForgets' holds for every input: the call returns true and leaves its arguments as they were. No conditions. -/
import Derived.Test.YthadhfbkhldblaaQAB
import Derived.Test.YthadhfbkhldblaaFAllOk
import Derived.Test.YthadhfbkhldblaaPLaw17
import Derived.Test.YthadhfbkhldblaaRows
import Derived.KernelRfl
namespace Go.Proofs.Ythadhfbkhldblaa.rowSenderForgets
open Go.ChangeShapes Go.WideShapes Go.ChangeAt Go.RowKit Go.Proofs.Ythadhfbkhldblaa.Am
theorem rd3 {H:Type} {enc:TypeId × Value->H} {W:World}:Rd' enc Try.prog W 3 (.int .i64):=Rd'.int Try.underlying3
theorem rd22 {H:Type} {enc:TypeId × Value->H} {W:World}:Rd' enc Try.prog W 22 (.sl (.int .i64)):=Rd'.sl Try.underlying22 (by kernel_rfl) (by decide) (of_decide_eq_true (by kernel_rfl)) rd3
theorem rd9 {H:Type} {enc:TypeId × Value->H} {W:World}:Rd' enc Try.prog W 9 .str:=Rd'.str Try.underlying9
theorem rd38 {H:Type} {enc:TypeId × Value->H} {W:World}:Rd' enc Try.prog W 38 (.int .u64):=Rd'.int Try.underlying38
theorem own:ownKnob Try.prog.godebug=none:=by kernel_rfl
theorem laidOut:laidOutB Try.prog=true:=by kernel_rfl
theorem readable:(Try.f6.params.toList.all fun t=>Try.prog.readableRec t && decide (t < Try.prog.types.size))=true:=by kernel_rfl
set_option maxRecDepth 100000 in
theorem lifted (os:Os) (started:os.Started) (H:Type) (enc:TypeId × Value->H) :
  ReturnsInHanded {} Try.checked os 6 .any (Rows.senderForgetsSpec.pre6 enc Try.prog Try.f6 Rows.senderForgetsRow.domain false) (Rows.senderForgetsSpec.post enc Try.prog Try.f6 false true false false):=by
 refine returnsInHanded_of_change_sized (C:=Try.checked) own started (by kernel_rfl) Try.func6
  (ChangeSpec.witness6 (enc:=enc) (C:=Try.checked) false ⟨#[],#[.slice none 0 0,.string ⟨#[]⟩,.int .u64 0],[]⟩ 64 (by kernel_rfl) (by kernel_rfl) (by kernel_rfl) (by kernel_rfl)) ?_
 intro W base args ds gs before hval0 hW hcnd hZ _
 have hval:∀ (j:Nat) t v,Try.f6.params[j]?=some t->args[j]?=some v->Value.okWide Try.prog W .any base t v:=hval0
 clear hval0
 have hW':=hW
 obtain⟨p,q,hA0,hV,rfl,hfz,hnd⟩:=hW
 have hA:DataW.TrodAll enc Try.prog W 0 (fun _=>true) true Try.f6.params.toList args.toList ds p:=hA0
 rw [Try.params6] at hA hval hZ
 obtain⟨v0,vs0,d0,ds0,p0,q0,hargs,rfl,rfl,h0,r0⟩:=trodAll_cons hA
 obtain⟨v1,vs1,d1,ds1,p1,q1,rfl,rfl,rfl,h1,r1⟩:=trodAll_cons r0
 obtain⟨v2,vs2,d2,ds2,p2,q2,rfl,rfl,rfl,h2,r2⟩:=trodAll_cons r1
 obtain⟨rfl,rfl,rfl⟩:=trodAll_nil r2
 obtain rfl:args= #[v0,v1,v2]:=by cases args;simp_all
 obtain⟨rfl,rfl⟩:=trodVars_none hV
 obtain⟨x0,o0,w0,b0,z0⟩:=a0w (enc:=enc) (u:=(.sl (.int .i64))) rfl rd22 (a2d (by first | exact .inl ⟨_,Try.underlying22⟩ | exact .inr (.inl Try.underlying22) | exact .inr (.inr (.inl Try.underlying22)) | exact .inr (.inr (.inr ⟨_,Try.underlying22⟩))) (hval 0 22 v0 rfl rfl)) h0
 obtain⟨x1,o1,w1,b1,z1⟩:=a0w (enc:=enc) (u:= .str) rfl rd9 (a2d (by first | exact .inl ⟨_,Try.underlying9⟩ | exact .inr (.inl Try.underlying9) | exact .inr (.inr (.inl Try.underlying9)) | exact .inr (.inr (.inr ⟨_,Try.underlying9⟩))) (hval 1 9 v1 rfl rfl)) h1
 obtain⟨x2,o2,w2,b2,z2⟩:=a0w (enc:=enc) (u:=(.int .u64)) rfl rd38 (a2d (by first | exact .inl ⟨_,Try.underlying38⟩ | exact .inr (.inl Try.underlying38) | exact .inr (.inr (.inl Try.underlying38)) | exact .inr (.inr (.inr ⟨_,Try.underlying38⟩))) (hval 2 38 v2 rfl rfl)) h2
 clear hA0 hval
 refine(a3b V5 rfl #[v0,v1,v2] (x0,x1,x2,()) (fun _ _ _ h=>by cases h) (W6 o0 (W6 o1 (W6 o2 a5O))) (r:=true) (show E4 x0 x1 x2=some true from a2w x0 x1 x2 w0 w1 w2) rfl).mono fun e W' ⟨he,hb⟩=>?_
 subst he
 exact⟨_,rfl,a2R (s:=Rows.senderForgetsSpec) laidOut readable (by kernel_rfl) Try.underlying4 rfl hW' rfl hb⟩
theorem proved:Rows.SenderForgetsSaid:=
 OpenClaim.holds_of_wide 6 Try.f6 rfl rfl rfl rfl rfl rfl rfl ⟨rfl,rfl,rfl,rfl,rfl⟩ rfl rfl rfl rfl rfl (by kernel_rfl) Try.func6 (by kernel_rfl)
  (of_decide_eq_true (by kernel_rfl)) (by unfold Func.isWrapper;rw [if_neg (of_decide_eq_false (by kernel_rfl))];exact⟨rfl,rfl⟩)
  (fun os started H enc _=>lifted os started H enc)
end Go.Proofs.Ythadhfbkhldblaa.rowSenderForgets
