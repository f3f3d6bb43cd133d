/- 'ApplyErrors' holds for every input: the call returns true and leaves its arguments as they were. No conditions. -/
import Derived.Test.YtbipjlehhlkghaaGreatDoorQAB
import Derived.Test.YtbipjlehhlkghaaGreatDoorFAllOk
import Derived.Test.YtbipjlehhlkghaaGreatDoorPLaw13
import Derived.Test.YtbipjlehhlkghaaGreatDoorRows
import Derived.Test.YtbipjlehhlkghaaGreatDoorQAF
import Derived.Test.YtbipjlehhlkghaaGreatDoorTie
import Derived.Test.YtbipjlehhlkghaaGreatDoorCards
import Derived.KernelRfl
namespace Go.Proofs.YtbipjlehhlkghaaGreatDoor.rowApplyErrors
open Go.ChangeShapes Go.WideShapes Go.ChangeAt Go.RowKit Go.Proofs.YtbipjlehhlkghaaGreatDoor.Am
theorem rd3 {H:Type} {enc:TypeId × Value->H} {W:World}:Rd' enc Tryz.prog W 3 (.int .i64):=Rd'.int Tryz.underlying3
theorem rd27 {H:Type} {enc:TypeId × Value->H} {W:World}:Rd' enc Tryz.prog W 27 (.sl (.int .i64)):=Rd'.sl Tryz.underlying27 (by kernel_rfl) (by decide) (of_decide_eq_true (by kernel_rfl)) rd3
theorem own:ownKnob Tryz.prog.godebug=none:=by kernel_rfl
theorem laidOut:laidOutB Tryz.prog=true:=by kernel_rfl
theorem readable:(Tryz.f4.params.toList.all fun t=>Tryz.prog.readableRec t && decide (t < Tryz.prog.types.size))=true:=by kernel_rfl
set_option maxRecDepth 100000 in
theorem lifted (os:Os) (started:os.Started) (H:Type) (enc:TypeId × Value->H) :
  ReturnsInHanded {} Tryz.checked os 4 .any (fun w args=>(Rows.applyErrorsSpec.pre enc Tryz.prog Tryz.f4 [] false w args/\laidMetH Tryz.prog a31 w)/\sizedMet enc Tryz.prog Tryz.f4 (OpenSpec.ofChange Rows.applyErrorsSpec) false w args)
   (Rows.applyErrorsSpec.post enc Tryz.prog Tryz.f4 false true false false):=by
 refine returnsInHanded_of_change_and (C:=Tryz.checked) (X:=fun w _=>laidMetH Tryz.prog a31 w) (fun _ _ _ hh h=>h.of_heap hh) own started (by kernel_rfl) Tryz.func4
  (ChangeSpec.witness_shaped (enc:=enc) (C:=Tryz.checked) (os:=os) (X:=fun w _=>laidMetH Tryz.prog a31 w) false (World.laidAll Tryz.prog os a31) #[.slice none 0 0,.int .i64 0,.int .i64 0,.int .i64 0,.int .i64 0,.int .i64 0] 64 (World.laidAll_os _ _ _)
   (World.shaped_of_ZipB (by kernel_rfl) (by kernel_rfl)) (by kernel_rfl) (by kernel_rfl) (by kernel_rfl)
   (by rw [MakeChecks.laidMetH_plain _ _ _ (by kernel_rfl)];exact laidMet_laidAll _ (by kernel_rfl) (by kernel_rfl))) ?_
 intro W base args ds gs before hval0 hW _ hZ hL _
 have hval:∀ (j:Nat) t v,Tryz.f4.params[j]?=some t->args[j]?=some v->Value.okWide Tryz.prog W .any base t v:=hval0
 clear hval0
 have hW':=hW
 obtain⟨p,q,hA0,hV,rfl,hfz,hnd⟩:=hW
 have hA:DataW.TrodAll enc Tryz.prog W 0 (fun _=>true) true Tryz.f4.params.toList args.toList ds p:=hA0
 rw [Tryz.params4] at hA hval hZ
 obtain⟨v0,vs0,d0,ds0,p0,q0,hargs,rfl,rfl,h0,r0⟩:=trodAll_cons hA
 obtain⟨v1,vs1,d1,ds1,p1,q1,rfl,rfl,rfl,h1,r1⟩:=trodAll_cons r0
 obtain⟨v2,vs2,d2,ds2,p2,q2,rfl,rfl,rfl,h2,r2⟩:=trodAll_cons r1
 obtain⟨v3,vs3,d3,ds3,p3,q3,rfl,rfl,rfl,h3,r3⟩:=trodAll_cons r2
 obtain⟨v4,vs4,d4,ds4,p4,q4,rfl,rfl,rfl,h4,r4⟩:=trodAll_cons r3
 obtain⟨v5,vs5,d5,ds5,p5,q5,rfl,rfl,rfl,h5,r5⟩:=trodAll_cons r4
 obtain⟨rfl,rfl,rfl⟩:=trodAll_nil r5
 obtain rfl:args= #[v0,v1,v2,v3,v4,v5]:=by cases args;simp_all
 obtain⟨rfl,rfl⟩:=trodVars_none hV
 obtain⟨x0,o0,w0,b0,z0⟩:=a1t (enc:=enc) (u:=(.sl (.int .i64))) rfl rd27 (a4s (by first | exact .inl ⟨_,Tryz.underlying27⟩ | exact .inr (.inl Tryz.underlying27) | exact .inr (.inr (.inl Tryz.underlying27)) | exact .inr (.inr (.inr ⟨_,Tryz.underlying27⟩))) (hval 0 27 v0 rfl rfl)) h0
 obtain⟨x1,o1,w1,b1,z1⟩:=a1t (enc:=enc) (u:=(.int .i64)) rfl rd3 (a4s (by first | exact .inl ⟨_,Tryz.underlying3⟩ | exact .inr (.inl Tryz.underlying3) | exact .inr (.inr (.inl Tryz.underlying3)) | exact .inr (.inr (.inr ⟨_,Tryz.underlying3⟩))) (hval 1 3 v1 rfl rfl)) h1
 obtain⟨x2,o2,w2,b2,z2⟩:=a1t (enc:=enc) (u:=(.int .i64)) rfl rd3 (a4s (by first | exact .inl ⟨_,Tryz.underlying3⟩ | exact .inr (.inl Tryz.underlying3) | exact .inr (.inr (.inl Tryz.underlying3)) | exact .inr (.inr (.inr ⟨_,Tryz.underlying3⟩))) (hval 2 3 v2 rfl rfl)) h2
 obtain⟨x3,o3,w3,b3,z3⟩:=a1t (enc:=enc) (u:=(.int .i64)) rfl rd3 (a4s (by first | exact .inl ⟨_,Tryz.underlying3⟩ | exact .inr (.inl Tryz.underlying3) | exact .inr (.inr (.inl Tryz.underlying3)) | exact .inr (.inr (.inr ⟨_,Tryz.underlying3⟩))) (hval 3 3 v3 rfl rfl)) h3
 obtain⟨x4,o4,w4,b4,z4⟩:=a1t (enc:=enc) (u:=(.int .i64)) rfl rd3 (a4s (by first | exact .inl ⟨_,Tryz.underlying3⟩ | exact .inr (.inl Tryz.underlying3) | exact .inr (.inr (.inl Tryz.underlying3)) | exact .inr (.inr (.inr ⟨_,Tryz.underlying3⟩))) (hval 4 3 v4 rfl rfl)) h4
 obtain⟨x5,o5,w5,b5,z5⟩:=a1t (enc:=enc) (u:=(.int .i64)) rfl rd3 (a4s (by first | exact .inl ⟨_,Tryz.underlying3⟩ | exact .inr (.inl Tryz.underlying3) | exact .inr (.inr (.inl Tryz.underlying3)) | exact .inr (.inr (.inr ⟨_,Tryz.underlying3⟩))) (hval 5 3 v5 rfl rfl)) h5
 clear hA0 hval
 refine(a8D a8c rfl #[v0,v1,v2,v3,v4,v5] (x0,x1,x2,x3,x4,x5,()) (a2m hL) (R1 o0 (R1 o1 (R1 o2 (R1 o3 (R1 o4 (R1 o5 b1c)))))) (r:=true) (show R7 x0 x1 x2 x3 x4 x5=some true from b7m x0 x1 x2 x3 x4 x5 w0 w1 w2 w3 w4 w5 (z0 (a32 hZ (j:=0) rfl rfl)) (z1 (a32 hZ (j:=1) rfl rfl)) (z2 (a32 hZ (j:=2) rfl rfl)) (z3 (a32 hZ (j:=3) rfl rfl)) (z4 (a32 hZ (j:=4) rfl rfl)) (z5 (a32 hZ (j:=5) rfl rfl))) rfl).mono fun e W' ⟨he,hb⟩=>?_
 subst he
 exact⟨_,rfl,a8z (s:=Rows.applyErrorsSpec) laidOut readable (by kernel_rfl) Tryz.underlying4 rfl hW' rfl hb⟩
theorem holds:Rows.ApplyErrorsSaid:=
 OpenClaim.holds_of_wide 4 Tryz.f4 rfl rfl rfl rfl rfl rfl rfl ⟨rfl,rfl,rfl,rfl,rfl⟩ rfl rfl rfl rfl rfl (by kernel_rfl) Tryz.func4 (by kernel_rfl)
  (of_decide_eq_true (by kernel_rfl)) (by unfold Func.isWrapper;rw [if_neg (of_decide_eq_false (by kernel_rfl))];exact⟨rfl,rfl⟩)
  (fun os started H enc _=>lifted os started H enc)
theorem proved:Rows.ApplyErrorsCardSaid:=
 Claim7.holds_tied_plain_at .later [] [.data,.pinned] true (true,"80568119d3076cc3c2d087ef305f1130f749e684dbb5c74fa150da2e63f82e19") true holds (fun _ h=>by cases h) (by kernel_rfl) (fun _ h=>by cases h) applyErrors_row_tie rfl ⟨rfl,rfl⟩ (by kernel_rfl) rfl
  (fun f fn hf hfn=>by
   obtain rfl:f=4:=Option.some.inj ((show Tryz.prog.funcNamed "mempool/mempoollaw13.ApplyErrors" =some 4 by kernel_rfl).symm.trans hf) |>.symm
   obtain rfl:fn=Tryz.f4:=(Option.some.inj (Tryz.func4.symm.trans hfn)).symm
   exact⟨by kernel_rfl,fun j t ht=>by
    rw [Tryz.params4] at ht
    have hm:t ∈ [27,3,3,3,3,3]:=by simpa using Array.mem_of_getElem? ht
    have hall:([27,3,3,3,3,3].all fun u=> !Tryz.prog.wantsStandIn u)=true:=by kernel_rfl
    exact(show Tryz.prog.wantsStandIn t=false by simpa using List.all_eq_true.1 hall t hm)⟩)
  (by kernel_rfl)
end Go.Proofs.YtbipjlehhlkghaaGreatDoor.rowApplyErrors
