/- 'FoldDigests' holds for every input: the call returns true and leaves its arguments as they were. No conditions. -/
import Derived.Test.YtbipjlehhlkghaaGreatDoorQAB
import Derived.Test.YtbipjlehhlkghaaGreatDoorFAllOk
import Derived.Test.YtbipjlehhlkghaaGreatDoorPLaw14
import Derived.Test.YtbipjlehhlkghaaGreatDoorRows
import Derived.Test.YtbipjlehhlkghaaGreatDoorQAF
import Derived.Test.YtbipjlehhlkghaaGreatDoorTie
import Derived.Test.YtbipjlehhlkghaaGreatDoorCards
import Derived.KernelRfl
namespace Go.Proofs.YtbipjlehhlkghaaGreatDoor.rowFoldDigests
open Go.ChangeShapes Go.WideShapes Go.ChangeAt Go.RowKit Go.Proofs.YtbipjlehhlkghaaGreatDoor.Am
theorem rd23 {H:Type} {enc:TypeId × Value->H} {W:World}:Rd' enc Tryz.prog W 23 (.int .u64):=Rd'.int Tryz.underlying23
theorem rd9 {H:Type} {enc:TypeId × Value->H} {W:World}:Rd' enc Tryz.prog W 9 .str:=Rd'.str Tryz.underlying9
theorem rd37 {H:Type} {enc:TypeId × Value->H} {W:World}:Rd' enc Tryz.prog W 37 (.int .i64):=Rd'.int Tryz.underlying37
theorem rd39 {H:Type} {enc:TypeId × Value->H} {W:World}:Rd' enc Tryz.prog W 39 D3:=Rd'.st Tryz.underlying39 (by kernel_rfl) (.cons rfl (by kernel_rfl) rd37 (.cons rfl (by kernel_rfl) rd9 (.cons rfl (by kernel_rfl) rd23 (.cons rfl (by kernel_rfl) rd23 (.one rfl (by kernel_rfl) rd23)))))
theorem rd71 {H:Type} {enc:TypeId × Value->H} {W:World}:Rd' enc Tryz.prog W 71 (.sl D3):=Rd'.sl Tryz.underlying71 (by kernel_rfl) (by decide) (of_decide_eq_true (by kernel_rfl)) rd39
theorem rd3 {H:Type} {enc:TypeId × Value->H} {W:World}:Rd' enc Tryz.prog W 3 (.int .i64):=Rd'.int Tryz.underlying3
theorem rd27 {H:Type} {enc:TypeId × Value->H} {W:World}:Rd' enc Tryz.prog W 27 (.sl (.int .i64)):=Rd'.sl Tryz.underlying27 (by kernel_rfl) (by decide) (of_decide_eq_true (by kernel_rfl)) rd3
theorem own:ownKnob Tryz.prog.godebug=none:=by kernel_rfl
theorem laidOut:laidOutB Tryz.prog=true:=by kernel_rfl
theorem readable:(Tryz.f10.params.toList.all fun t=>Tryz.prog.readableRec t && decide (t < Tryz.prog.types.size))=true:=by kernel_rfl
set_option maxRecDepth 100000 in
theorem lifted (os:Os) (started:os.Started) (H:Type) (enc:TypeId × Value->H) :
  ReturnsInHanded {} Tryz.checked os 10 .any (fun w args=>(Rows.foldDigestsSpec.pre enc Tryz.prog Tryz.f10 [] false w args/\laidMetH Tryz.prog a31 w)/\sizedMet enc Tryz.prog Tryz.f10 (OpenSpec.ofChange Rows.foldDigestsSpec) false w args)
   (Rows.foldDigestsSpec.post enc Tryz.prog Tryz.f10 false true false false):=by
 refine returnsInHanded_of_change_and (C:=Tryz.checked) (X:=fun w _=>laidMetH Tryz.prog a31 w) (fun _ _ _ hh h=>h.of_heap hh) own started (by kernel_rfl) Tryz.func10
  (ChangeSpec.witness_shaped (enc:=enc) (C:=Tryz.checked) (os:=os) (X:=fun w _=>laidMetH Tryz.prog a31 w) false (World.laidAll Tryz.prog os a31) #[.slice none 0 0,.slice none 0 0] 64 (World.laidAll_os _ _ _)
   (World.shaped_of_ZipB (by kernel_rfl) (by kernel_rfl)) (by kernel_rfl) (by kernel_rfl) (by kernel_rfl)
   (by rw [MakeChecks.laidMetH_plain _ _ _ (by kernel_rfl)];exact laidMet_laidAll _ (by kernel_rfl) (by kernel_rfl))) ?_
 intro W base args ds gs before hval0 hW _ hZ hL _
 have hval:∀ (j:Nat) t v,Tryz.f10.params[j]?=some t->args[j]?=some v->Value.okWide Tryz.prog W .any base t v:=hval0
 clear hval0
 have hW':=hW
 obtain⟨p,q,hA0,hV,rfl,hfz,hnd⟩:=hW
 have hA:DataW.TrodAll enc Tryz.prog W 0 (fun _=>true) true Tryz.f10.params.toList args.toList ds p:=hA0
 rw [Tryz.params10] at hA hval hZ
 obtain⟨v0,vs0,d0,ds0,p0,q0,hargs,rfl,rfl,h0,r0⟩:=trodAll_cons hA
 obtain⟨v1,vs1,d1,ds1,p1,q1,rfl,rfl,rfl,h1,r1⟩:=trodAll_cons r0
 obtain⟨rfl,rfl,rfl⟩:=trodAll_nil r1
 obtain rfl:args= #[v0,v1]:=by cases args;simp_all
 obtain⟨rfl,rfl⟩:=trodVars_none hV
 obtain⟨x0,o0,w0,b0,z0⟩:=a1t (enc:=enc) (u:=(.sl D3)) rfl rd71 (a4s (by first | exact .inl ⟨_,Tryz.underlying71⟩ | exact .inr (.inl Tryz.underlying71) | exact .inr (.inr (.inl Tryz.underlying71)) | exact .inr (.inr (.inr ⟨_,Tryz.underlying71⟩))) (hval 0 71 v0 rfl rfl)) h0
 obtain⟨x1,o1,w1,b1,z1⟩:=a1t (enc:=enc) (u:=(.sl (.int .i64))) rfl rd27 (a4s (by first | exact .inl ⟨_,Tryz.underlying27⟩ | exact .inr (.inl Tryz.underlying27) | exact .inr (.inr (.inl Tryz.underlying27)) | exact .inr (.inr (.inr ⟨_,Tryz.underlying27⟩))) (hval 1 27 v1 rfl rfl)) h1
 clear hA0 hval
 refine(a8D a8j rfl #[v0,v1] (x0,x1,()) (a2m hL) (R1 o0 (R1 o1 b1c)) (r:=true) (show R9 x0 x1=some true from b7v x0 x1 w0 w1 (z0 (a32 hZ (j:=0) rfl rfl)) (z1 (a32 hZ (j:=1) rfl rfl))) rfl).mono fun e W' ⟨he,hb⟩=>?_
 subst he
 exact⟨_,rfl,a8z (s:=Rows.foldDigestsSpec) laidOut readable (by kernel_rfl) Tryz.underlying4 rfl hW' rfl hb⟩
theorem holds:Rows.FoldDigestsSaid:=
 OpenClaim.holds_of_wide 10 Tryz.f10 rfl rfl rfl rfl rfl rfl rfl ⟨rfl,rfl,rfl,rfl,rfl⟩ rfl rfl rfl rfl rfl (by kernel_rfl) Tryz.func10 (by kernel_rfl)
  (of_decide_eq_true (by kernel_rfl)) (by unfold Func.isWrapper;rw [if_neg (of_decide_eq_false (by kernel_rfl))];exact⟨rfl,rfl⟩)
  (fun os started H enc _=>lifted os started H enc)
theorem proved:Rows.FoldDigestsCardSaid:=
 Claim7.holds_tied_plain_at .later [] [.data,.pinned] true (true,"80568119d3076cc3c2d087ef305f1130f749e684dbb5c74fa150da2e63f82e19") true holds (fun _ h=>by cases h) (by kernel_rfl) (fun _ h=>by cases h) foldDigests_row_tie rfl ⟨rfl,rfl⟩ (by kernel_rfl) rfl
  (fun f fn hf hfn=>by
   obtain rfl:f=10:=Option.some.inj ((show Tryz.prog.funcNamed "mempool/mempoollaw14.FoldDigests" =some 10 by kernel_rfl).symm.trans hf) |>.symm
   obtain rfl:fn=Tryz.f10:=(Option.some.inj (Tryz.func10.symm.trans hfn)).symm
   exact⟨by kernel_rfl,fun j t ht=>by
    rw [Tryz.params10] at ht
    have hm:t ∈ [71,27]:=by simpa using Array.mem_of_getElem? ht
    have hall:([71,27].all fun u=> !Tryz.prog.wantsStandIn u)=true:=by kernel_rfl
    exact(show Tryz.prog.wantsStandIn t=false by simpa using List.all_eq_true.1 hall t hm)⟩)
  (by kernel_rfl)
end Go.Proofs.YtbipjlehhlkghaaGreatDoor.rowFoldDigests
