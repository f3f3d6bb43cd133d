/- 'ApplyLimits' holds for every input: the call returns true and leaves its arguments as they were. No conditions. -/
import Derived.Test.YtbipjlehhlkghaaDoorQAB
import Derived.Test.YtbipjlehhlkghaaDoorFAllOk
import Derived.Test.YtbipjlehhlkghaaDoorQAP
import Derived.Test.YtbipjlehhlkghaaDoorRows
import Derived.Test.YtbipjlehhlkghaaDoorQAF
import Derived.Test.YtbipjlehhlkghaaDoorTie
import Derived.Test.YtbipjlehhlkghaaDoorCards
import Derived.KernelRfl
namespace Go.Proofs.YtbipjlehhlkghaaDoor.rowApplyLimits
open Go.ChangeShapes Go.WideShapes Go.ChangeAt Go.RowKit Go.Proofs.YtbipjlehhlkghaaDoor.Am
theorem rd3 {H:Type} {enc:TypeId × Value->H} {W:World}:Rd' enc Tryd.prog W 3 (.int .i64):=Rd'.int Tryd.underlying3
theorem own:ownKnob Tryd.prog.godebug=none:=by kernel_rfl
theorem laidOut:laidOutB Tryd.prog=true:=by kernel_rfl
theorem readable:(Tryd.f3.params.toList.all fun t=>Tryd.prog.readableRec t && decide (t < Tryd.prog.types.size))=true:=by kernel_rfl
set_option maxRecDepth 100000 in
theorem lifted (os:Os) (started:os.Started) (H:Type) (enc:TypeId × Value->H) :
  ReturnsInHanded {} Tryd.checked os 3 .any (fun w args=>(Rows.applyLimitsSpec.pre enc Tryd.prog Tryd.f3 [] false w args/\laidMetH Tryd.prog b7r w)/\sizedMet enc Tryd.prog Tryd.f3 (OpenSpec.ofChange Rows.applyLimitsSpec) false w args)
   (Rows.applyLimitsSpec.post enc Tryd.prog Tryd.f3 false true false false):=by
 refine returnsInHanded_of_change_and (C:=Tryd.checked) (X:=fun w _=>laidMetH Tryd.prog b7r w) (fun _ _ _ hh h=>h.of_heap hh) own started (by kernel_rfl) Tryd.func3
  (ChangeSpec.witness_shaped (enc:=enc) (C:=Tryd.checked) (os:=os) (X:=fun w _=>laidMetH Tryd.prog b7r w) false (World.laidAll Tryd.prog os b7r) #[.int .i64 0,.int .i64 0] 64 (World.laidAll_os _ _ _)
   (World.shaped_of_ZipB (by kernel_rfl) (by kernel_rfl)) (by kernel_rfl) (by kernel_rfl) (by kernel_rfl)
   (by rw [MakeChecks.laidMetH_plain _ _ _ (by kernel_rfl)];exact laidMet_laidAll _ (by kernel_rfl) (by kernel_rfl))) ?_
 intro W base args ds gs before hval0 hW _ hZ hL _
 have hval:∀ (j:Nat) t v,Tryd.f3.params[j]?=some t->args[j]?=some v->Value.okWide Tryd.prog W .any base t v:=hval0
 clear hval0
 have hW':=hW
 obtain⟨p,q,hA0,hV,rfl,hfz,hnd⟩:=hW
 have hA:DataW.TrodAll enc Tryd.prog W 0 (fun _=>true) true Tryd.f3.params.toList args.toList ds p:=hA0
 rw [Tryd.params3] at hA hval hZ
 obtain⟨v0,vs0,d0,ds0,p0,q0,hargs,rfl,rfl,h0,r0⟩:=trodAll_cons hA
 obtain⟨v1,vs1,d1,ds1,p1,q1,rfl,rfl,rfl,h1,r1⟩:=trodAll_cons r0
 obtain⟨rfl,rfl,rfl⟩:=trodAll_nil r1
 obtain rfl:args= #[v0,v1]:=by cases args;simp_all
 obtain⟨rfl,rfl⟩:=trodVars_none hV
 obtain⟨x0,o0,w0,b0,z0⟩:=b9f (enc:=enc) (u:=(.int .i64)) rfl rd3 (c2k (by first | exact .inl ⟨_,Tryd.underlying3⟩ | exact .inr (.inl Tryd.underlying3) | exact .inr (.inr (.inl Tryd.underlying3)) | exact .inr (.inr (.inr ⟨_,Tryd.underlying3⟩))) (hval 0 3 v0 rfl rfl)) h0
 obtain⟨x1,o1,w1,b1,z1⟩:=b9f (enc:=enc) (u:=(.int .i64)) rfl rd3 (c2k (by first | exact .inl ⟨_,Tryd.underlying3⟩ | exact .inr (.inl Tryd.underlying3) | exact .inr (.inr (.inl Tryd.underlying3)) | exact .inr (.inr (.inr ⟨_,Tryd.underlying3⟩))) (hval 1 3 v1 rfl rfl)) h1
 clear hA0 hval
 refine(c1g a2L rfl #[v0,v1] (x0,x1,()) (b3v hL) (b5P o0 (b5P o1 c3i)) (r:=true) (show K3 x0 x1=some true from a9K x0 x1 w0 w1 (z0 (c2l hZ (j:=0) rfl rfl)) (z1 (c2l hZ (j:=1) rfl rfl))) rfl).mono fun e W' ⟨he,hb⟩=>?_
 subst he
 exact⟨_,rfl,b98 (s:=Rows.applyLimitsSpec) laidOut readable (by kernel_rfl) Tryd.underlying4 rfl hW' rfl hb⟩
theorem holds:Rows.ApplyLimitsSaid:=
 OpenClaim.holds_of_wide 3 Tryd.f3 rfl rfl rfl rfl rfl rfl rfl ⟨rfl,rfl,rfl,rfl,rfl⟩ rfl rfl rfl rfl rfl (by kernel_rfl) Tryd.func3 (by kernel_rfl)
  (of_decide_eq_true (by kernel_rfl)) (by unfold Func.isWrapper;rw [if_neg (of_decide_eq_false (by kernel_rfl))];exact⟨rfl,rfl⟩)
  (fun os started H enc _=>lifted os started H enc)
theorem proved:Rows.ApplyLimitsCardSaid:=
 Claim7.holds_tied_plain_at .later [] [.data,.pinned] true (true,"bcda636ed3fcbc0021899a378df985654aecfef5af7072343b7004a4408eb372") true holds (fun _ h=>by cases h) (by kernel_rfl) (fun _ h=>by cases h) applyLimits_row_tie rfl ⟨rfl,rfl⟩ (by kernel_rfl) rfl
  (fun f fn hf hfn=>by
   obtain rfl:f=3:=Option.some.inj ((show Tryd.prog.funcNamed "mempool/mempoollaw13.ApplyLimits" =some 3 by kernel_rfl).symm.trans hf) |>.symm
   obtain rfl:fn=Tryd.f3:=(Option.some.inj (Tryd.func3.symm.trans hfn)).symm
   exact⟨by kernel_rfl,fun j t ht=>by
    rw [Tryd.params3] at ht
    have hm:t ∈ [3,3]:=by simpa using Array.mem_of_getElem? ht
    have hall:([3,3].all fun u=> !Tryd.prog.wantsStandIn u)=true:=by kernel_rfl
    exact(show Tryd.prog.wantsStandIn t=false by simpa using List.all_eq_true.1 hall t hm)⟩)
  (by kernel_rfl)
end Go.Proofs.YtbipjlehhlkghaaDoor.rowApplyLimits
