/- 'FoldStrict' holds for every input: the call returns true and leaves its arguments as they were. No conditions. -/
import Derived.Test.YtbipjlehhlkghaaGreatDoorQAB
import Derived.Test.YtbipjlehhlkghaaGreatDoorFAllOk
import Derived.Test.YtbipjlehhlkghaaGreatDoorPLaw14
import Derived.Test.YtbipjlehhlkghaaGreatDoorRows
import Derived.Test.YtbipjlehhlkghaaGreatDoorQAF
import Derived.Test.YtbipjlehhlkghaaGreatDoorTie
import Derived.Test.YtbipjlehhlkghaaGreatDoorCards
import Derived.KernelRfl
namespace Go.Proofs.YtbipjlehhlkghaaGreatDoor.rowFoldStrict
open Go.ChangeShapes Go.WideShapes Go.ChangeAt Go.RowKit Go.Proofs.YtbipjlehhlkghaaGreatDoor.Am
theorem rd3 {H:Type} {enc:TypeId × Value->H} {W:World}:Rd' enc Tryz.prog W 3 (.int .i64):=Rd'.int Tryz.underlying3
theorem rd27 {H:Type} {enc:TypeId × Value->H} {W:World}:Rd' enc Tryz.prog W 27 (.sl (.int .i64)):=Rd'.sl Tryz.underlying27 (by kernel_rfl) (by decide) (of_decide_eq_true (by kernel_rfl)) rd3
theorem rd5 {H:Type} {enc:TypeId × Value->H} {W:World}:Rd' enc Tryz.prog W 5 .byte:=Rd'.byte Tryz.underlying5
theorem rd26 {H:Type} {enc:TypeId × Value->H} {W:World}:Rd' enc Tryz.prog W 26 (.sl .byte):=Rd'.sl Tryz.underlying26 (by kernel_rfl) (by decide) (of_decide_eq_true (by kernel_rfl)) rd5
theorem rd35 {H:Type} {enc:TypeId × Value->H} {W:World}:Rd' enc Tryz.prog W 35 (.sl (.sl .byte)):=Rd'.sl Tryz.underlying35 (by kernel_rfl) (by decide) (of_decide_eq_true (by kernel_rfl)) rd26
theorem own:ownKnob Tryz.prog.godebug=none:=by kernel_rfl
theorem laidOut:laidOutB Tryz.prog=true:=by kernel_rfl
theorem readable:(Tryz.f8.params.toList.all fun t=>Tryz.prog.readableRec t && decide (t < Tryz.prog.types.size))=true:=by kernel_rfl
set_option maxRecDepth 100000 in
theorem lifted (os:Os) (started:os.Started) (H:Type) (enc:TypeId × Value->H) :
  ReturnsInHanded {} Tryz.checked os 8 .any (fun w args=>(Rows.foldStrictSpec.pre enc Tryz.prog Tryz.f8 [] false w args/\laidMetH Tryz.prog a31 w)/\sizedMet enc Tryz.prog Tryz.f8 (OpenSpec.ofChange Rows.foldStrictSpec) false w args)
   (Rows.foldStrictSpec.post enc Tryz.prog Tryz.f8 false true false false):=by
 refine returnsInHanded_of_change_and (C:=Tryz.checked) (X:=fun w _=>laidMetH Tryz.prog a31 w) (fun _ _ _ hh h=>h.of_heap hh) own started (by kernel_rfl) Tryz.func8
  (ChangeSpec.witness_shaped (enc:=enc) (C:=Tryz.checked) (os:=os) (X:=fun w _=>laidMetH Tryz.prog a31 w) false (World.laidAll Tryz.prog os a31) #[.slice none 0 0,.slice none 0 0,.int .i64 0] 64 (World.laidAll_os _ _ _)
   (World.shaped_of_ZipB (by kernel_rfl) (by kernel_rfl)) (by kernel_rfl) (by kernel_rfl) (by kernel_rfl)
   (by rw [MakeChecks.laidMetH_plain _ _ _ (by kernel_rfl)];exact laidMet_laidAll _ (by kernel_rfl) (by kernel_rfl))) ?_
 intro W base args ds gs before hval0 hW _ hZ hL _
 have hval:∀ (j:Nat) t v,Tryz.f8.params[j]?=some t->args[j]?=some v->Value.okWide Tryz.prog W .any base t v:=hval0
 clear hval0
 have hW':=hW
 obtain⟨p,q,hA0,hV,rfl,hfz,hnd⟩:=hW
 have hA:DataW.TrodAll enc Tryz.prog W 0 (fun _=>true) true Tryz.f8.params.toList args.toList ds p:=hA0
 rw [Tryz.params8] at hA hval hZ
 obtain⟨v0,vs0,d0,ds0,p0,q0,hargs,rfl,rfl,h0,r0⟩:=trodAll_cons hA
 obtain⟨v1,vs1,d1,ds1,p1,q1,rfl,rfl,rfl,h1,r1⟩:=trodAll_cons r0
 obtain⟨v2,vs2,d2,ds2,p2,q2,rfl,rfl,rfl,h2,r2⟩:=trodAll_cons r1
 obtain⟨rfl,rfl,rfl⟩:=trodAll_nil r2
 obtain rfl:args= #[v0,v1,v2]:=by cases args;simp_all
 obtain⟨rfl,rfl⟩:=trodVars_none hV
 obtain⟨x0,o0,w0,b0,z0⟩:=a1t (enc:=enc) (u:=(.sl (.int .i64))) rfl rd27 (a4s (by first | exact .inl ⟨_,Tryz.underlying27⟩ | exact .inr (.inl Tryz.underlying27) | exact .inr (.inr (.inl Tryz.underlying27)) | exact .inr (.inr (.inr ⟨_,Tryz.underlying27⟩))) (hval 0 27 v0 rfl rfl)) h0
 obtain⟨x1,o1,w1,b1,z1⟩:=a1t (enc:=enc) (u:=(.sl (.sl .byte))) rfl rd35 (a4s (by first | exact .inl ⟨_,Tryz.underlying35⟩ | exact .inr (.inl Tryz.underlying35) | exact .inr (.inr (.inl Tryz.underlying35)) | exact .inr (.inr (.inr ⟨_,Tryz.underlying35⟩))) (hval 1 35 v1 rfl rfl)) h1
 obtain⟨x2,o2,w2,b2,z2⟩:=a1t (enc:=enc) (u:=(.int .i64)) rfl rd3 (a4s (by first | exact .inl ⟨_,Tryz.underlying3⟩ | exact .inr (.inl Tryz.underlying3) | exact .inr (.inr (.inl Tryz.underlying3)) | exact .inr (.inr (.inr ⟨_,Tryz.underlying3⟩))) (hval 2 3 v2 rfl rfl)) h2
 clear hA0 hval
 refine(a8D a8w rfl #[v0,v1,v2] (x0,x1,x2,()) (a2m hL) (R1 o0 (R1 o1 (R1 o2 b1c))) (r:=true) (show U3 x0 x1 x2=some true from b7Z x0 x1 x2 w0 w1 w2 (z0 (a32 hZ (j:=0) rfl rfl)) (z1 (a32 hZ (j:=1) rfl rfl)) (z2 (a32 hZ (j:=2) rfl rfl))) rfl).mono fun e W' ⟨he,hb⟩=>?_
 subst he
 exact⟨_,rfl,a8z (s:=Rows.foldStrictSpec) laidOut readable (by kernel_rfl) Tryz.underlying4 rfl hW' rfl hb⟩
theorem holds:Rows.FoldStrictSaid:=
 OpenClaim.holds_of_wide 8 Tryz.f8 rfl rfl rfl rfl rfl rfl rfl ⟨rfl,rfl,rfl,rfl,rfl⟩ rfl rfl rfl rfl rfl (by kernel_rfl) Tryz.func8 (by kernel_rfl)
  (of_decide_eq_true (by kernel_rfl)) (by unfold Func.isWrapper;rw [if_neg (of_decide_eq_false (by kernel_rfl))];exact⟨rfl,rfl⟩)
  (fun os started H enc _=>lifted os started H enc)
theorem proved:Rows.FoldStrictCardSaid:=
 Claim7.holds_tied_plain_at .later [] [.data,.pinned] true (true,"80568119d3076cc3c2d087ef305f1130f749e684dbb5c74fa150da2e63f82e19") true holds (fun _ h=>by cases h) (by kernel_rfl) (fun _ h=>by cases h) foldStrict_row_tie rfl ⟨rfl,rfl⟩ (by kernel_rfl) rfl
  (fun f fn hf hfn=>by
   obtain rfl:f=8:=Option.some.inj ((show Tryz.prog.funcNamed "mempool/mempoollaw14.FoldStrict" =some 8 by kernel_rfl).symm.trans hf) |>.symm
   obtain rfl:fn=Tryz.f8:=(Option.some.inj (Tryz.func8.symm.trans hfn)).symm
   exact⟨by kernel_rfl,fun j t ht=>by
    rw [Tryz.params8] at ht
    have hm:t ∈ [27,35,3]:=by simpa using Array.mem_of_getElem? ht
    have hall:([27,35,3].all fun u=> !Tryz.prog.wantsStandIn u)=true:=by kernel_rfl
    exact(show Tryz.prog.wantsStandIn t=false by simpa using List.all_eq_true.1 hall t hm)⟩)
  (by kernel_rfl)
end Go.Proofs.YtbipjlehhlkghaaGreatDoor.rowFoldStrict
