/- 'UpdateLeaves' holds for every input: the call returns true and leaves its arguments as they were. No conditions. -/
import Derived.Test.YtjbgdpjgfjnkbaaGreatDoorFAllOk
import Derived.Test.YtjbgdpjgfjnkbaaGreatDoorPLaw23D
import Derived.Test.YtjbgdpjgfjnkbaaGreatDoorTie
import Derived.KernelRfl
namespace Go.Proofs.YtjbgdpjgfjnkbaaGreatDoor.rowUpdateLeaves
open Go.ChangeShapes Go.WideShapes Go.ChangeAt Go.RowKit Go.Proofs.YtjbgdpjgfjnkbaaGreatDoor.Am
theorem rd3 {H:Type} {enc:TypeId × Value->H} {W:World}:Rd' enc Tryz.prog W 3 (.int .i64):=Rd'.int Tryz.underlying3
theorem rd22 {H:Type} {enc:TypeId × Value->H} {W:World}:Rd' enc Tryz.prog W 22 (.sl (.int .i64)):=Rd'.sl Tryz.underlying22 (by kernel_rfl) (by decide) (of_decide_eq_true (by kernel_rfl)) rd3
theorem own:ownKnob Tryz.prog.godebug=none:=by kernel_rfl
theorem laidOut:laidOutB Tryz.prog=true:=by kernel_rfl
theorem readable:(Tryz.f12.params.toList.all λt=>Tryz.prog.readableRec t && decide (t < Tryz.prog.types.size))=true:=by kernel_rfl
set_option maxRecDepth 100000 in
theorem lifted (os:Os) (started:os.Started) (H:Type) (enc:TypeId × Value->H) :
  ReturnsInHanded {} Tryz.checked os 12 .any (λw args=>(Rows.updateLeavesSpec.pre enc Tryz.prog Tryz.f12 [] false w args/\laidMetH Tryz.prog od w)/\sizedMet enc Tryz.prog Tryz.f12 (OpenSpec.ofChange Rows.updateLeavesSpec) false w args)
   (Rows.updateLeavesSpec.post enc Tryz.prog Tryz.f12 false true false false):=by
 refine returnsInHanded_of_change_and (C:=Tryz.checked) (X:=λw _=>laidMetH Tryz.prog od w) (λ_ _ _ hh h=>h.of_heap hh) own started (by kernel_rfl) Tryz.func12
  (ChangeSpec.witness_shaped (enc:=enc) (C:=Tryz.checked) (os:=os) (X:=λw _=>laidMetH Tryz.prog od w) false (World.laidAll Tryz.prog os od) #[.slice none 0 0,.int .i64 0] 64 (World.laidAll_os _ _ _)
   (World.shaped_of_ZipB (by kernel_rfl) (by kernel_rfl)) (by kernel_rfl) (by kernel_rfl) (by kernel_rfl)
   (by rw [MakeChecks.laidMetH_plain _ _ _ (by kernel_rfl)];exact laidMet_laidAll _ (by kernel_rfl) (by kernel_rfl))) ?_
 intro W base args ds gs before hval0 hW _ hZ hL _
 have hval:∀ (j:Nat) t v,Tryz.f12.params[j]?=some t->args[j]?=some v->Value.okWide Tryz.prog W .any base t v:=hval0
 clear hval0
 have hW':=hW
 obtain⟨p,q,hA0,hV,rfl,hfz,hnd⟩:=hW
 have hA:DataW.TrodAll enc Tryz.prog W 0 (λ_=>true) true Tryz.f12.params.toList args.toList ds p:=hA0
 rw [Tryz.params12] at hA hval hZ
 obtain⟨v0,vs0,d0,ds0,p0,q0,hargs,rfl,rfl,h0,r0⟩:=trodAll_cons hA
 obtain⟨v1,vs1,d1,ds1,p1,q1,rfl,rfl,rfl,h1,r1⟩:=trodAll_cons r0
 obtain⟨rfl,rfl,rfl⟩:=trodAll_nil r1
 obtain rfl:args= #[v0,v1]:=by cases args;simp_all
 obtain⟨rfl,rfl⟩:=trodVars_none hV
 obtain⟨x0,o0,w0,b0,z0⟩:=lW (enc:=enc) (u:=(.sl (.int .i64))) rfl rd22 (pL (by first | exact .inl ⟨_,Tryz.underlying22⟩ | exact .inr (.inl Tryz.underlying22) | exact .inr (.inr (.inl Tryz.underlying22)) | exact .inr (.inr (.inr ⟨_,Tryz.underlying22⟩))) (hval 0 22 v0 rfl rfl)) h0
 obtain⟨x1,o1,w1,b1,z1⟩:=lW (enc:=enc) (u:=(.int .i64)) rfl rd3 (pL (by first | exact .inl ⟨_,Tryz.underlying3⟩ | exact .inr (.inl Tryz.underlying3) | exact .inr (.inr (.inl Tryz.underlying3)) | exact .inr (.inr (.inr ⟨_,Tryz.underlying3⟩))) (hval 1 3 v1 rfl rfl)) h1
 clear hA0 hval
 refine(ue oV rfl #[v0,v1] (x0,x1,()) (lR hL) (jc o0 (jc o1 xA)) (r:=true) (show Z8 x0 x1=some true from NI x0 x1 w0 w1 (z0 (pM hZ (j:=0) rfl rfl)) (z1 (pM hZ (j:=1) rfl rfl))) rfl).mono λe W' ⟨he,hb⟩=>?_
 subst he
 exact⟨_,rfl,tN (s:=Rows.updateLeavesSpec) laidOut readable (by kernel_rfl) Tryz.underlying4 rfl hW' rfl hb⟩
noncomputable abbrev P:=Tryz.prog
noncomputable abbrev n:=Tryz.f12
noncomputable abbrev s:=Rows.updateLeavesSpec
noncomputable abbrev c:=Rows.updateLeavesRow
theorem J5 {a b:Bool} (h:a=true) (k:b=true):(a && b)=true:=by rw [h,k];rfl
set_option maxRecDepth 100000
theorem k0:(c.wf (OpenSpec.ofChange s))=true:=by kernel_rfl
theorem k1:(laidOutB P)=true:=by kernel_rfl
theorem k2:(mapsRowed P)=true:=by kernel_rfl
theorem k3:(n.params.all (P.readableRec ·))=true:=by kernel_rfl
theorem k4:(namedTie P c.named s.vars)=true:=by kernel_rfl
theorem k5:((c.stops == []))=true:=by kernel_rfl
theorem k6:((P.stops == []))=true:=by kernel_rfl
theorem k7:((c.knobs == []))=true:=by kernel_rfl
theorem k8:((P.stopKnobs == []))=true:=by kernel_rfl
theorem k9:((c.inPlace == P.inPlace 12))=true:=by kernel_rfl
theorem k10:((c.unfollowed == P.unfollowed 12))=true:=by kernel_rfl
theorem k11:((c.recurses == P.recurses 12))=true:=by kernel_rfl
theorem k12:((c.named == P.varsNamed 12))=true:=by kernel_rfl
theorem k13:((c.maps == (n.params.toList ++ s.plain.varTypes P).any (P.mapsRec ·)))=true:=by kernel_rfl
theorem k14:((c.ifaces == (n.params.toList ++ s.plain.varTypes P).any (P.ifacesRec ·)))=true:=by kernel_rfl
theorem k15:((c.mapsOut == P.mapsAmong n.resultTypes.toList))=true:=by kernel_rfl
theorem k16:((c.loops == (n.params.toList ++ s.plain.varTypes P).any (P.loopsFrom ·)))=true:=by kernel_rfl
theorem k17:((c.wideKeys == (n.params.toList ++ s.plain.varTypes P ++ n.resultTypes.toList).any (P.wideKeysFrom ·)))=true:=by kernel_rfl
theorem k18:(s.vars.all (P.varReadable ·))=true:=by kernel_rfl
theorem k19:(n.resultTypes.all (λt=>P.readableRec t && decide (t < P.types.size)))=true:=by kernel_rfl
theorem k20:((c.ifacesOut == n.resultTypes.toList.any (P.ifacesRec ·)))=true:=by kernel_rfl
theorem k21:((c.loopsOut == n.resultTypes.toList.any (P.loopsFrom ·)))=true:=by kernel_rfl
theorem k22:((c.plainKeys == P.plainKeys))=true:=by kernel_rfl
theorem k23:(c.shortTexts.isNone)=true:=by kernel_rfl
theorem k24:(P.stopsHeard)=true:=by kernel_rfl
theorem k25:(P.mayEnter)=true:=by kernel_rfl
theorem k26:((c.lifted == P.liftsFinal))=true:=by kernel_rfl
theorem k27:((P.make == some c.make))=true:=by kernel_rfl
theorem k28:((c.kinds == (if c.domain.isEmpty then [] else n.params.toList.map λt=>match P.underlying t with | some (.int k)=>some k | _=>none)))=true:=by kernel_rfl
theorem k29:((c.pinned == c.pinnedBy))=true:=by kernel_rfl
theorem k30:((c.veiled == (n.params.toList ++ s.plain.varTypes P ++ n.resultTypes.toList).any (P.veiledRec ·)))=true:=by kernel_rfl
theorem k31:(c.veiledFits P n.params.toList (n.params.toList ++ s.plain.varTypes P ++ n.resultTypes.toList))=true:=by kernel_rfl
theorem tK:joinedFacts P 12 n s c=true:=J5 (J5 (J5 (J5 (J5 (J5 (J5 (J5 (J5 (J5 (J5 (J5 (J5 (J5 (J5 (J5 (J5 (J5 (J5 (J5 (J5 (J5 (J5 (J5 (J5 (J5 (J5 (J5 (J5 (J5 (J5 (k0) k1) k2) k3) k4) k5) k6) k7) k8) k9) k10) k11) k12) k13) k14) k15) k16) k17) k18) k19) k20) k21) k22) k23) k24) k25) k26) k27) k28) k29) k30) k31
theorem Hl:Tryz.prog.funcNamed "mempool/mempoollaw23.UpdateLeaves" =some 12:=by kernel_rfl
theorem holds:Rows.UpdateLeavesSaid:=
 OpenClaim.holds_of_wide 12 Tryz.f12 rfl rfl rfl rfl rfl rfl rfl ⟨rfl,rfl,rfl,rfl,rfl⟩ rfl rfl rfl rfl rfl Hl Tryz.func12 tK
  (of_decide_eq_true (by kernel_rfl)) (by unfold Func.isWrapper;rw [if_neg (of_decide_eq_false (by kernel_rfl))];exact⟨rfl,rfl⟩)
  (λos started H enc _=>lifted os started H enc)
theorem Bh:Rows.updateLeavesRow.wfByText (OpenSpec.ofChange Rows.updateLeavesSpec)=true:=by kernel_rfl
theorem Bi:Tryz.prog.mainIs=some (true,("aa3c1a8e21b9f8e6a4deaa7d1bac081fe929833dc37037da1a2112ea9affb220" :String).toList):=by kernel_rfl
theorem tL:true=Tryz.prog.looks []:=by kernel_rfl
theorem tM:([22,3].all λu=> !Tryz.prog.wantsStandIn u)=true:=by kernel_rfl
theorem Bj:false=Rows.updateLeavesRow.goesBy Tryz.prog:=by kernel_rfl
theorem proved:Rows.UpdateLeavesCardSaid:=
 Claim7.holds_tied_plain_at .later [] [.data,.pinned] true (true,"aa3c1a8e21b9f8e6a4deaa7d1bac081fe929833dc37037da1a2112ea9affb220") true holds (λ_ h=>by cases h) Bh (λ_ h=>by cases h) updateLeaves_row_tie rfl ⟨rfl,rfl⟩ Bi rfl
  (λf fn hf hfn=>by
   obtain rfl:f=12:=Option.some.inj (Hl.symm.trans hf) |>.symm
   obtain rfl:fn=Tryz.f12:=(Option.some.inj (Tryz.func12.symm.trans hfn)).symm
   exact⟨tL,λj t ht=>by
    rw [Tryz.params12] at ht
    have hm:t ∈ [22,3]:=by simpa using Array.mem_of_getElem? ht
    exact(show Tryz.prog.wantsStandIn t=false by simpa using List.all_eq_true.1 tM t hm)⟩)
  Bj
end Go.Proofs.YtjbgdpjgfjnkbaaGreatDoor.rowUpdateLeaves
