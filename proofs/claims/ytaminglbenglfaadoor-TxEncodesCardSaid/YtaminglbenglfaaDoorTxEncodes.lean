/- 'TxEncodes' holds for every input: the call returns true and leaves its arguments as they were. No conditions. -/
import Derived.Test.YtaminglbenglfaaDoorTmRow
import Derived.Test.YtaminglbenglfaaDoorFAllOk
import Derived.Test.YtaminglbenglfaaDoorPLaw10E
import Derived.Test.YtaminglbenglfaaDoorRows
import Derived.Test.YtaminglbenglfaaDoorRowG
import Derived.Test.YtaminglbenglfaaDoorTie
import Derived.Test.YtaminglbenglfaaDoorCards
import Derived.KernelRfl
namespace Go.Proofs.YtaminglbenglfaaDoor.rowTxEncodes
open Go.ChangeShapes Go.WideShapes Go.ChangeAt Go.RowKit Go.Proofs.YtaminglbenglfaaDoor.Am

theorem rd26 {H : Type} {enc : TypeId × Value → H} {W : World} : Rd' enc Tryd.prog W 26 (.int .u64) := Rd'.int Tryd.underlying26
theorem rd9 {H : Type} {enc : TypeId × Value → H} {W : World} : Rd' enc Tryd.prog W 9 .str := Rd'.str Tryd.underlying9
theorem rd58 {H : Type} {enc : TypeId × Value → H} {W : World} : Rd' enc Tryd.prog W 58 U_api_Transfer := Rd'.st Tryd.underlying58 (by kernel_rfl) (.cons rfl (by kernel_rfl) rd9 (.one rfl (by kernel_rfl) rd26))
theorem rd27 {H : Type} {enc : TypeId × Value → H} {W : World} : Rd' enc Tryd.prog W 27 (.sl U_api_Transfer) := Rd'.sl Tryd.underlying27 (by kernel_rfl) (by decide) (of_decide_eq_true (by kernel_rfl)) rd58
theorem rd29 {H : Type} {enc : TypeId × Value → H} {W : World} : Rd' enc Tryd.prog W 29 U_api_Tx := Rd'.st Tryd.underlying29 (by kernel_rfl) (.cons rfl (by kernel_rfl) rd9 (.cons rfl (by kernel_rfl) rd26 (.cons rfl (by kernel_rfl) rd26 (.cons rfl (by kernel_rfl) rd26 (.cons rfl (by kernel_rfl) rd9 (.one rfl (by kernel_rfl) rd27))))))
theorem rd3 {H : Type} {enc : TypeId × Value → H} {W : World} : Rd' enc Tryd.prog W 3 (.int .i64) := Rd'.int Tryd.underlying3
theorem rd30 {H : Type} {enc : TypeId × Value → H} {W : World} : Rd' enc Tryd.prog W 30 (.sl (.int .i64)) := Rd'.sl Tryd.underlying30 (by kernel_rfl) (by decide) (of_decide_eq_true (by kernel_rfl)) rd3
theorem own : ownKnob Tryd.prog.godebug = none := by kernel_rfl
theorem laidOut : laidOutB Tryd.prog = true := by kernel_rfl
theorem readable : (Tryd.f5.params.toList.all fun t => Tryd.prog.readableRec t && decide (t < Tryd.prog.types.size)) = true := by kernel_rfl
set_option maxRecDepth 100000 in
theorem lifted (os : Os) (started : os.Started) (H : Type) (enc : TypeId × Value → H) :
    ReturnsInHanded {} Tryd.checked os 5 .any (fun w args => (Rows.txEncodesSpec.pre enc Tryd.prog Tryd.f5 [] false w args ∧ laidMetH Tryd.prog laidL w) ∧ sizedMet enc Tryd.prog Tryd.f5 (OpenSpec.ofChange Rows.txEncodesSpec) false w args)
      (Rows.txEncodesSpec.post enc Tryd.prog Tryd.f5 false true false false) := by
  refine returnsInHanded_of_change_and (C := Tryd.checked) (X := fun w _ => laidMetH Tryd.prog laidL w) (fun _ _ _ hh h => h.of_heap hh) own started (by kernel_rfl) Tryd.func5
    (ChangeSpec.witness_shaped (enc := enc) (C := Tryd.checked) (os := os) (X := fun w _ => laidMetH Tryd.prog laidL w) false (World.laidAll Tryd.prog os laidL) #[.agg #[.string ⟨#[]⟩, .int .u64 0, .int .u64 0, .int .u64 0, .string ⟨#[]⟩, .slice none 0 0], .slice none 0 0] 64 (World.laidAll_os _ _ _)
      (World.shaped_of_ZipB (by kernel_rfl) (by kernel_rfl)) (by kernel_rfl) (by kernel_rfl) (by kernel_rfl)
      (by rw [MakeChecks.laidMetH_plain _ _ _ (by kernel_rfl)]; exact laidMet_laidAll _ (by kernel_rfl) (by kernel_rfl))) ?_
  intro W base args ds gs before hval0 hW _ hZ hL _
  have hval : ∀ (j : Nat) t v, Tryd.f5.params[j]? = some t → args[j]? = some v → Value.okWide Tryd.prog W .any base t v := hval0
  clear hval0
  have hW' := hW
  obtain ⟨p, q, hA0, hV, rfl, hfz, hnd⟩ := hW
  have hA : DataW.TrodAll enc Tryd.prog W 0 (fun _ => true) true Tryd.f5.params.toList args.toList ds p := hA0
  rw [Tryd.params5] at hA hval hZ
  obtain ⟨v0, vs0, d0, ds0, p0, q0, hargs, rfl, rfl, h0, r0⟩ := trodAll_cons hA
  obtain ⟨v1, vs1, d1, ds1, p1, q1, rfl, rfl, rfl, h1, r1⟩ := trodAll_cons r0
  obtain ⟨rfl, rfl, rfl⟩ := trodAll_nil r1
  obtain rfl : args = #[v0, v1] := by cases args; simp_all
  obtain ⟨rfl, rfl⟩ := trodVars_none hV
  obtain ⟨x0, o0, w0, b0, z0⟩ := arg_agg (enc := enc) (u := U_api_Tx) rd29 (agg_of (.inl ⟨_, Tryd.underlying29⟩) (hval 0 29 v0 rfl rfl)) h0
  obtain ⟨x1, o1, w1, b1, z1⟩ := arg_one (enc := enc) (u := (.sl (.int .i64))) rfl rd30 (one_of (by first | exact .inl ⟨_, Tryd.underlying30⟩ | exact .inr (.inl Tryd.underlying30) | exact .inr (.inr (.inl Tryd.underlying30)) | exact .inr (.inr (.inr ⟨_, Tryd.underlying30⟩))) (hval 1 30 v1 rfl rfl)) h1
  clear hA0 hval
  refine (law_call ok_mempoollaw10_TxEncodes rfl #[v0, v1] ((x0, ()), x1, ()) (glob_of_laid hL) (oas_cons o0 (oas_cons o1 oas_nil)) (r := true) (show F_mempoollaw10_TxEncodes x0 x1 = some true from encodes_true x0 x1 w0 w1 (z0 (inr_at hZ (j := 0) rfl rfl)) (z1 (inr_at hZ (j := 1) rfl rfl)) ) rfl).mono fun e W' ⟨he, hb⟩ => ?_
  subst he
  exact ⟨_, rfl, law_post (s := Rows.txEncodesSpec) laidOut readable (by kernel_rfl) Tryd.underlying4 rfl hW' rfl hb⟩

theorem holds : Rows.TxEncodesSaid :=
  OpenClaim.holds_of_wide 5 Tryd.f5 rfl rfl rfl rfl rfl rfl rfl ⟨rfl, rfl, rfl, rfl, rfl⟩ rfl rfl rfl rfl rfl (by kernel_rfl) Tryd.func5 (by kernel_rfl)
    (of_decide_eq_true (by kernel_rfl)) (by unfold Func.isWrapper; rw [if_neg (of_decide_eq_false (by kernel_rfl))]; exact ⟨rfl, rfl⟩)
    (fun os started H enc _ => lifted os started H enc)
theorem proved : Rows.TxEncodesCardSaid :=
  Claim7.holds_tied_plain_at .later [] [.data, .pinned] true (true, "f0cd2a0f428475e7251b030c822e6f021905954e10b1ef2cbd62b18c11073932") true holds (fun _ h => by cases h) (by kernel_rfl) (fun _ h => by cases h) txEncodes_row_tie rfl ⟨rfl, rfl⟩ (by kernel_rfl) rfl
    (fun f fn hf hfn => by
      obtain rfl : f = 5 := Option.some.inj ((show Tryd.prog.funcNamed "mempool/mempoollaw10.TxEncodes" = some 5 by kernel_rfl).symm.trans hf) |>.symm
      obtain rfl : fn = Tryd.f5 := (Option.some.inj (Tryd.func5.symm.trans hfn)).symm
      exact ⟨by kernel_rfl, fun j t ht => by
        rw [Tryd.params5] at ht
        have hm : t ∈ [29, 30] := by simpa using Array.mem_of_getElem? ht
        have hall : ([29, 30].all fun u => !Tryd.prog.wantsStandIn u) = true := by kernel_rfl
        exact (show Tryd.prog.wantsStandIn t = false by simpa using List.all_eq_true.1 hall t hm)⟩)
    (by kernel_rfl)
end Go.Proofs.YtaminglbenglfaaDoor.rowTxEncodes
