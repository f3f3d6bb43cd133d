/- 'TxLimits' holds for every input: the call returns true and leaves its arguments as they were. No conditions. -/
import Derived.Test.YtgfmnpbcbpobbaaDoorTmRow
import Derived.Test.YtgfmnpbcbpobbaaDoorFAllOk
import Derived.Test.YtgfmnpbcbpobbaaDoorPLaw10L
import Derived.Test.YtgfmnpbcbpobbaaDoorRows
import Derived.Test.YtgfmnpbcbpobbaaDoorRowG
import Derived.Test.YtgfmnpbcbpobbaaDoorTie
import Derived.Test.YtgfmnpbcbpobbaaDoorCards
import Derived.KernelRfl
namespace Go.Proofs.YtgfmnpbcbpobbaaDoor.rowTxLimits
open Go.ChangeShapes Go.WideShapes Go.ChangeAt Go.RowKit Go.Proofs.YtgfmnpbcbpobbaaDoor.Am

theorem rd5 {H : Type} {enc : TypeId × Value → H} {W : World} : Rd' enc Tryd.prog W 5 .byte := Rd'.byte Tryd.underlying5
theorem own : ownKnob Tryd.prog.godebug = none := by kernel_rfl
theorem laidOut : laidOutB Tryd.prog = true := by kernel_rfl
theorem readable : (Tryd.f8.params.toList.all fun t => Tryd.prog.readableRec t && decide (t < Tryd.prog.types.size)) = true := by kernel_rfl
set_option maxRecDepth 100000 in
theorem lifted (os : Os) (started : os.Started) (H : Type) (enc : TypeId × Value → H) :
    ReturnsInHanded {} Tryd.checked os 8 .any (fun w args => (Rows.txLimitsSpec.pre enc Tryd.prog Tryd.f8 [] false w args ∧ laidMetH Tryd.prog laidL w) ∧ sizedMet enc Tryd.prog Tryd.f8 (OpenSpec.ofChange Rows.txLimitsSpec) false w args)
      (Rows.txLimitsSpec.post enc Tryd.prog Tryd.f8 false true false false) := by
  refine returnsInHanded_of_change_and (C := Tryd.checked) (X := fun w _ => laidMetH Tryd.prog laidL w) (fun _ _ _ hh h => h.of_heap hh) own started (by kernel_rfl) Tryd.func8
    (ChangeSpec.witness_shaped (enc := enc) (C := Tryd.checked) (os := os) (X := fun w _ => laidMetH Tryd.prog laidL w) false (World.laidAll Tryd.prog os laidL) #[.int .u8 0, .int .u8 0, .int .u8 0] 64 (World.laidAll_os _ _ _)
      (World.shaped_of_ZipB (by kernel_rfl) (by kernel_rfl)) (by kernel_rfl) (by kernel_rfl) (by kernel_rfl)
      (by rw [MakeChecks.laidMetH_plain _ _ _ (by kernel_rfl)]; exact laidMet_laidAll _ (by kernel_rfl) (by kernel_rfl))) ?_
  intro W base args ds gs before hval0 hW _ hZ hL _
  have hval : ∀ (j : Nat) t v, Tryd.f8.params[j]? = some t → args[j]? = some v → Value.okWide Tryd.prog W .any base t v := hval0
  clear hval0
  have hW' := hW
  obtain ⟨p, q, hA0, hV, rfl, hfz, hnd⟩ := hW
  have hA : DataW.TrodAll enc Tryd.prog W 0 (fun _ => true) true Tryd.f8.params.toList args.toList ds p := hA0
  rw [Tryd.params8] at hA hval hZ
  obtain ⟨v0, vs0, d0, ds0, p0, q0, hargs, rfl, rfl, h0, r0⟩ := trodAll_cons hA
  obtain ⟨v1, vs1, d1, ds1, p1, q1, rfl, rfl, rfl, h1, r1⟩ := trodAll_cons r0
  obtain ⟨v2, vs2, d2, ds2, p2, q2, rfl, rfl, rfl, h2, r2⟩ := trodAll_cons r1
  obtain ⟨rfl, rfl, rfl⟩ := trodAll_nil r2
  obtain rfl : args = #[v0, v1, v2] := by cases args; simp_all
  obtain ⟨rfl, rfl⟩ := trodVars_none hV
  obtain ⟨x0, o0, w0, b0, z0⟩ := arg_one (enc := enc) (u := .byte) rfl rd5 (one_of (by first | exact .inl ⟨_, Tryd.underlying5⟩ | exact .inr (.inl Tryd.underlying5) | exact .inr (.inr (.inl Tryd.underlying5)) | exact .inr (.inr (.inr ⟨_, Tryd.underlying5⟩))) (hval 0 5 v0 rfl rfl)) h0
  obtain ⟨x1, o1, w1, b1, z1⟩ := arg_one (enc := enc) (u := .byte) rfl rd5 (one_of (by first | exact .inl ⟨_, Tryd.underlying5⟩ | exact .inr (.inl Tryd.underlying5) | exact .inr (.inr (.inl Tryd.underlying5)) | exact .inr (.inr (.inr ⟨_, Tryd.underlying5⟩))) (hval 1 5 v1 rfl rfl)) h1
  obtain ⟨x2, o2, w2, b2, z2⟩ := arg_one (enc := enc) (u := .byte) rfl rd5 (one_of (by first | exact .inl ⟨_, Tryd.underlying5⟩ | exact .inr (.inl Tryd.underlying5) | exact .inr (.inr (.inl Tryd.underlying5)) | exact .inr (.inr (.inr ⟨_, Tryd.underlying5⟩))) (hval 2 5 v2 rfl rfl)) h2
  clear hA0 hval
  refine (law_call ok_mempoollaw10_TxLimits rfl #[v0, v1, v2] (x0, x1, x2, ()) (glob_of_laid hL) (oas_cons o0 (oas_cons o1 (oas_cons o2 oas_nil))) (r := true) (show F_mempoollaw10_TxLimits x0 x1 x2 = some true from limits_true x0 x1 x2 w0 w1 w2 (z0 (inr_at hZ (j := 0) rfl rfl)) (z1 (inr_at hZ (j := 1) rfl rfl)) (z2 (inr_at hZ (j := 2) rfl rfl)) ) rfl).mono fun e W' ⟨he, hb⟩ => ?_
  subst he
  exact ⟨_, rfl, law_post (s := Rows.txLimitsSpec) laidOut readable (by kernel_rfl) Tryd.underlying4 rfl hW' rfl hb⟩

theorem holds : Rows.TxLimitsSaid :=
  OpenClaim.holds_of_wide 8 Tryd.f8 rfl rfl rfl rfl rfl rfl rfl ⟨rfl, rfl, rfl, rfl, rfl⟩ rfl rfl rfl rfl rfl (by kernel_rfl) Tryd.func8 (by kernel_rfl)
    (of_decide_eq_true (by kernel_rfl)) (by unfold Func.isWrapper; rw [if_neg (of_decide_eq_false (by kernel_rfl))]; exact ⟨rfl, rfl⟩)
    (fun os started H enc _ => lifted os started H enc)
theorem proved : Rows.TxLimitsCardSaid :=
  Claim7.holds_tied_plain_at .later [] [.data, .pinned] true (true, "f0cd2a0f428475e7251b030c822e6f021905954e10b1ef2cbd62b18c11073932") true holds (fun _ h => by cases h) (by kernel_rfl) (fun _ h => by cases h) txLimits_row_tie rfl ⟨rfl, rfl⟩ (by kernel_rfl) rfl
    (fun f fn hf hfn => by
      obtain rfl : f = 8 := Option.some.inj ((show Tryd.prog.funcNamed "mempool/mempoollaw10.TxLimits" = some 8 by kernel_rfl).symm.trans hf) |>.symm
      obtain rfl : fn = Tryd.f8 := (Option.some.inj (Tryd.func8.symm.trans hfn)).symm
      exact ⟨by kernel_rfl, fun j t ht => by
        rw [Tryd.params8] at ht
        have hm : t ∈ [5, 5, 5] := by simpa using Array.mem_of_getElem? ht
        have hall : ([5, 5, 5].all fun u => !Tryd.prog.wantsStandIn u) = true := by kernel_rfl
        exact (show Tryd.prog.wantsStandIn t = false by simpa using List.all_eq_true.1 hall t hm)⟩)
    (by kernel_rfl)
end Go.Proofs.YtgfmnpbcbpobbaaDoor.rowTxLimits
