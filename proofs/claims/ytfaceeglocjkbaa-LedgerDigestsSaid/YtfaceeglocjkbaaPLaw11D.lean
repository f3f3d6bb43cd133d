/- The statement LedgerDigests holds of plain data. No conditions. -/
import Derived.Test.YtfaceeglocjkbaaPLaw11
import Derived.Test.YtfaceeglocjkbaaPDigW
namespace Go.Proofs.Ytfaceeglocjkbaa.Am
open Go

def accFs (a : D_api_Account) : List D_api_Field := [(1, 2, (0 : Int), a.1), (2, (0 : Int), a.2.1, []), (3, (0 : Int), a.2.2, [])]
theorem acc_leaf {a : D_api_Account} (h1 : okU a.2.1) (h2 : okU a.2.2) (hn : a.1.length ≤ 140737488351232) : ∃ r, F_ledger_leaf (accFs a) = some r ∧ F_mempoolref4_Message (accFs a) = some r ∧ r.length ≤ 140737488354000 := by
  have hf : ∀ f ∈ accFs a, FdOk f := fun f hf => by
    simp only [accFs, List.mem_cons, List.not_mem_nil, or_false] at hf
    rcases hf with rfl | rfl | rfl
    · exact ⟨⟨by dsimp only; omega, by dsimp only; omega⟩, .inr rfl, by dsimp only; omega, by dsimp only; omega⟩
    · exact ⟨⟨by dsimp only; omega, by dsimp only; omega⟩, .inl rfl, h1.1, h1.2⟩
    · exact ⟨⟨by dsimp only; omega, by dsimp only; omega⟩, .inl rfl, h2.1, h2.2⟩
  have hw : wtF (accFs a) = a.1.length + 60 := by simp [wtF, accFs]
  obtain ⟨r, e, hr⟩ := msg_ok hf (by simp [accFs]) (by omega)
  exact ⟨r, (leaf_msg hf (by simp [accFs])).trans e, e, by omega⟩
theorem col_leaf {c : Int} (h : okU c) : ∃ r, F_ledger_leaf [(4, (0 : Int), c, [])] = some r ∧ F_mempoolref4_Message [(4, (0 : Int), c, [])] = some r ∧ r.length ≤ 140737488354000 := by
  have hf : ∀ f ∈ ([(4, (0 : Int), c, [])] : List D_api_Field), FdOk f := fun f hf => by
    rw [List.mem_singleton] at hf
    subst hf
    exact ⟨⟨by dsimp only; omega, by dsimp only; omega⟩, .inl rfl, h.1, h.2⟩
  have hw : wtF [(4, (0 : Int), c, [])] = 20 := by simp [wtF]
  obtain ⟨r, e, hr⟩ := msg_ok hf (by simp) (by omega)
  exact ⟨r, (leaf_msg hf (by simp)).trans e, e, by omega⟩
def DigB (g : D_api_Ledger) : Prop := okU g.2 ∧ (∀ a ∈ g.1, okU a.2.1 ∧ okU a.2.2 ∧ a.1.length ≤ 140737488351232) ∧ g.1.length ≤ 4398046511000
theorem digest_ok {g : D_api_Ledger} (h : DigB g) : ∃ r, F_ledger_Digest g = some r ∧ F_mempoolref10_DigestLedger g = some r := by
  obtain ⟨hc, ha, hl⟩ := h
  obtain ⟨q, q1, q2, q3⟩ := col_leaf hc
  have hroot : ∀ b : List (List UInt8), b.length = g.1.length → (∀ x ∈ b, x.length ≤ 140737488354000) → ∃ r, F_merkle_Root FUEL (b ++ [q]) = some r ∧ F_mempoolref4_Root FUEL (b ++ [q]) = some r := fun b hb hx => by
    refine root_eq FUEL (b ++ [q]) ?_ ?_ fun x hm => ?_
    · rw [FUEL_eq, List.length_append, List.length_singleton]; omega
    · rw [List.length_append, List.length_singleton]; omega
    · rcases List.mem_append.1 hm with hm | hm
      · exact hx x hm
      · rw [List.mem_singleton.1 hm]; exact q3
  -- the leaves
  let lf : D_api_Account → List UInt8 := fun a => (F_mempoolref4_Message (accFs a)).getD []
  have hlf : ∀ a ∈ g.1, F_ledger_leaf (accFs a) = some (lf a) ∧ F_mempoolref4_Message (accFs a) = some (lf a) ∧ (lf a).length ≤ 140737488354000 := fun a hm => by
    obtain ⟨h1, h2, h3⟩ := ha a hm
    obtain ⟨r, e1, e2, e3⟩ := acc_leaf h1 h2 h3
    have : lf a = r := by show (F_mempoolref4_Message (accFs a)).getD [] = r; rw [e2]; rfl
    rw [this]
    exact ⟨e1, e2, e3⟩
  obtain ⟨r, r1, r2⟩ := hroot (g.1.map lf) (by rw [List.length_map]) (fun x hx => by obtain ⟨a, hm, rfl⟩ := List.mem_map.1 hx; exact (hlf a hm).2.2)
  refine ⟨r, ?_, ?_⟩
  · rw [← ok_eq]
    unfold F_ledger_Digest F_ledger_Digest_l2s
    refine ok_range g.1 (fun i (b : List (List UInt8)) => (g.1, ((g.1.length : Nat) : Int), ((i : Nat) : Int), g, Vector.replicate 32 (0 : UInt8), b)) (fun i b => b = (g.1.take i).map lf) (fun i b hi hv => ?_) (fun b hv => ?_) (b0 := []) rfl (by omega)
    · have hb : b.length = i := by rw [hv, List.length_map, List.length_take]; omega
      have hm := List.getElem_mem hi
      have hn := (ha _ hm).2.2
      unfold F_ledger_Digest_l2
      dsimp only
      rw [decide_eq_true (by omega : (i : Int) < ((g.1.length : Nat) : Int)), sel_t, decide_eq_true (by omega : (0 : Int) ≤ (i : Int) ∧ (i : Int) < ((g.1.length : Nat) : Int)), chk_t, Int.toNat_natCast, getD_lt hi, decide_eq_true (by unfold maxLen; omega), chk_t]
      show Ok ((F_ledger_leaf (accFs g.1[i])).bind _) _
      rw [(hlf _ hm).1, Option.bind_some, hb, decide_eq_true ⟨by unfold LIM; omega, by unfold LEN; omega⟩, chk_t, ok_some, nxt_inl, wi_succ (by omega)]
      exact ⟨_, rfl, by rw [take_succ' hi, List.map_append, hv]; rfl⟩
    · rw [List.take_length] at hv
      have hb : b.length = g.1.length := by rw [hv, List.length_map]
      unfold F_ledger_Digest_l2 F_ledger_Digest_c1
      dsimp only
      rw [decide_eq_false (by omega), sel_f, q1, Option.bind_some, hb, decide_eq_true ⟨by unfold LIM; omega, by unfold LEN; omega⟩, chk_t, hv, r1]
      exact ⟨_, rfl, rfl⟩
  · rw [← ok_eq]
    unfold F_mempoolref10_DigestLedger F_mempoolref10_DigestLedger_l2s
    refine ok_range g.1 (fun i (b : List (List UInt8)) => (g.1, ((g.1.length : Nat) : Int), ((i : Nat) : Int), g, Vector.replicate 32 (0 : UInt8), b)) (fun i b => b = (g.1.take i).map lf) (fun i b hi hv => ?_) (fun b hv => ?_) (b0 := []) rfl (by omega)
    · have hb : b.length = i := by rw [hv, List.length_map, List.length_take]; omega
      have hm := List.getElem_mem hi
      have hn := (ha _ hm).2.2
      unfold F_mempoolref10_DigestLedger_l2
      dsimp only
      rw [decide_eq_true (by omega : (i : Int) < ((g.1.length : Nat) : Int)), sel_t, decide_eq_true (by omega : (0 : Int) ≤ (i : Int) ∧ (i : Int) < ((g.1.length : Nat) : Int)), chk_t, Int.toNat_natCast, getD_lt hi, decide_eq_true (by unfold maxLen; omega), chk_t]
      show Ok ((F_mempoolref4_Message (accFs g.1[i])).bind _) _
      rw [(hlf _ hm).2.1, Option.bind_some, hb, decide_eq_true ⟨by unfold LIM; omega, by unfold LEN; omega⟩, chk_t, ok_some, nxt_inl, wi_succ (by omega)]
      exact ⟨_, rfl, by rw [take_succ' hi, List.map_append, hv]; rfl⟩
    · rw [List.take_length] at hv
      have hb : b.length = g.1.length := by rw [hv, List.length_map]
      unfold F_mempoolref10_DigestLedger_l2 F_mempoolref10_DigestLedger_c1
      dsimp only
      rw [decide_eq_false (by omega), sel_f, q2, Option.bind_some, hb, decide_eq_true ⟨by unfold LIM; omega, by unfold LEN; omega⟩, chk_t, hv, r2]
      exact ⟨_, rfl, rfl⟩
theorem key_refl (k : Vector UInt8 32) : U.beq (.arr 32 .byte) k k = true := (U.beq_iff (.arr 32 .byte) _ rfl k k).2 rfl
theorem ledgerDigests_law (x0 : D_api_Ledger) (x1 : List Int) (w0 : wfU U_api_Ledger x0) (_ : wfU (.sl (.int .i64)) x1) (z0 : szU U_api_Ledger x0) (z1 : szU (.sl (.int .i64)) x1) : F_mempoollaw11_LedgerDigests x0 x1 = some true := by
  obtain ⟨hb0, _⟩ := wf_led w0 z0
  have hd0 : DigB x0 := ⟨hb0.1, fun a ha => by
    obtain ⟨q1, q2, _⟩ := wf_acc (w0.1.2 a ha) (z0.1.2 a ha)
    have h : a.1.length ≤ reachBytes := (z0.1.2 a ha).1
    exact ⟨q1, q2, h⟩, hb0.2.2.2⟩
  refine ok_eq.1 ?_
  unfold F_mempoollaw11_LedgerDigests
  rw [long11_ok (sz_ints z1), Option.bind_some, ok_sel]
  refine ⟨fun _ => known11, fun hk => ?_⟩
  have hk := of_decide_eq_false hk
  rw [ok_bind]
  refine (big11_ok hb0.2.2.2).mono fun r3 _ => ?_
  rw [ok_sel]
  refine ⟨fun _ => known11, fun _ => ?_⟩
  rw [ok_bind]
  refine (made11_ok (by omega)).mono fun m hm => ?_
  have hml := hm.1
  have hdm : DigB m := ⟨hm.2.2, fun a ha => ⟨(hm.2.1 a ha).2.1, (hm.2.1 a ha).2.2, by have := (hm.2.1 a ha).1.2; omega⟩, by omega⟩
  obtain ⟨r, r1, r2⟩ := digest_ok hd0
  obtain ⟨s, s1, s2⟩ := digest_ok hdm
  rw [r1, Option.bind_some, r2, Option.bind_some, key_refl, sel_t, s1, Option.bind_some, s2, Option.bind_some, key_refl, sel_t]
  exact known11
end Go.Proofs.Ytfaceeglocjkbaa.Am
