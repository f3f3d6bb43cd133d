/- Validity of transactions, on plain data. No conditions. -/
import Derived.Test.YtgfmnpbcbpobbaaDoorPMakeTx
import Derived.Test.YtgfmnpbcbpobbaaDoorTmRow
namespace Go.Proofs.YtgfmnpbcbpobbaaDoor.Am
open Go

def validT : List D_api_Transfer → Int
  | [] => 0
  | x :: l => if isName x.1 = true then (if x.2 = 0 then 12 else validT l) else 10
def validTx (t : D_api_Tx) : Int :=
  if isName t.1 = true then (if t.2.2.1 = 0 then 15 else if isMemo t.2.2.2.2.1 = true then (if t.2.2.2.2.2.length = 0 then 3 else if 16 < t.2.2.2.2.2.length then 3 else validT t.2.2.2.2.2) else 11) else 10
/-- The lengths that come up. -/
def TxB (t : D_api_Tx) : Prop := t.1.length ≤ 200000000000000 ∧ t.2.2.2.2.1.length ≤ 200000000000000 ∧ t.2.2.2.2.2.length ≤ 200000000000000 ∧ ∀ x ∈ t.2.2.2.2.2, x.1.length ≤ 200000000000000
theorem validT_loop {α : Type} {G : (List D_api_Transfer × Int × Int) → Option ((List D_api_Transfer × Int × Int) ⊕ Int)} {l : List D_api_Transfer} (hl : l.length ≤ 1000) (_ : α)
    (step : ∀ i (h : i < l.length), G (l, ((l.length : Nat) : Int), ((i : Nat) : Int)) = some (if isName l[i].1 = true then (if l[i].2 = 0 then .inr 12 else .inl (l, ((l.length : Nat) : Int), ((i + 1 : Nat) : Int))) else .inr 10))
    (stop : G (l, ((l.length : Nat) : Int), ((l.length : Nat) : Int)) = some (.inr 0)) : iterO G (l, ((l.length : Nat) : Int), 0) = some (validT l) := by
  rw [← ok_eq]
  refine ok_range l (fun i (_ : Unit) => (l, ((l.length : Nat) : Int), ((i : Nat) : Int))) (fun i _ => validT (l.drop i) = validT l) (fun i _ hi hv => ?_) (fun _ hv => ?_) (b0 := ()) rfl (by omega)
  · rw [step i hi, ok_some]
    rw [List.drop_eq_getElem_cons hi] at hv
    by_cases h1 : isName l[i].1 = true
    · by_cases h2 : l[i].2 = 0
      · rw [if_pos h1, if_pos h2, nxt_inr, ← hv]
        simp [validT, h1, h2]
      · rw [if_pos h1, if_neg h2, nxt_inl]
        refine ⟨(), rfl, ?_⟩
        rw [← hv]
        simp [validT, h1, h2]
    · rw [if_neg h1, nxt_inr, ← hv]
      simp [validT, h1]
  · rw [stop, ok_some, nxt_inr, ← hv, List.drop_length]; rfl
theorem valid_tx {t : D_api_Tx} (h : TxB t) : F_tx_Validate t = some (validTx t) := by
  obtain ⟨h1, h2, h3, h4⟩ := h
  have hT : t.2.2.2.2.2.length ≤ 16 → F_tx_Validate_l1s t.2.2.2.2.2 ((t.2.2.2.2.2.length : Nat) : Int) 0 = some (validT t.2.2.2.2.2) := fun h5 => by
    unfold F_tx_Validate_l1s
    refine validT_loop (by omega) () (fun i hi => ?_) ?_
    · rw [← ok_eq]
      have hn := name_tx (s := (t.2.2.2.2.2[i]).1) (Nat.le_trans (h4 _ (List.getElem_mem hi)) (by omega))
      simp only [F_tx_Validate_l1, ok_sel, ok_chk, ok_bind, ok_some, decide_eq_true_eq, decide_eq_false_iff_not, Bool.not_eq_true', Bool.not_eq_false', Int.toNat_natCast, getD_lt hi, hn, wi_succ (i := i) (by omega)]
      refine ⟨fun _ => ⟨by omega, fun e => ?_, fun e => ⟨fun e2 => ?_, fun e2 => ?_⟩⟩, fun h => absurd h (by omega)⟩
      · rw [if_neg (by simp [e])]
      · rw [if_pos e, if_pos e2]
      · rw [if_pos e, if_neg e2]
    · rw [← ok_eq]
      simp only [F_tx_Validate_l1, ok_sel, ok_chk, ok_bind, ok_some, decide_eq_true_eq, decide_eq_false_iff_not, Bool.not_eq_true', Bool.not_eq_false', Int.toNat_natCast]
      exact ⟨fun h => absurd h (by omega), fun _ => trivial⟩
  rw [← ok_eq]
  simp only [F_tx_Validate, name_tx (Nat.le_trans h1 (by omega : (200000000000000 : Nat) ≤ 1000000000000000)), memo_tx (Nat.le_trans h2 (by omega : (200000000000000 : Nat) ≤ 1000000000000000)), ok_sel, ok_bind, ok_some, decide_eq_true_eq, decide_eq_false_iff_not, Bool.not_eq_true', Bool.not_eq_false']
  unfold validTx
  refine ⟨fun e => by rw [if_neg (by simp [e])], fun e => ⟨fun e1 => by rw [if_pos e, if_pos e1], fun e1 => ⟨fun e2 => by rw [if_pos e, if_neg e1, if_neg (by simp [e2])], fun e2 => ⟨fun e3 => by rw [if_pos e, if_neg e1, if_pos e2, if_pos (by omega)], fun e3 => ⟨fun e4 => by rw [if_pos e, if_neg e1, if_pos e2, if_neg (by omega), if_pos (by omega)], fun e4 => ?_⟩⟩⟩⟩⟩
  rw [hT (by omega), ok_some, if_pos e, if_neg e1, if_pos e2, if_neg (by omega), if_neg (by omega)]
theorem valid_ref {t : D_api_Tx} (h : TxB t) : F_mempoolref10_ValidateTx t = some (validTx t) := by
  obtain ⟨h1, h2, h3, h4⟩ := h
  have hT : t.2.2.2.2.2.length ≤ 16 → F_mempoolref10_ValidateTx_l1s t.2.2.2.2.2 ((t.2.2.2.2.2.length : Nat) : Int) 0 = some (validT t.2.2.2.2.2) := fun h5 => by
    unfold F_mempoolref10_ValidateTx_l1s
    refine validT_loop (by omega) () (fun i hi => ?_) ?_
    · rw [← ok_eq]
      have hn := name_ref (s := (t.2.2.2.2.2[i]).1) (Nat.le_trans (h4 _ (List.getElem_mem hi)) (by omega))
      simp only [F_mempoolref10_ValidateTx_l1, ok_sel, ok_chk, ok_bind, ok_some, decide_eq_true_eq, decide_eq_false_iff_not, Bool.not_eq_true', Bool.not_eq_false', Int.toNat_natCast, getD_lt hi, hn, wi_succ (i := i) (by omega)]
      refine ⟨fun _ => ⟨by omega, fun e => ?_, fun e => ⟨fun e2 => ?_, fun e2 => ?_⟩⟩, fun h => absurd h (by omega)⟩
      · rw [if_neg (by simp [e])]
      · rw [if_pos e, if_pos e2]
      · rw [if_pos e, if_neg e2]
    · rw [← ok_eq]
      simp only [F_mempoolref10_ValidateTx_l1, ok_sel, ok_chk, ok_bind, ok_some, decide_eq_true_eq, decide_eq_false_iff_not, Bool.not_eq_true', Bool.not_eq_false', Int.toNat_natCast]
      exact ⟨fun h => absurd h (by omega), fun _ => trivial⟩
  rw [← ok_eq]
  simp only [F_mempoolref10_ValidateTx, name_ref (Nat.le_trans h1 (by omega : (200000000000000 : Nat) ≤ 1000000000000000)), memo_ref (Nat.le_trans h2 (by omega : (200000000000000 : Nat) ≤ 1000000000000000)), ok_sel, ok_bind, ok_some, decide_eq_true_eq, decide_eq_false_iff_not, Bool.not_eq_true', Bool.not_eq_false']
  unfold validTx
  refine ⟨fun e => by rw [if_neg (by simp [e])], fun e => ⟨fun e1 => by rw [if_pos e, if_pos e1], fun e1 => ⟨fun e2 => by rw [if_pos e, if_neg e1, if_neg (by simp [e2])], fun e2 => ⟨fun e3 => by rw [if_pos e, if_neg e1, if_pos e2, if_pos (by omega)], fun e3 => ⟨fun e4 => by rw [if_pos e, if_neg e1, if_pos e2, if_neg (by omega), if_pos (by omega)], fun e4 => ?_⟩⟩⟩⟩⟩
  rw [hT (by omega), ok_some, if_pos e, if_neg e1, if_pos e2, if_neg (by omega), if_neg (by omega)]
theorem validT_made : ∀ {l : List D_api_Transfer}, (∀ x ∈ l, TrM x) → validT l = 0
  | [], _ => rfl
  | x :: l, h => by
    have hx := h x (by simp)
    unfold validT
    rw [if_pos hx.1.1, if_neg (by have := hx.2.1; omega)]
    exact validT_made fun y hy => h y (by simp [hy])
theorem TxM.valid {t : D_api_Tx} (h : TxM t) : validTx t = 0 := by
  obtain ⟨h1, h2, h3, h4, h5, h6, h7⟩ := h
  unfold validTx
  rw [if_pos h1.1, if_neg (by omega), if_pos h5.1, if_neg (by omega), if_neg (by omega)]
  exact validT_made h7
theorem TxM.b {t : D_api_Tx} (h : TxM t) : TxB t := by
  obtain ⟨h1, h2, h3, h4, h5, h6, h7⟩ := h
  exact ⟨by have := h1.2; omega, by have := h5.2; omega, by omega, fun x hx => by have := (h7 x hx).1.2; omega⟩
theorem sz_tx {t : D_api_Tx} (h : szU U_api_Tx t) : TxB t ∧ t.2.2.2.2.2.length * 24 ≤ reachBytes := by
  obtain ⟨h1, _, _, _, h2, h3, h4⟩ := h
  have h1 : t.1.length ≤ reachBytes := h1
  have h2 : t.2.2.2.2.1.length ≤ reachBytes := h2
  have h3 : t.2.2.2.2.2.length * 24 ≤ reachBytes := h3
  simp only [reachBytes] at *
  exact ⟨⟨by omega, by omega, by omega, fun x hx => by have : x.1.length ≤ 140737488351232 := (h4 x hx).1; omega⟩, h3⟩
theorem long10 {l : List Int} (hl : l.length ≤ maxLen) : F_mempoollaw10_long [l] = some (decide (160 < l.length)) := by
  simp only [maxLen] at hl
  refine ok_eq.1 ?_
  unfold F_mempoollaw10_long F_mempoollaw10_long_l1s
  have h0 : wi64 (0 + ((l.length : Nat) : Int)) = ((l.length : Nat) : Int) := by rw [wi64_id] <;> omega
  refine ok_range [l] (fun i (_ : Unit) => (if i = 0 then 0 else ((l.length : Nat) : Int), [l], (((1 : Nat) : Nat) : Int), ((i : Nat) : Int))) (fun i _ => i ≤ 1) (fun i _ hi _ => ?_) (fun _ _ => ?_) (b0 := ()) (by omega) (by simp)
  · have hi0 : i = 0 := by simp only [List.length_cons, List.length_nil] at hi; omega
    subst hi0
    simp only [F_mempoollaw10_long_l1, ok_sel, ok_chk, ok_some, nxt_inl, nxt_inr, decide_eq_true_eq, decide_eq_false_iff_not, Int.toNat_natCast]
    refine ⟨fun _ => ⟨by simp, (), ?_, by omega⟩, fun h => by omega⟩
    have h1 : wi64 (((0 : Nat) : Int) + 1) = ((0 + 1 : Nat) : Int) := by rw [wi64_id] <;> omega
    rw [h1]
    simp only [if_true]
    show (wi64 (0 + ((l.length : Nat) : Int)), [l], _, _) = _
    rw [h0]
    rfl
  · simp only [F_mempoollaw10_long_l1, ok_sel, ok_chk, ok_some, nxt_inl, nxt_inr, decide_eq_true_eq, decide_eq_false_iff_not, Int.toNat_natCast, List.length_cons, List.length_nil]
    refine ⟨fun h => by omega, fun _ => ?_⟩
    simp
    omega
theorem big10 {t : D_api_Tx} (h : TxB t) : Ok (F_mempoollaw10_big t) fun _ => True := by
  obtain ⟨h1, h2, h3, h4⟩ := h
  unfold F_mempoollaw10_big F_mempoollaw10_big_l1s
  refine ok_range t.2.2.2.2.2 (fun i (n : Int) => (n, t.2.2.2.2.2, ((t.2.2.2.2.2.length : Nat) : Int), ((i : Nat) : Int))) (fun i _ => True) (fun i n hi _ => ?_) (fun _ _ => ?_) trivial (by omega)
  · simp only [F_mempoollaw10_big_l1, ok_sel, ok_chk, ok_some, nxt_inl, nxt_inr, decide_eq_true_eq, decide_eq_false_iff_not, Int.toNat_natCast, wi_succ (i := i) (by omega)]
    exact ⟨fun _ => ⟨by omega, _, rfl, trivial⟩, fun _ => trivial⟩
  · simp only [F_mempoollaw10_big_l1, ok_sel, ok_chk, ok_some, nxt_inl, nxt_inr, decide_eq_true_eq, decide_eq_false_iff_not, Int.toNat_natCast]
    exact ⟨fun h => absurd h (by omega), fun _ => trivial⟩
theorem made_s {L : List Int} {t : D_api_Tx} (h : TxB t) (h24 : t.2.2.2.2.2.length * 24 ≤ reachBytes) : Ok (F_mempoollaw10_made L t) fun r => TxM r.1 ∧ TxB r.2 := by
  simp only [reachBytes] at h24
  unfold F_mempoollaw10_made
  rw [from_ok, Option.bind_some, ok_bind]
  refine (accounts_s (numS0 L) (by omega) (by omega)).mono fun r2 h2 => ?_
  obtain ⟨a1, a2, a3⟩ := h2
  rw [ok_bind]
  refine (maketx_s (p := 1) (g := (r2.2, (0 : Int))) a1 (by omega) (by omega) (by have := a3.1; simp only; omega) a3.2).mono fun r3 h3 => ?_
  obtain ⟨b1, b2, b3⟩ := h3
  rw [ok_bind]
  refine (next_s b1 (n := 8) (by omega) (by omega) (by omega)).mono fun r4 h4 => ?_
  obtain ⟨c1, c2, c3, c4⟩ := h4
  have hB := b3.b
  obtain ⟨d1, d2, d3, d4, d5, d6, d7⟩ := b3
  obtain ⟨e1, e2, e3, e4⟩ := hB
  obtain ⟨f1, f2, f3, f4⟩ := h
  have hM : TxM r3.2 := ⟨d1, d2, d3, d4, d5, d6, d7⟩
  simp only [ok_sel, ok_chk, ok_bind, ok_some, decide_eq_true_eq, decide_eq_false_iff_not]
  refine ⟨fun _ => ⟨hM, f1, e2, e3, e4⟩, fun _ => ⟨fun _ => ⟨hM, e1, e2, e3, e4⟩, fun _ => ⟨fun _ => ?_, fun _ => ⟨fun _ => ⟨hM, e1, f2, e3, e4⟩, fun _ => ⟨fun _ => ⟨hM, e1, e2, f3, f4⟩, fun _ => ⟨fun _ => ?_, fun _ => ⟨fun _ => ?_, fun _ => ⟨hM, e1, e2, e3, e4⟩⟩⟩⟩⟩⟩⟩⟩
  · refine (next_s c1 (n := 2) (by omega) (by omega) (by omega)).mono fun r5 h5 => ?_
    exact ⟨hM, e1, e2, e3, e4⟩
  · refine ⟨⟨by unfold LIM; omega, by unfold LEN; omega⟩, ⟨by unfold LIM; omega, by unfold LEN; omega⟩, hM, e1, e2, by simp only [List.length_append]; omega, fun x hx => ?_⟩
    rcases List.mem_append.1 hx with hx | hx
    · exact e4 x hx
    · exact f4 x hx
  · refine ⟨⟨by unfold LIM; omega, by unfold LEN; omega⟩, ⟨by unfold LIM; omega, by unfold LEN; omega⟩, hM, e1, e2, by simp only [List.length_append, List.length_cons, List.length_nil]; omega, fun x hx => ?_⟩
    rcases List.mem_append.1 hx with hx | hx
    · exact e4 x hx
    · simp only [List.mem_singleton] at hx; subst hx; simp
end Go.Proofs.YtgfmnpbcbpobbaaDoor.Am
