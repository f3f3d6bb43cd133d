/- Which ledgers are valid, on plain data. No conditions. -/
import Derived.Test.YtfaceeglocjkbaaPTot
import Derived.Test.YtfaceeglocjkbaaPName
namespace Go.Proofs.Ytfaceeglocjkbaa.Am
open Go

abbrev less (a b : D_api_Account) : Bool := Op.bytesLess a.1 b.1
/-- The first error of a list of accounts. -/
def errF : Option D_api_Account → List D_api_Account → Int
  | _, [] => 0
  | p, a :: l => if isName a.1 = false then 10 else match p with
    | none => errF (some a) l
    | some q => if q.1 = a.1 then 8 else if less q a = false then 1 else errF (some a) l
def valF (g : D_api_Ledger) : Int := if 256 < g.1.length then 3 else if errF none g.1 = 0 then (if (sumF (g.2 + balS g.1)).2 = true then 0 else 6) else errF none g.1
/-- Numbers that fit, names that are not too long. -/
def LedB (g : D_api_Ledger) : Prop := okU g.2 ∧ BalsU g.1 ∧ (∀ a ∈ g.1, a.1.length ≤ 1000000000000000) ∧ g.1.length ≤ 4398046511000
theorem drop_cons' {α : Type} {l : List α} {i : Nat} (h : i < l.length) : l.drop i = l[i] :: l.drop (i + 1) := List.drop_eq_getElem_cons h
theorem take_last {α : Type} {l : List α} {i : Nat} (h : i < l.length) : (l.take (i + 1)).getLast? = some l[i] := by
  rw [take_succ' h, List.getLast?_append]; rfl
theorem wi_pred {i : Nat} (h0 : 0 < i) (h : i < 9223372036854775807) : wi64 ((i : Int) - 1) = ((i - 1 : Nat) : Int) := by
  rw [wi64_id] <;> omega
theorem less_not (a b : D_api_Account) (h : a.1 ≠ b.1) : (!(Op.bytesLess a.1 b.1 || decide (a.1 = b.1))) = !less a b := by
  rw [decide_eq_false h, Bool.or_false]
theorem err_eq (p : Option D_api_Account) (a : D_api_Account) (l : List D_api_Account) : errF p (a :: l) = if isName a.1 = false then 10 else match p with
    | none => errF (some a) l
    | some q => if q.1 = a.1 then 8 else if less q a = false then 1 else errF (some a) l := by rfl
theorem val_prog {g : D_api_Ledger} (h : LedB g) : F_ledger_Validate g = some (valF g) := by
  obtain ⟨l, c⟩ := g
  obtain ⟨hc, hb, hn, hl⟩ := h
  dsimp only at hc hb hn hl
  rw [← ok_eq]
  unfold F_ledger_Validate
  dsimp only
  rw [ok_sel]
  refine ⟨fun h => ?_, fun h => ?_⟩
  · have h := of_decide_eq_true h
    rw [ok_some]; unfold valF; rw [if_pos (by dsimp only; omega)]
  have h := of_decide_eq_false h
  have hle : ¬ 256 < l.length := by omega
  have hval : valF (l, c) = if errF none l = 0 then (if (sumF (c + balS l)).2 = true then 0 else 6) else errF none l := by unfold valF; rw [if_neg hle]
  rw [hval]
  unfold F_ledger_Validate_l2s
  refine ok_range l (fun i (_ : Unit) => (l, ((l.length : Nat) : Int), ((i : Nat) : Int), (l, c))) (fun i _ => errF none l = errF (l.take i).getLast? (l.drop i)) (fun i _ hi hv => ?_) (fun _ hv => ?_) (b0 := ()) rfl (by omega)
  · rw [drop_cons' hi, err_eq] at hv
    unfold F_ledger_Validate_l2
    dsimp only
    rw [decide_eq_true (by omega : (i : Int) < ((l.length : Nat) : Int)), sel_t, decide_eq_true (by omega : (0 : Int) ≤ (i : Int) ∧ (i : Int) < ((l.length : Nat) : Int)), chk_t, Int.toNat_natCast, getD_lt hi, name_tx (hn _ (List.getElem_mem hi)), Option.bind_some]
    cases hname : isName l[i].1 with
    | false =>
      rw [if_pos hname] at hv
      rw [Bool.not_false, sel_t, ok_some, nxt_inr, hv, if_neg (by decide)]
    | true =>
      rw [if_neg (by rw [hname]; decide)] at hv
      rw [Bool.not_true, sel_f]
      rcases Nat.eq_zero_or_pos i with h0 | h0
      · subst h0
        simp only [List.take_zero, List.getLast?_nil] at hv
        unfold F_ledger_Validate_c3
        rw [decide_eq_false (by omega : ¬ (0 : Int) < ((0 : Nat) : Int)), sel_f, sel_f, sel_f, ok_some, nxt_inl, wi_succ (by omega)]
        exact ⟨(), rfl, by rw [hv, take_last hi]⟩
      · have hi' : i - 1 < l.length := by omega
        have hlast : (l.take i).getLast? = some l[i - 1] := by
          have := take_last hi'
          rwa [Nat.sub_add_cancel h0] at this
        rw [hlast] at hv
        dsimp only at hv
        unfold F_ledger_Validate_c3
        rw [decide_eq_true (by omega : (0 : Int) < ((i : Nat) : Int)), sel_t, wi_pred h0 (by omega), decide_eq_true (by omega : (0 : Int) ≤ ((i - 1 : Nat) : Int) ∧ ((i - 1 : Nat) : Int) < ((l.length : Nat) : Int)), chk_t, sel_t, chk_t, Int.toNat_natCast, getD_lt hi']
        by_cases e : l[i - 1].1 = l[i].1
        · rw [if_pos e] at hv
          rw [decide_eq_true e, sel_t, ok_some, nxt_inr, hv, if_neg (by decide)]
        · rw [if_neg e] at hv
          have ed : decide (l[i - 1].1 = l[i].1) = false := decide_eq_false e
          rw [ed, sel_f, Bool.or_false]
          cases hls : Op.bytesLess l[i - 1].1 l[i].1 with
          | false =>
            rw [if_pos hls] at hv
            rw [Bool.not_false, sel_t, ok_some, nxt_inr, hv, if_neg (by decide)]
          | true =>
            rw [if_neg (by show ¬ Op.bytesLess l[i - 1].1 l[i].1 = false; rw [hls]; decide)] at hv
            rw [Bool.not_true, sel_f, ok_some, nxt_inl, wi_succ (by omega)]
            exact ⟨(), rfl, by rw [hv, take_last hi]⟩
  · rw [List.drop_length] at hv
    have hv : errF none l = 0 := hv
    unfold F_ledger_Validate_l2 F_ledger_Validate_c1
    dsimp only
    rw [decide_eq_false (by omega), sel_f, tot_prog hc hb hl, Option.bind_some, hv, if_pos rfl]
    dsimp only
    cases (sumF (c + balS l)).2 with
    | true => rw [if_pos rfl]; exact ⟨_, rfl, rfl⟩
    | false => rw [if_neg (by decide)]; exact ⟨_, rfl, rfl⟩
theorem val_ref {g : D_api_Ledger} (h : LedB g) : F_mempoolref10_ValidateLedger g = some (valF g) := by
  obtain ⟨l, c⟩ := g
  obtain ⟨hc, hb, hn, hl⟩ := h
  dsimp only at hc hb hn hl
  rw [← ok_eq]
  unfold F_mempoolref10_ValidateLedger
  dsimp only
  rw [ok_sel]
  refine ⟨fun h => ?_, fun h => ?_⟩
  · have h := of_decide_eq_true h
    rw [ok_some]; unfold valF; rw [if_pos (by dsimp only; omega)]
  have h := of_decide_eq_false h
  have hle : ¬ 256 < l.length := by omega
  have hval : valF (l, c) = if errF none l = 0 then (if (sumF (c + balS l)).2 = true then 0 else 6) else errF none l := by unfold valF; rw [if_neg hle]
  rw [hval]
  unfold F_mempoolref10_ValidateLedger_l2s
  refine ok_range l (fun i (_ : Unit) => (l, ((l.length : Nat) : Int), ((i : Nat) : Int), (l, c))) (fun i _ => errF none l = errF (l.take i).getLast? (l.drop i)) (fun i _ hi hv => ?_) (fun _ hv => ?_) (b0 := ()) rfl (by omega)
  · rw [drop_cons' hi, err_eq] at hv
    unfold F_mempoolref10_ValidateLedger_l2
    dsimp only
    rw [decide_eq_true (by omega : (i : Int) < ((l.length : Nat) : Int)), sel_t, decide_eq_true (by omega : (0 : Int) ≤ (i : Int) ∧ (i : Int) < ((l.length : Nat) : Int)), chk_t, Int.toNat_natCast, getD_lt hi, name_ref (hn _ (List.getElem_mem hi)), Option.bind_some]
    cases hname : isName l[i].1 with
    | false =>
      rw [if_pos hname] at hv
      rw [Bool.not_false, sel_t, ok_some, nxt_inr, hv, if_neg (by decide)]
    | true =>
      rw [if_neg (by rw [hname]; decide)] at hv
      rw [Bool.not_true, sel_f]
      rcases Nat.eq_zero_or_pos i with h0 | h0
      · subst h0
        simp only [List.take_zero, List.getLast?_nil] at hv
        unfold F_mempoolref10_ValidateLedger_c3
        rw [decide_eq_false (by omega : ¬ (0 : Int) < ((0 : Nat) : Int)), sel_f, sel_f, ok_some, nxt_inl, wi_succ (by omega)]
        exact ⟨(), rfl, by rw [hv, take_last hi]⟩
      · have hi' : i - 1 < l.length := by omega
        have hlast : (l.take i).getLast? = some l[i - 1] := by
          have := take_last hi'
          rwa [Nat.sub_add_cancel h0] at this
        rw [hlast] at hv
        dsimp only at hv
        unfold F_mempoolref10_ValidateLedger_c3
        rw [decide_eq_true (by omega : (0 : Int) < ((i : Nat) : Int)), sel_t, wi_pred h0 (by omega), decide_eq_true (by omega : (0 : Int) ≤ ((i - 1 : Nat) : Int) ∧ ((i - 1 : Nat) : Int) < ((l.length : Nat) : Int)), chk_t, sel_t, chk_t, Int.toNat_natCast, getD_lt hi']
        by_cases e : l[i - 1].1 = l[i].1
        · rw [if_pos e] at hv
          rw [decide_eq_true e, sel_t, ok_some, nxt_inr, hv, if_neg (by decide)]
        · rw [if_neg e] at hv
          have ed : decide (l[i - 1].1 = l[i].1) = false := decide_eq_false e
          rw [ed, sel_f, Bool.or_false]
          cases hls : Op.bytesLess l[i - 1].1 l[i].1 with
          | false =>
            rw [if_pos hls] at hv
            rw [Bool.not_false, sel_t, ok_some, nxt_inr, hv, if_neg (by decide)]
          | true =>
            rw [if_neg (by show ¬ Op.bytesLess l[i - 1].1 l[i].1 = false; rw [hls]; decide)] at hv
            rw [Bool.not_true, sel_f, ok_some, nxt_inl, wi_succ (by omega)]
            exact ⟨(), rfl, by rw [hv, take_last hi]⟩
  · rw [List.drop_length] at hv
    have hv : errF none l = 0 := hv
    unfold F_mempoolref10_ValidateLedger_l2 F_mempoolref10_ValidateLedger_c1
    dsimp only
    rw [decide_eq_false (by omega), sel_f, tot_ref hc hb hl, Option.bind_some, hv, if_pos rfl]
    dsimp only
    cases (sumF (c + balS l)).2 with
    | true => rw [if_pos rfl]; exact ⟨_, rfl, rfl⟩
    | false => rw [if_neg (by decide)]; exact ⟨_, rfl, rfl⟩
end Go.Proofs.Ytfaceeglocjkbaa.Am
