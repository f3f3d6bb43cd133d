/- Finding accounts, putting them into their places, on plain data. No conditions. -/
import Derived.Test.YtfaceeglocjkbaaPLedV
namespace Go.Proofs.Ytfaceeglocjkbaa.Am
open Go

def findF (l : List D_api_Account) (n : List UInt8) : Nat := l.findIdx fun a => decide (a.1 = n)
def placeF (l : List D_api_Account) (n : List UInt8) : Nat := l.findIdx fun a => !Op.bytesLess a.1 n
def getF (l : List D_api_Account) (n : List UInt8) : D_api_Account × Bool := if findF l n < l.length then (l.getD (findF l n) d_api_Account, true) else (d_api_Account, false)
def putF (l : List D_api_Account) (a : D_api_Account) : List D_api_Account := if findF l a.1 < l.length then l.set (findF l a.1) a else l.take (placeF l a.1) ++ a :: l.drop (placeF l a.1)
theorem idx_at {α : Type} {l : List α} {p : α → Bool} {i : Nat} (h : i < l.length) (hp : p l[i] = true) (hb : ∀ j (hj : j < l.length), j < i → p l[j] = false) : l.findIdx p = i :=
  (List.findIdx_eq h).2 ⟨hp, fun j hj => hb j (by omega) hj⟩
theorem idx_end {α : Type} {l : List α} {p : α → Bool} (hb : ∀ j (hj : j < l.length), p l[j] = false) : l.findIdx p = l.length := by
  rw [List.findIdx_eq_length]
  intro x hx
  obtain ⟨j, hj, rfl⟩ := List.getElem_of_mem hx
  exact hb j hj
theorem idx_before {α : Type} {l : List α} {p : α → Bool} {j : Nat} (hj : j < l.length) (h : j < l.findIdx p) : p l[j] = false := by
  have := List.not_of_lt_findIdx h
  simpa using this
theorem idx_yes {α : Type} {l : List α} {p : α → Bool} (h : l.findIdx p < l.length) : p l[l.findIdx p] = true := List.findIdx_getElem (w := h)
theorem idx_le {α : Type} (l : List α) (p : α → Bool) : l.findIdx p ≤ l.length := List.findIdx_le_length
theorem find_ref {l : List D_api_Account} {n : List UInt8} (hl : l.length ≤ 5000000000000) : F_mempoolref10_Find l n = some (if findF l n < l.length then ((findF l n : Nat) : Int) else -1) := by
  rw [← ok_eq]
  unfold F_mempoolref10_Find F_mempoolref10_Find_l1s
  refine ok_range l (fun i (_ : Unit) => (n, l, ((l.length : Nat) : Int), ((i : Nat) : Int))) (fun i _ => ∀ j (hj : j < l.length), j < i → (fun a : D_api_Account => decide (a.1 = n)) l[j] = false) (fun i _ hi hv => ?_) (fun _ hv => ?_) (b0 := ()) (fun j hj h => by omega) (by omega)
  · unfold F_mempoolref10_Find_l1
    dsimp only
    rw [decide_eq_true (by omega : (i : Int) < ((l.length : Nat) : Int)), sel_t, decide_eq_true (by omega : (0 : Int) ≤ (i : Int) ∧ (i : Int) < ((l.length : Nat) : Int)), chk_t, Int.toNat_natCast, getD_lt hi]
    cases e : decide (l[i].1 = n) with
    | true =>
      rw [sel_t, ok_some, nxt_inr]
      have : findF l n = i := idx_at hi e hv
      rw [this, if_pos hi]
    | false =>
      rw [sel_f, ok_some, nxt_inl, wi_succ (by omega)]
      refine ⟨(), rfl, fun j hj hlt => ?_⟩
      by_cases ej : j = i
      · subst ej; exact e
      · exact hv j hj (by omega)
  · unfold F_mempoolref10_Find_l1
    dsimp only
    have : findF l n = l.length := idx_end fun j hj => hv j hj hj
    rw [decide_eq_false (by omega), sel_f, ok_some, nxt_inr, this, if_neg (by omega)]
theorem get_ref {g : D_api_Ledger} {n : List UInt8} (hl : g.1.length ≤ 5000000000000) : F_mempoolref10_Get g n = some (getF g.1 n) := by
  unfold F_mempoolref10_Get getF
  rw [find_ref hl, Option.bind_some]
  by_cases h : findF g.1 n < g.1.length
  · rw [if_pos h, if_pos h, decide_eq_true (by omega), sel_t, decide_eq_true (by omega : (0 : Int) ≤ ((findF g.1 n : Nat) : Int) ∧ ((findF g.1 n : Nat) : Int) < ((g.1.length : Nat) : Int)), chk_t, Int.toNat_natCast]
  · rw [if_neg h, if_neg h]; rfl
theorem get_prog {g : D_api_Ledger} {n : List UInt8} (hl : g.1.length ≤ 5000000000000) : F_ledger_Get g n = some (getF g.1 n) := by
  obtain ⟨l, c⟩ := g
  dsimp only at hl ⊢
  rw [← ok_eq]
  unfold F_ledger_Get F_ledger_Get_l1s getF
  refine ok_range l (fun i (_ : Unit) => (n, l, ((l.length : Nat) : Int), ((i : Nat) : Int), ([], (0 : Int), (0 : Int)))) (fun i _ => ∀ j (hj : j < l.length), j < i → (fun a : D_api_Account => decide (a.1 = n)) l[j] = false) (fun i _ hi hv => ?_) (fun _ hv => ?_) (b0 := ()) (fun j hj h => by omega) (by omega)
  · unfold F_ledger_Get_l1
    dsimp only
    rw [decide_eq_true (by omega : (i : Int) < ((l.length : Nat) : Int)), sel_t, decide_eq_true (by omega : (0 : Int) ≤ (i : Int) ∧ (i : Int) < ((l.length : Nat) : Int)), chk_t, Int.toNat_natCast, getD_lt hi]
    cases e : decide (l[i].1 = n) with
    | true =>
      rw [sel_t, ok_some, nxt_inr]
      have : findF l n = i := idx_at hi e hv
      rw [this, if_pos hi, getD_lt hi]
    | false =>
      rw [sel_f, ok_some, nxt_inl, wi_succ (by omega)]
      refine ⟨(), rfl, fun j hj hlt => ?_⟩
      by_cases ej : j = i
      · subst ej; exact e
      · exact hv j hj (by omega)
  · unfold F_ledger_Get_l1
    dsimp only
    have : findF l n = l.length := idx_end fun j hj => hv j hj hj
    rw [decide_eq_false (by omega), sel_f, ok_some, nxt_inr, this, if_neg (by omega)]
    rfl
theorem put_c1 {l : List D_api_Account} {a : D_api_Account} {k : Nat} (hk : k ≤ l.length) (hl : l.length ≤ 4398046511000) : F_mempoolref10_Put_c1 l (k : Int) a = some (l.take k ++ a :: l.drop k) := by
  unfold F_mempoolref10_Put_c1
  have e1 : (l.take k).length = k := by rw [List.length_take]; omega
  have e2 : (l.take k ++ [a]).length = k + 1 := by rw [List.length_append, e1]; rfl
  have e3 : (l.drop k).length = l.length - k := List.length_drop
  rw [Int.toNat_natCast, Int.toNat_natCast, List.take_length, e1, e2, e3, decide_eq_true (by omega), chk_t, decide_eq_true ⟨by unfold LIM; omega, by unfold LEN; omega⟩, chk_t, decide_eq_true ⟨by unfold LIM; omega, by unfold LEN; omega⟩, chk_t, decide_eq_true (by omega), chk_t, decide_eq_true ⟨by unfold LIM; omega, by unfold LEN; omega⟩, chk_t, List.append_assoc]
  rfl
theorem put_ref {l : List D_api_Account} {a : D_api_Account} (hl : l.length ≤ 4398046511000) : F_mempoolref10_Put l a = some (putF l a) := by
  unfold F_mempoolref10_Put putF
  rw [find_ref (by omega), Option.bind_some]
  by_cases h : findF l a.1 < l.length
  · rw [if_pos h, if_pos h, decide_eq_true (by omega), sel_t, decide_eq_true ⟨by unfold LIM; omega, by unfold LEN; omega⟩, chk_t, decide_eq_true (by omega : (0 : Int) ≤ ((findF l a.1 : Nat) : Int) ∧ ((findF l a.1 : Nat) : Int) < ((l.length : Nat) : Int)), chk_t, Int.toNat_natCast, decide_eq_true h, chk_t]
  · rw [if_neg h, if_neg h, decide_eq_false (by omega), sel_f]
    rw [← ok_eq]
    unfold F_mempoolref10_Put_l2s
    refine ok_range l (fun i (_ : Unit) => (l, ((i : Nat) : Int), a)) (fun i _ => ∀ j (hj : j < l.length), j < i → (fun x : D_api_Account => !Op.bytesLess x.1 a.1) l[j] = false) (fun i _ hi hv => ?_) (fun _ hv => ?_) (b0 := ()) (fun j hj h => by omega) (by omega)
    · unfold F_mempoolref10_Put_l2
      dsimp only
      rw [decide_eq_true (by omega : (i : Int) < ((l.length : Nat) : Int)), sel_t, decide_eq_true (by omega : (0 : Int) ≤ (i : Int) ∧ (i : Int) < ((l.length : Nat) : Int)), chk_t, Int.toNat_natCast, getD_lt hi]
      cases e : Op.bytesLess l[i].1 a.1 with
      | false =>
        have : placeF l a.1 = i := idx_at hi (by rw [e]; rfl) hv
        rw [sel_f, put_c1 (by omega) hl, Option.map_some, ok_some, nxt_inr, this]
      | true =>
        rw [sel_t, ok_some, nxt_inl, wi_succ (by omega)]
        refine ⟨(), rfl, fun j hj hlt => ?_⟩
        by_cases ej : j = i
        · subst ej; rw [e]; rfl
        · exact hv j hj (by omega)
    · unfold F_mempoolref10_Put_l2
      dsimp only
      have : placeF l a.1 = l.length := idx_end fun j hj => hv j hj hj
      rw [decide_eq_false (by omega), sel_f, put_c1 (by omega) hl, Option.map_some, ok_some, nxt_inr, this]
theorem cmp_prog (a b : List UInt8) : F_cmp_Compare_string a b = some (cmpS a b) := by
  have hn : ∀ x, F_cmp_isNaN_string x = some false := fun x => by unfold F_cmp_isNaN_string; rw [decide_eq_true rfl]; rfl
  unfold F_cmp_Compare_string cmpS
  rw [hn, hn, Option.bind_some, Option.bind_some, sel_f, sel_f]
  rcases bl_tri a b with h | h | h
  · rw [h, if_pos rfl, sel_t]
  · subst h; rw [bl_irrefl, decide_eq_true rfl]; rfl
  · have e : a ≠ b := fun e => by subst e; rw [bl_irrefl] at h; cases h
    rw [bl_asymm h, h, decide_eq_false e]; rfl
theorem clos_prog (a : D_api_Account) (n : List UInt8) : F_ledger_Set_1 a n = some (cmpS a.1 n) := by
  unfold F_ledger_Set_1; rw [cmp_prog]; rfl
/-- In the order of their names. -/
def Srt (l : List D_api_Account) : Prop := l.Pairwise fun a b => less a b = true
theorem Srt.lt {l : List D_api_Account} (h : Srt l) {i j : Nat} (hi : i < l.length) (hj : j < l.length) (hij : i < j) : less l[i] l[j] = true := List.pairwise_iff_getElem.1 h i j hi hj hij
theorem half {x : Nat} (h : x ≤ 9223372036854775807) : wi64 (wu64 (wi64 (x : Int)) / 2 ^ 1) = ((x / 2 : Nat) : Int) := by
  rw [wi64_id (n := (x : Int)) (by omega) (by omega), wu64_id (by omega) (by omega), wi64_id (by omega) (by omega)]
  omega
theorem search_prog {l : List D_api_Account} {n : List UInt8} (hs : Srt l) (hl : l.length ≤ 4398046511000) : F_slices_BinarySearchFunc_api_Account_api_Account_string_of_ledger_Set_1 l n = some (((placeF l n : Nat) : Int), decide (findF l n < l.length)) := by
  have hkl : placeF l n ≤ l.length := idx_le _ _
  have hmono : ∀ i (hi : i < l.length), placeF l n ≤ i → Op.bytesLess l[i].1 n = false := fun i hi h => by
    have hp : (!Op.bytesLess l[placeF l n].1 n) = true := idx_yes (p := fun a : D_api_Account => !Op.bytesLess a.1 n) (by show placeF l n < l.length; omega)
    rcases Nat.lt_or_ge (placeF l n) i with h1 | h1
    · have h2 : Op.bytesLess l[placeF l n].1 l[i].1 = true := hs.lt (by omega) hi h1
      cases e : Op.bytesLess l[i].1 n with
      | false => rfl
      | true => rw [bl_trans h2 e] at hp; cases hp
    · have : i = placeF l n := by omega
      subst this
      simpa using hp
  have hless : ∀ i (hi : i < l.length), i < placeF l n → Op.bytesLess l[i].1 n = true := fun i hi h => by
    have := idx_before (p := fun a : D_api_Account => !Op.bytesLess a.1 n) hi h
    simpa using this
  have hfind : findF l n < l.length ↔ ∃ h : placeF l n < l.length, l[placeF l n].1 = n := by
    constructor
    · intro h
      have hp : l[findF l n].1 = n := of_decide_eq_true (idx_yes (p := fun a : D_api_Account => decide (a.1 = n)) h)
      have : placeF l n = findF l n := by
        refine idx_at h (by rw [hp, bl_irrefl]; rfl) fun j hj hlt => ?_
        have := hs.lt hj h hlt
        unfold less at this
        rw [hp] at this
        rw [this]; rfl
      exact ⟨by omega, by simp only [this, hp]⟩
    · rintro ⟨h, e⟩
      rcases Nat.lt_or_ge (findF l n) l.length with h1 | h1
      · exact h1
      · exfalso
        have := idx_before (p := fun a : D_api_Account => decide (a.1 = n)) h (by show placeF l n < findF l n; omega)
        exact of_decide_eq_false this e
  rw [← ok_eq]
  unfold F_slices_BinarySearchFunc_api_Account_api_Account_string_of_ledger_Set_1 F_slices_BinarySearchFunc_api_Account_api_Account_string_of_ledger_Set_1_l2s
  refine ok_iterE (fun m v => ∃ lo hi : Nat, v = (l, n, ((l.length : Nat) : Int), (lo : Int), (hi : Int)) ∧ lo ≤ placeF l n ∧ placeF l n ≤ hi ∧ hi ≤ l.length ∧ m = hi - lo) ?_ (n := l.length) ⟨0, l.length, rfl, by omega, hkl, by omega, by omega⟩ (by omega)
  rintro m v ⟨lo, hi, rfl, h1, h2, h3, rfl⟩
  unfold F_slices_BinarySearchFunc_api_Account_api_Account_string_of_ledger_Set_1_l2
  dsimp only
  rw [ok_sel]
  refine ⟨fun h => ?_, fun h => ?_⟩
  · have h := of_decide_eq_true h
    have hsum : (lo : Int) + (hi : Int) = ((lo + hi : Nat) : Int) := by omega
    have hm : (lo + hi) / 2 < l.length := by omega
    rw [hsum, half (by omega), decide_eq_true (by omega : (0 : Int) ≤ (((lo + hi) / 2 : Nat) : Int) ∧ (((lo + hi) / 2 : Nat) : Int) < ((l.length : Nat) : Int)), chk_t, Int.toNat_natCast, getD_lt hm, clos_prog, Option.bind_some, ok_sel]
    refine ⟨fun hc => ?_, fun hc => ?_⟩
    · have hc := (cmpS_neg _ _).1 (of_decide_eq_true hc)
      rw [ok_some, nxt_inl, wi_succ (by omega)]
      refine ⟨hi - ((lo + hi) / 2 + 1), by omega, (lo + hi) / 2 + 1, hi, rfl, ?_, h2, h3, rfl⟩
      rcases Nat.lt_or_ge ((lo + hi) / 2) (placeF l n) with h4 | h4
      · omega
      · rw [hmono _ hm h4] at hc; cases hc
    · have hc := of_decide_eq_false hc
      rw [cmpS_neg] at hc
      rw [ok_some, nxt_inl]
      refine ⟨(lo + hi) / 2 - lo, by omega, lo, (lo + hi) / 2, rfl, h1, ?_, by omega, rfl⟩
      rcases Nat.lt_or_ge ((lo + hi) / 2) (placeF l n) with h4 | h4
      · exact absurd (hless _ hm h4) hc
      · exact h4
  · have h := of_decide_eq_false h
    have he : lo = placeF l n := by omega
    subst he
    unfold F_slices_BinarySearchFunc_api_Account_api_Account_string_of_ledger_Set_1_c1
    rw [ok_map, ok_sel]
    refine ⟨fun hk => ?_, fun hk => ?_⟩
    · have hk := of_decide_eq_true hk
      have hk' : placeF l n < l.length := by omega
      rw [decide_eq_true (by omega : (0 : Int) ≤ ((placeF l n : Nat) : Int) ∧ ((placeF l n : Nat) : Int) < ((l.length : Nat) : Int)), chk_t, Int.toNat_natCast, getD_lt hk', clos_prog, Option.bind_some, ok_some, nxt_inr]
      refine Prod.ext rfl ?_
      show decide (cmpS l[placeF l n].1 n = 0) = decide (findF l n < l.length)
      rw [decide_eq_decide, cmpS_zero, hfind]
      exact ⟨fun e => ⟨hk', e⟩, fun ⟨_, e⟩ => e⟩
    · have hk := of_decide_eq_false hk
      rw [ok_some, nxt_inr, decide_eq_false (fun h => by obtain ⟨h, _⟩ := hfind.1 h; omega)]
end Go.Proofs.Ytfaceeglocjkbaa.Am
