/- Beginning ledgers, on plain data. No conditions. -/
import Derived.Test.YtfaceeglocjkbaaPLedS
namespace Go.Proofs.Ytfaceeglocjkbaa.Am
open Go

def namesOf (l : List D_api_Account) : List (List UInt8) := l.map fun a => a.1
/-- The first error of a list of accounts in any order; 'seen': the names before them. -/
def gErr (seen : List (List UInt8)) : List D_api_Account → Int
  | [] => 0
  | a :: l => if isName a.1 = false then 10 else if a.1 ∈ seen then 8 else gErr (seen ++ [a.1]) l
theorem gErr_cons (seen : List (List UInt8)) (a : D_api_Account) (l : List D_api_Account) : gErr seen (a :: l) = if isName a.1 = false then 10 else if a.1 ∈ seen then 8 else gErr (seen ++ [a.1]) l := rfl
theorem names_snoc {l : List D_api_Account} {i : Nat} (h : i < l.length) : namesOf (l.take (i + 1)) = namesOf (l.take i) ++ [l[i].1] := by
  unfold namesOf; rw [take_succ' h, List.map_append]; rfl
def sortF (l : List D_api_Account) : List D_api_Account := pdqL d_api_Account cfAcc l
def genF (l : List D_api_Account) : D_api_Ledger × Int := if 256 < l.length then (noLed, 3) else if gErr [] l = 0 then (if (sumF (0 + balS l)).2 = true then ((sortF l, 0), 0) else (noLed, 6)) else (noLed, gErr [] l)
theorem sort_perm (l : List D_api_Account) : (sortF l).Perm l := (pdqL_spec d_api_Account cfAcc swoAcc l).1
theorem sort_le (l : List D_api_Account) : (sortF l).Pairwise fun x y => less y x = false := by
  have h := (pdqL_spec d_api_Account cfAcc swoAcc l).2
  refine h.imp fun {x y} h => ?_
  rw [ltAcc] at h; exact h
theorem nodup_inj {l : List D_api_Account} (h : (namesOf l).Nodup) {a b : D_api_Account} (ha : a ∈ l) (hb : b ∈ l) (e : a.1 = b.1) : a = b := by
  unfold namesOf at h
  rw [List.nodup_iff_pairwise_ne, List.pairwise_map] at h
  obtain ⟨i, hi, rfl⟩ := List.getElem_of_mem ha
  obtain ⟨j, hj, rfl⟩ := List.getElem_of_mem hb
  rcases Nat.lt_trichotomy i j with k | k | k
  · exact absurd e (List.pairwise_iff_getElem.1 h i j hi hj k)
  · subst k; rfl
  · exact absurd e.symm (List.pairwise_iff_getElem.1 h j i hj hi k)
theorem srt_le {l : List D_api_Account} (h : Srt l) : l.Pairwise fun x y => less y x = false := h.imp fun {_x _y} k => bl_asymm k
/-- There is one order only. -/
theorem sort_uniq {l b : List D_api_Account} (hn : (namesOf l).Nodup) (hp : b.Perm l) (hs : Srt b) : b = sortF l := by
  refine List.Perm.eq_of_pairwise (le := fun x y => less y x = false) (fun x y hx hy h1 h2 => ?_) (srt_le hs) (sort_le l) (hp.trans (sort_perm l).symm)
  refine nodup_inj hn (hp.mem_iff.1 hx) ((sort_perm l).mem_iff.1 hy) ?_
  rcases bl_tri x.1 y.1 with e | e | e
  · unfold less at h2; rw [e] at h2; cases h2
  · exact e
  · unfold less at h1; rw [e] at h1; cases h1
theorem sum_perm {l m : List Int} (h : l.Perm m) : l.sum = m.sum := by
  induction h with
  | nil => rfl
  | cons x _ ih => rw [List.sum_cons, List.sum_cons, ih]
  | swap x y l => simp only [List.sum_cons]; omega
  | trans _ _ h1 h2 => rw [h1, h2]
theorem bals_perm {l m : List D_api_Account} (h : l.Perm m) : balS l = balS m := sum_perm (h.map _)
theorem mem_names {l : List D_api_Account} {n : List UInt8} : findF l n < l.length ↔ n ∈ namesOf l := find_mem
theorem names_perm {l m : List D_api_Account} (h : l.Perm m) {n : List UInt8} : n ∈ namesOf l ↔ n ∈ namesOf m := (h.map _).mem_iff
theorem gen_ref {l : List D_api_Account} (hb : BalsU l) (hn : ∀ a ∈ l, a.1.length ≤ 1000000000000000) (hl : l.length ≤ 4398046511000) : F_mempoolref10_Genesis l = some (genF l) := by
  unfold F_mempoolref10_Genesis genF
  by_cases h : 256 < l.length
  · rw [if_pos h, decide_eq_true (by omega), sel_t]
  rw [if_neg h, decide_eq_false (by omega), sel_f]
  rw [← ok_eq]
  unfold F_mempoolref10_Genesis_l2s
  refine ok_range l (fun i (b : List D_api_Account) => (l, ((l.length : Nat) : Int), ((i : Nat) : Int), ([], (0 : Int)), (0 : Int), b)) (fun i b => gErr [] l = gErr (namesOf (l.take i)) (l.drop i) ∧ b.Perm (l.take i) ∧ Srt b ∧ (namesOf (l.take i)).Nodup) (fun i b hi hv => ?_) (fun b hv => ?_) (b0 := []) ⟨rfl, List.Perm.refl _, List.Pairwise.nil, List.nodup_nil⟩ (by omega)
  · obtain ⟨hv, hp, hs, hnd⟩ := hv
    rw [drop_cons' hi, gErr_cons] at hv
    have hbl : b.length = i := by rw [hp.length_eq, List.length_take]; omega
    unfold F_mempoolref10_Genesis_l2
    dsimp only
    rw [decide_eq_true (by omega : (i : Int) < ((l.length : Nat) : Int)), sel_t, decide_eq_true (by omega : (0 : Int) ≤ (i : Int) ∧ (i : Int) < ((l.length : Nat) : Int)), chk_t, Int.toNat_natCast, getD_lt hi, name_ref (hn _ (List.getElem_mem hi)), Option.bind_some]
    cases hname : isName l[i].1 with
    | false =>
      rw [if_pos hname] at hv
      rw [Bool.not_false, sel_t, ok_some, nxt_inr, hv, if_neg (by decide)]
    | true =>
      rw [if_neg (by rw [hname]; decide)] at hv
      rw [Bool.not_true, sel_f, find_ref (by omega), Option.bind_some]
      by_cases hm : l[i].1 ∈ namesOf (l.take i)
      · rw [if_pos hm] at hv
        have hf : findF b l[i].1 < b.length := mem_names.2 ((names_perm hp).2 hm)
        rw [if_pos hf, decide_eq_true (by omega), sel_t, ok_some, nxt_inr, hv, if_neg (by decide)]
      · rw [if_neg hm] at hv
        have hf : ¬ findF b l[i].1 < b.length := fun h => hm ((names_perm hp).1 (mem_names.1 h))
        rw [if_neg hf, decide_eq_false (by omega), sel_f, put_ref (by omega), Option.bind_some, ok_some, nxt_inl, wi_succ (by omega)]
        refine ⟨_, rfl, by rw [hv, names_snoc hi], ?_, put_srt hs, ?_⟩
        · have hput : putF b l[i] = b.take (placeF b l[i].1) ++ l[i] :: b.drop (placeF b l[i].1) := by unfold putF; rw [if_neg hf]
          rw [hput, take_succ' hi]
          exact (ins_perm _ _).trans ((hp.cons _).trans (List.perm_append_singleton _ _).symm)
        · rw [names_snoc hi, List.nodup_append]
          exact ⟨hnd, by simp, fun x hx y hy e => by rw [List.mem_singleton] at hy; subst hy; subst e; exact hm hx⟩
  · obtain ⟨hv, hp, hs, hnd⟩ := hv
    rw [List.drop_length] at hv
    rw [List.take_length] at hp hnd
    have hv : gErr [] l = 0 := hv
    have hbl := hp.length_eq
    unfold F_mempoolref10_Genesis_l2 F_mempoolref10_Genesis_c1
    dsimp only
    rw [decide_eq_false (by omega), sel_f, tot_ref (g := (b, 0)) ⟨by omega, by omega⟩ (fun a ha => hb a (hp.mem_iff.1 ha)) (by dsimp only; omega), Option.bind_some, hv, if_pos rfl]
    dsimp only
    rw [bals_perm hp, sort_uniq hnd hp hs]
    cases (sumF (0 + balS l)).2 with
    | true => rw [if_pos rfl]; exact ⟨_, rfl, rfl⟩
    | false => rw [if_neg (by decide)]; exact ⟨_, rfl, rfl⟩
theorem gen_prog {l : List D_api_Account} (hb : BalsU l) (hn : ∀ a ∈ l, a.1.length ≤ 1000000000000000) (hl : l.length ≤ 4398046511000) : F_ledger_Genesis l = some (genF l) := by
  unfold F_ledger_Genesis genF
  by_cases h : 256 < l.length
  · rw [if_pos h, decide_eq_true (by omega), sel_t]
  rw [if_neg h, decide_eq_false (by omega), sel_f]
  rw [← ok_eq]
  unfold F_ledger_Genesis_l2s
  refine ok_range l (fun i (m : List (List UInt8 × Vector UInt8 0)) => (l, l, ((l.length : Nat) : Int), ((i : Nat) : Int), ([], (0 : Int)), m)) (fun i m => gErr [] l = gErr (namesOf (l.take i)) (l.drop i) ∧ keysOf m = namesOf (l.take i)) (fun i m hi hv => ?_) (fun m hv => ?_) (b0 := []) ⟨rfl, rfl⟩ (by omega)
  · obtain ⟨hv, hk⟩ := hv
    rw [drop_cons' hi, gErr_cons] at hv
    unfold F_ledger_Genesis_l2
    dsimp only
    rw [decide_eq_true (by omega : (i : Int) < ((l.length : Nat) : Int)), sel_t, decide_eq_true (by omega : (0 : Int) ≤ (i : Int) ∧ (i : Int) < ((l.length : Nat) : Int)), chk_t, Int.toNat_natCast, getD_lt hi, name_tx (hn _ (List.getElem_mem hi)), Option.bind_some]
    cases hname : isName l[i].1 with
    | false =>
      rw [if_pos hname] at hv
      rw [Bool.not_false, sel_t, ok_some, nxt_inr, hv, if_neg (by decide)]
    | true =>
      rw [if_neg (by rw [hname]; decide)] at hv
      rw [Bool.not_true, sel_f]
      by_cases hm : l[i].1 ∈ namesOf (l.take i)
      · rw [if_pos hm] at hv
        rw [(mIdx_isSome strEq_ok l[i].1 m).2 (by rw [hk]; exact hm), sel_t, ok_some, nxt_inr, hv, if_neg (by decide)]
      · rw [if_neg hm] at hv
        have hk' : l[i].1 ∉ keysOf m := by rw [hk]; exact hm
        have hno : (mIdx strEq l[i].1 m).isSome = false := by rw [mIdx_none strEq_ok hk']; rfl
        rw [hno, sel_f, mSet_new strEq_ok hk', ok_some, nxt_inl, wi_succ (by omega)]
        refine ⟨_, rfl, by rw [hv, names_snoc hi], ?_⟩
        rw [names_snoc hi, ← hk]
        exact List.map_append
  · obtain ⟨hv, _⟩ := hv
    rw [List.drop_length] at hv
    have hv : gErr [] l = 0 := hv
    unfold F_ledger_Genesis_l2 F_ledger_Genesis_c1
    dsimp only
    rw [decide_eq_false (by omega), sel_f, own_led (g := (l, 0)) (by dsimp only; omega), Option.bind_some, tot_prog (g := (l, 0)) ⟨by omega, by omega⟩ hb (by dsimp only; omega), Option.bind_some, hv, if_pos rfl]
    dsimp only
    cases (sumF (0 + balS l)).2 with
    | true =>
      rw [if_pos rfl, Bool.not_true, sel_f]
      have hs : F_slices_SortFunc_api_Account_api_Account_of_ledger_Genesis_1 l = some (sortF l) := by
        unfold F_slices_SortFunc_api_Account_api_Account_of_ledger_Genesis_1
        rw [show Nat.blt l.length 4611686018427387904 = true by rw [Nat.blt_eq]; omega, chk_t]; rfl
      rw [hs, Option.bind_some]
      exact ⟨_, rfl, rfl⟩
    | false => rw [if_neg (by decide)]; exact ⟨_, rfl, rfl⟩
end Go.Proofs.Ytfaceeglocjkbaa.Am
