/- The statement about the heap's runs holds of plain data. No conditions. -/
import Derived.Test.YthmfeknfiekcmaaPLaw9
namespace Go.Proofs.Ythmfeknfiekcmaa.Am
open Go

theorem beqB_self (b : Bool) : beqB b b = true := by cases b <;> rfl
theorem plays_check {l m : List D_api_Item} {p : List (Int × Int)} (h : HH l p m) (hl : m.length < 900000) (k : List Int) (s : D_mempoolmake_Numbers) : F_mempoollaw9_HeapPlays_c3 k m s l p = some (.inl (k, m, s, l, p)) := by
  unfold F_mempoollaw9_HeapPlays_c3
  have hsame := sameItems_self (l := m) (by omega)
  cases m with
  | nil =>
    rw [h.peek0, Option.bind_some, h.len]
    simp only [Option.bind_some, h.sorted hl, hsame]
    rfl
  | cons x m' =>
    have hlen : (0 : Int) < (((x :: m').length : Nat) : Int) := by simp only [List.length_cons]; omega
    have hx : ∀ v : List D_api_Item, v = x :: m' → U.beq U_api_Item x (List.getD v 0 d_api_Item) = true := fun v e => by subst e; exact item_self x
    rw [h.peek, Option.bind_some, h.len]
    simp only [Option.bind_some, h.sorted hl, hsame]
    rw [decide_eq_true hlen, hx _ rfl, decide_eq_true (show (0 : Int) ≤ 0 ∧ 0 < (((x :: m').length : Nat) : Int) from ⟨by omega, hlen⟩)]
    simp
    rfl
theorem plays_loop {k : List Int} (hk : k.length ≤ 160) {s : D_mempoolmake_Numbers} (hs : NumS k 10 s) {l m : List D_api_Item} {p : List (Int × Int)} (h : HH l p m) (hm : m.length ≤ 30) : Ok (F_mempoollaw9_HeapPlays_c1 k m s l p) (· = true) := by
  unfold F_mempoollaw9_HeapPlays_c1 F_mempoollaw9_HeapPlays_l2s
  refine ok_iterE (fun n v => ∃ (m l : List D_api_Item) (p : List (Int × Int)) (u : D_mempoolmake_Numbers), v = (k, m, u, l, p) ∧ NumS k 2000 u ∧ n = 2000 - u.2.toNat ∧ HH l p m ∧ (m.length : Int) ≤ 30 + u.2) ?_ (n := 2000 - s.2.toNat) ⟨m, l, p, s, rfl, hs.le (by omega), rfl, h, by have := hs.2.1; omega⟩ (by omega)
  rintro n v ⟨m, l, p, u, rfl, hu, rfl, h, hm⟩
  have hu0 := hu.2.1
  unfold F_mempoollaw9_HeapPlays_l2
  dsimp only
  rw [ok_sel]
  refine ⟨fun hlt => ?_, fun _ => ?_⟩
  · have hlt := of_decide_eq_true hlt
    have hu160 : u.2 < 160 := by omega
    have hu' : NumS k 160 u := ⟨hu.1, hu.2.1, by omega⟩
    have hml : m.length < 1000 := by omega
    rw [ok_bind]
    refine (item_ok hu' (by omega)).mono fun r6 h6 => ?_
    rw [ok_bind]
    refine (next_s h6.1 (n := 6) (by omega) (by omega) (by omega)).mono fun r14 h14 => ?_
    obtain ⟨a14, b14, _, _⟩ := h14
    have b6 := h6.2
    have hc : ∀ {m' l' : List D_api_Item} {p' : List (Int × Int)}, HH l' p' m' → m'.length ≤ m.length + 1 → Ok (F_mempoollaw9_HeapPlays_c3 k m' r14.1 l' p') (Nxt (· = true) fun z => ∃ n', n' < 2000 - u.2.toNat ∧ ∃ (m l : List D_api_Item) (p : List (Int × Int)) (u : D_mempoolmake_Numbers), z = (k, m, u, l, p) ∧ NumS k 2000 u ∧ n' = 2000 - u.2.toNat ∧ HH l p m ∧ (m.length : Int) ≤ 30 + u.2) := fun {m' l' p'} h' hl' => by
      rw [plays_check h' (by omega), ok_some, nxt_inl]
      have := a14.2.1; have := a14.2.2
      exact ⟨_, by omega, m', l', p', r14.1, rfl, a14.le (by omega), rfl, h', by omega⟩
    rw [ok_sel]
    refine ⟨fun _ => ?_, fun _ => ?_⟩
    · cases m with
      | nil =>
        rw [h.pop0, Option.bind_some]
        exact hc h (by omega)
      | cons x m' =>
        obtain ⟨l', p', e, h'⟩ := h.pop (by simp only [List.length_cons] at hml; omega)
        have hlen : (0 : Int) < (((x :: m').length : Nat) : Int) := by simp only [List.length_cons]; omega
        have hx : ∀ v : List D_api_Item, v = x :: m' → U.beq U_api_Item x (List.getD v 0 d_api_Item) = true := fun v e => by subst e; exact item_self x
        have ht : ((x :: m').take (Int.toNat (((x :: m').length : Nat) : Int))).drop 1 = m' := by rw [Int.toNat_natCast, List.take_length]; rfl
        have hd : (0 : Int) ≤ 1 ∧ 1 ≤ (((x :: m').length : Nat) : Int) ∧ (((x :: m').length : Nat) : Int) ≤ (((x :: m').length : Nat) : Int) := by omega
        have hd2 : (0 : Int) ≤ 0 ∧ 0 < (((x :: m').length : Nat) : Int) := by omega
        rw [e, Option.bind_some]
        dsimp only
        rw [decide_eq_true hlen, decide_eq_true hd, decide_eq_true hd2, hx _ rfl, ht]
        exact hc h' (by simp only [List.length_cons]; omega)
    · rw [ok_sel]
      refine ⟨fun _ => ?_, fun _ => ?_⟩
      · obtain ⟨l', p', e, h'⟩ := h.remove (by omega) r6.2.1
        rw [refTake_ok h.ids (by omega), Option.bind_some, e, Option.bind_some]
        dsimp only
        by_cases hm : r6.2.1 ∈ m.map fun x => x.1
        · rw [if_pos hm] at h' ⊢
          rw [decide_eq_true hm]
          exact hc (m' := delB m r6.2.1) h' (Nat.le_succ_of_le (List.length_filter_le ..))
        · rw [if_neg hm] at h' ⊢
          rw [decide_eq_false hm]
          exact hc (m' := m) h' (by omega)
      · obtain ⟨l', p', e, h'⟩ := h.push (by omega) r6.2
        rw [refInsert_ok h.sort (by omega), Option.bind_some, e, Option.bind_some]
        dsimp only
        by_cases hm : r6.2.1 ∈ m.map fun x => x.1
        · rw [if_pos hm] at h' ⊢
          rw [decide_eq_true hm]
          exact hc (m' := m) h' (by omega)
        · rw [if_neg hm] at h' ⊢
          rw [decide_eq_false hm]
          exact hc (m' := insB m r6.2) h' (by rw [ins_len]; omega)
  · rw [ok_map]
    exact known9.mono fun r hr => by subst hr; rfl
theorem heapPlays_law (x0 : List Int) (x1 : List D_api_Item) (_ : wfU (.sl (.int .i64)) x0) (_ : wfU (.sl U_api_Item) x1) (z0 : szU (.sl (.int .i64)) x0) (_ : szU (.sl U_api_Item) x1) : F_mempoollaw9_HeapPlays x0 x1 = some true := by
  refine ok_eq.1 ?_
  unfold F_mempoollaw9_HeapPlays
  rw [long9_ok (ls := [x0]) (by simp) (fun l hl => by rw [List.mem_singleton.1 hl]; exact sz_len z0), Option.bind_some, ok_sel]
  refine ⟨fun _ => known9, fun hk => ?_⟩
  have hk : x0.length ≤ 160 := by
    have h := of_decide_eq_false hk
    have e : sumL [x0] = x0.length := by simp [sumL]
    rw [e] at h
    omega
  rw [ok_sel]
  refine ⟨fun _ => known9, fun h30 => ?_⟩
  have h30 : x1.length ≤ 30 := by have := of_decide_eq_false h30; omega
  rw [from_ok, Option.bind_some]
  unfold F_heap_New F_mempoollaw9_HeapPlays_l4s
  rw [Option.bind_some]
  refine ok_range (β := List D_api_Item × List D_api_Item × List (Int × Int)) x1 (fun i b => (x0, b.1, x1, ((x1.length : Nat) : Int), ((i : Nat) : Int), numOf x0, b.2.1, b.2.2)) (fun i b => HH b.2.1 b.2.2 b.1 ∧ b.1.length ≤ i) (fun i b hi hinv => ?_) (fun b hinv => ?_) (b0 := ([], [], [])) ⟨hh0, by simp⟩ (by omega)
  · obtain ⟨m, l, p⟩ := b
    obtain ⟨h, hm⟩ := hinv
    dsimp only at h hm ⊢
    obtain ⟨l', p', e, h'⟩ := h.push (by omega) (x1.getD i d_api_Item)
    unfold F_mempoollaw9_HeapPlays_l4
    rw [ok_sel]
    refine ⟨fun _ => ?_, fun hx => by have := of_decide_eq_false hx; omega⟩
    rw [decide_eq_true (show (0 : Int) ≤ (i : Int) ∧ (i : Int) < ((x1.length : Nat) : Int) by omega), chk_t, Int.toNat_natCast, refInsert_ok h.sort (by omega), Option.bind_some, e, Option.bind_some, wi_succ (i := i) (by omega)]
    dsimp only
    by_cases hd : (x1.getD i d_api_Item).1 ∈ m.map fun x => x.1
    · rw [if_pos hd] at h' ⊢
      rw [decide_eq_true hd]
      exact (ok_some _ _).2 ⟨(m, l', p'), rfl, h', by dsimp only; omega⟩
    · rw [if_neg hd] at h' ⊢
      rw [decide_eq_false hd]
      exact (ok_some _ _).2 ⟨(insB m (x1.getD i d_api_Item), l', p'), rfl, h', by dsimp only; rw [ins_len]; omega⟩
  · obtain ⟨m, l, p⟩ := b
    obtain ⟨h, hm⟩ := hinv
    dsimp only at h hm ⊢
    unfold F_mempoollaw9_HeapPlays_l4
    rw [ok_sel]
    refine ⟨fun hx => by have := of_decide_eq_true hx; omega, fun _ => ?_⟩
    rw [ok_map]
    exact (plays_loop hk ((numS0 x0).le (by omega)) h (by omega)).mono fun r hr => by subst hr; rfl
end Go.Proofs.Ythmfeknfiekcmaa.Am
