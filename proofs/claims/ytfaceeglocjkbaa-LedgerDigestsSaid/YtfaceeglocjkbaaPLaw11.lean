/- The statements about layer 11 hold of plain data. No conditions. -/
import Derived.Test.YtfaceeglocjkbaaPLedG
import Derived.Test.YtfaceeglocjkbaaPMakeAc
import Derived.Test.YtfaceeglocjkbaaPWt
import Derived.Test.YtfaceeglocjkbaaFAllKmempoollaw11
namespace Go.Proofs.Ytfaceeglocjkbaa.Am
open Go

theorem known11 : Ok (F_mempoollaw11_known.bind fun r => some r) (· = true) := ⟨true, by rw [T_mempoollaw11_known]; rfl, rfl⟩
theorem beqB_self (b : Bool) : beqB b b = true := by cases b <;> rfl
theorem acc_beq (x y : D_api_Account) : U.beq U_api_Account x y = decide ((x : List UInt8 × Int × Int) = y) := by
  have h : U.beq U_api_Account x y = true ↔ @Eq (List UInt8 × Int × Int) x y := U.beq_iff U_api_Account _ rfl x y
  cases hb : U.beq U_api_Account x y with
  | true => exact (decide_eq_true (h.1 hb)).symm
  | false => exact (decide_eq_false fun e => by rw [h.2 e] at hb; cases hb).symm
theorem acc_refl (x : D_api_Account) : U.beq U_api_Account x x = true := (U.beq_iff U_api_Account _ rfl x x).2 rfl
theorem same_self {g : D_api_Ledger} (hl : g.1.length ≤ 5000000000000) : F_mempoolref10_SameLedger g g = some true := by
  unfold F_mempoolref10_SameLedger
  rw [decide_eq_true rfl, Bool.not_true, sel_f, decide_eq_true rfl, Bool.not_true, sel_f]
  refine ok_eq.1 ?_
  unfold F_mempoolref10_SameLedger_l1s
  refine ok_range g.1 (fun i (_ : Unit) => (((g.1.length : Nat) : Int), ((i : Nat) : Int), g, g)) (fun _ _ => True) (fun i _ hi _ => ?_) (fun _ _ => ?_) (b0 := ()) trivial (by omega)
  · unfold F_mempoolref10_SameLedger_l1
    dsimp only
    rw [decide_eq_true (by omega : (i : Int) < ((g.1.length : Nat) : Int)), sel_t, decide_eq_true (by omega : (0 : Int) ≤ (i : Int) ∧ (i : Int) < ((g.1.length : Nat) : Int)), chk_t, chk_t, show U.beq U_api_Account (List.getD g.1 (Int.toNat (i : Int)) d_api_Account) (List.getD g.1 (Int.toNat (i : Int)) d_api_Account) = true from acc_refl _, Bool.not_true, sel_f, ok_some, nxt_inl, wi_succ (by omega)]
    exact ⟨(), rfl, trivial⟩
  · unfold F_mempoolref10_SameLedger_l1
    dsimp only
    rw [decide_eq_false (by omega), sel_f, ok_some, nxt_inr]
theorem long11_ok {l : List Int} (hl : l.length ≤ 140737488351232) : F_mempoollaw11_long [l] = some (decide (160 < ((l.length : Nat) : Int))) := by
  refine ok_eq.1 ?_
  unfold F_mempoollaw11_long F_mempoollaw11_long_l1s
  refine ok_range [l] (fun i (a : Int) => (a, [l], (([l].length : Nat) : Int), ((i : Nat) : Int))) (fun i a => a = (if i = 0 then 0 else ((l.length : Nat) : Int))) (fun i a hi ha => ?_) (fun a ha => ?_) (b0 := 0) rfl (by simp)
  · have h0 : i = 0 := by simpa using hi
    subst h0
    rw [if_pos rfl] at ha
    subst ha
    unfold F_mempoollaw11_long_l1
    dsimp only
    rw [decide_eq_true (by simp), sel_t, decide_eq_true (by simp), chk_t, ok_some, nxt_inl, wi_succ (by omega)]
    refine ⟨_, rfl, ?_⟩
    rw [if_neg (by omega), Int.toNat_natCast]
    show wi64 (0 + ((l.length : Nat) : Int)) = _
    rw [wi64_id] <;> omega
  · have ha : a = ((l.length : Nat) : Int) := ha
    subst ha
    unfold F_mempoollaw11_long_l1
    dsimp only
    rw [decide_eq_false (by omega), sel_f, ok_some, nxt_inr]
theorem big11_ok {l : List D_api_Account} (hl : l.length ≤ 4398046511000) : Ok (F_mempoollaw11_big l) fun _ => True := by
  unfold F_mempoollaw11_big F_mempoollaw11_big_l1s
  refine ok_range l (fun i (a : Int) => (a, l, ((l.length : Nat) : Int), ((i : Nat) : Int))) (fun _ _ => True) (fun i a hi _ => ?_) (fun a _ => ?_) (b0 := ((l.length : Nat) : Int)) trivial (by omega)
  · unfold F_mempoollaw11_big_l1
    dsimp only
    rw [decide_eq_true (by omega : (i : Int) < ((l.length : Nat) : Int)), sel_t, decide_eq_true (by omega : (0 : Int) ≤ (i : Int) ∧ (i : Int) < ((l.length : Nat) : Int)), chk_t, ok_some, nxt_inl, wi_succ (by omega)]
    exact ⟨_, rfl, trivial⟩
  · unfold F_mempoollaw11_big_l1
    dsimp only
    rw [decide_eq_false (by omega), sel_f, ok_some, nxt_inr]
    trivial
theorem set_parts (g : D_api_Ledger) (a : D_api_Account) : ((setF g a).1.1.length ≤ g.1.length + 1 ∧ ∀ x ∈ (setF g a).1.1, x = a ∨ x ∈ g.1) ∧ ((setF g a).1.2 = 0 ∨ (setF g a).1.2 = g.2) := by
  have hno : (noLed.1.length ≤ g.1.length + 1 ∧ ∀ x ∈ noLed.1, x = a ∨ x ∈ g.1) ∧ (noLed.2 = 0 ∨ noLed.2 = g.2) := ⟨⟨by simp, fun x hx => by cases hx⟩, .inl rfl⟩
  unfold setF
  split
  · split
    · exact hno
    · split
      · exact hno
      · split
        · exact ⟨⟨by rw [put_len]; split <;> omega, fun x hx => put_mem hx⟩, .inr rfl⟩
        · exact hno
  · exact hno
theorem okU_zero : okU 0 := ⟨by omega, by omega⟩
/-- A ledger out of few numbers. -/
def LedM (n : Nat) (g : D_api_Ledger) : Prop := g.1.length ≤ n ∧ (∀ a ∈ g.1, AccM a) ∧ okU g.2
theorem AccM.len {a : D_api_Account} (h : AccM a) : a.1.length ≤ 1000000000000000 := by have := h.1.2; omega
theorem LedM.b {n : Nat} {g : D_api_Ledger} (h : LedM n g) (hn : n ≤ 1000000) : LedB g := ⟨h.2.2, fun a ha => (h.2.1 a ha).2.1, fun a ha => (h.2.1 a ha).len, by have := h.1; omega⟩
theorem gen_m {l : List D_api_Account} (h : AccsM l) : LedM 4 (genF l).1 := by
  unfold genF
  have hno : LedM 4 noLed := ⟨by simp, fun x hx => (by cases hx), okU_zero⟩
  split
  · exact hno
  · split
    · split
      · exact ⟨by rw [(sort_perm l).length_eq]; exact h.1, fun a ha => h.2 a ((sort_perm l).mem_iff.1 ha), okU_zero⟩
      · exact hno
    · exact hno
theorem made11_ok {k : List Int} (_hk : k.length ≤ 160) : Ok (F_mempoollaw11_made k) (LedM 7) := by
  unfold F_mempoollaw11_made
  rw [from_ok, Option.bind_some, ok_bind]
  refine (accounts_s (numS0 k) (by omega) (by omega)).mono fun r2 h2 => ?_
  obtain ⟨a1, a2, a3⟩ := h2
  rw [gen_ref (fun a ha => (a3.2 a ha).2.1) (fun a ha => (a3.2 a ha).len) (by have := a3.1; omega), Option.bind_some, ok_bind]
  refine (next_s a1 (n := 90) (by omega) (by omega) (by omega)).mono fun r4 h4 => ?_
  obtain ⟨b1, b2, b3, b4⟩ := h4
  rw [ok_bind]
  refine (next_s b1 (n := 4) (by omega) (by omega) (by omega)).mono fun r5 h5 => ?_
  obtain ⟨c1, c2, c3, c4⟩ := h5
  have hg := gen_m a3
  unfold F_mempoollaw11_made_l1s
  refine ok_iterE (fun n v => ∃ (u : D_mempoolmake_Numbers) (g : D_api_Ledger) (i : Nat), v = ((i : Int), ([], (0 : Int)), u, g) ∧ n = i ∧ i ≤ 3 ∧ NumS k (100 - 10 * i) u ∧ LedM (7 - i) g) ?_ (n := r5.2.toNat) ⟨r5.1, ((genF r2.2).1.1, wu64 r4.2), r5.2.toNat, by rw [Int.toNat_of_nonneg c3], rfl, by omega, c1.le (by omega), ⟨by dsimp only; have := hg.1; omega, hg.2.1, by dsimp only; exact wu64_range _⟩⟩ (by omega)
  rintro n v ⟨u, g, i, rfl, rfl, hi, hu, hm⟩
  unfold F_mempoollaw11_made_l1
  dsimp only
  rw [ok_sel]
  refine ⟨fun h => ?_, fun h => ?_⟩
  · have h := of_decide_eq_true h
    have hw : wi64 ((n : Int) - 1) = ((n - 1 : Nat) : Int) := wi_pred (by omega) (by omega)
    rw [ok_bind]
    refine (name_s hu (by omega) (by omega)).mono fun r6 h6 => ?_
    rw [ok_bind]
    refine (next_s h6.1 (n := 70) (by omega) (by omega) (by omega)).mono fun r7 h7 => ?_
    rw [ok_bind]
    refine (next_s h7.1 (n := 4) (by omega) (by omega) (by omega)).mono fun r8 h8 => ?_
    have hacc : AccM (r6.2, wu64 r7.2, wu64 r8.2) := ⟨h6.2.2, wu64_range _, wu64_range _⟩
    have hb := hm.b (by omega)
    rw [set_ref hb hacc.2.1 hacc.len, Option.bind_some, ok_sel, ok_some, ok_some, nxt_inl, nxt_inl, hw]
    have hs := set_parts g (r6.2, wu64 r7.2, wu64 r8.2)
    have hu' : NumS k (100 - 10 * ((n - 1 : Nat) : Int)) r8.1 := h8.1.le (by omega)
    refine ⟨fun _ => ⟨n - 1, by omega, r8.1, _, n - 1, rfl, rfl, by omega, hu', ?_, fun a ha => ?_, ?_⟩, fun _ => ⟨n - 1, by omega, r8.1, _, n - 1, rfl, rfl, by omega, hu', by have := hm.1; omega, hm.2.1, hm.2.2⟩⟩
    · have := hm.1; have := hs.1.1; omega
    · rcases hs.1.2 a ha with rfl | h
      · exact hacc
      · exact hm.2.1 a h
    · rcases hs.2 with e | e <;> rw [e]
      · exact okU_zero
      · exact hm.2.2
  · rw [ok_some, nxt_inr]
    exact ⟨by have := hm.1; omega, hm.2.1, hm.2.2⟩
theorem wf_led {g : D_api_Ledger} (w : wfU U_api_Ledger g) (z : szU U_api_Ledger g) : LedB g ∧ g.1.length * 32 ≤ 140737488351232 := by
  obtain ⟨⟨_, w1⟩, w2⟩ := w
  obtain ⟨⟨z1, z2⟩, _⟩ := z
  have z1 : g.1.length * 32 ≤ 140737488351232 := z1
  exact ⟨⟨wf_u64 w2, fun a ha => wf_u64 (w1 a ha).2.1, fun a ha => by
    have h : a.1.length ≤ reachBytes := (z2 a ha).1
    have hr : reachBytes = 140737488351232 := rfl
    omega, by omega⟩, z1⟩
theorem wf_acc {a : D_api_Account} (w : wfU U_api_Account a) (z : szU U_api_Account a) : okU a.2.1 ∧ okU a.2.2 ∧ a.1.length ≤ 1000000000000000 := by
  have h : a.1.length ≤ reachBytes := z.1
  have hr : reachBytes = 140737488351232 := rfl
  exact ⟨wf_u64 w.2.1, wf_u64 w.2.2, by omega⟩
theorem sz_ints {l : List Int} (z : szU (.sl (.int .i64)) l) : l.length ≤ 140737488351232 := by
  have h : l.length * 8 ≤ reachBytes := z.1
  have hr : reachBytes = 140737488351232 := rfl
  omega
theorem validates_l2 {L : List D_api_Ledger} (hL : L.length = 3) (h : ∀ g ∈ L, LedB g) : Ok (F_mempoollaw11_LedgerValidates_l2s 3 0 L) (· = true) := by
  unfold F_mempoollaw11_LedgerValidates_l2s
  refine ok_range L (fun i (_ : Unit) => (3, ((i : Nat) : Int), L)) (fun _ _ => True) (fun i _ hi _ => ?_) (fun _ _ => ?_) (b0 := ()) trivial (by omega)
  · have hb := h L[i] (List.getElem_mem hi)
    unfold F_mempoollaw11_LedgerValidates_l2
    dsimp only
    rw [decide_eq_true (by omega : (i : Int) < 3), sel_t, decide_eq_true (by omega : (0 : Int) ≤ (i : Int) ∧ (i : Int) < ((L.length : Nat) : Int)), chk_t, Int.toNat_natCast, decide_eq_true hi, chk_t, getD_lt hi, tot_prog hb.1 hb.2.1 hb.2.2.2, Option.bind_some, tot_ref hb.1 hb.2.1 hb.2.2.2, Option.bind_some, val_prog hb, Option.bind_some, val_ref hb, Option.bind_some, decide_eq_true rfl, Bool.not_true, sel_f, decide_eq_true rfl, Bool.not_true, sel_f, beqB_self, Bool.not_true, sel_f, ok_some, nxt_inl, wi_succ (by omega)]
    exact ⟨(), rfl, trivial⟩
  · unfold F_mempoollaw11_LedgerValidates_l2
    dsimp only
    rw [decide_eq_false (by omega), sel_f, ok_map]
    exact known11.mono fun r hr => by subst hr; rfl
theorem validates_c1 {b0 b1 : D_api_Ledger} {c : Int} {l : List D_api_Account} (h0 : LedB b0) (h1 : LedB b1) (h2 : LedB (l, c)) : Ok (F_mempoollaw11_LedgerValidates_c1 b0 b1 c l) (· = true) :=
  validates_l2 rfl fun g hg => by
    simp only [List.mem_cons, List.not_mem_nil, or_false] at hg
    rcases hg with rfl | rfl | rfl
    · exact h0
    · exact h1
    · exact h2
theorem ledgerValidates_law (x0 : D_api_Ledger) (x1 : List Int) (x2 : D_api_Account) (x3 x4 : Int) (w0 : wfU U_api_Ledger x0) (_ : wfU (.sl (.int .i64)) x1) (w2 : wfU U_api_Account x2) (_ : wfU (.int .i64) x3) (_ : wfU (.int .i64) x4) (z0 : szU U_api_Ledger x0) (z1 : szU (.sl (.int .i64)) x1) (z2 : szU U_api_Account x2) (_ : szU (.int .i64) x3) (_ : szU (.int .i64) x4) : F_mempoollaw11_LedgerValidates x0 x1 x2 x3 x4 = some true := by
  obtain ⟨hb0, _⟩ := wf_led w0 z0
  obtain ⟨ha1, ha2, ha3⟩ := wf_acc w2 z2
  refine ok_eq.1 ?_
  unfold F_mempoollaw11_LedgerValidates
  rw [long11_ok (sz_ints z1), Option.bind_some, ok_sel]
  refine ⟨fun _ => known11, fun hk => ?_⟩
  have hk := of_decide_eq_false hk
  rw [ok_bind]
  refine (big11_ok hb0.2.2.2).mono fun r3 _ => ?_
  rw [ok_sel]
  refine ⟨fun _ => known11, fun _ => ?_⟩
  rw [ok_sel]
  refine ⟨fun _ => known11, fun _ => ?_⟩
  rw [ok_bind]
  refine (made11_ok (by omega)).mono fun m hm => ?_
  have hml := hm.1
  have hmb := hm.b (by omega)
  have hlen : wi64 (((m.1.length : Nat) : Int) + 1) = ((m.1.length + 1 : Nat) : Int) := wi_succ (by omega)
  rw [decide_eq_true (⟨by unfold LIM; omega, by unfold LEN; omega⟩ : (0 + m.1.length) * 32 ≤ LIM ∧ 0 + m.1.length ≤ LEN), chk_t, hlen, ok_bind]
  refine (place_ok (x := x3) (n := ((m.1.length + 1 : Nat) : Int)) (by omega) (by omega)).mono fun r7 h7 => ?_
  obtain ⟨p0, p1, _⟩ := h7
  obtain ⟨i, rfl⟩ : ∃ i : Nat, r7 = (i : Int) := ⟨r7.toNat, by omega⟩
  have hi : i ≤ m.1.length := by omega
  rw [ok_bind]
  refine (place_ok (x := x4) (n := 3) (by omega) (by omega)).mono fun r13 _ => ?_
  rw [ok_sel]
  refine ⟨fun _ => ?_, fun _ => ?_⟩
  · have e1 : (m.1.take i).length = i := by rw [List.length_take]; omega
    have e2 : (m.1.take i ++ [x2]).length = i + 1 := by rw [List.length_append, e1]; rfl
    have e3 : (m.1.drop i).length = m.1.length - i := List.length_drop
    rw [Int.toNat_natCast, Int.toNat_natCast, List.take_length, e1, e2, e3, decide_eq_true (by omega), chk_t, decide_eq_true ⟨by unfold LIM; omega, by unfold LEN; omega⟩, chk_t, decide_eq_true ⟨by unfold LIM; omega, by unfold LEN; omega⟩, chk_t, decide_eq_true (by omega), chk_t, decide_eq_true ⟨by unfold LIM; omega, by unfold LEN; omega⟩, chk_t]
    have hmem : ∀ a ∈ (m.1.take i ++ [x2]) ++ m.1.drop i, a = x2 ∨ a ∈ m.1 := fun a ha => by
      rcases List.mem_append.1 ha with h | h
      · rcases List.mem_append.1 h with h | h
        · exact .inr (List.mem_of_mem_take h)
        · exact .inl (List.mem_singleton.1 h)
      · exact .inr (List.mem_of_mem_drop h)
    refine validates_c1 hb0 hmb ⟨hmb.1, fun a ha => ?_, fun a ha => ?_, ?_⟩
    · rcases hmem a ha with rfl | h
      · exact ha1
      · exact hmb.2.1 a h
    · rcases hmem a ha with rfl | h
      · exact ha3
      · exact hmb.2.2.1 a h
    · show ((m.1.take i ++ [x2]) ++ m.1.drop i).length ≤ _
      rw [List.length_append, e2, e3]; omega
  · rw [ok_sel]
    refine ⟨fun _ => ?_, fun _ => ?_⟩
    · rw [ok_sel]
      refine ⟨fun h => ?_, fun _ => validates_c1 hb0 hmb hmb⟩
      have h := of_decide_eq_true h
      have hi' : i < m.1.length := by omega
      rw [decide_eq_true (by omega : (0 : Int) ≤ (i : Int) ∧ (i : Int) < ((m.1.length : Nat) : Int)), chk_t, Int.toNat_natCast, decide_eq_true hi', chk_t, getD_lt hi']
      have hmem : ∀ a ∈ m.1.set i (m.1[i].1, x2.2.1, m.1[i].2.2), a = (m.1[i].1, x2.2.1, m.1[i].2.2) ∨ a ∈ m.1 := fun a ha => (List.mem_or_eq_of_mem_set ha).symm
      refine validates_c1 hb0 hmb ⟨hmb.1, fun a ha => ?_, fun a ha => ?_, ?_⟩
      · rcases hmem a ha with rfl | h
        · exact ha1
        · exact hmb.2.1 a h
      · rcases hmem a ha with rfl | h
        · exact hmb.2.2.1 m.1[i] (List.getElem_mem hi')
        · exact hmb.2.2.1 a h
      · show (m.1.set i _).length ≤ _
        rw [List.length_set]; omega
    · unfold F_mempoollaw11_LedgerValidates_l3s
      refine ok_range m.1 (fun j (c : Int) => (x3, m.1, ((m.1.length : Nat) : Int), ((j : Nat) : Int), x0, m, c, m.1)) (fun _ c => okU c) (fun j c hj hc => ?_) (fun c hc => ?_) (b0 := x2.2.1) ha1 (by omega)
      · unfold F_mempoollaw11_LedgerValidates_l3
        dsimp only
        rw [decide_eq_true (by omega : (j : Int) < ((m.1.length : Nat) : Int)), sel_t, decide_eq_true (by omega : (0 : Int) ≤ (j : Int) ∧ (j : Int) < ((m.1.length : Nat) : Int)), chk_t, ok_some, nxt_inl, wi_succ (by omega)]
        exact ⟨_, rfl, wu64_range _⟩
      · unfold F_mempoollaw11_LedgerValidates_l3
        dsimp only
        rw [decide_eq_false (by omega), sel_f, ok_map]
        exact (validates_c1 hb0 hmb ⟨hc, hmb.2.1, hmb.2.2.1, hmb.2.2.2⟩).mono fun r hr => by subst hr; rfl
theorem gets_l1 {g m : D_api_Ledger} {L : List (List UInt8)} (hL : L.length = 5) (hg : g.1.length ≤ 5000000000000) (hm : m.1.length ≤ 5000000000000) : Ok (F_mempoollaw11_LedgerGets_l1s 5 0 g m L) (· = true) := by
  unfold F_mempoollaw11_LedgerGets_l1s
  refine ok_range L (fun i (_ : Unit) => (5, ((i : Nat) : Int), g, m, L)) (fun _ _ => True) (fun i _ hi _ => ?_) (fun _ _ => ?_) (b0 := ()) trivial (by omega)
  · unfold F_mempoollaw11_LedgerGets_l1
    dsimp only
    rw [decide_eq_true (by omega : (i : Int) < 5), sel_t, decide_eq_true (by omega : (0 : Int) ≤ (i : Int) ∧ (i : Int) < ((L.length : Nat) : Int)), chk_t, Int.toNat_natCast, decide_eq_true hi, chk_t, get_prog hg, Option.bind_some, get_ref hg, Option.bind_some, get_prog hm, Option.bind_some, get_ref hm, Option.bind_some, acc_beq, decide_eq_true rfl, Bool.not_true, sel_f, beqB_self, Bool.not_true, sel_f, acc_beq, decide_eq_true rfl, Bool.not_true, sel_f, beqB_self, Bool.not_true, sel_f, ok_some, nxt_inl, wi_succ (by omega)]
    exact ⟨(), rfl, trivial⟩
  · unfold F_mempoollaw11_LedgerGets_l1
    dsimp only
    rw [decide_eq_false (by omega), sel_f, ok_map]
    exact known11.mono fun r hr => by subst hr; rfl
theorem ledgerGets_law (x0 : D_api_Ledger) (x1 : List UInt8) (x2 : List Int) (w0 : wfU U_api_Ledger x0) (_ : wfU .str x1) (_ : wfU (.sl (.int .i64)) x2) (z0 : szU U_api_Ledger x0) (_ : szU .str x1) (z2 : szU (.sl (.int .i64)) x2) : F_mempoollaw11_LedgerGets x0 x1 x2 = some true := by
  obtain ⟨hb0, _⟩ := wf_led w0 z0
  have hl0 := hb0.2.2.2
  refine ok_eq.1 ?_
  unfold F_mempoollaw11_LedgerGets
  rw [long11_ok (sz_ints z2), Option.bind_some, ok_sel]
  refine ⟨fun _ => known11, fun hk => ?_⟩
  have hk := of_decide_eq_false hk
  rw [ok_bind]
  refine (big11_ok hb0.2.2.2).mono fun r3 _ => ?_
  rw [ok_sel]
  refine ⟨fun _ => known11, fun _ => ?_⟩
  rw [ok_sel]
  refine ⟨fun _ => known11, fun _ => ?_⟩
  rw [ok_bind]
  refine (made11_ok (by omega)).mono fun m hm => ?_
  have := hm.1
  exact gets_l1 rfl (by omega) (by omega)
theorem gen_len (l : List D_api_Account) : (genF l).1.1.length ≤ l.length := by
  unfold genF
  split
  · simp
  · split
    · split
      · exact Nat.le_of_eq (sort_perm l).length_eq
      · simp
    · simp
theorem gen_led {l : List D_api_Account} (hb : BalsU l) (hn : ∀ a ∈ l, a.1.length ≤ 1000000000000000) (hl : l.length ≤ 4398046511000) : LedB (genF l).1 := by
  have hno : LedB noLed := ⟨okU_zero, fun x hx => (by cases hx), fun x hx => (by cases hx), by simp⟩
  unfold genF
  split
  · exact hno
  · split
    · split
      · exact ⟨okU_zero, fun a ha => hb a ((sort_perm l).mem_iff.1 ha), fun a ha => hn a ((sort_perm l).mem_iff.1 ha), by dsimp only; rw [(sort_perm l).length_eq]; exact hl⟩
      · exact hno
    · exact hno
theorem begins_l2 {L : List (List D_api_Account)} (hL : L.length = 3) (h : ∀ l ∈ L, BalsU l ∧ (∀ a ∈ l, a.1.length ≤ 1000000000000000) ∧ l.length ≤ 4398046511000) : Ok (F_mempoollaw11_LedgerBegins_l2s 3 0 L) (· = true) := by
  unfold F_mempoollaw11_LedgerBegins_l2s
  refine ok_range L (fun i (_ : Unit) => (3, ((i : Nat) : Int), L)) (fun _ _ => True) (fun i _ hi _ => ?_) (fun _ _ => ?_) (b0 := ()) trivial (by omega)
  · obtain ⟨h1, h2, h3⟩ := h L[i] (List.getElem_mem hi)
    have h4 := gen_len L[i]
    unfold F_mempoollaw11_LedgerBegins_l2
    dsimp only
    rw [decide_eq_true (by omega : (i : Int) < 3), sel_t, decide_eq_true (by omega : (0 : Int) ≤ (i : Int) ∧ (i : Int) < ((L.length : Nat) : Int)), chk_t, Int.toNat_natCast, decide_eq_true hi, chk_t, getD_lt hi, gen_prog h1 h2 h3, Option.bind_some, gen_ref h1 h2 h3, Option.bind_some, decide_eq_true rfl, Bool.not_true, sel_f, same_self (by omega), Option.bind_some, Bool.not_true, sel_f, ok_some, nxt_inl, wi_succ (by omega)]
    exact ⟨(), rfl, trivial⟩
  · unfold F_mempoollaw11_LedgerBegins_l2
    dsimp only
    rw [decide_eq_false (by omega), sel_f, ok_map]
    exact known11.mono fun r hr => by subst hr; rfl
theorem begins_c1 {l m : List D_api_Account} (h1 : BalsU l) (h2 : ∀ a ∈ l, a.1.length ≤ 1000000000000000) (h3 : l.length * 32 ≤ 140737488351232) (hm : m.length ≤ 7) (hm2 : ∀ a ∈ m, AccM a) : Ok (F_mempoollaw11_LedgerBegins_c1 l m) (· = true) := by
  unfold F_mempoollaw11_LedgerBegins_c1
  rw [decide_eq_true (⟨by unfold LIM; omega, by unfold LEN; omega⟩ : (0 + m.length) * 32 ≤ LIM ∧ 0 + m.length ≤ LEN), chk_t, decide_eq_true (⟨by unfold LIM; omega, by unfold LEN; omega⟩ : (m.length + l.length) * 32 ≤ LIM ∧ m.length + l.length ≤ LEN), chk_t]
  have hb : BalsU m := fun a ha => (hm2 a ha).2.1
  have hn : ∀ a ∈ m, a.1.length ≤ 1000000000000000 := fun a ha => (hm2 a ha).len
  refine begins_l2 rfl fun x hx => ?_
  simp only [List.mem_cons, List.not_mem_nil, or_false] at hx
  rcases hx with rfl | rfl | rfl
  · exact ⟨h1, h2, by omega⟩
  · exact ⟨hb, hn, by omega⟩
  · refine ⟨fun a ha => ?_, fun a ha => ?_, by rw [List.length_append]; omega⟩
    · rcases List.mem_append.1 ha with h | h
      · exact hb a h
      · exact h1 a h
    · rcases List.mem_append.1 ha with h | h
      · exact hn a h
      · exact h2 a h
theorem ledgerBegins_law (x0 : List D_api_Account) (x1 : List Int) (x2 : Int) (w0 : wfU (.sl U_api_Account) x0) (_ : wfU (.sl (.int .i64)) x1) (_ : wfU (.int .i64) x2) (z0 : szU (.sl U_api_Account) x0) (z1 : szU (.sl (.int .i64)) x1) (_ : szU (.int .i64) x2) : F_mempoollaw11_LedgerBegins x0 x1 x2 = some true := by
  have hl0 : x0.length * 32 ≤ 140737488351232 := z0.1
  have hb0 : BalsU x0 := fun a ha => (wf_acc (w0.2 a ha) (z0.2 a ha)).1
  have hn0 : ∀ a ∈ x0, a.1.length ≤ 1000000000000000 := fun a ha => (wf_acc (w0.2 a ha) (z0.2 a ha)).2.2
  refine ok_eq.1 ?_
  unfold F_mempoollaw11_LedgerBegins
  rw [long11_ok (sz_ints z1), Option.bind_some, ok_sel]
  refine ⟨fun _ => known11, fun hk => ?_⟩
  have hk := of_decide_eq_false hk
  rw [ok_bind]
  refine (big11_ok (by omega)).mono fun r3 _ => ?_
  rw [ok_sel]
  refine ⟨fun _ => known11, fun _ => ?_⟩
  rw [ok_bind]
  refine (made11_ok (by omega)).mono fun m hm => ?_
  obtain ⟨m, mc⟩ := m
  obtain ⟨hml, hma, _⟩ := hm
  dsimp only at hml hma ⊢
  rw [decide_eq_true (⟨by unfold LIM; omega, by unfold LEN; omega⟩ : (0 + m.length) * 32 ≤ LIM ∧ 0 + m.length ≤ LEN), chk_t, ok_sel]
  refine ⟨fun h => ?_, fun _ => begins_c1 hb0 hn0 hl0 hml hma⟩
  have h := of_decide_eq_true h
  rw [wi_pred (i := m.length) (by omega) (by omega), ok_bind]
  refine (place_ok (x := x2) (n := ((m.length - 1 : Nat) : Int)) (by omega) (by omega)).mono fun r h7 => ?_
  obtain ⟨p0, p1, _⟩ := h7
  obtain ⟨i, rfl⟩ : ∃ i : Nat, r = (i : Int) := ⟨r.toNat, by omega⟩
  have hi : i < m.length := by omega
  have hj : m.length - 1 < m.length := by omega
  simp only [Int.toNat_natCast, List.length_set, ok_chk, decide_eq_true_eq]
  refine ⟨by omega, by omega, by omega, by omega, by omega, by omega, by omega, by omega, ?_⟩
  refine begins_c1 hb0 hn0 hl0 (by rw [List.length_set, List.length_set]; exact hml) fun a ha => ?_
  rcases List.mem_or_eq_of_mem_set ha with ha | rfl
  · rcases List.mem_or_eq_of_mem_set ha with ha | rfl
    · exact hma a ha
    · rw [getD_lt hj]; exact hma _ (List.getElem_mem hj)
  · rw [getD_lt hi]; exact hma _ (List.getElem_mem hi)
end Go.Proofs.Ytfaceeglocjkbaa.Am
