/- Accounts and transactions that are made of numbers. No conditions. -/
import Derived.Test.YtgfmnpbcbpobbaaDoorPNum
import Derived.Test.YtgfmnpbcbpobbaaDoorPName
import Derived.Test.YtgfmnpbcbpobbaaDoorPMemo2
namespace Go.Proofs.YtgfmnpbcbpobbaaDoor.Am
open Go

def u64R (n : Int) : Prop := 0 ≤ n ∧ n < 18446744073709551616
def NameM (s : List UInt8) : Prop := isName s = true ∧ s.length ≤ 3
theorem name_s {L : List Int} {k : Int} {s : D_mempoolmake_Numbers} (hs : NumS L k s) (hk : k < 1000000000000) (h0 : 0 ≤ k) : Ok (F_mempoolmake_Name s) fun r => NumS L (k + 1) r.1 ∧ s.2 < r.1.2 ∧ NameM r.2 := by
  unfold F_mempoolmake_Name
  rw [ok_bind]
  refine (next_s hs (n := 6) (by omega) (by omega) (by omega)).mono fun r h => ?_
  obtain ⟨a1, a2, a3, a4⟩ := h
  simp only [ok_chk, ok_some, decide_eq_true_eq]
  refine ⟨⟨a3, a4⟩, by omega, a1, a2, ?_⟩
  obtain ⟨n, hn⟩ : ∃ n : Nat, Int.toNat r.2 = n := ⟨_, rfl⟩
  have hn6 : n < 6 := by omega
  rw [hn]
  match n, hn6 with
  | 0, _ | 1, _ | 2, _ | 3, _ | 4, _ | 5, _ => exact ⟨by decide, by decide⟩
def MemoM (s : List UInt8) : Prop := isMemo s = true ∧ s.length ≤ 60
theorem memo_s {L : List Int} {k : Int} {s : D_mempoolmake_Numbers} (hs : NumS L k s) (hk : k < 1000000000000) (h0 : 0 ≤ k) : Ok (F_mempoolmake_Memo s) fun r => NumS L (k + 1) r.1 ∧ s.2 < r.1.2 ∧ MemoM r.2 := by
  unfold F_mempoolmake_Memo
  rw [ok_bind]
  refine (next_s hs (n := 7) (by omega) (by omega) (by omega)).mono fun r h => ?_
  obtain ⟨a1, a2, a3, a4⟩ := h
  simp only [ok_chk, ok_some, decide_eq_true_eq]
  refine ⟨⟨a3, a4⟩, by omega, a1, a2, ?_⟩
  obtain ⟨n, hn⟩ : ∃ n : Nat, Int.toNat r.2 = n := ⟨_, rfl⟩
  have hn7 : n < 7 := by omega
  rw [hn]
  match n, hn7 with
  | 0, _ | 1, _ | 2, _ | 3, _ | 4, _ | 5, _ | 6, _ => exact ⟨by decide, by decide⟩
def AccM (a : D_api_Account) : Prop := NameM a.1 ∧ u64R a.2.1 ∧ u64R a.2.2
def AccsM (l : List D_api_Account) : Prop := l.length ≤ 4 ∧ ∀ a ∈ l, AccM a
theorem accs_snoc {l : List D_api_Account} {a : D_api_Account} {n : Nat} (h : l.length ≤ n ∧ ∀ a ∈ l, AccM a) (ha : AccM a) : (l ++ [a]).length ≤ n + 1 ∧ ∀ x ∈ l ++ [a], AccM x := by
  refine ⟨by simp; omega, fun x hx => ?_⟩
  rcases List.mem_append.1 hx with hx | hx
  · exact h.2 x hx
  · simp only [List.mem_singleton] at hx; subst hx; exact ha
theorem acc_name (n : Nat) (h : n < 4) : NameM (List.getD [[(97 : UInt8), (110 : UInt8), (110 : UInt8)], [(98 : UInt8), (111 : UInt8), (98 : UInt8)], [(101 : UInt8), (118 : UInt8), (101 : UInt8)], [(122 : UInt8), (111 : UInt8), (101 : UInt8)]] n []) := by
  match n, h with
  | 0, _ | 1, _ | 2, _ | 3, _ => exact ⟨by decide, by decide⟩
theorem acc_bal (n : Nat) (h : n < 5) : u64R (List.getD [100000, 5000, 700, 0, 1099511627776] n (0 : Int)) := by
  match n, h with
  | 0, _ | 1, _ | 2, _ | 3, _ | 4, _ => exact ⟨by decide, by decide⟩
theorem acc_seq (n : Nat) (h : n < 3) : u64R (List.getD [5, 18446744073709551615, 18446744073709551614] n (0 : Int)) := by
  match n, h with
  | 0, _ | 1, _ | 2, _ => exact ⟨by decide, by decide⟩
theorem accounts_s {L : List Int} {k : Int} {s : D_mempoolmake_Numbers} (hs : NumS L k s) (hk : k < 1000000000000) (h0 : 0 ≤ k) : Ok (F_mempoolmake_Accounts s) fun r => NumS L (k + 13) r.1 ∧ s.2 < r.1.2 ∧ AccsM r.2 := by
  unfold F_mempoolmake_Accounts
  rw [ok_bind]
  refine (next_s hs (n := 4) (by omega) (by omega) (by omega)).mono fun r h => ?_
  obtain ⟨a1, a2, a3, a4⟩ := h
  unfold F_mempoolmake_Accounts_l1s
  refine ok_iter (S := Int × D_mempoolmake_Numbers × List D_api_Account) (inv := fun v => ∃ n : Nat, n ≤ 4 ∧ -1 ≤ v.1 ∧ v.1 + n ≤ 3 ∧ NumS L (k + 1 + 3 * n) v.2.1 ∧ s.2 < v.2.1.2 ∧ v.2.2.length ≤ n ∧ ∀ a ∈ v.2.2, AccM a) (m := fun v => (v.1 + 1).toNat) ?_ ⟨0, by omega, by simp only; omega, by simp only; omega, a1.le (by omega), a2, by simp, by simp⟩ (by simp only; omega)
  rintro ⟨i, b, l⟩ ⟨n, hn, hi, hin, hb, hlt, hl, hall⟩
  simp only at hi hin hb hlt hl hall
  simp only [F_mempoolmake_Accounts_l1, ok_sel, ok_chk, ok_bind, ok_some, nxt_inl, nxt_inr, decide_eq_true_eq, decide_eq_false_iff_not]
  refine ⟨fun hi0 => ⟨by omega, by omega, ?_⟩, fun _ => ⟨hb.le (by omega), hlt, by omega, hall⟩⟩
  have hw : wi64 (i - 1) = i - 1 := by rw [wi64_id] <;> omega
  refine (next_s hb (n := 5) (by omega) (by omega) (by omega)).mono fun r2 h2 => ?_
  obtain ⟨b1, b2, b3, b4⟩ := h2
  refine ⟨⟨b3, b4⟩, by omega, ?_⟩
  refine (next_s b1 (n := 6) (by omega) (by omega) (by omega)).mono fun r3 h3 => ?_
  obtain ⟨c1, c2, c3, c4⟩ := h3
  refine ⟨fun _ => ?_, fun _ => ⟨⟨by unfold LIM; omega, by unfold LEN; omega⟩, ?_⟩⟩
  · refine (next_s c1 (n := 3) (by omega) (by omega) (by omega)).mono fun r4 h4 => ?_
    obtain ⟨d1, d2, d3, d4⟩ := h4
    refine ⟨⟨d3, d4⟩, by omega, ⟨by unfold LIM; omega, by unfold LEN; omega⟩, ?_⟩
    rw [hw]
    have q := accs_snoc (n := n) ⟨hl, hall⟩ (a := (_, _, _)) ⟨acc_name (Int.toNat i) (by omega), acc_bal (Int.toNat r2.2) (by omega), acc_seq (Int.toNat r4.2) (by omega)⟩
    exact ⟨⟨n + 1, by omega, by omega, by omega, d1.le (by omega), by omega, q.1, q.2⟩, by omega⟩
  · rw [hw]
    have q := accs_snoc (n := n) ⟨hl, hall⟩ (a := (_, _, _)) ⟨acc_name (Int.toNat i) (by omega), acc_bal (Int.toNat r2.2) (by omega), (⟨by decide, by decide⟩ : u64R 0)⟩
    exact ⟨⟨n + 1, by omega, by omega, by omega, c1.le (by omega), by omega, q.1, q.2⟩, by omega⟩
def TrM (x : D_api_Transfer) : Prop := NameM x.1 ∧ 1 ≤ x.2 ∧ x.2 < 18446744073709551616
/-- A transaction that was made. -/
def TxM (t : D_api_Tx) : Prop := NameM t.1 ∧ u64R t.2.1 ∧ (150 ≤ t.2.2.1 ∧ t.2.2.1 ≤ 350) ∧ u64R t.2.2.2.1 ∧ MemoM t.2.2.2.2.1 ∧ (1 ≤ t.2.2.2.2.2.length ∧ t.2.2.2.2.2.length ≤ 3) ∧ ∀ x ∈ t.2.2.2.2.2, TrM x
theorem txc3_s {L : List Int} {k q : Int} {b : D_mempoolmake_Numbers} (hb : NumS L k b) (hq : q < b.2) (hk : k < 500000000000) (h0 : 0 ≤ k) (z0 z4 : List UInt8) (z1 z2 z3 : Int) {a0 a4 : List UInt8} {a1 a2 a3 : Int}
    (c0 : NameM a0) (c1 : u64R a1) (c2 : 150 ≤ a2 ∧ a2 ≤ 350) (c3 : u64R a3) (c4 : MemoM a4) : Ok (F_mempoolmake_Tx_c3 b z0 z1 z2 z3 z4 a0 a1 a2 a3 a4) fun r => NumS L (k + 10) r.1 ∧ q < r.1.2 ∧ TxM r.2 := by
  unfold F_mempoolmake_Tx_c3
  rw [ok_bind]
  refine (next_s hb (n := 3) (by omega) (by omega) (by omega)).mono fun r h => ?_
  obtain ⟨d1, d2, d3, d4⟩ := h
  unfold F_mempoolmake_Tx_l4s
  refine ok_iter (inv := fun v => ∃ (n : Nat) (i : Int) (c : D_mempoolmake_Numbers) (l : List D_api_Transfer), v = (i, c, z0, z1, z2, z3, z4, a0, a1, a2, a3, a4, l) ∧ n ≤ 3 ∧ -1 ≤ i ∧ i + n ≤ 2 ∧ (i = -1 → 1 ≤ n) ∧ NumS L (k + 1 + 3 * n) c ∧ q < c.2 ∧ l.length = n ∧ ∀ x ∈ l, TrM x) (m := fun v => (v.1 + 1).toNat) ?_ ⟨0, _, _, [], rfl, by omega, by omega, by omega, by omega, d1.le (by omega), by omega, by simp, by simp⟩ (by simp only; omega)
  rintro v ⟨n, i, c, l, rfl, hn, hi, hin, hi1, hc, hlt, hl, hall⟩
  have c5 : ∀ {y : D_mempoolmake_Numbers} {x : D_api_Transfer}, NumS L (k + 1 + 3 * n + 3) y → q < y.2 → TrM x → 0 ≤ i → Ok (F_mempoolmake_Tx_c5 i y z0 z1 z2 z3 z4 a0 a1 a2 a3 a4 x l) (Nxt (fun r => NumS L (k + 10) r.1 ∧ q < r.1.2 ∧ TxM r.2) fun z => (∃ (n : Nat) (i : Int) (c : D_mempoolmake_Numbers) (l : List D_api_Transfer), z = (i, c, z0, z1, z2, z3, z4, a0, a1, a2, a3, a4, l) ∧ n ≤ 3 ∧ -1 ≤ i ∧ i + n ≤ 2 ∧ (i = -1 → 1 ≤ n) ∧ NumS L (k + 1 + 3 * n) c ∧ q < c.2 ∧ l.length = n ∧ ∀ x ∈ l, TrM x) ∧ (z.1 + 1).toNat < (i + 1).toNat) := by
    intro y x hy hqy hx hi0
    have hw : wi64 (i - 1) = i - 1 := by rw [wi64_id] <;> omega
    simp only [F_mempoolmake_Tx_c5, ok_chk, ok_some, nxt_inl, decide_eq_true_eq, hw]
    refine ⟨⟨by unfold LIM; omega, by unfold LEN; omega⟩, ⟨n + 1, i - 1, y, l ++ [x], rfl, by omega, by omega, by omega, by omega, hy.le (by omega), hqy, by simp [hl], fun w hw => ?_⟩, by omega⟩
    rcases List.mem_append.1 hw with hw | hw
    · exact hall w hw
    · simp only [List.mem_singleton] at hw; subst hw; exact hx
  simp only [F_mempoolmake_Tx_l4]
  rw [ok_sel]
  refine ⟨fun h => ?_, fun h => ?_⟩
  · have hi0 : 0 ≤ i := of_decide_eq_true h
    rw [ok_bind]
    refine (name_s hc (by omega) (by omega)).mono fun r6 h6 => ?_
    obtain ⟨e1, e2, e3⟩ := h6
    rw [ok_bind]
    refine (next_s e1 (n := 60) (by omega) (by omega) (by omega)).mono fun r7 h7 => ?_
    obtain ⟨f1, f2, f3, f4⟩ := h7
    rw [ok_bind]
    refine (next_s f1 (n := 12) (by omega) (by omega) (by omega)).mono fun r8 h8 => ?_
    obtain ⟨g1, g2, g3, g4⟩ := h8
    have w1 : wu64 r7.2 = r7.2 := wu64_id (by omega) (by omega)
    have w2 : wu64 (1 + r7.2) = 1 + r7.2 := wu64_id (by omega) (by omega)
    rw [ok_sel]
    refine ⟨fun _ => c5 (g1.le (by omega)) (by omega) ⟨e3, by simp only; omega, by simp only; omega⟩ hi0, fun _ => c5 (g1.le (by omega)) (by omega) ⟨e3, ?_⟩ hi0⟩
    simp only [w1, w2]
    omega
  · have hi0 : ¬ 0 ≤ i := of_decide_eq_false h
    rw [ok_some, nxt_inr]
    exact ⟨hc.le (by omega), hlt, c0, c1, c2, c3, c4, ⟨by simp only; omega, by simp only; omega⟩, hall⟩
theorem txc1_s {L : List Int} {k q p : Int} {b : D_mempoolmake_Numbers} (hb : NumS L k b) (hq : q < b.2) (hk : k < 100000000000) (h0 : 0 ≤ k) (z0 z4 : List UInt8) (z1 z2 z3 : Int) {a0 a4 : List UInt8} {a1 a2 a3 : Int}
    (c0 : NameM a0) (c2 : 150 ≤ a2 ∧ a2 ≤ 350) (c1 : u64R a1) (c4 : MemoM a4) : Ok (F_mempoolmake_Tx_c1 p b z0 z1 z2 z3 z4 a0 a1 a2 a3 a4) fun r => NumS L (k + 20) r.1 ∧ q < r.1.2 ∧ TxM r.2 := by
  have hc2 : ∀ {y : D_mempoolmake_Numbers} {n : Int}, NumS L (k + 2) y → q < y.2 → u64R n → Ok (F_mempoolmake_Tx_c2 p y z0 z1 z2 z3 z4 a0 n a2 a3 a4) fun r => NumS L (k + 20) r.1 ∧ q < r.1.2 ∧ TxM r.2 := by
    intro y n hy hqy hn
    unfold F_mempoolmake_Tx_c2
    rw [ok_bind]
    refine (next_s hy (n := 5) (by omega) (by omega) (by omega)).mono fun r4 h4 => ?_
    obtain ⟨d1, d2, d3, d4⟩ := h4
    rw [ok_bind]
    refine (next_s d1 (n := 9) (by omega) (by omega) (by omega)).mono fun r9 h9 => ?_
    obtain ⟨e1, e2, e3, e4⟩ := h9
    rw [ok_sel]
    refine ⟨fun _ => ?_, fun _ => ?_⟩
    · rw [ok_bind]
      refine (next_s e1 (n := 200) (by omega) (by omega) (by omega)).mono fun r10 h10 => ?_
      obtain ⟨f1, f2, f3, f4⟩ := h10
      refine (txc3_s f1 (q := q) (by omega) (by omega) (by omega) z0 z4 z1 z2 z3 c0 hn c2 (wu64_range _) c4).mono fun r h => ?_
      exact ⟨h.1.le (by omega), h.2⟩
    · refine (txc3_s e1 (q := q) (by omega) (by omega) (by omega) z0 z4 z1 z2 z3 c0 hn c2 (wu64_range _) c4).mono fun r h => ?_
      exact ⟨h.1.le (by omega), h.2⟩
  unfold F_mempoolmake_Tx_c1
  rw [ok_bind]
  refine (next_s hb (n := 6) (by omega) (by omega) (by omega)).mono fun r11 h11 => ?_
  obtain ⟨d1, d2, d3, d4⟩ := h11
  rw [ok_sel]
  refine ⟨fun _ => ?_, fun _ => hc2 (d1.le (by omega)) (by omega) c1⟩
  rw [ok_bind]
  refine (next_s d1 (n := 3) (by omega) (by omega) (by omega)).mono fun r12 h12 => ?_
  exact hc2 (h12.1.le (by omega)) (by have := h12.2.1; omega) (wu64_range _)
/-- A transaction is made for a ledger. -/
theorem maketx_s {L : List Int} {k p : Int} {s : D_mempoolmake_Numbers} {g : D_api_Ledger} (hs : NumS L k s) (hk : k < 10000000000) (h0 : 0 ≤ k) (hg : g.1.length ≤ 1000) (ha : ∀ a ∈ g.1, AccM a) : Ok (F_mempoolmake_Tx s g p) fun r => NumS L (k + 30) r.1 ∧ s.2 < r.1.2 ∧ TxM r.2 := by
  unfold F_mempoolmake_Tx
  rw [ok_bind]
  refine (name_s hs (by omega) (by omega)).mono fun r1 h1 => ?_
  obtain ⟨a1, a2, a3⟩ := h1
  rw [ok_bind]
  refine (next_s a1 (n := 6) (by omega) (by omega) (by omega)).mono fun r2 h2 => ?_
  obtain ⟨b1, b2, b3, b4⟩ := h2
  rw [ok_bind]
  refine (memo_s b1 (by omega) (by omega)).mono fun r3 h3 => ?_
  obtain ⟨c1, c2, c3⟩ := h3
  have w1 : wu64 r2.2 = r2.2 := wu64_id (by omega) (by omega)
  have w2 : wu64 (r2.2 * 40) = r2.2 * 40 := wu64_id (by omega) (by omega)
  have w3 : wu64 (150 + r2.2 * 40) = 150 + r2.2 * 40 := wu64_id (by omega) (by omega)
  have gas : 150 ≤ wu64 (150 + wu64 (wu64 r2.2 * 40)) ∧ wu64 (150 + wu64 (wu64 r2.2 * 40)) ≤ 350 := by rw [w1, w2, w3]; omega
  have z : u64R 0 := ⟨by decide, by decide⟩
  have c6 : ∀ {y : D_mempoolmake_Numbers} {c : Bool}, NumS L (k + 4) y → s.2 < y.2 → (c = true → 0 < g.1.length) → Ok (F_mempoolmake_Tx_c6 p ((List.length g.1 : Nat) : Int) c y g [] (0 : Int) (0 : Int) (0 : Int) [] r1.2 (0 : Int) (wu64 (150 + (wu64 ((wu64 r2.2) * 40)))) (0 : Int) r3.2) fun r => NumS L (k + 30) r.1 ∧ s.2 < r.1.2 ∧ TxM r.2 := by
    intro y c hy hq hc
    unfold F_mempoolmake_Tx_c6
    rw [ok_sel]
    refine ⟨fun h => ?_, fun _ => ?_⟩
    · have hpos := hc h
      rw [ok_bind]
      refine (next_s hy (n := ((List.length g.1 : Nat) : Int)) (by omega) (by omega) (by omega)).mono fun r13 h13 => ?_
      obtain ⟨d1, d2, d3, d4⟩ := h13
      rw [ok_chk]
      refine ⟨decide_eq_true ⟨d3, d4⟩, ?_⟩
      have hm : List.getD g.1 (Int.toNat r13.2) d_api_Account ∈ g.1 := by
        rw [getD_lt (by omega)]; exact List.getElem_mem _
      have hacc := ha _ hm
      refine (txc1_s d1 (q := s.2) (by omega) (by omega) (by omega) [] [] 0 0 0 hacc.1 gas hacc.2.2 c3).mono fun r h => ?_
      exact ⟨h.1.le (by omega), h.2⟩
    · refine (txc1_s hy (q := s.2) (by omega) (by omega) (by omega) [] [] 0 0 0 a3 gas z c3).mono fun r h => ?_
      exact ⟨h.1.le (by omega), h.2⟩
  rw [ok_sel]
  refine ⟨fun h => ?_, fun _ => c6 (c1.le (by omega)) (by omega) (fun h => by cases h)⟩
  have hpos := of_decide_eq_true h
  rw [ok_bind]
  refine (next_s c1 (n := 8) (by omega) (by omega) (by omega)).mono fun r14 h14 => ?_
  exact c6 (h14.1.le (by omega)) (by have := h14.2.1; omega) (fun _ => by omega)
end Go.Proofs.YtgfmnpbcbpobbaaDoor.Am
