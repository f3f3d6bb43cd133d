/- Accounts that are made of numbers. No conditions. -/
import Derived.Test.YtfaceeglocjkbaaPNum
import Derived.Test.YtfaceeglocjkbaaPName
namespace Go.Proofs.Ytfaceeglocjkbaa.Am
open Go

def u64R (n : Int) : Prop := 0 ≤ n ∧ n < 18446744073709551616
def NameM (s : List UInt8) : Prop := isName s = true ∧ s.length ≤ 3
theorem name_s {L : List Int} {k : Int} {s : D_mempoolmake_Numbers} (hs : NumS L k s) (hk : k < 1000000000000) (h0 : 0 ≤ k) : Ok (F_mempoolmake_Name s) fun r => NumS L (k + 1) r.1 ∧ s.2 < r.1.2 ∧ NameM r.2 := by
  unfold F_mempoolmake_Name
  rw [ok_bind]
  refine (next_s hs (n := 6) (by omega) (by omega) (by omega)).mono fun r h => ?_
  obtain ⟨a1, a2, a3, a4⟩ := h
  simp only [ok_chk, ok_some, decide_eq_true_eq]
  refine ⟨⟨a3, a4⟩, by omega, a1, a2, ?_⟩
  obtain ⟨n, hn⟩ : ∃ n : Nat, Int.toNat r.2 = n := ⟨_, rfl⟩
  have hn6 : n < 6 := by omega
  rw [hn]
  match n, hn6 with
  | 0, _ | 1, _ | 2, _ | 3, _ | 4, _ | 5, _ => exact ⟨by decide, by decide⟩
def AccM (a : D_api_Account) : Prop := NameM a.1 ∧ u64R a.2.1 ∧ u64R a.2.2
def AccsM (l : List D_api_Account) : Prop := l.length ≤ 4 ∧ ∀ a ∈ l, AccM a
theorem accs_snoc {l : List D_api_Account} {a : D_api_Account} {n : Nat} (h : l.length ≤ n ∧ ∀ a ∈ l, AccM a) (ha : AccM a) : (l ++ [a]).length ≤ n + 1 ∧ ∀ x ∈ l ++ [a], AccM x := by
  refine ⟨by simp; omega, fun x hx => ?_⟩
  rcases List.mem_append.1 hx with hx | hx
  · exact h.2 x hx
  · simp only [List.mem_singleton] at hx; subst hx; exact ha
theorem acc_name (n : Nat) (h : n < 4) : NameM (List.getD [[(97 : UInt8), (110 : UInt8), (110 : UInt8)], [(98 : UInt8), (111 : UInt8), (98 : UInt8)], [(101 : UInt8), (118 : UInt8), (101 : UInt8)], [(122 : UInt8), (111 : UInt8), (101 : UInt8)]] n []) := by
  match n, h with
  | 0, _ | 1, _ | 2, _ | 3, _ => exact ⟨by decide, by decide⟩
theorem acc_bal (n : Nat) (h : n < 5) : u64R (List.getD [100000, 5000, 700, 0, 1099511627776] n (0 : Int)) := by
  match n, h with
  | 0, _ | 1, _ | 2, _ | 3, _ | 4, _ => exact ⟨by decide, by decide⟩
theorem acc_seq (n : Nat) (h : n < 3) : u64R (List.getD [5, 18446744073709551615, 18446744073709551614] n (0 : Int)) := by
  match n, h with
  | 0, _ | 1, _ | 2, _ => exact ⟨by decide, by decide⟩
theorem accounts_s {L : List Int} {k : Int} {s : D_mempoolmake_Numbers} (hs : NumS L k s) (hk : k < 1000000000000) (h0 : 0 ≤ k) : Ok (F_mempoolmake_Accounts s) fun r => NumS L (k + 13) r.1 ∧ s.2 < r.1.2 ∧ AccsM r.2 := by
  unfold F_mempoolmake_Accounts
  rw [ok_bind]
  refine (next_s hs (n := 4) (by omega) (by omega) (by omega)).mono fun r h => ?_
  obtain ⟨a1, a2, a3, a4⟩ := h
  unfold F_mempoolmake_Accounts_l1s
  refine ok_iter (S := Int × D_mempoolmake_Numbers × List D_api_Account) (inv := fun v => ∃ n : Nat, n ≤ 4 ∧ -1 ≤ v.1 ∧ v.1 + n ≤ 3 ∧ NumS L (k + 1 + 3 * n) v.2.1 ∧ s.2 < v.2.1.2 ∧ v.2.2.length ≤ n ∧ ∀ a ∈ v.2.2, AccM a) (m := fun v => (v.1 + 1).toNat) ?_ ⟨0, by omega, by simp only; omega, by simp only; omega, a1.le (by omega), a2, by simp, by simp⟩ (by simp only; omega)
  rintro ⟨i, b, l⟩ ⟨n, hn, hi, hin, hb, hlt, hl, hall⟩
  simp only at hi hin hb hlt hl hall
  simp only [F_mempoolmake_Accounts_l1, ok_sel, ok_chk, ok_bind, ok_some, nxt_inl, nxt_inr, decide_eq_true_eq, decide_eq_false_iff_not]
  refine ⟨fun hi0 => ⟨by omega, by omega, ?_⟩, fun _ => ⟨hb.le (by omega), hlt, by omega, hall⟩⟩
  have hw : wi64 (i - 1) = i - 1 := by rw [wi64_id] <;> omega
  refine (next_s hb (n := 5) (by omega) (by omega) (by omega)).mono fun r2 h2 => ?_
  obtain ⟨b1, b2, b3, b4⟩ := h2
  refine ⟨⟨b3, b4⟩, by omega, ?_⟩
  refine (next_s b1 (n := 6) (by omega) (by omega) (by omega)).mono fun r3 h3 => ?_
  obtain ⟨c1, c2, c3, c4⟩ := h3
  refine ⟨fun _ => ?_, fun _ => ⟨⟨by unfold LIM; omega, by unfold LEN; omega⟩, ?_⟩⟩
  · refine (next_s c1 (n := 3) (by omega) (by omega) (by omega)).mono fun r4 h4 => ?_
    obtain ⟨d1, d2, d3, d4⟩ := h4
    refine ⟨⟨d3, d4⟩, by omega, ⟨by unfold LIM; omega, by unfold LEN; omega⟩, ?_⟩
    rw [hw]
    have q := accs_snoc (n := n) ⟨hl, hall⟩ (a := (_, _, _)) ⟨acc_name (Int.toNat i) (by omega), acc_bal (Int.toNat r2.2) (by omega), acc_seq (Int.toNat r4.2) (by omega)⟩
    exact ⟨⟨n + 1, by omega, by omega, by omega, d1.le (by omega), by omega, q.1, q.2⟩, by omega⟩
  · rw [hw]
    have q := accs_snoc (n := n) ⟨hl, hall⟩ (a := (_, _, _)) ⟨acc_name (Int.toNat i) (by omega), acc_bal (Int.toNat r2.2) (by omega), (⟨by decide, by decide⟩ : u64R 0)⟩
    exact ⟨⟨n + 1, by omega, by omega, by omega, c1.le (by omega), by omega, q.1, q.2⟩, by omega⟩
end Go.Proofs.Ytfaceeglocjkbaa.Am
