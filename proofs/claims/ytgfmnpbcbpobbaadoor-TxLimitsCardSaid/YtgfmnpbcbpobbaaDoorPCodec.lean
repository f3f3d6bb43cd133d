/- Transactions encoded and decoded, on plain data. No conditions. -/
import Derived.Test.YtgfmnpbcbpobbaaDoorPReadT
namespace Go.Proofs.YtgfmnpbcbpobbaaDoor.Am
open Go

theorem memoR_len {s : List UInt8} : ∀ (f p k : Nat), memoR s f p k = true → k ≤ 64 ∧ s.length ≤ p + 4 * (64 - k)
  | 0, p, k, h => by simp [memoR] at h
  | f + 1, p, k, h => by
    unfold memoR at h
    by_cases h1 : p < s.length
    · rw [if_pos h1] at h
      by_cases h2 : width s p = 0
      · rw [if_pos h2] at h; cases h
      · rw [if_neg h2] at h
        have ih := memoR_len f _ _ h
        have hw := width_le s p
        omega
    · rw [if_neg h1, decide_eq_true_eq] at h
      omega
theorem memo_len {s : List UInt8} (h : isMemo s = true) : s.length ≤ 260 := by
  have := (memoR_len _ _ _ h).2; omega
theorem name_len {s : List UInt8} (h : isName s = true) : s.length ≤ 20 := by
  unfold isName at h
  rw [Bool.and_eq_true, decide_eq_true_eq] at h
  exact h.2.2
def TxN (t : D_api_Tx) : Prop := u64R t.2.1 ∧ u64R t.2.2.1 ∧ u64R t.2.2.2.1 ∧ ∀ x ∈ t.2.2.2.2.2, u64R x.2
theorem validT_names : ∀ {l : List D_api_Transfer}, validT l = 0 → ∀ x ∈ l, x.1.length ≤ 20
  | x :: l, h, y, hy => by
    unfold validT at h
    by_cases h1 : isName x.1 = true
    · rw [if_pos h1] at h
      by_cases h2 : x.2 = 0
      · rw [if_pos h2] at h; cases h
      · rw [if_neg h2] at h
        rcases List.mem_cons.1 hy with rfl | hy
        · exact name_len h1
        · exact validT_names h y hy
    · rw [if_neg h1] at h; cases h
theorem valid_s {t : D_api_Tx} (h : validTx t = 0) (hn : TxN t) : TxS t ∧ t.2.2.2.2.2.length ≤ 16 := by
  obtain ⟨n1, n2, n3, n4⟩ := hn
  unfold validTx at h
  by_cases h1 : isName t.1 = true
  · rw [if_pos h1] at h
    by_cases h2 : t.2.2.1 = 0
    · rw [if_pos h2] at h; cases h
    · rw [if_neg h2] at h
      by_cases h3 : isMemo t.2.2.2.2.1 = true
      · rw [if_pos h3] at h
        by_cases h4 : t.2.2.2.2.2.length = 0
        · rw [if_pos h4] at h; cases h
        · rw [if_neg h4] at h
          by_cases h5 : 16 < t.2.2.2.2.2.length
          · rw [if_pos h5] at h; cases h
          · rw [if_neg h5] at h
            have q1 := name_len h1
            have q2 := memo_len h3
            exact ⟨⟨by omega, n1, n2, n3, by omega, by omega, fun x hx => ⟨by have := validT_names h x hx; omega, n4 x hx⟩⟩, by omega⟩
      · rw [if_neg h3] at h; cases h
  · rw [if_neg h1] at h; cases h
/-- 'Encode'. -/
def encT (t : D_api_Tx) : List UInt8 × Int := if validTx t = 0 then (if 4096 < (encs (txF t)).length then ([], 3) else (encs (txF t), 0)) else ([], validTx t)
theorem encode_tx {t : D_api_Tx} (hb : TxB t) (hn : TxN t) : F_tx_Encode t = some (encT t) := by
  rw [← ok_eq]
  unfold F_tx_Encode encT
  rw [valid_tx hb, Option.bind_some]
  by_cases h : validTx t = 0
  · have hs := (valid_s h hn).1
    rw [if_pos h]
    simp only [h, written_ok hs, ok_sel, ok_bind, ok_some, decide_eq_true_eq, decide_eq_false_iff_not, Bool.not_eq_true', Bool.not_eq_false']
    refine ⟨fun h => absurd trivial h, fun _ => ⟨fun h1 => ?_, fun h1 => ?_⟩⟩
    · rw [if_pos (by omega)]
    · rw [if_neg (by omega)]
  · rw [if_neg h]
    simp only [ok_sel, ok_bind, ok_some, decide_eq_true_eq, decide_eq_false_iff_not, Bool.not_eq_true', Bool.not_eq_false']
    exact ⟨fun _ => trivial, fun e => absurd e h⟩
theorem encode_ref {t : D_api_Tx} (hb : TxB t) (hn : TxN t) : F_mempoolref10_EncodeTx t = some (encT t) := by
  rw [← ok_eq]
  unfold F_mempoolref10_EncodeTx encT
  rw [valid_ref hb, Option.bind_some]
  by_cases h : validTx t = 0
  · have hs := (valid_s h hn).1
    rw [if_pos h]
    simp only [h, form_ok hs, ok_sel, ok_bind, ok_some, decide_eq_true_eq, decide_eq_false_iff_not, Bool.not_eq_true', Bool.not_eq_false']
    refine ⟨fun h => absurd trivial h, fun _ => ⟨fun h1 => ?_, fun h1 => ?_⟩⟩
    · rw [if_pos (by omega)]
    · rw [if_neg (by omega)]
  · rw [if_neg h]
    simp only [ok_sel, ok_bind, ok_some, decide_eq_true_eq, decide_eq_false_iff_not, Bool.not_eq_true', Bool.not_eq_false']
    exact ⟨fun _ => trivial, fun e => absurd e h⟩
theorem encT_ok {t : D_api_Tx} (h : (encT t).2 = 0) : validTx t = 0 ∧ (encT t).1 = encs (txF t) ∧ (encs (txF t)).length ≤ 4096 := by
  unfold encT at h ⊢
  by_cases h1 : validTx t = 0
  · rw [if_pos h1] at h ⊢
    by_cases h2 : 4096 < (encs (txF t)).length
    · rw [if_pos h2] at h; cases h
    · rw [if_neg h2]; exact ⟨h1, rfl, by omega⟩
  · rw [if_neg h1] at h; exact absurd h h1
theorem decode_written {t : D_api_Tx} (hb : TxB t) (hn : TxN t) (h : validTx t = 0) (hl : (encs (txF t)).length ≤ 4096) : F_tx_Decode (encs (txF t)) = some (t, 0) := by
  rw [← ok_eq]
  obtain ⟨hs, h16⟩ := valid_s h hn
  have hf := fields_flds (encs (txF t)) (by omega)
  rw [flds_txF hs (by omega)] at hf
  have hlen : (txF t).length ≤ 2000 := by unfold txF; rw [List.length_append, List.length_map]; have := hdF_len t; omega
  have hr := read_ok (txF t) hlen (fun f hf => by have := (txF_s hs f hf).2.2; omega)
  rw [txOf_back hs] at hr
  simp only [F_tx_Decode, hf, hr, written_ok hs, F_bytes_Equal, valid_tx hb, h, ok_sel, ok_bind, ok_some, decide_eq_true_eq, decide_eq_false_iff_not, Bool.not_eq_true', Bool.not_eq_false']
  refine ⟨fun h => absurd h (by omega), fun _ => ⟨fun h => absurd rfl h, fun _ => ⟨fun h => absurd trivial h, fun _ => ⟨fun h => absurd trivial h, fun _ => trivial⟩⟩⟩⟩
theorem sametx_self {t : D_api_Tx} (hb : TxB t) : F_mempoolref10_SameTx t t = some true := by
  rw [← ok_eq]
  have hl := hb.2.2.1
  simp only [F_mempoolref10_SameTx, ok_sel, ok_some, decide_eq_true_eq, decide_eq_false_iff_not, Bool.not_eq_true', Bool.not_eq_false']
  refine ⟨fun h => absurd trivial h, fun _ => ⟨fun h => absurd trivial h, fun _ => ⟨fun h => absurd trivial h, fun _ => ⟨fun h => absurd trivial h, fun _ => ⟨fun h => absurd trivial h, fun _ => ⟨fun h => absurd trivial h, fun _ => ?_⟩⟩⟩⟩⟩⟩
  unfold F_mempoolref10_SameTx_l1s
  refine ok_range t.2.2.2.2.2 (fun i (_ : Unit) => (((t.2.2.2.2.2.length : Nat) : Int), ((i : Nat) : Int), t, t)) (fun _ _ => True) (fun i _ hi _ => ?_) (fun _ _ => ?_) (b0 := ()) trivial (by omega)
  · have hq : U.beq U_api_Transfer (List.getD t.2.2.2.2.2 i d_api_Transfer) (List.getD t.2.2.2.2.2 i d_api_Transfer) = true := (U.beq_iff U_api_Transfer _ rfl _ _).2 rfl
    simp only [F_mempoolref10_SameTx_l1, ok_sel, ok_chk, ok_some, nxt_inl, nxt_inr, decide_eq_true_eq, decide_eq_false_iff_not, Bool.not_eq_true', Bool.not_eq_false', Int.toNat_natCast, hq, wi_succ (i := i) (by omega)]
    exact ⟨fun _ => ⟨by omega, by omega, fun h => (by cases h), fun _ => ⟨(), trivial, trivial⟩⟩, fun hc => absurd hc (by omega)⟩
  · simp only [F_mempoolref10_SameTx_l1, ok_sel, ok_chk, ok_some, nxt_inl, nxt_inr, decide_eq_true_eq, decide_eq_false_iff_not, Bool.not_eq_true', Bool.not_eq_false', Int.toNat_natCast]
    exact ⟨fun hc => absurd hc (by omega), fun _ => trivial⟩
end Go.Proofs.YtgfmnpbcbpobbaaDoor.Am
