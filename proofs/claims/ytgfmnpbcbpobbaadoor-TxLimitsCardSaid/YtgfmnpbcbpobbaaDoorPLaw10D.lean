/- Law 10, decoding, on plain data. No conditions. -/
import Derived.Test.YtgfmnpbcbpobbaaDoorPDec2
import Derived.Test.YtgfmnpbcbpobbaaDoorFAllKmempoollaw10
namespace Go.Proofs.YtgfmnpbcbpobbaaDoor.Am
open Go

theorem TxM.s {t : D_api_Tx} (h : TxM t) : TxS t := by
  obtain ⟨h1, h2, h3, h4, h5, h6, h7⟩ := h
  exact ⟨by have := h1.2; omega, h2, ⟨by omega, by omega⟩, h4, by have := h5.2; omega, by omega, fun x hx => by have := h7 x hx; exact ⟨by have := this.1.2; omega, ⟨by have := this.2; omega, by have := this.2; omega⟩⟩⟩
theorem txF_le {t : D_api_Tx} (h : TxS t) {n : Nat} (hn : t.2.2.2.2.2.length ≤ n) : (encs (txF t)).length ≤ (n + 5) * 20060 := by
  have h1 := encs_le (by omega) (txF_s h)
  have h2 := hdF_len t
  have h3 : (txF t).length ≤ n + 5 := by unfold txF; rw [List.length_append, List.length_map]; omega
  exact Nat.le_trans h1 (Nat.mul_le_mul h3 (Nat.le_refl _))
theorem made_ss {L : List Int} {t : D_api_Tx} (hs : TxS t) (h5 : t.2.2.2.2.2.length ≤ 100) : Ok (F_mempoollaw10_made L t) fun r => TxM r.1 ∧ TxS r.2 ∧ r.2.2.2.2.2.2.length ≤ 200 := by
  unfold F_mempoollaw10_made
  rw [from_ok, Option.bind_some, ok_bind]
  refine (accounts_s (numS0 L) (by omega) (by omega)).mono fun r2 h2 => ?_
  obtain ⟨a1, a2, a3⟩ := h2
  rw [ok_bind]
  refine (maketx_s (p := 1) (g := (r2.2, (0 : Int))) a1 (by omega) (by omega) (by have := a3.1; simp only; omega) a3.2).mono fun r3 h3 => ?_
  obtain ⟨b1, b2, b3⟩ := h3
  rw [ok_bind]
  refine (next_s b1 (n := 8) (by omega) (by omega) (by omega)).mono fun r4 h4 => ?_
  obtain ⟨c1, c2, c3, c4⟩ := h4
  have hM := b3
  have hlen3 := b3.2.2.2.2.2.1
  obtain ⟨e1, e2, e3, e4, e5, e6, e7⟩ := b3.s
  obtain ⟨f1, f2, f3, f4, f5, f6, f7⟩ := hs
  simp only [ok_sel, ok_chk, ok_bind, ok_some, decide_eq_true_eq, decide_eq_false_iff_not]
  refine ⟨fun _ => ⟨hM, ⟨f1, e2, e3, e4, e5, e6, e7⟩, by first | omega | (dsimp only; omega)⟩, fun _ => ⟨fun _ => ⟨hM, ⟨e1, f2, e3, e4, e5, e6, e7⟩, by first | omega | (dsimp only; omega)⟩, fun _ => ⟨fun _ => ?_, fun _ => ⟨fun _ => ⟨hM, ⟨e1, e2, e3, e4, f5, e6, e7⟩, by first | omega | (dsimp only; omega)⟩, fun _ => ⟨fun _ => ⟨hM, ⟨e1, e2, e3, e4, e5, f6, f7⟩, by first | omega | (dsimp only; omega)⟩, fun _ => ⟨fun _ => ?_, fun _ => ⟨fun _ => ?_, fun _ => ⟨hM, ⟨e1, e2, e3, f4, e5, e6, e7⟩, by first | omega | (dsimp only; omega)⟩⟩⟩⟩⟩⟩⟩⟩
  · refine (next_s c1 (n := 2) (by omega) (by omega) (by omega)).mono fun r5 h5 => ?_
    exact ⟨hM, ⟨e1, e2, wu64_range _, e4, e5, e6, e7⟩, by first | omega | (dsimp only; omega)⟩
  · refine ⟨⟨by unfold LIM; omega, by unfold LEN; omega⟩, ⟨by unfold LIM; omega, by unfold LEN; omega⟩, hM, ⟨e1, e2, e3, e4, e5, by simp only [List.length_append]; omega, fun x hx => ?_⟩, by simp only [List.length_append]; omega⟩
    rcases List.mem_append.1 hx with hx | hx
    · exact e7 x hx
    · exact f7 x hx
  · refine ⟨⟨by unfold LIM; omega, by unfold LEN; omega⟩, ⟨by unfold LIM; omega, by unfold LEN; omega⟩, hM, ⟨e1, e2, e3, e4, e5, by simp only [List.length_append, List.length_cons, List.length_nil]; omega, fun x hx => ?_⟩, by simp only [List.length_append, List.length_cons, List.length_nil]; omega⟩
    rcases List.mem_append.1 hx with hx | hx
    · exact e7 x hx
    · simp only [List.mem_singleton] at hx; subst hx; exact ⟨by simp, by decide, by decide⟩
theorem zero_s : TxS zeroTx := ⟨by simp [zeroTx], ⟨by decide, by decide⟩, ⟨by decide, by decide⟩, ⟨by decide, by decide⟩, by simp [zeroTx], by simp [zeroTx], by simp [zeroTx]⟩
theorem decT_s (raw : List UInt8) : TxS (decT raw).1 := by
  unfold decT
  split
  · exact zero_s
  · rename_i h
    have hs := raw_s (raw := raw) (by omega)
    split
    · exact zero_s
    · split
      · split
        · exact hs
        · exact zero_s
      · exact zero_s
theorem decT_ok {raw : List UInt8} (h : (decT raw).2 = 0) : validTx (decT raw).1 = 0 ∧ encs (txF (decT raw).1) = raw ∧ raw.length ≤ 4096 := by
  unfold decT at h ⊢
  by_cases h1 : 4096 < raw.length
  · rw [if_pos h1] at h; cases h
  · rw [if_neg h1] at h ⊢
    by_cases h2 : (flds raw).2.2 ≠ 0
    · rw [if_pos h2] at h; cases h
    · rw [if_neg h2] at h ⊢
      by_cases h3 : encs (txF (txOf (flds raw).1)) = raw
      · rw [if_pos h3] at h ⊢
        by_cases h4 : validTx (txOf (flds raw).1) = 0
        · rw [if_pos h4]; exact ⟨h4, h3, by omega⟩
        · rw [if_neg h4] at h; exact absurd h h4
      · rw [if_neg h3] at h; cases h
theorem decT_enc {raw : List UInt8} (h : (decT raw).2 = 0) : encT (decT raw).1 = (raw, 0) := by
  obtain ⟨h1, h2, h3⟩ := decT_ok h
  unfold encT
  rw [if_pos h1, h2, if_neg (by omega)]
theorem decodes_l3 (L : List (List UInt8)) (hL : L.length = 5) (h : ∀ x ∈ L, x.length ≤ 10000000) : Ok (F_mempoollaw10_TxDecodes_l3s 5 0 L) (· = true) := by
  unfold F_mempoollaw10_TxDecodes_l3s
  refine ok_range L (fun i (_ : Unit) => (5, ((i : Nat) : Int), L)) (fun i _ => i ≤ 5) (fun i _ hi hv => ?_) (fun _ hv => ?_) (b0 := ()) (by omega) (by omega)
  · have hx : List.getD L i [] ∈ L := by rw [getD_lt hi]; exact List.getElem_mem hi
    have hl := h _ hx
    generalize hq : List.getD L i [] = x at *
    have hs := decT_s x
    have he : (decT x).2 = 0 → encT (decT x).1 = (x, 0) := decT_enc
    simp only [F_mempoollaw10_TxDecodes_l3, ok_sel, ok_chk, ok_bind, ok_some, ok_map, nxt_inl, nxt_inr, decide_eq_true_eq, decide_eq_false_iff_not, Bool.not_eq_true', Bool.not_eq_false', Int.toNat_natCast, hq, decode_tx hl, decode_ref hl, F_mempoolref1_SameBytes, sametx_self hs.b, encode_tx hs.b hs.n, wi_succ (i := i) (by omega)]
    refine ⟨fun _ => ⟨by omega, by omega, fun h => absurd trivial h, fun _ => ⟨fun h => (by cases h), fun _ => ⟨fun e => ?_, fun _ => ⟨(), trivial, by omega⟩⟩⟩⟩, fun hc => absurd hc (by omega)⟩
    rw [he e]
    exact ⟨fun h => absurd rfl h, fun _ => ⟨fun h => absurd rfl h, fun _ => ⟨(), trivial, by omega⟩⟩⟩
  · simp only [F_mempoollaw10_TxDecodes_l3, ok_sel, ok_chk, ok_bind, ok_some, ok_map, nxt_inl, nxt_inr, decide_eq_true_eq, decide_eq_false_iff_not, Bool.not_eq_true', Bool.not_eq_false', Int.toNat_natCast, hL]
    refine ⟨fun h => absurd h (by omega), fun _ => ?_⟩
    rw [T_mempoollaw10_known, ok_some]
theorem decodes_c2 {v l0 l1 l2 : List UInt8} (h0 : v.length ≤ 300) (h1 : l0.length ≤ 200000) (h2 : l1.length ≤ 5000000) (h3 : l2.length ≤ 500000) (h4 : l1.length ≤ 5000000) : Ok (F_mempoollaw10_TxDecodes_c2 v l0 l1 l2) (· = true) := by
  simp only [F_mempoollaw10_TxDecodes_c2, ok_chk, decide_eq_true_eq]
  refine ⟨⟨by unfold LIM; omega, by unfold LEN; omega⟩, ⟨by unfold LIM; omega, by unfold LEN; omega⟩, ?_⟩
  refine decodes_l3 _ rfl fun x hx => ?_
  simp only [List.mem_cons, List.not_mem_nil, or_false] at hx
  rcases hx with rfl | rfl | rfl | rfl | rfl
  · omega
  · omega
  · omega
  · omega
  · rw [List.length_append]; omega
theorem bits_u8' (op : BinOp) (a b : Int) : 0 ≤ bits op .u8 a b ∧ bits op .u8 a b < 256 := by
  unfold bits
  rw [IntKind.wrap_u8]
  omega
theorem decodes_c1 {v l0 l1 l2 : List UInt8} {a : UInt8} {k : Int} (h0 : v.length ≤ 300) (h1 : l0.length ≤ 200000) (h3 : l2.length ≤ 250000) (h4 : l1.length ≤ 5000000) (hk : 0 ≤ k) (hk2 : k ≤ 300000) : Ok (F_mempoollaw10_TxDecodes_c1 v a k l0 l1 l2) (· = true) := by
  have hb := bits_u8' .and ((UInt8.toNat a : Nat) : Int) 1
  generalize hq : bits .and .u8 ((UInt8.toNat a : Nat) : Int) 1 = q at *
  have e1 : wi64 q = q := by rw [wi64_id] <;> omega
  have e2 : wi64 (k + q) = k + q := by rw [wi64_id] <;> omega
  simp only [F_mempoollaw10_TxDecodes_c1, ok_sel, ok_chk, decide_eq_true_eq, decide_eq_false_iff_not, Int.toNat_natCast, hq, e1, e2, List.take_length, List.length_drop]
  refine ⟨fun _ => ⟨by omega, ⟨by unfold LIM; omega, by unfold LEN; omega⟩, ?_⟩, fun _ => decodes_c2 h0 h1 h4 (by omega) h4⟩
  exact decodes_c2 h0 h1 h4 (by rw [List.length_append, List.length_drop]; omega) h4
theorem decodes_true (a0 : List UInt8) (a1 : List Int) (a2 : Int) (a3 a4 : UInt8) (_w0 : wfU (.sl .byte) a0) (w1 : wfU (.sl (.int .i64)) a1) (w2 : wfU (.int .u16) a2) (_w3 : wfU .byte a3) (_w4 : wfU .byte a4)
    (_z0 : szU (.sl .byte) a0) (_z1 : szU (.sl (.int .i64)) a1) (_z2 : szU (.int .u16) a2) (_z3 : szU .byte a3) (_z4 : szU .byte a4) : F_mempoollaw10_TxDecodes a0 a1 a2 a3 a4 = some true := by
  rw [← ok_eq]
  have hl : a1.length ≤ maxLen := w1.1
  have hr : 0 ≤ a2 ∧ a2 ≤ 65535 := by
    have h : inK .u16 a2 := w2
    unfold inK at h
    simp [IntKind.min, IntKind.max, IntKind.signed, IntKind.bits] at h
    omega
  unfold F_mempoollaw10_TxDecodes
  rw [long10 hl, Option.bind_some, ok_sel]
  refine ⟨fun _ => by rw [T_mempoollaw10_known]; exact ⟨true, rfl, rfl⟩, fun _ => ?_⟩
  rw [ok_sel]
  refine ⟨fun _ => by rw [T_mempoollaw10_known]; exact ⟨true, rfl, rfl⟩, fun h300 => ?_⟩
  have h300 := of_decide_eq_false h300
  rw [ok_bind]
  have hts : TxS (([], (0 : Int), (0 : Int), 7, [], []) : D_api_Tx) := ⟨by simp, ⟨by decide, by decide⟩, ⟨by decide, by decide⟩, ⟨by decide, by decide⟩, by simp, by simp, by simp⟩
  refine (made_ss hts (by simp)).mono fun r4 h4 => ?_
  obtain ⟨m1, m2, m3⟩ := h4
  have hA := txF_le m1.s (n := 3) (by have := m1.2.2.2.2.2.1; omega)
  have hB' := encs_le (by omega) (txF_s m2)
  have hB : (encs (txF r4.2)).length ≤ 5000000 := by
    have := txF_le m2 (n := 200) m3
    omega
  rw [form_ok m1.s, form_ok m2, Option.bind_some, Option.bind_some]
  generalize encs (txF r4.1) = A at *
  generalize encs (txF r4.2) = B at *
  have e1 : wi64 (((A.length : Nat) : Int) + 1) = A.length + 1 := by rw [wi64_id] <;> omega
  have e2 : wi64 a2 = a2 := by rw [wi64_id] <;> omega
  have e3 : Int.tmod a2 ((A.length : Int) + 1) = a2 % (A.length + 1) := Int.tmod_eq_emod_of_nonneg hr.1
  have e4 := Int.emod_nonneg a2 (show ((A.length : Int) + 1) ≠ 0 by omega)
  have e5 := Int.emod_lt_of_pos a2 (show (0 : Int) < (A.length : Int) + 1 by omega)
  simp only [ok_sel, ok_chk, decide_eq_true_eq, decide_eq_false_iff_not, Bool.not_eq_true', e1, e2, e3]
  generalize a2 % ((A.length : Int) + 1) = k at *
  refine ⟨by omega, by omega, ⟨by unfold LIM; rw [List.length_take]; omega, by unfold LEN; rw [List.length_take]; omega⟩, fun _ => ⟨⟨by unfold LIM; rw [List.length_take]; omega, by unfold LEN; rw [List.length_take]; omega⟩, ?_⟩, fun _ => ?_⟩
  · exact decodes_c1 (by omega) (by omega) (by rw [List.length_append, List.length_take]; simp only [List.length_cons, List.length_nil]; omega) hB e4 (by omega)
  · exact decodes_c1 (by omega) (by omega) (by rw [List.length_take]; omega) hB e4 (by omega)
end Go.Proofs.YtgfmnpbcbpobbaaDoor.Am
