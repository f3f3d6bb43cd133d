/- Law 10, limits, on plain data. No conditions. -/
import Derived.Test.YtgfmnpbcbpobbaaDoorPLaw10D
namespace Go.Proofs.YtgfmnpbcbpobbaaDoor.Am
open Go

theorem beqB_self' (b : Bool) : beqB b b = true := by cases b <;> rfl
def bobs (n : Nat) : List D_api_Transfer := List.replicate n ([(98 : UInt8), (111 : UInt8), (98 : UInt8)], 9223372036854775808)
def grin : List UInt8 := [240, 159, 152, 128]
def grins : Nat → List UInt8
  | 0 => []
  | n + 1 => grins n ++ grin
theorem grins_len : ∀ n, (grins n).length = 4 * n
  | 0 => rfl
  | n + 1 => by rw [grins, List.length_append, grins_len n]; simp [grin]; omega
theorem grins_head : ∀ n, grins (n + 1) = grin ++ grins n
  | 0 => rfl
  | n + 1 => by
    show grins (n + 1) ++ grin = grin ++ (grins n ++ grin)
    rw [grins_head n, List.append_assoc]
theorem width_app (a b : List UInt8) (p : Nat) : width (a ++ b) (a.length + p) = width b p := by
  have hb : ∀ j, byt (a ++ b) (a.length + p + j) = byt b (p + j) := fun j => by
    unfold byt
    rw [List.getD_eq_getElem?_getD, List.getD_eq_getElem?_getD, show a.length + p + j = a.length + (p + j) by omega, List.getElem?_append_right (by omega), Nat.add_sub_cancel_left]
  rw [width_rune, width_rune, hb 1, hb 2, hb 3]
  have h0 := hb 0
  simp only [Nat.add_zero] at h0
  rw [h0, List.length_append, show a.length + b.length - (a.length + p) = b.length - p by omega]
theorem width_grin (n : Nat) : width (grins (n + 1)) 0 = 4 := by
  rw [grins_head, width_rune]
  have hl : (grin ++ grins n).length - 0 = 4 + 4 * n := by rw [List.length_append, grins_len]; simp [grin]
  have b0 : byt (grin ++ grins n) 0 = 240 := rfl
  have b1 : byt (grin ++ grins n) (0 + 1) = 159 := rfl
  have b2 : byt (grin ++ grins n) (0 + 2) = 152 := rfl
  have b3 : byt (grin ++ grins n) (0 + 3) = 128 := rfl
  rw [hl, b0, b1, b2, b3]
  unfold runeN fol
  rw [if_neg (by omega), if_neg (by omega), if_neg (by omega), if_pos (by omega), if_neg (by omega)]
theorem memoR_grins : ∀ (m n f k : Nat) (a : List UInt8), a.length = 4 * m → 4 * n < f → memoR (a ++ grins n) f (4 * m) k = decide (k + n ≤ 64)
  | m, 0, f, k, a, ha, hf => by
    cases f with
    | zero => omega
    | succ f =>
      unfold memoR
      rw [if_neg (by rw [List.length_append]; simp [grins]; omega)]
      simp
  | m, n + 1, f, k, a, ha, hf => by
    cases f with
    | zero => omega
    | succ f =>
      have hw : width (a ++ grins (n + 1)) (4 * m) = 4 := by
        have := width_app a (grins (n + 1)) 0
        rw [ha] at this
        have h2 : width (a ++ grins (n + 1)) (4 * m) = width (grins (n + 1)) 0 := this
        rw [h2, width_grin]
      unfold memoR
      rw [if_pos (by rw [List.length_append, grins_len]; omega), hw, if_neg (by omega), show 4 * m + 4 = 4 * (m + 1) by omega, grins_head, ← List.append_assoc]
      rw [memoR_grins (m + 1) n f (k + 1) (a ++ grin) (by rw [List.length_append, ha]; simp [grin]; omega) (by omega)]
      rw [decide_eq_decide]; omega
theorem memo_grins (n : Nat) : isMemo (grins n) = decide (n ≤ 64) := by
  have := memoR_grins 0 n ((grins n).length + 1) 0 [] rfl (by rw [grins_len]; omega)
  unfold isMemo
  rw [List.nil_append, Nat.mul_zero, Nat.zero_add] at this
  exact this
theorem validT_bobs : ∀ n, validT (bobs n) = 0
  | 0 => rfl
  | n + 1 => by
    unfold bobs
    rw [List.replicate_succ]
    unfold validT
    rw [if_pos (by decide), if_neg (by decide)]
    exact validT_bobs n
def limTx (n m : Nat) : D_api_Tx := ([(97 : UInt8), (110 : UInt8), (110 : UInt8)], (0 : Int), 1, (0 : Int), grins m, bobs n)
theorem bobs_len (n : Nat) : (bobs n).length = n := by simp [bobs]
theorem bobs_mem {n : Nat} {x : D_api_Transfer} (h : x ∈ bobs n) : x = ([(98 : UInt8), (111 : UInt8), (98 : UInt8)], 9223372036854775808) := List.eq_of_mem_replicate h
theorem u0 : u64R 0 := ⟨by decide, by decide⟩
theorem u1 : u64R 1 := ⟨by decide, by decide⟩
theorem limTx_s {n m : Nat} (hn : n ≤ 20) (hm : m ≤ 100) : TxS (limTx n m) := by
  refine ⟨by simp [limTx], u0, u1, u0, ?_, ?_, fun x hx => ?_⟩
  · show (grins m).length ≤ 10000
    rw [grins_len]; omega
  · show (bobs n).length ≤ 2000
    rw [bobs_len]; omega
  · rw [bobs_mem hx]; exact ⟨by decide, by decide, by decide⟩
theorem limTx_valid {n m : Nat} (h1 : 1 ≤ n) : (validTx (limTx n m) = 0 ↔ n ≤ 16 ∧ m ≤ 64) := by
  unfold validTx
  have e1 : isName (limTx n m).1 = true := by show isName [(97 : UInt8), (110 : UInt8), (110 : UInt8)] = true; decide
  have e2 : (limTx n m).2.2.1 = 1 := rfl
  have e3 : isMemo (limTx n m).2.2.2.2.1 = decide (m ≤ 64) := memo_grins m
  have e4 : (limTx n m).2.2.2.2.2.length = n := bobs_len n
  have e5 : validT (limTx n m).2.2.2.2.2 = 0 := validT_bobs n
  rw [if_pos e1, e2, if_neg (show ¬ ((1 : Int) = 0) by decide), e3, e4, e5, if_neg (show ¬ n = 0 by omega)]
  by_cases hm : m ≤ 64
  · rw [if_pos (decide_eq_true hm)]
    by_cases hn : 16 < n
    · rw [if_pos hn]; exact ⟨(fun h => by cases h), fun h => by omega⟩
    · rw [if_neg hn]; exact ⟨fun _ => by omega, fun _ => rfl⟩
  · rw [if_neg (by simpa using hm)]
    exact ⟨(fun h => by cases h), fun h => by omega⟩
theorem limTx_size {n m : Nat} (hn : n ≤ 16) (hm : m ≤ 64) : (encs (txF (limTx n m))).length ≤ 4096 := by
  have hhd : (encs (hdF (limTx n m))).length ≤ 400 := by
    have s1 : ∀ f ∈ fStr 1 (limTx n m).1, FldS 3 f := fStr_s (by omega) (by omega) (by simp [limTx])
    have s2 : ∀ f ∈ fNum 2 (limTx n m).2.1, FldS 0 f := fNum_s (by omega) (by omega) u0
    have s3 : ∀ f ∈ fNum 3 (limTx n m).2.2.1, FldS 0 f := fNum_s (by omega) (by omega) u1
    have s4 : ∀ f ∈ fNum 4 (limTx n m).2.2.2.1, FldS 0 f := fNum_s (by omega) (by omega) u0
    have s5 : ∀ f ∈ fStr 5 (limTx n m).2.2.2.2.1, FldS 256 f := fStr_s (by omega) (by omega) (by show (grins m).length ≤ 256; rw [grins_len]; omega)
    have b1 := encs_le (by omega) s1
    have b2 := encs_le (by omega) s2
    have b3 := encs_le (by omega) s3
    have b4 := encs_le (by omega) s4
    have b5 := encs_le (by omega) s5
    have c1 := fStr_len 1 (limTx n m).1
    have c2 := fNum_len 2 (limTx n m).2.1
    have c3 := fNum_len 3 (limTx n m).2.2.1
    have c4 := fNum_len 4 (limTx n m).2.2.2.1
    have c5 := fStr_len 5 (limTx n m).2.2.2.2.1
    unfold hdF
    simp only [encs_app, List.length_append]
    omega
  have htr : ∀ k, (encs ((bobs k).map trFld)).length ≤ k * 100 := by
    intro k
    have hin : (encs (trF ([(98 : UInt8), (111 : UInt8), (98 : UInt8)], 9223372036854775808))).length ≤ 43 := by
      have t1 : ∀ f ∈ fStr 1 [(98 : UInt8), (111 : UInt8), (98 : UInt8)], FldS 3 f := fStr_s (by omega) (by omega) (by simp)
      have t2 : ∀ f ∈ fNum 2 (9223372036854775808 : Int), FldS 0 f := fNum_s (by omega) (by omega) ⟨by decide, by decide⟩
      have b1 := encs_le (by omega) t1
      have b2 := encs_le (by omega) t2
      have c1 := fStr_len 1 [(98 : UInt8), (111 : UInt8), (98 : UInt8)]
      have c2 := fNum_len 2 9223372036854775808
      unfold trF
      simp only [encs_app, List.length_append]
      omega
    have hf : ∀ f ∈ (bobs k).map trFld, FldS 43 f := fun f hf => by
      obtain ⟨x, hx, rfl⟩ := List.mem_map.1 hf
      rw [bobs_mem hx]
      exact ⟨by simp [trFld, Fld.ok], by unfold U64; simp [trFld], hin⟩
    have := encs_le (by omega) hf
    rw [List.length_map, bobs_len] at this
    omega
  unfold txF
  rw [encs_app, List.length_append]
  have := htr n
  have e : (limTx n m).2.2.2.2.2 = bobs n := rfl
  rw [e]
  omega
theorem limits_c2 (a0 a1 a2 : UInt8) {n m : Nat} (h1 : 1 ≤ n) (hn : n ≤ 20) (hm : m ≤ 100) (e0 : n ≤ 16 ↔ Int.tmod ((UInt8.toNat a0 : Nat) : Int) 3 < 2) (e2 : m ≤ 64 ↔ Int.tmod ((UInt8.toNat a2 : Nat) : Int) 3 < 2) :
    Ok (F_mempoollaw10_TxLimits_c2 a0 a1 a2 [(97 : UInt8), (110 : UInt8), (110 : UInt8)] (0 : Int) 1 (0 : Int) (grins m) (bobs n)) (· = true) := by
  have hs := limTx_s hn hm
  have hx : (([(97 : UInt8), (110 : UInt8), (110 : UInt8)], (0 : Int), 1, (0 : Int), grins m, bobs n) : D_api_Tx) = limTx n m := rfl
  have hb := u8_range a1
  have h3 : Int.tmod ((UInt8.toNat a1 : Nat) : Int) 3 = ((UInt8.toNat a1 : Nat) : Int) % 3 := Int.tmod_eq_emod_of_nonneg hb.1
  have w1 : wi64 (((UInt8.toNat a1 : Nat) : Int) % 3) = ((UInt8.toNat a1 : Nat) : Int) % 3 := by rw [wi64_id] <;> omega
  have w2 : wi64 (4095 + ((UInt8.toNat a1 : Nat) : Int) % 3) = 4095 + ((UInt8.toNat a1 : Nat) : Int) % 3 := by rw [wi64_id] <;> omega
  have hd1 := decode_tx (raw := List.replicate (Int.toNat (4095 + ((UInt8.toNat a1 : Nat) : Int) % 3)) (0 : UInt8)) (by rw [List.length_replicate]; omega)
  have hd2 := decode_ref (raw := List.replicate (Int.toNat (4095 + ((UInt8.toNat a1 : Nat) : Int) % 3)) (0 : UInt8)) (by rw [List.length_replicate]; omega)
  have hok : (encT (limTx n m)).2 = 0 ↔ n ≤ 16 ∧ m ≤ 64 := by
    refine ⟨fun h => (limTx_valid h1).1 (encT_ok h).1, fun h => ?_⟩
    unfold encT
    rw [if_pos ((limTx_valid h1).2 h), if_neg (by have := limTx_size h.1 h.2; omega)]
  simp only [F_mempoollaw10_TxLimits_c2, hx, encode_tx hs.b hs.n, encode_ref hs.b hs.n, h3, w1, w2, hd1, hd2, F_mempoolref1_SameBytes, T_mempoollaw10_known, ok_sel, ok_chk, ok_bind, ok_some, decide_eq_true_eq, decide_eq_false_iff_not]
  refine ⟨by omega, fun _ => ⟨fun _ => ⟨fun _ => ⟨fun q => ⟨fun _ => trivial, fun hc => ?_⟩, fun q => ⟨fun _ => trivial, fun hc => ?_⟩⟩, fun hc => absurd trivial hc⟩, fun hc => absurd trivial hc⟩, fun hc => absurd trivial hc⟩
  · exfalso
    have : decide ((encT (limTx n m)).2 = 0) = decide (Int.tmod ((UInt8.toNat a2 : Nat) : Int) 3 < 2) := by
      rw [decide_eq_decide, hok, ← e2]; exact ⟨fun h => h.2, fun h => ⟨e0.2 q, h⟩⟩
    rw [this, beqB_self'] at hc
    cases hc
  · exfalso
    have : decide ((encT (limTx n m)).2 = 0) = false := by
      rw [decide_eq_false_iff_not, hok]; exact fun h => q (e0.1 h.1)
    rw [this] at hc
    cases hc
theorem limits_true (a0 a1 a2 : UInt8) (_w0 : wfU .byte a0) (_w1 : wfU .byte a1) (_w2 : wfU .byte a2) (_z0 : szU .byte a0) (_z1 : szU .byte a1) (_z2 : szU .byte a2) : F_mempoollaw10_TxLimits a0 a1 a2 = some true := by
  rw [← ok_eq]
  have hb0 := u8_range a0
  have hb2 := u8_range a2
  have t0 : Int.tmod ((UInt8.toNat a0 : Nat) : Int) 3 = ((UInt8.toNat a0 : Nat) : Int) % 3 := Int.tmod_eq_emod_of_nonneg hb0.1
  have t2 : Int.tmod ((UInt8.toNat a2 : Nat) : Int) 3 = ((UInt8.toNat a2 : Nat) : Int) % 3 := Int.tmod_eq_emod_of_nonneg hb2.1
  have w1 : wi64 (((UInt8.toNat a0 : Nat) : Int) % 3) = ((UInt8.toNat a0 : Nat) : Int) % 3 := by rw [wi64_id] <;> omega
  have w2 : wi64 (15 + ((UInt8.toNat a0 : Nat) : Int) % 3) = 15 + ((UInt8.toNat a0 : Nat) : Int) % 3 := by rw [wi64_id] <;> omega
  have w3 : wi64 (((UInt8.toNat a2 : Nat) : Int) % 3) = ((UInt8.toNat a2 : Nat) : Int) % 3 := by rw [wi64_id] <;> omega
  have w4 : wi64 (63 + ((UInt8.toNat a2 : Nat) : Int) % 3) = 63 + ((UInt8.toNat a2 : Nat) : Int) % 3 := by rw [wi64_id] <;> omega
  have inner : ∀ n : Nat, (n : Int) = 15 + ((UInt8.toNat a0 : Nat) : Int) % 3 → Ok (F_mempoollaw10_TxLimits_l3s a0 a1 a2 0 [(97 : UInt8), (110 : UInt8), (110 : UInt8)] (0 : Int) 1 (0 : Int) [] (bobs n)) (· = true) := by
    intro n hn
    unfold F_mempoollaw10_TxLimits_l3s
    refine ok_iter (inv := fun v => ∃ m : Nat, v = (a0, a1, a2, ((m : Nat) : Int), [(97 : UInt8), (110 : UInt8), (110 : UInt8)], (0 : Int), (1 : Int), (0 : Int), grins m, bobs n) ∧ (m : Int) ≤ 63 + ((UInt8.toNat a2 : Nat) : Int) % 3) (m := fun v => (100 - v.2.2.2.1).toNat) ?_ ⟨0, rfl, by omega⟩ (by simp)
    rintro v ⟨m, rfl, hm⟩
    simp only [F_mempoollaw10_TxLimits_l3, t2, w3, w4, ok_sel, ok_chk, ok_some, ok_map, nxt_inl, nxt_inr, decide_eq_true_eq, decide_eq_false_iff_not, grins_len, wi_succ (i := m) (by omega)]
    refine ⟨fun h => ⟨by omega, ⟨m + 1, rfl, by omega⟩, by omega⟩, fun h => ?_⟩
    exact limits_c2 a0 a1 a2 (by omega) (by omega) (by omega) (by rw [t0]; omega) (by rw [t2]; omega)
  unfold F_mempoollaw10_TxLimits F_mempoollaw10_TxLimits_l4s
  refine ok_iter (inv := fun v => ∃ n : Nat, v = (a0, a1, a2, ((n : Nat) : Int), [(97 : UInt8), (110 : UInt8), (110 : UInt8)], (0 : Int), (1 : Int), (0 : Int), ([] : List UInt8), bobs n) ∧ (n : Int) ≤ 15 + ((UInt8.toNat a0 : Nat) : Int) % 3) (m := fun v => (100 - v.2.2.2.1).toNat) ?_ ⟨0, rfl, by omega⟩ (by simp)
  rintro v ⟨n, rfl, hn⟩
  simp only [F_mempoollaw10_TxLimits_l4, F_mempoollaw10_TxLimits_c1, t0, w1, w2, ok_sel, ok_chk, ok_some, ok_map, nxt_inl, nxt_inr, decide_eq_true_eq, decide_eq_false_iff_not, bobs_len, wi_succ (i := n) (by omega)]
  refine ⟨fun h => ⟨⟨by unfold LIM; omega, by unfold LEN; omega⟩, ⟨n + 1, ?_, by omega⟩, by omega⟩, fun h => inner n (by omega)⟩
  unfold bobs
  rw [List.replicate_succ']
end Go.Proofs.YtgfmnpbcbpobbaaDoor.Am
