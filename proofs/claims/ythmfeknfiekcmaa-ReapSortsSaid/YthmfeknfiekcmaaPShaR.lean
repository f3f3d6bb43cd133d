/- The reference of the digest answers, whatever the bytes are. No conditions. -/
import Derived.Test.YthmfeknfiekcmaaFAll
import Derived.Test.YthmfeknfiekcmaaPLoop
namespace Go.Proofs.Ythmfeknfiekcmaa.Am
open Go

theorem turn_ans (x : Int) {k : Int} (h0 : 0 ≤ k) (h1 : k ≤ 32) : Ok (F_mempoolref4_turn x k) fun _ => True := by
  have w : wi64 (32 - k) = 32 - k := wi64_id (by omega) (by omega)
  simp only [F_mempoolref4_turn, w, ok_chk, ok_some, decide_eq_true_eq]
  exact ⟨h0, by omega, trivial⟩
theorem ans_bind {α β : Type} {o : Option α} {f : α → Option β} {p : β → Prop} (h : Ok o fun _ => True) (k : ∀ r, Ok (f r) p) : Ok (o.bind f) p := by
  rw [ok_bind]; exact h.mono fun r _ => k r
theorem b4_ans (b0 b1 b2 : Vector Int 8) : Ok (F_mempoolref4_block_l4s 0 b0 b1 b2) fun _ => True := by
  unfold F_mempoolref4_block_l4s
  refine ok_iterE (fun n v => ∃ i : Nat, i + n = 8 ∧ v.1 = (i : Int)) ?_ ⟨0, rfl, rfl⟩ (n := 8) (by omega)
  rintro n ⟨v, b0, b1, b2⟩ ⟨i, hi, rfl⟩
  simp only [F_mempoolref4_block_l4, wi_succ (i := i) (by omega), ok_sel, ok_chk, ok_some, nxt_inl, nxt_inr, decide_eq_true_eq, decide_eq_false_iff_not, Int.toNat_natCast]
  refine ⟨fun h => ⟨by omega, by omega, by omega, by omega, by omega, by omega, n - 1, by omega, i + 1, by omega, rfl⟩, fun _ => trivial⟩
theorem b5_ans (b0 b1 : Vector Int 8) (b2 b3 : Vector Int 64) (b4 : Vector Int 8) : Ok (F_mempoolref4_block_l5s 0 b0 b1 b2 b3 b4) fun _ => True := by
  unfold F_mempoolref4_block_l5s
  refine ok_iterE (fun n v => ∃ i : Nat, i + n = 64 ∧ v.1 = (i : Int)) ?_ ⟨0, rfl, rfl⟩ (n := 64) (by omega)
  rintro n ⟨v, b0, b1, b2, b3, b4⟩ ⟨i, hi, rfl⟩
  simp only [F_mempoolref4_block_l5, wi_succ (i := i) (by omega)]
  rw [ok_sel]
  refine ⟨fun h => ?_, fun _ => ?_⟩
  · have h' : (i : Int) < 64 := of_decide_eq_true h
    refine ans_bind (turn_ans _ (by omega) (by omega)) fun r2 => ans_bind (turn_ans _ (by omega) (by omega)) fun r3 => ans_bind (turn_ans _ (by omega) (by omega)) fun r4 => ?_
    simp only [ok_chk, ok_bind, ok_some, nxt_inl, decide_eq_true_eq, Int.toNat_natCast]
    refine ⟨by omega, by omega, by omega, by omega, (turn_ans _ (by omega) (by omega)).mono fun r5 _ => (turn_ans _ (by omega) (by omega)).mono fun r6 _ => (turn_ans _ (by omega) (by omega)).mono fun r7 _ => ⟨n - 1, by omega, i + 1, by omega, rfl⟩⟩
  · rw [ok_map]; exact b4_ans _ _ _
theorem b6_ans (b0 b1 : Vector Int 8) (b2 : Vector Int 64) : Ok (F_mempoolref4_block_l6s 16 b0 b1 b2) fun _ => True := by
  unfold F_mempoolref4_block_l6s
  refine ok_iterE (fun n v => ∃ i : Nat, i + n = 64 ∧ 16 ≤ i ∧ v.1 = (i : Int)) ?_ ⟨16, rfl, by omega, rfl⟩ (n := 48) (by omega)
  rintro n ⟨v, b0, b1, b2⟩ ⟨i, hi, h16, rfl⟩
  have w1 : wi64 ((i : Int) - 15) = (i : Int) - 15 := wi64_id (by omega) (by omega)
  have w2 : wi64 ((i : Int) - 2) = (i : Int) - 2 := wi64_id (by omega) (by omega)
  have w3 : wi64 ((i : Int) - 7) = (i : Int) - 7 := wi64_id (by omega) (by omega)
  have w4 : wi64 ((i : Int) - 16) = (i : Int) - 16 := wi64_id (by omega) (by omega)
  simp only [F_mempoolref4_block_l6, wi_succ (i := i) (by omega), w1, w2, w3, w4, ok_sel, ok_chk, ok_bind, ok_some, ok_map, nxt_inl, nxt_inr, decide_eq_true_eq, decide_eq_false_iff_not, Int.toNat_natCast]
  refine ⟨fun h => ⟨by omega, by omega, by omega, by omega, (turn_ans _ (by omega) (by omega)).mono fun r5 _ => (turn_ans _ (by omega) (by omega)).mono fun r6 _ => ⟨by omega, by omega, (turn_ans _ (by omega) (by omega)).mono fun r7 _ => (turn_ans _ (by omega) (by omega)).mono fun r8 _ => ⟨by omega, by omega, by omega, by omega, n - 1, by omega, i + 1, by omega, by omega, rfl⟩⟩⟩, fun _ => ?_⟩
  unfold F_mempoolref4_block_c2
  exact ans_bind ⟨_, rfl, trivial⟩ fun r => b5_ans _ _ _ _ _
theorem block_ans (s : Vector Int 8) {b : List UInt8} (hb : 64 ≤ b.length) : Ok (F_mempoolref4_block s b) fun _ => True := by
  unfold F_mempoolref4_block F_mempoolref4_block_l7s
  refine ok_iterE (fun n v => ∃ i : Nat, i + n = 16 ∧ v.1 = b ∧ v.2.1 = (i : Int)) ?_ ⟨0, rfl, rfl, rfl⟩ (n := 16) (by omega)
  rintro n ⟨v0, v, b0, b1, b2⟩ ⟨i, hi, h0, h1⟩
  dsimp only at h0 h1 ⊢
  subst h0 h1
  have w0 : wi64 (4 * (i : Int)) = 4 * (i : Int) := wi64_id (by omega) (by omega)
  have w1 : wi64 (4 * (i : Int) + 1) = 4 * (i : Int) + 1 := wi64_id (by omega) (by omega)
  have w2 : wi64 (4 * (i : Int) + 2) = 4 * (i : Int) + 2 := wi64_id (by omega) (by omega)
  have w3 : wi64 (4 * (i : Int) + 3) = 4 * (i : Int) + 3 := wi64_id (by omega) (by omega)
  simp only [F_mempoolref4_block_l7, wi_succ (i := i) (by omega), w0, w1, w2, w3, ok_sel, ok_chk, ok_some, ok_map, nxt_inl, nxt_inr, decide_eq_true_eq, decide_eq_false_iff_not, Int.toNat_natCast]
  refine ⟨fun h => ⟨by omega, by omega, by omega, by omega, by omega, by omega, n - 1, by omega, i + 1, by omega, trivial, rfl⟩, fun _ => ?_⟩
  unfold F_mempoolref4_block_c1
  exact b6_ans _ _ _
theorem s4_ans (b0 : Vector UInt8 32) (b1 : Vector Int 8) : Ok (F_mempoolref4_Sha_c3 b0 b1) fun _ => True := by
  unfold F_mempoolref4_Sha_c3 F_mempoolref4_Sha_l4s
  refine ok_iterE (fun n v => ∃ i : Nat, i + n = 32 ∧ v.1 = (i : Int)) ?_ ⟨0, rfl, rfl⟩ (n := 32) (by omega)
  rintro n ⟨v, b0, b1, b2⟩ ⟨i, hi, rfl⟩
  have e1 : Int.tdiv (i : Int) 4 = ((i / 4 : Nat) : Int) := by rw [Int.tdiv_eq_ediv_of_nonneg (by omega)]; omega
  have e2 : Int.tmod (i : Int) 4 = ((i % 4 : Nat) : Int) := by rw [Int.tmod_eq_emod_of_nonneg (by omega)]; omega
  dsimp only
  unfold F_mempoolref4_Sha_l4
  rw [ok_sel]
  refine ⟨fun h => ?_, fun _ => (ok_some _ _).2 trivial⟩
  have h' : (i : Int) < 32 := of_decide_eq_true h
  have w0 : wi64 (Int.tdiv (i : Int) 4) = ((i / 4 : Nat) : Int) := by rw [e1]; exact wi64_id (by omega) (by omega)
  have w1 : wi64 (Int.tmod (i : Int) 4 * 8) = ((i % 4 : Nat) : Int) * 8 := by rw [e2]; exact wi64_id (by omega) (by omega)
  have w2 : wi64 (24 - ((i % 4 : Nat) : Int) * 8) = 24 - ((i % 4 : Nat) : Int) * 8 := wi64_id (by omega) (by omega)
  simp only [w0, w1, w2, wi_succ (i := i) (by omega), ok_chk, ok_some, nxt_inl, decide_eq_true_eq, Int.toNat_natCast]
  refine ⟨by omega, by omega, by omega, by omega, by omega, wu8_range _, n - 1, by omega, i + 1, by omega, rfl⟩
theorem s5_ans (b0 : Vector UInt8 32) {l : List UInt8} (hl : l.length % 64 = 0) (hb : l.length < 4611686018427387904) : Ok (F_mempoolref4_Sha_c2 b0 l) fun _ => True := by
  unfold F_mempoolref4_Sha_c2 F_mempoolref4_Sha_l5s
  refine ok_iterE (fun n v => ∃ i : Nat, i * 64 + n = l.length ∧ v.1 = ((i * 64 : Nat) : Int) ∧ v.2.2.2 = l) ?_ ⟨0, by omega, rfl, rfl⟩ (n := l.length) (by omega)
  rintro n ⟨v, b0, b1, l'⟩ ⟨i, hi, h1, h2⟩
  simp only at h1 h2
  subst h1 h2
  have w0 : wi64 (((i * 64 : Nat) : Int) + 64) = (((i + 1) * 64 : Nat) : Int) := by rw [wi64_id] <;> omega
  simp only [F_mempoolref4_Sha_l5, w0, ok_sel, ok_chk, ok_bind, ok_some, ok_map, nxt_inl, nxt_inr, decide_eq_true_eq, decide_eq_false_iff_not, Int.toNat_natCast]
  refine ⟨fun h => ⟨by omega, (block_ans _ ?_).mono fun r _ => ⟨n - 64, by omega, i + 1, by omega, rfl, trivial⟩⟩, fun _ => s4_ans _ _⟩
  rw [List.length_drop, List.length_take]
  omega
theorem s6_ans (m : Int) (b0 : Vector UInt8 32) {l : List UInt8} (hl : l.length % 64 = 56) (hb : l.length < 1152921504606846976) (hb2 : l.length < 140737488355000) : Ok (F_mempoolref4_Sha_l6s m 7 b0 l) fun _ => True := by
  unfold F_mempoolref4_Sha_l6s
  refine ok_iterE (fun n v => n ≤ 8 ∧ v.2.1 = (n : Int) - 1 ∧ v.2.2.2.length + n = l.length + 8) ?_ ⟨by omega, rfl, rfl⟩ (n := 8) (by omega)
  rintro n ⟨m, k, b0, l'⟩ ⟨h8, h1, h2⟩
  simp only at h1 h2
  subst h1
  have w0 : wi64 ((n : Int) - 1 - 1) = (n : Int) - 1 - 1 := wi64_id (by omega) (by omega)
  have w1 : wi64 (8 * ((n : Int) - 1)) = 8 * ((n : Int) - 1) := wi64_id (by omega) (by omega)
  simp only [F_mempoolref4_Sha_l6, w0, w1, ok_sel, ok_chk, ok_some, ok_map, nxt_inl, nxt_inr, decide_eq_true_eq, decide_eq_false_iff_not]
  refine ⟨fun h => ⟨by omega, wu8_range _, ⟨by unfold LIM; omega, by unfold LEN; omega⟩, n - 1, by omega, by omega, by omega, ?_⟩, fun h => s5_ans _ (by omega) (by omega)⟩
  simp only [List.length_append, List.length_cons, List.length_nil]; omega
/-- The digest of the reference. -/
theorem shaR_ans {l : List UInt8} (hb : l.length < 140737488350000) : Ok (F_mempoolref4_Sha l) fun _ => True := by
  unfold F_mempoolref4_Sha
  simp only [ok_chk, decide_eq_true_eq]
  refine ⟨⟨by unfold LIM; omega, by unfold LEN; omega⟩, ⟨by unfold LIM; omega, by unfold LEN; omega⟩, ?_⟩
  unfold F_mempoolref4_Sha_l7s
  refine ok_iterE (fun n v => v.1 = l ∧ n < 64 ∧ (v.2.2.length + n) % 64 = 56 ∧ v.2.2.length ≤ l.length + 64 ∧ v.2.2.length + n ≤ l.length + 64) ?_ (n := (55 + 64 - l.length % 64) % 64) ⟨rfl, by omega, by simp; omega, by simp, by simp; omega⟩ (by omega)
  rintro n ⟨v0, b0, l'⟩ ⟨h0, h1, h2, h3, h4⟩
  dsimp only at h0 h2 h3 h4 ⊢
  subst h0
  have e2 : Int.tmod (((List.length l') : Nat) : Int) 64 = ((l'.length % 64 : Nat) : Int) := by rw [Int.tmod_eq_emod_of_nonneg (by omega)]; omega
  simp only [F_mempoolref4_Sha_l7, e2, ok_sel, ok_chk, ok_some, ok_map, nxt_inl, nxt_inr, decide_eq_true_eq, decide_eq_false_iff_not, Bool.not_eq_true', Bool.not_eq_false']
  refine ⟨fun h => ⟨⟨by unfold LIM; omega, by unfold LEN; omega⟩, n - 1, by omega, trivial, by omega, ?_, ?_, ?_⟩, fun h => ?_⟩
  · simp only [List.length_append, List.length_cons, List.length_nil]; omega
  · simp only [List.length_append, List.length_cons, List.length_nil]; omega
  · simp only [List.length_append, List.length_cons, List.length_nil]; omega
  · unfold F_mempoolref4_Sha_c1
    exact s6_ans _ _ (by omega) (by omega) (by omega)
end Go.Proofs.Ythmfeknfiekcmaa.Am
