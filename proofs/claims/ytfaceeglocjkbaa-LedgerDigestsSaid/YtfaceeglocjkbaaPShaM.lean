/- SHA-256 of messages: the program's collects bytes, the document's takes all at once; they are the same. No conditions. -/
import Derived.Test.YtfaceeglocjkbaaPShaB
namespace Go.Proofs.Ytfaceeglocjkbaa.Am
open Go

abbrev H8 := Vector Int 8
theorem w_mul4 {i : Nat} (h : i < 1000) : wi64 (4 * (i : Int)) = ((4 * i : Nat) : Int) := by rw [wi64_id] <;> omega
theorem w_plus {i : Nat} {c : Int} (h : i < 1000000) (h0 : 0 ≤ c) (h1 : c ≤ 1000000) : wi64 ((i : Int) + c) = ((i + c.toNat : Nat) : Int) := by rw [wi64_id] <;> omega
theorem w_minus {i : Nat} {c : Int} (h : i < 1000000) (h0 : 0 ≤ c) (h1 : c ≤ (i : Int)) : wi64 ((i : Int) - c) = ((i - c.toNat : Nat) : Int) := by rw [wi64_id] <;> omega
theorem sched2_ok (zz w : Vector Int 64) {i : Nat} (hi : 16 ≤ i) (hi2 : i ≤ 64) : Ok (F_sha_schedule_l2s (i : Int) zz w) fun _ => True := by
  unfold F_sha_schedule_l2s
  refine ok_iterE (fun n v => ∃ (i : Nat) (w : Vector Int 64), v = ((i : Int), zz, w) ∧ 16 ≤ i ∧ i ≤ 64 ∧ n = 64 - i) ?_ (n := 64 - i) ⟨i, w, rfl, hi, hi2, rfl⟩ (by omega)
  rintro n v ⟨i, w, rfl, h1, h2, rfl⟩
  unfold F_sha_schedule_l2
  dsimp only
  obtain ⟨_, _, r7, _, _, _, r18, _⟩ := right_rot (vget w (Int.toNat (wi64 ((i : Int) - 15))) (0 : Int))
  obtain ⟨_, _, _, _, _, p17, _, p19, _⟩ := right_rot (vget w (Int.toNat (wi64 ((i : Int) - 2))) (0 : Int))
  rw [r7, r18, p17, p19]
  simp only [ok_sel, ok_chk, ok_some, nxt_inl, nxt_inr, decide_eq_true_eq, decide_eq_false_iff_not, Int.toNat_natCast, Option.bind_some, wi_succ (i := i) (by omega)]
  refine ⟨fun h => ?_, fun _ => trivial⟩
  rw [w_minus (i := i) (c := 15) (by omega) (by omega) (by omega), w_minus (i := i) (c := 2) (by omega) (by omega) (by omega), w_minus (i := i) (c := 7) (by omega) (by omega) (by omega), w_minus (i := i) (c := 16) (by omega) (by omega) (by omega)]
  simp only [Int.toNat_natCast]
  exact ⟨by omega, by omega, by omega, by omega, by omega, by omega, by omega, by omega, by omega, by omega, 64 - (i + 1), by omega, i + 1, _, rfl, by omega, by omega, rfl⟩
theorem sched_ok {b : List UInt8} (hb : b.length = 64) (zz w : Vector Int 64) : Ok (F_sha_schedule_l3s b 0 zz w) fun _ => True := by
  unfold F_sha_schedule_l3s
  refine ok_iterE (fun n v => ∃ (i : Nat) (w : Vector Int 64), v = (b, (i : Int), zz, w) ∧ i ≤ 16 ∧ n = 16 - i) ?_ (n := 16) ⟨0, w, rfl, by omega, rfl⟩ (by omega)
  rintro n v ⟨i, w, rfl, h2, rfl⟩
  unfold F_sha_schedule_l3
  dsimp only
  rw [ok_sel]
  refine ⟨fun h => ?_, fun h => ?_⟩
  · have h := of_decide_eq_true h
    rw [w_mul4 (i := i) (by omega), w_plus (i := 4 * i) (c := 1) (by omega) (by omega) (by omega), w_plus (i := 4 * i) (c := 2) (by omega) (by omega) (by omega), w_plus (i := 4 * i) (c := 3) (by omega) (by omega) (by omega)]
    simp only [ok_chk, ok_some, nxt_inl, decide_eq_true_eq, Int.toNat_natCast, wi_succ (i := i) (by omega)]
    rw [hb]
    exact ⟨by omega, by omega, by omega, by omega, by omega, by omega, 16 - (i + 1), by omega, i + 1, _, rfl, by omega, rfl⟩
  · rw [ok_map]
    unfold F_sha_schedule_c1
    exact (sched2_ok zz w (i := 16) (by omega) (by omega)).mono fun r _ => trivial
theorem fin_ok (a z s : H8) : Ok (F_sha_words_block_l2s 0 a z s) fun _ => True := by
  unfold F_sha_words_block_l2s
  refine ok_iterE (fun n v => ∃ (i : Nat) (a : H8), v = ((i : Int), a, z, s) ∧ i ≤ 8 ∧ n = 8 - i) ?_ (n := 8) ⟨0, a, rfl, by omega, rfl⟩ (by omega)
  rintro n v ⟨i, a, rfl, h2, rfl⟩
  unfold F_sha_words_block_l2
  dsimp only
  simp only [ok_sel, ok_chk, ok_some, nxt_inl, nxt_inr, decide_eq_true_eq, decide_eq_false_iff_not, Int.toNat_natCast, wi_succ (i := i) (by omega)]
  exact ⟨fun h => ⟨by omega, by omega, by omega, by omega, by omega, by omega, 8 - (i + 1), by omega, i + 1, _, rfl, by omega, rfl⟩, fun _ => trivial⟩
theorem rounds_ok (a z : H8) (w k : Vector Int 64) (s : H8) : Ok (F_sha_words_block_l3s 0 a z w k s) fun _ => True := by
  unfold F_sha_words_block_l3s
  refine ok_iterE (fun n v => ∃ (i : Nat) (s : H8), v = ((i : Int), a, z, w, k, s) ∧ i ≤ 64 ∧ n = 64 - i) ?_ (n := 64) ⟨0, s, rfl, by omega, rfl⟩ (by omega)
  rintro n v ⟨i, s, rfl, h2, rfl⟩
  unfold F_sha_words_block_l3
  dsimp only
  obtain ⟨r2, r6, _, r11, r13, _, _, _, r22, r25⟩ := right_rot (vget s 4 (0 : Int))
  obtain ⟨p2, p6, _, p11, p13, _, _, _, p22, p25⟩ := right_rot (vget s 0 (0 : Int))
  rw [r6, r11, r25, p2, p13, p22]
  rw [ok_sel]
  refine ⟨fun h => ?_, fun h => ?_⟩
  · have h := of_decide_eq_true h
    simp only [ok_chk, ok_some, nxt_inl, decide_eq_true_eq, Int.toNat_natCast, Option.bind_some, wi_succ (i := i) (by omega)]
    exact ⟨by omega, by omega, by omega, by omega, 64 - (i + 1), by omega, i + 1, _, rfl, by omega, rfl⟩
  · rw [ok_map]
    unfold F_sha_words_block_c1
    exact (fin_ok a z s).mono fun r _ => trivial
theorem block_ok (a : H8) {b : List UInt8} (hb : b.length = 64) : ∃ r, F_sha_words_block a b = some r := by
  obtain ⟨w, hw, _⟩ := sched_ok hb (Vector.replicate 64 (0 : Int)) (Vector.replicate 64 (0 : Int))
  have hk : ∃ k, F_sha_rounds = some k := ⟨_, rfl⟩
  obtain ⟨k, hk⟩ := hk
  obtain ⟨r, hr, _⟩ := rounds_ok a (Vector.replicate 8 (0 : Int)) w k a
  refine ⟨r, ?_⟩
  unfold F_sha_words_block F_sha_schedule
  rw [hw, Option.bind_some, hk, Option.bind_some, hr]
def blk (a : H8) (b : List UInt8) : H8 := (F_sha_words_block a b).getD a
theorem blk_eq (a : H8) {b : List UInt8} (hb : b.length = 64) : F_sha_words_block a b = some (blk a b) := by
  obtain ⟨r, hr⟩ := block_ok a hb
  unfold blk
  rw [hr]; rfl
theorem blk_ref (a : H8) {b : List UInt8} (hb : b.length = 64) : F_mempoolref4_block a b = some (blk a b) := (block_eq a b).trans (blk_eq a hb)
/-- Many blocks. -/
def blks : Nat → H8 → List UInt8 → H8
  | 0, h, _ => h
  | n + 1, h, l => blks n (blk h (l.take 64)) (l.drop 64)
theorem blks_add (r : Nat) (y : List UInt8) : ∀ (q : Nat) (h : H8) (x : List UInt8), x.length = 64 * q → blks (q + r) h (x ++ y) = blks r (blks q h x) y
  | 0, h, x, hx => by
    have : x = [] := List.eq_nil_of_length_eq_zero (by omega)
    subst this
    rw [Nat.zero_add]; rfl
  | q + 1, h, x, hx => by
    rw [show q + 1 + r = (q + r) + 1 by omega]
    show blks (q + r) (blk h ((x ++ y).take 64)) ((x ++ y).drop 64) = blks r (blks q (blk h (x.take 64)) (x.drop 64)) y
    rw [List.take_append_of_le_length (by omega), List.drop_append_of_le_length (by omega)]
    exact blks_add r y q _ _ (by rw [List.length_drop]; omega)
def iv : H8 := Vector.push (Vector.push (Vector.push (Vector.push (Vector.push (Vector.push (Vector.push (Vector.push #v[] 1779033703) 3144134277) 1013904242) 2773480762) 1359893119) 2600822924) 528734635) 1541459225
abbrev DG := Vector Int 8 × List UInt8 × Int
/-- What a Digest has collected. -/
def Dig (d : DG) (m : List UInt8) : Prop := d = (blks (m.length / 64) iv m, m.drop (64 * (m.length / 64)), ((m.length : Nat) : Int))
theorem new_dig : ∃ d, F_sha_New = some d ∧ Dig d [] := ⟨(iv, [], 0), rfl, rfl⟩
theorem write_loop {l : List UInt8} (hl : l.length ≤ 140737488355328) (h : H8) (rest : List UInt8) (n : Int) : F_sha_Digest_Write_l2s l (h, rest, n) = some (blks (l.length / 64) h l, l.drop (64 * (l.length / 64)), n) := by
  rw [← ok_eq]
  unfold F_sha_Digest_Write_l2s
  refine ok_iterE (fun k v => ∃ (t : List UInt8) (g : H8), v = (t, (g, rest, n)) ∧ t.length ≤ 140737488355328 ∧ k = t.length / 64 ∧ blks (t.length / 64) g t = blks (l.length / 64) h l ∧ t.drop (64 * (t.length / 64)) = l.drop (64 * (l.length / 64))) ?_ (n := l.length / 64) ⟨l, h, rfl, hl, rfl, rfl, rfl⟩ (by omega)
  rintro k v ⟨t, g, rfl, ht, rfl, e1, e2⟩
  unfold F_sha_Digest_Write_l2
  dsimp only
  rw [ok_sel]
  refine ⟨fun hc => ?_, fun hc => ?_⟩
  · have hc := of_decide_eq_true hc
    have h64 : (t.take 64).length = 64 := by rw [List.length_take]; omega
    obtain ⟨q, hq⟩ : ∃ q, t.length / 64 = q + 1 := ⟨t.length / 64 - 1, by omega⟩
    have hd : (t.drop 64).length / 64 = q := by rw [List.length_drop]; omega
    rw [decide_eq_true (by omega), chk_t, blk_eq g h64, Option.bind_some, decide_eq_true (by omega), chk_t, Int.toNat_natCast, List.take_length, ok_some, nxt_inl]
    refine ⟨q, by omega, t.drop 64, blk g (t.take 64), rfl, by rw [List.length_drop]; omega, hd.symm, ?_, ?_⟩
    · rw [hd, ← e1, hq]; rfl
    · rw [hd, ← e2, hq, List.drop_drop]
      congr 1
      omega
  · have hc := of_decide_eq_false hc
    have h0 : t.length / 64 = 0 := by omega
    rw [h0] at e1 e2
    unfold F_sha_Digest_Write_c1
    rw [decide_eq_true ⟨by unfold LIM; omega, by unfold LEN; omega⟩, chk_t, Option.map_some, ok_some, nxt_inr, ← e1, ← e2]
    rfl
theorem drop_two {x y : List UInt8} {q r : Nat} (hx : x.length = 64 * q) : (x ++ y).drop (64 * (q + r)) = y.drop (64 * r) := by
  rw [Nat.mul_add, ← List.drop_drop, ← hx, List.drop_left]
theorem write_dig {d : DG} {m b : List UInt8} (h : Dig d m) (hl : m.length + b.length ≤ 140737488355000) : ∃ d', F_sha_Digest_Write d b = some d' ∧ Dig d' (m ++ b) := by
  unfold Dig at h
  subst h
  obtain ⟨q, hq⟩ : ∃ q, q = m.length / 64 := ⟨_, rfl⟩
  rw [← hq]
  have hr : (m.drop (64 * q)).length = m.length - 64 * q := List.length_drop
  have hll : (m.drop (64 * q) ++ b).length = m.length - 64 * q + b.length := by rw [List.length_append, hr]
  unfold F_sha_Digest_Write
  dsimp only
  rw [hr, decide_eq_true ⟨by unfold LIM; omega, by unfold LEN; omega⟩, chk_t, decide_eq_true ⟨by unfold LIM; omega, by unfold LEN; omega⟩, chk_t, write_loop (by rw [hll]; omega)]
  refine ⟨_, rfl, ?_⟩
  unfold Dig
  have hx : (m.take (64 * q)).length = 64 * q := by rw [List.length_take]; omega
  have hmb : m ++ b = m.take (64 * q) ++ (m.drop (64 * q) ++ b) := by rw [← List.append_assoc, List.take_append_drop]
  have hn : (m ++ b).length / 64 = q + (m.drop (64 * q) ++ b).length / 64 := by rw [hll, List.length_append]; omega
  have hbq : blks q iv (m.take (64 * q)) = blks q iv m := by
    have h1 := blks_add 0 (m.drop (64 * q)) q iv (m.take (64 * q)) hx
    rw [List.take_append_drop] at h1
    exact h1.symm
  refine Prod.ext ?_ (Prod.ext ?_ ?_)
  · dsimp only
    rw [hn, hmb, blks_add _ _ q iv _ hx, hbq]
  · dsimp only
    rw [hn, hmb]
    exact (drop_two hx).symm
  · dsimp only
    rw [List.length_append, wi64_id (by omega) (by omega)]
    omega
end Go.Proofs.Ytfaceeglocjkbaa.Am
