/- SHA-256 of messages: the padding, the output. No conditions. -/
import Derived.Test.YtfaceeglocjkbaaPShaM
namespace Go.Proofs.Ytfaceeglocjkbaa.Am
open Go

def zc (n : Nat) : Nat := (120 - n % 64) % 64
theorem zc_ok (n : Nat) : (n + zc n) % 64 = 56 ∧ ∀ j, j < zc n → (n + j) % 64 ≠ 56 := by unfold zc; exact ⟨by omega, fun j hj => by omega⟩
theorem zc_lt (n : Nat) : zc n < 64 := Nat.mod_lt _ (by omega)
theorem zc_mod {n m : Nat} (h : n % 64 = m % 64) : zc n = zc m := by unfold zc; rw [h]
theorem tmod64 (n : Nat) : Int.tmod ((n : Nat) : Int) 64 = ((n % 64 : Nat) : Int) := rfl
theorem rep_len (l : List UInt8) (j : Nat) : (l ++ List.replicate j (0 : UInt8)).length = l.length + j := by rw [List.length_append, List.length_replicate]
theorem rep_snoc (l : List UInt8) (j : Nat) : l ++ List.replicate j (0 : UInt8) ++ [(0 : UInt8)] = l ++ List.replicate (j + 1) (0 : UInt8) := by
  rw [List.append_assoc]; congr 1; exact (List.replicate_succ' ..).symm
theorem zeros_prog {d : DG} {z1 z2 : Vector UInt8 32} {l : List UInt8} {p : D_sha_Digest × Vector UInt8 32 → Prop} (hl : l.length ≤ 140737488355200) (h : Ok (F_sha_Digest_Sum_c1 d z1 z2 (l ++ List.replicate (zc l.length) (0 : UInt8))) p) : Ok (F_sha_Digest_Sum_l7s d z1 z2 l) p := by
  have hz := zc_lt l.length
  unfold F_sha_Digest_Sum_l7s
  refine ok_iterE (fun n v => ∃ j : Nat, v = (d, z1, z2, l ++ List.replicate j (0 : UInt8)) ∧ j ≤ zc l.length ∧ n = zc l.length - j) ?_ (n := zc l.length) ⟨0, by rw [List.replicate_zero, List.append_nil], by omega, rfl⟩ (by omega)
  rintro n v ⟨j, rfl, hj, rfl⟩
  unfold F_sha_Digest_Sum_l7
  dsimp only
  rw [rep_len, tmod64, ok_sel]
  refine ⟨fun hc => ?_, fun hc => ?_⟩
  · have hc : ¬ (((l.length + j) % 64 : Nat) : Int) = 56 := by simpa using hc
    have hlt : j < zc l.length := by
      rcases Nat.lt_or_ge j (zc l.length) with k | k
      · exact k
      · have e : j = zc l.length := by omega
        have := (zc_ok l.length).1
        rw [← e] at this
        omega
    rw [decide_eq_true ⟨by unfold LIM; omega, by unfold LEN; omega⟩, chk_t, ok_some, nxt_inl, rep_snoc]
    exact ⟨zc l.length - (j + 1), by omega, j + 1, rfl, by omega, rfl⟩
  · have hc : (((l.length + j) % 64 : Nat) : Int) = 56 := by simpa using hc
    have e : j = zc l.length := by
      rcases Nat.lt_or_ge j (zc l.length) with k | k
      · exact absurd (by omega) ((zc_ok l.length).2 j k)
      · omega
    subst e
    rw [ok_map]
    exact h
theorem zeros_ref {m : List UInt8} {z1 : Vector UInt8 32} {l : List UInt8} {p : Vector UInt8 32 → Prop} (hl : l.length ≤ 140737488355200) (h : Ok (F_mempoolref4_Sha_c1 m z1 (l ++ List.replicate (zc l.length) (0 : UInt8))) p) : Ok (F_mempoolref4_Sha_l7s m z1 l) p := by
  have hz := zc_lt l.length
  unfold F_mempoolref4_Sha_l7s
  refine ok_iterE (fun n v => ∃ j : Nat, v = (m, z1, l ++ List.replicate j (0 : UInt8)) ∧ j ≤ zc l.length ∧ n = zc l.length - j) ?_ (n := zc l.length) ⟨0, by rw [List.replicate_zero, List.append_nil], by omega, rfl⟩ (by omega)
  rintro n v ⟨j, rfl, hj, rfl⟩
  unfold F_mempoolref4_Sha_l7
  dsimp only
  rw [rep_len, tmod64, ok_sel]
  refine ⟨fun hc => ?_, fun hc => ?_⟩
  · have hc : ¬ (((l.length + j) % 64 : Nat) : Int) = 56 := by simpa using hc
    have hlt : j < zc l.length := by
      rcases Nat.lt_or_ge j (zc l.length) with k | k
      · exact k
      · have e : j = zc l.length := by omega
        have := (zc_ok l.length).1
        rw [← e] at this
        omega
    rw [decide_eq_true ⟨by unfold LIM; omega, by unfold LEN; omega⟩, chk_t, ok_some, nxt_inl, rep_snoc]
    exact ⟨zc l.length - (j + 1), by omega, j + 1, rfl, by omega, rfl⟩
  · have hc : (((l.length + j) % 64 : Nat) : Int) = 56 := by simpa using hc
    have e : j = zc l.length := by
      rcases Nat.lt_or_ge j (zc l.length) with k | k
      · exact absurd (by omega) ((zc_ok l.length).2 j k)
      · omega
    subst e
    rw [ok_map]
    exact h
/-- The eight bytes of the length. -/
def by8 (n : Int) : List UInt8 := (List.range 8).map fun i => UInt8.ofNat (Int.toNat (wu8 (n / 2 ^ (56 - 8 * i))))
theorem by8_len (n : Int) : (by8 n).length = 8 := by simp [by8]
theorem by8_get (n : Int) {i : Nat} (h : i < 8) : (by8 n).take (i + 1) = (by8 n).take i ++ [UInt8.ofNat (Int.toNat (wu8 (n / 2 ^ (56 - 8 * i))))] := by
  rw [take_succ' (by rw [by8_len]; exact h)]
  congr 2
  simp [by8]
theorem len_prog {d : DG} {z1 z2 : Vector UInt8 32} {n : Int} {l : List UInt8} {p : D_sha_Digest × Vector UInt8 32 → Prop} (hl : l.length ≤ 140737488355300) (h : Ok (F_sha_Digest_Sum_c2 d z1 z2 (l ++ by8 n)) p) : Ok (F_sha_Digest_Sum_l6s n 56 d z1 z2 l) p := by
  unfold F_sha_Digest_Sum_l6s
  refine ok_iterE (fun k v => ∃ i : Nat, v = (n, 56 - 8 * (i : Int), d, z1, z2, l ++ (by8 n).take i) ∧ i ≤ 8 ∧ k = 8 - i) ?_ (n := 8) ⟨0, by rw [List.take_zero, List.append_nil]; rfl, by omega, rfl⟩ (by omega)
  rintro k v ⟨i, rfl, hi, rfl⟩
  have hlen : (l ++ (by8 n).take i).length = l.length + i := by rw [List.length_append, List.length_take, by8_len]; omega
  unfold F_sha_Digest_Sum_l6
  dsimp only
  rw [ok_sel]
  refine ⟨fun hc => ?_, fun hc => ?_⟩
  · have hc := of_decide_eq_true hc
    have hi8 : i < 8 := by omega
    have e : min (Int.toNat (56 - 8 * (i : Int))) 64 = 56 - 8 * i := by omega
    have ew : wi64 (56 - 8 * (i : Int) - 8) = 56 - 8 * ((i + 1 : Nat) : Int) := by rw [wi64_id (by omega) (by omega)]; omega
    rw [decide_eq_true hc, chk_t, decide_eq_true (wu8_range _), chk_t, hlen, decide_eq_true ⟨by unfold LIM; omega, by unfold LEN; omega⟩, chk_t, ok_some, nxt_inl, e, ew, List.append_assoc, ← by8_get n hi8]
    exact ⟨8 - (i + 1), by omega, i + 1, rfl, by omega, rfl⟩
  · have hc := of_decide_eq_false hc
    have e : i = 8 := by omega
    subst e
    rw [ok_map, List.take_of_length_le (by rw [by8_len]; exact Nat.le_refl 8)]
    exact h
theorem len_ref {z1 : Vector UInt8 32} {n : Int} {l : List UInt8} {p : Vector UInt8 32 → Prop} (hl : l.length ≤ 140737488355300) (h : Ok (F_mempoolref4_Sha_c2 z1 (l ++ by8 n)) p) : Ok (F_mempoolref4_Sha_l6s n 7 z1 l) p := by
  unfold F_mempoolref4_Sha_l6s
  refine ok_iterE (fun k v => ∃ i : Nat, v = (n, 7 - (i : Int), z1, l ++ (by8 n).take i) ∧ i ≤ 8 ∧ k = 8 - i) ?_ (n := 8) ⟨0, by rw [List.take_zero, List.append_nil]; rfl, by omega, rfl⟩ (by omega)
  rintro k v ⟨i, rfl, hi, rfl⟩
  have hlen : (l ++ (by8 n).take i).length = l.length + i := by rw [List.length_append, List.length_take, by8_len]; omega
  unfold F_mempoolref4_Sha_l6
  dsimp only
  rw [ok_sel]
  refine ⟨fun hc => ?_, fun hc => ?_⟩
  · have hc := of_decide_eq_true hc
    have hi8 : i < 8 := by omega
    have e0 : wi64 (8 * (7 - (i : Int))) = 56 - 8 * (i : Int) := by rw [wi64_id (by omega) (by omega)]; omega
    have e : min (Int.toNat (56 - 8 * (i : Int))) 64 = 56 - 8 * i := by omega
    have ew : wi64 (7 - (i : Int) - 1) = 7 - ((i + 1 : Nat) : Int) := by rw [wi64_id (by omega) (by omega)]; omega
    rw [e0, decide_eq_true (by omega), chk_t, decide_eq_true (wu8_range _), chk_t, hlen, decide_eq_true ⟨by unfold LIM; omega, by unfold LEN; omega⟩, chk_t, ok_some, nxt_inl, e, ew, List.append_assoc, ← by8_get n hi8]
    exact ⟨8 - (i + 1), by omega, i + 1, rfl, by omega, rfl⟩
  · have hc := of_decide_eq_false hc
    have e : i = 8 := by omega
    subst e
    rw [ok_map, List.take_of_length_le (by rw [by8_len]; exact Nat.le_refl 8)]
    exact h
theorem all_prog {z1 z2 : Vector UInt8 32} {d : DG} {p : D_sha_Digest × Vector UInt8 32 → Prop} (h : H8) (l : List UInt8) (hl : l.length ≤ 140737488355328) (hm : l.length % 64 = 0) (hp : Ok (F_sha_Digest_Sum_c3 z1 z2 (blks (l.length / 64) h l) d) p) : Ok (F_sha_Digest_Sum_l5s l z1 z2 h d) p := by
  unfold F_sha_Digest_Sum_l5s
  refine ok_iterE (fun k v => ∃ (t : List UInt8) (g : H8), v = (t, z1, z2, g, d) ∧ t.length ≤ 140737488355328 ∧ t.length % 64 = 0 ∧ k = t.length / 64 ∧ blks (t.length / 64) g t = blks (l.length / 64) h l) ?_ (n := l.length / 64) ⟨l, h, rfl, hl, hm, rfl, rfl⟩ (by omega)
  rintro k v ⟨t, g, rfl, ht, htm, rfl, e1⟩
  unfold F_sha_Digest_Sum_l5
  dsimp only
  rw [ok_sel]
  refine ⟨fun hc => ?_, fun hc => ?_⟩
  · have hc := of_decide_eq_true hc
    have h64 : (t.take 64).length = 64 := by rw [List.length_take]; omega
    obtain ⟨q, hq⟩ : ∃ q, t.length / 64 = q + 1 := ⟨t.length / 64 - 1, by omega⟩
    have hd : (t.drop 64).length / 64 = q := by rw [List.length_drop]; omega
    rw [decide_eq_true (by omega), chk_t, blk_eq g h64, Option.bind_some, decide_eq_true (by omega), chk_t, Int.toNat_natCast, List.take_length, ok_some, nxt_inl]
    refine ⟨q, by omega, t.drop 64, blk g (t.take 64), rfl, by rw [List.length_drop]; omega, by rw [List.length_drop]; omega, hd.symm, ?_⟩
    rw [hd, ← e1, hq]; rfl
  · have hc := of_decide_eq_false hc
    have h0 : t.length / 64 = 0 := by omega
    rw [h0] at e1
    have e1 : g = blks (l.length / 64) h l := e1
    rw [ok_map, e1]
    exact hp
theorem all_ref {z1 : Vector UInt8 32} {p : Vector UInt8 32 → Prop} (l : List UInt8) (hl : l.length ≤ 140737488355328) (hm : l.length % 64 = 0) (hp : Ok (F_mempoolref4_Sha_c3 z1 (blks (l.length / 64) iv l)) p) : Ok (F_mempoolref4_Sha_l5s 0 z1 iv l) p := by
  unfold F_mempoolref4_Sha_l5s
  refine ok_iterE (fun k v => ∃ (i : Nat) (g : H8), v = (((64 * i : Nat) : Int), z1, g, l) ∧ i ≤ l.length / 64 ∧ k = l.length / 64 - i ∧ blks (l.length / 64 - i) g (l.drop (64 * i)) = blks (l.length / 64) iv l) ?_ (n := l.length / 64) ⟨0, iv, rfl, by omega, rfl, rfl⟩ (by omega)
  rintro k v ⟨i, g, rfl, hi, rfl, e1⟩
  unfold F_mempoolref4_Sha_l5
  dsimp only
  rw [ok_sel]
  refine ⟨fun hc => ?_, fun hc => ?_⟩
  · have hc := of_decide_eq_true hc
    have hi' : i < l.length / 64 := by omega
    have ew : wi64 (((64 * i : Nat) : Int) + 64) = ((64 * (i + 1) : Nat) : Int) := by rw [wi64_id (by omega) (by omega)]; omega
    obtain ⟨q, hq⟩ : ∃ q, l.length / 64 - i = q + 1 := ⟨l.length / 64 - i - 1, by omega⟩
    have hb : (l.take (64 * (i + 1))).drop (64 * i) = (l.drop (64 * i)).take 64 := by
      rw [List.drop_take]; congr 1; omega
    have h64 : ((l.drop (64 * i)).take 64).length = 64 := by rw [List.length_take, List.length_drop]; omega
    rw [ew, decide_eq_true (by omega), chk_t, Int.toNat_natCast, Int.toNat_natCast, hb, blk_ref g h64, Option.bind_some, ok_some, nxt_inl]
    refine ⟨q, by omega, i + 1, _, rfl, by omega, by omega, ?_⟩
    rw [← e1, hq, show l.length / 64 - (i + 1) = q by omega]
    show _ = blks q (blk g ((l.drop (64 * i)).take 64)) ((l.drop (64 * i)).drop 64)
    rw [List.drop_drop]
    rfl
  · have hc := of_decide_eq_false hc
    have h0 : l.length / 64 - i = 0 := by omega
    rw [h0] at e1
    have e1 : g = blks (l.length / 64) iv l := e1
    rw [ok_map, e1]
    exact hp
/-- The bytes of the result. -/
def fbL (s : H8) : List UInt8 := (List.range 32).map fun j => UInt8.ofNat (Int.toNat (wu8 (vget s (j / 4) (0 : Int) / 2 ^ (24 - j % 4 * 8))))
theorem fbL_len (s : H8) : (fbL s).length = 32 := by simp [fbL]
theorem fbL_get (s : H8) {j : Nat} (h : j < 32) : (fbL s)[j]'(by rw [fbL_len]; exact h) = UInt8.ofNat (Int.toNat (wu8 (vget s (j / 4) (0 : Int) / 2 ^ (24 - j % 4 * 8)))) := by simp [fbL]
def fb (s : H8) : Vector UInt8 32 := ⟨(fbL s).toArray, by rw [List.size_toArray, fbL_len]⟩
/-- The first j bytes are there. -/
def Fill (s : H8) (j : Nat) (v : Vector UInt8 32) : Prop := v.toList = (fbL s).take j ++ List.replicate (32 - j) (0 : UInt8)
theorem Fill.set {s : H8} {j : Nat} {v : Vector UInt8 32} (h : Fill s j v) (hj : j < 32) {x : UInt8} (hx : x = UInt8.ofNat (Int.toNat (wu8 (vget s (j / 4) (0 : Int) / 2 ^ (24 - j % 4 * 8))))) : Fill s (j + 1) (vset v j x) := by
  unfold Fill at h ⊢
  rw [vset_list, h]
  have hlen : ((fbL s).take j).length = j := by rw [List.length_take, fbL_len]; omega
  rw [take_succ' (by rw [fbL_len]; exact hj), fbL_get s hj, ← hx, show 32 - j = (32 - (j + 1)) + 1 by omega, List.replicate_succ, List.set_append_right _ _ (by omega), hlen, Nat.sub_self, List.set_cons_zero, List.append_assoc]
  rfl
theorem Fill.all {s : H8} {v : Vector UInt8 32} (h : Fill s 32 v) : v = fb s := by
  apply Vector.toList_inj.1
  unfold Fill at h
  rw [h, List.take_of_length_le (by rw [fbL_len]; exact Nat.le_refl 32)]
  simp [fb]
theorem fill0 (s : H8) : Fill s 0 (Vector.replicate 32 (0 : UInt8)) := by simp [Fill]
theorem out_prog (s : H8) (z1 : Vector UInt8 32) (d : DG) : F_sha_Digest_Sum_c3 z1 (Vector.replicate 32 (0 : UInt8)) s d = some (d, fb s) := by
  rw [← ok_eq]
  unfold F_sha_Digest_Sum_c3 F_sha_Digest_Sum_l4s
  refine ok_iterE (fun k v => ∃ (i : Nat) (o : Vector UInt8 32), v = (s, (i : Int), z1, o, d) ∧ i ≤ 8 ∧ k = 8 - i ∧ Fill s (4 * i) o) ?_ (n := 8) ⟨0, _, rfl, by omega, rfl, fill0 s⟩ (by omega)
  rintro k v ⟨i, o, rfl, hi, rfl, hf⟩
  unfold F_sha_Digest_Sum_l4
  dsimp only
  rw [ok_sel]
  refine ⟨fun hc => ?_, fun hc => ?_⟩
  · have hc := of_decide_eq_true hc
    rw [w_mul4 (i := i) (by omega), w_plus (i := 4 * i) (c := 1) (by omega) (by omega) (by omega), w_plus (i := 4 * i) (c := 2) (by omega) (by omega) (by omega), w_plus (i := 4 * i) (c := 3) (by omega) (by omega) (by omega)]
    simp only [ok_chk, ok_some, nxt_inl, decide_eq_true_eq, wi_succ (i := i) (by omega), Int.toNat_natCast]
    refine ⟨by omega, by omega, by omega, wu8_range _, by omega, by omega, wu8_range _, by omega, by omega, wu8_range _, by omega, by omega, wu8_range _, 8 - (i + 1), by omega, i + 1, _, rfl, by omega, rfl, ?_⟩
    have e0 : (4 * i) / 4 = i := by omega
    have e1 : (4 * i + 1) / 4 = i := by omega
    have e2 : (4 * i + 2) / 4 = i := by omega
    have e3 : (4 * i + 3) / 4 = i := by omega
    have f0 : 24 - (4 * i) % 4 * 8 = 24 := by omega
    have f1 : 24 - (4 * i + 1) % 4 * 8 = 16 := by omega
    have f2 : 24 - (4 * i + 2) % 4 * 8 = 8 := by omega
    have f3 : 24 - (4 * i + 3) % 4 * 8 = 0 := by omega
    exact (((hf.set (by omega) (by rw [e0, f0])).set (by omega) (by rw [e1, f1])).set (by omega) (by rw [e2, f2])).set (by omega) (by rw [e3, f3, Int.pow_zero, Int.ediv_one])
  · have hc := of_decide_eq_false hc
    have e : i = 8 := by omega
    subst e
    rw [ok_some, nxt_inr, hf.all]
theorem out_ref (s : H8) (z1 : Vector UInt8 32) : F_mempoolref4_Sha_c3 z1 s = some (fb s) := by
  rw [← ok_eq]
  unfold F_mempoolref4_Sha_c3 F_mempoolref4_Sha_l4s
  refine ok_iterE (fun k v => ∃ (i : Nat) (o : Vector UInt8 32), v = ((i : Int), z1, s, o) ∧ i ≤ 32 ∧ k = 32 - i ∧ Fill s i o) ?_ (n := 32) ⟨0, _, rfl, by omega, rfl, fill0 s⟩ (by omega)
  rintro k v ⟨i, o, rfl, hi, rfl, hf⟩
  unfold F_mempoolref4_Sha_l4
  dsimp only
  rw [ok_sel]
  refine ⟨fun hc => ?_, fun hc => ?_⟩
  · have hc := of_decide_eq_true hc
    have e1 : wi64 (Int.tdiv (i : Int) 4) = ((i / 4 : Nat) : Int) := by
      rw [show Int.tdiv (i : Int) 4 = ((i / 4 : Nat) : Int) from rfl, wi64_id (by omega) (by omega)]
    have e2 : wi64 (24 - wi64 (Int.tmod (i : Int) 4 * 8)) = ((24 - i % 4 * 8 : Nat) : Int) := by
      rw [show Int.tmod (i : Int) 4 = ((i % 4 : Nat) : Int) from rfl, wi64_id (n := ((i % 4 : Nat) : Int) * 8) (by omega) (by omega), wi64_id (by omega) (by omega)]
      omega
    rw [e1, e2]
    have e3 : min (24 - i % 4 * 8) 32 = 24 - i % 4 * 8 := by omega
    simp only [ok_chk, ok_some, nxt_inl, decide_eq_true_eq, wi_succ (i := i) (by omega), Int.toNat_natCast, e3]
    exact ⟨by omega, by omega, by omega, by omega, by omega, wu8_range _, 32 - (i + 1), by omega, i + 1, _, rfl, by omega, rfl, hf.set (by omega) rfl⟩
  · have hc := of_decide_eq_false hc
    have e : i = 32 := by omega
    subst e
    rw [ok_some, nxt_inr, hf.all]
/-- The padded message. -/
def padM (m : List UInt8) : List UInt8 := (m ++ [(128 : UInt8)]) ++ List.replicate (zc (m.length + 1)) (0 : UInt8) ++ by8 (wu64 (wu64 ((m.length : Nat) : Int) * 8))
def shaF (m : List UInt8) : Vector UInt8 32 := fb (blks ((padM m).length / 64) iv (padM m))
theorem padM_len (m : List UInt8) : (padM m).length = m.length + 1 + zc (m.length + 1) + 8 ∧ (padM m).length % 64 = 0 := by
  have h := (zc_ok (m.length + 1)).1
  have e : (padM m).length = m.length + 1 + zc (m.length + 1) + 8 := by
    unfold padM
    rw [List.length_append, rep_len, by8_len, List.length_append]; rfl
  exact ⟨e, by rw [e]; omega⟩
theorem sha_ref {m : List UInt8} (hm : m.length ≤ 140737488355000) : F_mempoolref4_Sha m = some (shaF m) := by
  rw [← ok_eq]
  have hz := zc_lt (m.length + 1)
  have h1 : (m ++ [(128 : UInt8)]).length = m.length + 1 := by rw [List.length_append]; rfl
  obtain ⟨p1, p2⟩ := padM_len m
  unfold F_mempoolref4_Sha
  rw [decide_eq_true ⟨by unfold LIM; omega, by unfold LEN; omega⟩, chk_t, decide_eq_true ⟨by unfold LIM; omega, by unfold LEN; omega⟩, chk_t]
  refine zeros_ref (by rw [h1]; omega) ?_
  rw [h1]
  unfold F_mempoolref4_Sha_c1
  refine len_ref (by rw [rep_len, h1]; omega) ?_
  unfold F_mempoolref4_Sha_c2
  refine all_ref (padM m) (by omega) p2 ?_
  rw [out_ref, ok_some]
  rfl
theorem sum_dig {d : DG} {m : List UInt8} (h : Dig d m) (_hm : m.length ≤ 140737488355000) : F_sha_Digest_Sum d = some (d, shaF m) := by
  rw [← ok_eq]
  obtain ⟨q, hq⟩ : ∃ q, q = m.length / 64 := ⟨_, rfl⟩
  unfold Dig at h
  rw [← hq] at h
  have hr : (m.drop (64 * q)).length = m.length - 64 * q := List.length_drop
  have hx : (m.take (64 * q)).length = 64 * q := by rw [List.length_take]; omega
  obtain ⟨g, rest, n⟩ := d
  injection h with h1 h2
  injection h2 with h2 h3
  obtain ⟨rfl, rfl, rfl⟩ : g = blks q iv m ∧ rest = m.drop (64 * q) ∧ n = ((m.length : Nat) : Int) := ⟨h1, h2, h3⟩
  have hl : (m.drop (64 * q) ++ [(128 : UInt8)]).length = m.length - 64 * q + 1 := by rw [List.length_append, hr]; rfl
  have hzz : zc (m.length - 64 * q + 1) = zc (m.length + 1) := zc_mod (by omega)
  have hz := zc_lt (m.length + 1)
  obtain ⟨p1, p2⟩ := padM_len m
  have hpad : padM m = m.take (64 * q) ++ ((m.drop (64 * q) ++ [(128 : UInt8)]) ++ List.replicate (zc (m.length + 1)) (0 : UInt8) ++ by8 (wu64 (wu64 ((m.length : Nat) : Int) * 8))) := by
    unfold padM
    simp only [← List.append_assoc, List.take_append_drop]
  have htl : ((m.drop (64 * q) ++ [(128 : UInt8)]) ++ List.replicate (zc (m.length + 1)) (0 : UInt8) ++ by8 (wu64 (wu64 ((m.length : Nat) : Int) * 8))).length = m.length - 64 * q + 1 + zc (m.length + 1) + 8 := by
    rw [List.length_append, rep_len, by8_len, hl]
  unfold F_sha_Digest_Sum
  dsimp only
  rw [hr, decide_eq_true ⟨by unfold LIM; omega, by unfold LEN; omega⟩, chk_t, decide_eq_true ⟨by unfold LIM; omega, by unfold LEN; omega⟩, chk_t]
  refine zeros_prog (by rw [hl]; omega) ?_
  rw [hl, hzz]
  unfold F_sha_Digest_Sum_c1
  refine len_prog (by rw [rep_len, hl]; omega) ?_
  unfold F_sha_Digest_Sum_c2
  refine all_prog _ _ (by rw [htl]; omega) (by rw [htl]; omega) ?_
  rw [out_prog, ok_some]
  refine Prod.ext rfl ?_
  dsimp only
  unfold shaF
  have hbq : blks q iv (m.take (64 * q)) = blks q iv m := by
    have h1 := blks_add 0 (m.drop (64 * q)) q iv (m.take (64 * q)) hx
    rw [List.take_append_drop] at h1
    exact h1.symm
  have hn : (padM m).length / 64 = q + ((m.drop (64 * q) ++ [(128 : UInt8)]) ++ List.replicate (zc (m.length + 1)) (0 : UInt8) ++ by8 (wu64 (wu64 ((m.length : Nat) : Int) * 8))).length / 64 := by rw [htl, p1]; omega
  rw [hn]
  congr 1
  conv => rhs; rw [hpad]
  rw [blks_add _ _ q iv _ hx, hbq]
end Go.Proofs.Ytfaceeglocjkbaa.Am
