/- Memos, on plain data: the program's and the reference's walks. No conditions. -/
import Derived.Test.YtgfmnpbcbpobbaaDoorPMemo
namespace Go.Proofs.YtgfmnpbcbpobbaaDoor.Am
open Go

theorem byt_getD (s : List UInt8) (p : Nat) : (UInt8.toNat (List.getD s p (0 : UInt8)) : Nat) = byt s p := rfl
theorem follow_ok {s : List UInt8} {p j : Nat} (hl : s.length ≤ 1000000000000000) (hp : p < s.length) (hj : j ≤ 3) : F_mempoolref10_follow s (wi64 (((p : Nat) : Int) + ((j : Nat) : Int))) = some (decide (fol (s.length - p) j (byt s (p + j)))) := by
  rw [← ok_eq]
  have hw : wi64 (((p : Nat) : Int) + ((j : Nat) : Int)) = ((p + j : Nat) : Int) := by rw [wi64_id] <;> omega
  simp only [F_mempoolref10_follow, hw, ok_sel, ok_chk, ok_some, decide_eq_true_eq, decide_eq_false_iff_not, Int.toNat_natCast, byt_getD]
  refine ⟨fun h => ⟨by omega, fun h1 => ⟨by omega, ?_⟩, fun h1 => ?_⟩, fun h => ?_⟩
  · rw [decide_eq_decide]; omega
  · symm; rw [decide_eq_false_iff_not]; omega
  · symm; rw [decide_eq_false_iff_not]; omega
theorem r3_ok {s : List UInt8} {p : Nat} (hl : s.length ≤ 1000000000000000) (x : UInt8) (b : Bool) (hb : b = true → p + 1 < s.length) :
    F_mempoolref10_Rune_c3 s ((p : Nat) : Int) x b = some ((if b = true then (if (x.toNat = 240 ∧ byt s (p + 1) < 144) ∨ (x.toNat = 244 ∧ 144 ≤ byt s (p + 1)) then 0 else 4) else 0 : Nat) : Int) := by
  rw [← ok_eq]
  have hw : p + 1 < s.length → wi64 (((p : Nat) : Int) + 1) = ((p + 1 : Nat) : Int) := fun h => by rw [wi64_id] <;> omega
  cases b with
  | false => simp only [F_mempoolref10_Rune_c3, ok_sel, ok_chk, ok_some, decide_eq_true_eq, decide_eq_false_iff_not]; exact ⟨fun h => (by cases h), fun _ => rfl⟩
  | true =>
    have h1 := hb rfl
    simp only [F_mempoolref10_Rune_c3, hw h1, ok_sel, ok_chk, ok_some, decide_eq_true_eq, decide_eq_false_iff_not, Int.toNat_natCast, byt_getD]
    repeat' first | apply And.intro | intro _
    all_goals first | (exfalso; omega) | omega | (rw [if_pos trivial, if_pos (by omega)]; rfl) | (rw [if_pos trivial, if_neg (by omega)]; rfl) | (exfalso; rename_i h; cases h)
theorem r2_ok {s : List UInt8} {p : Nat} (hl : s.length ≤ 1000000000000000) (hp : p < s.length) (x : UInt8) (b : Bool) (hb : b = true → p + 1 < s.length) :
    F_mempoolref10_Rune_c2 s ((p : Nat) : Int) x b = some ((if b = true then (if (x.toNat = 224 ∧ byt s (p + 1) < 160) ∨ (x.toNat = 237 ∧ 160 ≤ byt s (p + 1)) then 0 else 3) else
      if (240 ≤ x.toNat ∧ x.toNat < 245) ∧ fol (s.length - p) 1 (byt s (p + 1)) ∧ fol (s.length - p) 2 (byt s (p + 2)) ∧ fol (s.length - p) 3 (byt s (p + 3)) then (if (x.toNat = 240 ∧ byt s (p + 1) < 144) ∨ (x.toNat = 244 ∧ 144 ≤ byt s (p + 1)) then 0 else 4) else 0 : Nat) : Int) := by
  rw [← ok_eq]
  have f1 := follow_ok (j := 1) hl hp (by omega)
  have f2 := follow_ok (j := 2) hl hp (by omega)
  have f3 := follow_ok (j := 3) hl hp (by omega)
  rw [show ((1 : Nat) : Int) = 1 from rfl] at f1
  rw [show ((2 : Nat) : Int) = 2 from rfl] at f2
  rw [show ((3 : Nat) : Int) = 3 from rfl] at f3
  cases b with
  | false =>
    have r0 := r3_ok (p := p) hl x false (fun h => by cases h)
    simp only [F_mempoolref10_Rune_c2, f1, f2, f3, r0, ok_sel, ok_chk, ok_bind, ok_some, decide_eq_true_eq, decide_eq_false_iff_not, Bool.false_eq_true, if_false]
    refine ⟨fun h => (by cases h), fun _ => ⟨fun h1 => ⟨fun h2 => ⟨fun h3 => ⟨fun h4 => ?_, fun h4 => ?_⟩, fun h3 => ?_⟩, fun h2 => ?_⟩, fun h1 => ?_⟩⟩
    · rw [r3_ok hl x _ (fun _ => by omega), ok_some]
      simp only [decide_eq_true_eq]
      congr 1
      by_cases h5 : fol (s.length - p) 3 (byt s (p + 3))
      · have e : (240 ≤ x.toNat ∧ x.toNat < 245) ∧ fol (s.length - p) 1 (byt s (p + 1)) ∧ fol (s.length - p) 2 (byt s (p + 2)) ∧ fol (s.length - p) 3 (byt s (p + 3)) := ⟨by omega, h3, h4, h5⟩
        rw [if_pos h5, if_pos e]
      · have e : ¬ ((240 ≤ x.toNat ∧ x.toNat < 245) ∧ fol (s.length - p) 1 (byt s (p + 1)) ∧ fol (s.length - p) 2 (byt s (p + 2)) ∧ fol (s.length - p) 3 (byt s (p + 3))) := fun h => h5 h.2.2.2
        rw [if_neg h5, if_neg e]
    · rw [if_neg (fun h => h4 h.2.2.1)]
    · rw [if_neg (fun h => h3 h.2.1)]
    · rw [if_neg (fun h => by omega)]
    · rw [if_neg (fun h => by omega)]
  | true =>
    have h1 := hb rfl
    have hw : wi64 (((p : Nat) : Int) + 1) = ((p + 1 : Nat) : Int) := by rw [wi64_id] <;> omega
    simp only [F_mempoolref10_Rune_c2, hw, ok_sel, ok_chk, ok_bind, ok_some, decide_eq_true_eq, decide_eq_false_iff_not, Int.toNat_natCast, byt_getD]
    refine ⟨fun _ => ?_, fun h => by cases h⟩
    repeat' first | apply And.intro | intro _
    all_goals first | (exfalso; omega) | omega | (rw [if_pos trivial, if_pos (by omega)]; rfl) | (rw [if_pos trivial, if_neg (by omega)]; rfl) | (exfalso; rename_i h; cases h)
theorem rune_ok {s : List UInt8} {p : Nat} (hl : s.length ≤ 1000000000000000) (hp : p < s.length) : F_mempoolref10_Rune s ((p : Nat) : Int) = some ((width s p : Nat) : Int) := by
  rw [← ok_eq, width_rune]
  have f1 := follow_ok (j := 1) hl hp (by omega)
  have f2 := follow_ok (j := 2) hl hp (by omega)
  rw [show ((1 : Nat) : Int) = 1 from rfl] at f1
  rw [show ((2 : Nat) : Int) = 2 from rfl] at f2
  have hx : (List.getD s p (0 : UInt8)).toNat = byt s p := rfl
  have c1 : ∀ b, (b = true → fol (s.length - p) 1 (byt s (p + 1)) ∧ 194 ≤ byt s p ∧ byt s p < 224) → (b = false → ¬ ((194 ≤ byt s p ∧ byt s p < 224) ∧ fol (s.length - p) 1 (byt s (p + 1)))) → 128 ≤ byt s p →
      Ok (F_mempoolref10_Rune_c1 s ((p : Nat) : Int) (List.getD s p 0) b) (· = ((runeN (s.length - p) (byt s p) (byt s (p + 1)) (byt s (p + 2)) (byt s (p + 3)) : Nat) : Int)) := by
    intro b hb1 hb2 h128
    unfold runeN
    rw [if_neg (by omega)]
    cases b with
    | true =>
      have := hb1 rfl
      simp only [F_mempoolref10_Rune_c1, ok_sel, ok_bind, ok_some, decide_eq_true_eq, decide_eq_false_iff_not]
      exact ⟨fun _ => by rw [if_pos ⟨this.2, this.1⟩]; rfl, fun h => (by cases h)⟩
    | false =>
      have := hb2 rfl
      rw [if_neg this]
      have q0 := r2_ok hl hp (List.getD s p 0) false (fun h => by cases h)
      simp only [F_mempoolref10_Rune_c1, f1, f2, q0, ok_sel, ok_bind, ok_some, decide_eq_true_eq, decide_eq_false_iff_not, hx, Bool.false_eq_true, if_false]
      refine ⟨fun h => (by cases h), fun _ => ⟨fun h1 => ⟨fun h2 => ⟨fun h3 => ?_, fun h3 => ?_⟩, fun h2 => ?_⟩, fun h1 => ?_⟩⟩
      · rw [r2_ok hl hp _ _ (fun _ => by omega), ok_some, hx]
        simp only [decide_eq_true_eq]
        congr 1
        by_cases h5 : fol (s.length - p) 2 (byt s (p + 2))
        · have e : (224 ≤ byt s p ∧ byt s p < 240) ∧ fol (s.length - p) 1 (byt s (p + 1)) ∧ fol (s.length - p) 2 (byt s (p + 2)) := ⟨by omega, h3, h5⟩
          rw [if_pos h5, if_pos e]
        · have e : ¬ ((224 ≤ byt s p ∧ byt s p < 240) ∧ fol (s.length - p) 1 (byt s (p + 1)) ∧ fol (s.length - p) 2 (byt s (p + 2))) := fun h => h5 h.2.2
          rw [if_neg h5, if_neg e]
      · have e : ¬ ((224 ≤ byt s p ∧ byt s p < 240) ∧ fol (s.length - p) 1 (byt s (p + 1)) ∧ fol (s.length - p) 2 (byt s (p + 2))) := fun h => h3 h.2.1
        rw [if_neg e]
      · have e : ¬ ((224 ≤ byt s p ∧ byt s p < 240) ∧ fol (s.length - p) 1 (byt s (p + 1)) ∧ fol (s.length - p) 2 (byt s (p + 2))) := fun h => by omega
        rw [if_neg e]
      · have e : ¬ ((224 ≤ byt s p ∧ byt s p < 240) ∧ fol (s.length - p) 1 (byt s (p + 1)) ∧ fol (s.length - p) 2 (byt s (p + 2))) := fun h => by omega
        rw [if_neg e]
  simp only [F_mempoolref10_Rune, f1, ok_sel, ok_chk, ok_bind, ok_some, decide_eq_true_eq, decide_eq_false_iff_not, Int.toNat_natCast, hx]
  refine ⟨by omega, fun h1 => ?_, fun h1 => ⟨fun h2 => ⟨fun h3 => ?_, fun h3 => ?_⟩, fun h2 => ?_⟩⟩
  · unfold runeN; rw [if_pos (by omega)]; rfl
  · refine c1 _ (fun h => ?_) (fun h => ?_) (by omega)
    · exact ⟨of_decide_eq_true h, by omega, by omega⟩
    · exact fun h' => of_decide_eq_false h h'.2
  · exact c1 _ (fun h => by cases h) (fun _ h' => by omega) (by omega)
  · exact c1 _ (fun h => by cases h) (fun _ h' => by omega) (by omega)
theorem drop_take' {α : Type} (l : List α) (k : Nat) : List.drop k (List.take (Int.toNat ((List.length l : Nat) : Int)) l) = List.drop k l := by
  rw [Int.toNat_natCast, List.take_length]
theorem dec4_pos (s : List UInt8) (p : Nat) : (dec4 s p).2 ≠ 0 := by
  unfold dec4 Lib.decodeN
  repeat' split
  all_goals simp
theorem width_in {s : List UInt8} {p : Nat} (h : p < s.length) : p + width s p ≤ s.length := by
  rw [width_rune]
  unfold runeN
  repeat' split
  all_goals omega
/-- Is the rest a memo's, if so many characters stand ahead of it? -/
def memoR (s : List UInt8) : Nat → Nat → Nat → Bool
  | 0, _, _ => false
  | f + 1, p, k => if p < s.length then (if width s p = 0 then false else memoR s f (p + width s p) (k + 1)) else decide (k ≤ 64)
def isMemo (s : List UInt8) : Bool := memoR s (s.length + 1) 0 0
theorem memoR_step {s : List UInt8} {f p k : Nat} (h : p < s.length) (hf : s.length < p + f) : ∃ f', f = f' + 1 ∧ (width s p = 0 → memoR s f p k = false) ∧ (width s p ≠ 0 → memoR s f p k = memoR s f' (p + width s p) (k + 1) ∧ s.length < p + width s p + f') := by
  cases f with
  | zero => omega
  | succ f =>
    refine ⟨f, rfl, fun hw => ?_, fun hw => ⟨?_, by omega⟩⟩
    · simp [memoR, h, hw]
    · simp [memoR, h, hw]
theorem memo_l1 (s : List UInt8) (k p : Int) : F_tx_IsMemo_l1 s k [(s, p)] =
    sel (decide (Int.toNat p < List.length s)) (
      chk (decide (Int.toNat p < List.length s)) <|
      chk (decide (Int.toNat p < List.length s)) <|
      chk (decide ((0 : Int) ≤ p ∧ p ≤ (((List.length s) : Nat) : Int) ∧ (((List.length s) : Nat) : Int) ≤ (((List.length s) : Nat) : Int))) <|
      (F_unicode_utf8_DecodeRuneInString (List.drop (Int.toNat p) (List.take (Int.toNat (((List.length s) : Nat) : Int)) s))).bind fun r1 =>
      sel (decide (runeT s p = 65533)) (
        sel (decide (r1.2 = 1)) (some (.inr false)) (some (.inl (s, wi64 (k + 1), [(s, nextT s p)])))) (
        some (.inl (s, wi64 (k + 1), [(s, nextT s p)])))) (
      some (.inr (decide (k ≤ 64)))) := rfl
theorem memo_tx {s : List UInt8} (hl : s.length ≤ 1000000000000000) : F_tx_IsMemo s = some (isMemo s) := by
  rw [← ok_eq]
  unfold F_tx_IsMemo F_tx_IsMemo_l1s
  refine ok_iter (S := List UInt8 × Int × List (List UInt8 × Int)) (inv := fun v => ∃ p k f : Nat, v = (s, ((k : Nat) : Int), [(s, ((p : Nat) : Int))]) ∧ k ≤ p ∧ p ≤ s.length ∧ s.length < p + f ∧ memoR s f p k = isMemo s) (m := fun v => s.length + 4 - (List.headD v.2.2 ([], 0)).2.toNat) ?_ ⟨0, 0, s.length + 1, rfl, by omega, by omega, by omega, rfl⟩ (by simp; omega)
  rintro v ⟨p, k, f, rfl, hk, hp, hf, hr⟩
  simp only [memo_l1, ok_sel, ok_chk, ok_bind, ok_some, nxt_inl, nxt_inr, decide_eq_true_eq, decide_eq_false_iff_not, Int.toNat_natCast, List.take_length]
  refine ⟨fun h => ⟨h, h, by omega, ?_⟩, fun h => ?_⟩
  · rw [F_unicode_utf8_DecodeRuneInString, decodeGo_drop h, ok_some]
    have hrune : runeT s ((p : Nat) : Int) = (((dec4 s p).1 : Nat) : Int) := by unfold runeT; rw [Int.toNat_natCast, decode_list]
    have hnext : nextT s ((p : Nat) : Int) = ((p + (dec4 s p).2 : Nat) : Int) := by
      unfold nextT nextP
      rw [Int.toNat_natCast, decode_list, if_pos (show p < (⟨s.toArray⟩ : ByteArray).size from h)]
    rw [hrune, hnext, wi_succ (i := k) (by omega)]
    obtain ⟨f', rfl, m1, m2⟩ := memoR_step (k := k) h hf
    have hw4 := width_le s p
    have hwi := width_in h
    have cont : width s p ≠ 0 → (∃ p_1 k_1 f_1 : Nat, ((s, ((k + 1 : Nat) : Int), [(s, ((p + (dec4 s p).2 : Nat) : Int))]) : List UInt8 × Int × List (List UInt8 × Int)) = (s, ((k_1 : Nat) : Int), [(s, ((p_1 : Nat) : Int))]) ∧ k_1 ≤ p_1 ∧ p_1 ≤ s.length ∧ s.length < p_1 + f_1 ∧ memoR s f_1 p_1 k_1 = isMemo s) ∧
        s.length + 4 - (((p + (dec4 s p).2 : Nat) : Int)).toNat < s.length + 4 - p := by
      intro hw
      have e : (dec4 s p).2 = width s p := by
        unfold width at hw ⊢
        split at hw
        · exact absurd rfl hw
        · rename_i hc; rw [if_neg hc]
      obtain ⟨a1, a2⟩ := m2 hw
      rw [e]
      refine ⟨⟨p + width s p, k + 1, f', rfl, by omega, by omega, a2, a1.symm.trans hr⟩, ?_⟩
      rw [Int.toNat_natCast]
      omega
    simp only [ok_sel]
    refine ⟨fun h1 => ⟨fun h2 => ?_, fun h2 => cont ?_⟩, fun h1 => cont ?_⟩
    · rw [← hr, m1 (by unfold width; rw [if_pos ⟨by omega, by omega⟩])]
    · unfold width; rw [if_neg (fun hc => h2 (by omega))]
      have : (dec4 s p).2 ≠ 0 := dec4_pos s p
      exact this
    · unfold width; rw [if_neg (fun hc => h1 (by omega))]
      exact dec4_pos s p
  · rw [← hr]
    cases f with
    | zero => omega
    | succ f => unfold memoR; rw [if_neg h, decide_eq_decide]; omega
theorem memo_ref {s : List UInt8} (hl : s.length ≤ 1000000000000000) : F_mempoolref10_IsMemo s = some (isMemo s) := by
  have key : Ok (F_mempoolref10_Runes s) fun r => (r.2 && decide (r.1 ≤ 64)) = isMemo s := by
    unfold F_mempoolref10_Runes F_mempoolref10_Runes_l1s
    refine ok_iter (S := List UInt8 × Int × Int) (inv := fun v => ∃ p k f : Nat, v = (s, ((k : Nat) : Int), ((p : Nat) : Int)) ∧ k ≤ p ∧ p ≤ s.length ∧ s.length < p + f ∧ memoR s f p k = isMemo s) (m := fun v => s.length + 4 - v.2.2.toNat) ?_ ⟨0, 0, s.length + 1, rfl, by omega, by omega, by omega, rfl⟩ (by simp; omega)
    rintro v ⟨p, k, f, rfl, hk, hp, hf, hr⟩
    simp only [F_mempoolref10_Runes_l1, ok_sel, ok_bind, ok_some, nxt_inl, nxt_inr, decide_eq_true_eq, decide_eq_false_iff_not, Int.toNat_natCast]
    refine ⟨fun h => ?_, fun h => ?_⟩
    · have h' : p < s.length := by omega
      obtain ⟨f', rfl, m1, m2⟩ := memoR_step (k := k) h' hf
      have hw4 := width_le s p
      have hwi := width_in h'
      rw [rune_ok hl h', ok_some, wi_succ (i := k) (by omega)]
      have e2 : wi64 (((p : Nat) : Int) + ((width s p : Nat) : Int)) = ((p + width s p : Nat) : Int) := by rw [wi64_id] <;> omega
      simp only [e2, Int.toNat_natCast]
      refine ⟨fun h1 => ?_, fun h1 => ?_⟩
      · rw [← hr, m1 (by omega)]; rfl
      · obtain ⟨a1, a2⟩ := m2 (by omega)
        refine ⟨⟨p + width s p, k + 1, f', rfl, by omega, by omega, a2, a1.symm.trans hr⟩, by omega⟩
    · rw [← hr]
      cases f with
      | zero => omega
      | succ f => unfold memoR; rw [if_neg (by omega), Bool.true_and, decide_eq_decide]; omega
  obtain ⟨r, h1, h2⟩ := key
  unfold F_mempoolref10_IsMemo
  rw [h1, Option.bind_some, ← h2]
  cases r.2 <;> rfl
end Go.Proofs.YtgfmnpbcbpobbaaDoor.Am
