/- The program's and the reference's reading of fields are the same, on plain data. No conditions. -/
import Derived.Test.YtgfmnpbcbpobbaaDoorFAll
import Derived.Test.YtgfmnpbcbpobbaaDoorPLoop
import Derived.KernelRfl
namespace Go.Proofs.YtgfmnpbcbpobbaaDoor.Am.FSm
open Go

theorem iter_congr {S R : Type} {G1 G2 : S → Option (S ⊕ R)} (inv : S → Prop) (h : ∀ x, inv x → G1 x = G2 x ∧ ∀ y, G1 x = some (.inl y) → inv y) : ∀ {x : S}, inv x → iterO G1 x = iterO G2 x := by
  have key : ∀ (n : Nat) (x : S), inv x → iter n G1 x = iter n G2 x := by
    intro n
    induction n with
    | zero => intro x _; rfl
    | succ n ih =>
      intro x hx
      obtain ⟨h1, h2⟩ := h x hx
      unfold iter
      rw [← h1]
      cases hg : G1 x with
      | none => rfl
      | some y =>
        cases y with
        | inl z => exact ih z (h2 z hg)
        | inr r => rfl
  intro x hx
  exact key _ x hx
theorem bits_u64 (op : BinOp) (a b : Int) : 0 ≤ bits op .u64 a b ∧ bits op .u64 a b < 18446744073709551616 := by
  unfold bits
  rw [IntKind.wrap_u64]
  omega
theorem bits_u8 (op : BinOp) (a b : Int) : 0 ≤ bits op .u8 a b ∧ bits op .u8 a b < 256 := by
  unfold bits
  rw [IntKind.wrap_u8]
  omega
theorem and7 {n : Int} (h0 : 0 ≤ n) (h1 : n < 18446744073709551616) : bits .and .u64 n 7 = n % 8 := by
  obtain ⟨m, rfl⟩ : ∃ m : Nat, n = m := ⟨n.toNat, by omega⟩
  have hm : m < 2 ^ 64 := by omega
  unfold bits
  rw [IntKind.wrap_u64]
  have e : (BitVec.ofInt IntKind.u64.bits (m : Int) &&& BitVec.ofInt IntKind.u64.bits 7).toNat = m % 8 := by
    have e1 : (BitVec.ofInt IntKind.u64.bits (m : Int)).toNat = m := by
      rw [BitVec.toNat_ofInt]
      show ((m : Int) % ((2 ^ 64 : Nat) : Int)).toNat = m
      omega
    have e2 : (BitVec.ofInt IntKind.u64.bits 7).toNat = 7 := by rfl
    rw [BitVec.toNat_and, e1, e2]
    exact Nat.and_two_pow_sub_one_eq_mod m 3
  simp only [e]
  omega
theorem read_same (b : List UInt8) : F_varint_Read b = F_mempoolref1_Read b := by kernel_rfl
def ReadP (b : List UInt8) (r : Int × Int × Int) : Prop := 0 ≤ r.1 ∧ r.1 < 18446744073709551616 ∧ 0 ≤ r.2.1 ∧ r.2.1 ≤ b.length ∧ (r.2.2 = 0 → 1 ≤ r.2.1)
theorem read_ok (b : List UInt8) (hb : b.length ≤ 1000000000) : Ok (F_mempoolref1_Read b) (ReadP b) := by
  unfold F_mempoolref1_Read F_mempoolref1_Read_l1s
  refine ok_iter (S := List UInt8 × Int × Int) (inv := fun v => v.1 = b ∧ 0 ≤ v.2.1 ∧ v.2.1 < 18446744073709551616 ∧ 0 ≤ v.2.2 ∧ v.2.2 ≤ b.length ∧ v.2.2 ≤ 9) (m := fun v => (10 - v.2.2).toNat) ?_ ⟨rfl, by simp, by simp, by simp, by simp, by simp⟩ (by simp)
  rintro ⟨v0, n, i⟩ ⟨rfl, h1, h2, h3, h4, h5⟩
  simp only at h1 h2 h3 h4 h5
  have hg := u8_range (List.getD v0 (Int.toNat i) (0 : UInt8))
  have hw : wi64 (7 * i) = 7 * i := wi64_id (by omega) (by omega)
  have hw2 : wi64 (i + 1) = i + 1 := wi64_id (by omega) (by omega)
  have c2 : i < v0.length → (i = 9 → (List.getD v0 (Int.toNat i) (0 : UInt8)).toNat < 128) → Ok (F_mempoolref1_Read_c2 v0 n i) (Nxt (ReadP v0) fun z => (z.1 = v0 ∧ 0 ≤ z.2.1 ∧ z.2.1 < 18446744073709551616 ∧ 0 ≤ z.2.2 ∧ z.2.2 ≤ v0.length ∧ z.2.2 ≤ 9) ∧ (10 - z.2.2).toNat < (10 - i).toNat) := by
    intro hi h9
    simp only [F_mempoolref1_Read_c2, nxt_inl, nxt_inr, ok_sel, ok_chk, ok_some, decide_eq_true_eq, decide_eq_false_iff_not, Int.not_lt, hw, hw2, ReadP]
    have hb2 := bits_u64 .or n (wu64 (wu64 (bits .and .u8 ((UInt8.toNat (List.getD v0 (Int.toNat i) (0 : UInt8)) : Nat) : Int) 127) * 2 ^ (min (Int.toNat (7 * i)) 64)))
    refine ⟨⟨h3, hi⟩, by omega, ⟨h3, hi⟩, fun h => ⟨hb2.1, hb2.2, by omega, by omega, fun _ => by omega⟩, fun h => ⟨⟨trivial, hb2.1, hb2.2, by omega, by omega, ?_⟩, by omega⟩⟩
    have : i ≠ 9 := fun e => by have := h9 e; omega
    omega
  have c3 : ∀ v14 : Bool, i < v0.length → (v14 = false → i = 9 → (List.getD v0 (Int.toNat i) (0 : UInt8)).toNat < 128) → Ok (F_mempoolref1_Read_c3 v0 n i v14) (Nxt (ReadP v0) fun z => (z.1 = v0 ∧ 0 ≤ z.2.1 ∧ z.2.1 < 18446744073709551616 ∧ 0 ≤ z.2.2 ∧ z.2.2 ≤ v0.length ∧ z.2.2 ≤ 9) ∧ (10 - z.2.2).toNat < (10 - i).toNat) := by
    intro v14 hi h9
    simp only [F_mempoolref1_Read_c3, nxt_inr, ok_sel, ok_chk, ok_some, decide_eq_true_eq, decide_eq_false_iff_not, Int.not_lt]
    refine ⟨fun _ => ⟨by simp, by simp, by simp, by simp, by simp⟩, fun hv => ⟨fun _ => ⟨⟨h3, hi⟩, fun _ => ⟨by simp, by simp, by simp, by simp, by simp⟩, fun _ => c2 hi (h9 hv)⟩, fun _ => c2 hi (h9 hv)⟩⟩
  simp only [F_mempoolref1_Read_l1, nxt_inr, ok_sel, ok_chk, ok_some, decide_eq_true_eq, decide_eq_false_iff_not, Int.not_le]
  refine ⟨fun _ => ⟨by simp, by simp, by simp, by simp, by simp⟩, fun hi => ⟨fun e => ⟨⟨h3, by omega⟩, c3 _ (by omega) fun hd _ => ?_⟩, fun e => c3 false (by omega) fun _ e' => absurd e' e⟩⟩
  simp only [decide_eq_false_iff_not] at hd
  omega


theorem drop_take_len {α : Type} (l : List α) (k : Nat) : List.drop k (List.take (Int.toNat ((List.length l : Nat) : Int)) l) = List.drop k l := by
  rw [Int.toNat_natCast, List.take_length]
theorem tdiv8 {n : Int} (h0 : 0 ≤ n) (h1 : n < 18446744073709551616) : wu64 (Int.tdiv n 8) = n / 8 := by
  rw [Int.tdiv_eq_ediv_of_nonneg h0]
  exact wu64_id (by omega) (by omega)
theorem tmod8 {n : Int} (h0 : 0 ≤ n) : Int.tmod n 8 = n % 8 := Int.tmod_eq_emod_of_nonneg h0
/-- One field, by the program and by the reference. -/
theorem one_same (b : List UInt8) (hb : b.length ≤ 1000000000) : F_wire_read b = F_mempoolref1_one b ∧ Ok (F_mempoolref1_one b) fun r => 0 ≤ r.2.1 ∧ r.2.1 ≤ b.length ∧ (r.2.2 = 0 → 1 ≤ r.2.1) := by
  obtain ⟨r, hr, h1, h2, h3, h4, h5⟩ := read_ok b hb
  have e7 : wi64 (bits .and .u64 r.1 7) = r.1 % 8 := by rw [and7 h1 h2]; exact wi64_id (by omega) (by omega)
  have e8 : wi64 (Int.tmod r.1 8) = r.1 % 8 := by rw [tmod8 h1]; exact wi64_id (by omega) (by omega)
  have e9 : r.1 / 2 ^ 3 = r.1 / 8 := by rfl
  have ed := tdiv8 h1 h2
  have hc : ∀ k d, (r.2.2 = 0) → F_wire_read_c1 b r.2.1 k (r.1 / 8) d = F_mempoolref1_one_c1 b r.1 r.2.1 k d ∧ Ok (F_mempoolref1_one_c1 b r.1 r.2.1 k d) fun q => 0 ≤ q.2.1 ∧ q.2.1 ≤ b.length ∧ (q.2.2 = 0 → 1 ≤ q.2.1) := by
    intro k d he
    have h5' := h5 he
    obtain ⟨q, hq, q1, q2, q3, q4, q5⟩ := read_ok (List.drop (Int.toNat r.2.1) b) (by rw [List.length_drop]; omega)
    rw [List.length_drop] at q4
    have q4' : q.2.1 ≤ b.length - r.2.1 := by omega
    have ew : wi64 (r.2.1 + q.2.1) = r.2.1 + q.2.1 := wi64_id (by omega) (by omega)
    have e1 : chk (decide ((0 : Int) ≤ r.2.1 ∧ r.2.1 ≤ ((List.length b : Nat) : Int) ∧ ((List.length b : Nat) : Int) ≤ ((List.length b : Nat) : Int))) = fun (x : Option (D_api_Field × Int × Int)) => x := by
      rw [decide_eq_true (by omega)]; rfl
    have elen : (List.length (List.drop (Int.toNat (r.2.1 + q.2.1)) b) : Int) = b.length - (r.2.1 + q.2.1) := by rw [List.length_drop]; omega
    have eu : wu64 ((List.length (List.drop (Int.toNat (r.2.1 + q.2.1)) b) : Nat) : Int) = b.length - (r.2.1 + q.2.1) := by rw [elen]; exact wu64_id (by omega) (by omega)
    have eu2 : wu64 (wi64 (wi64 (((List.length b : Nat) : Int) - r.2.1) - q.2.1)) = b.length - (r.2.1 + q.2.1) := by
      rw [wi64_id (n := ((List.length b : Nat) : Int) - r.2.1) (by omega) (by omega), wi64_id (by omega) (by omega), wu64_id (by omega) (by omega)]
      omega
    unfold F_wire_read_c1 F_mempoolref1_one_c1
    rw [e1]
    simp only [drop_take_len, read_same, hq, Option.bind_some, ew, eu, eu2, ed]
    cases hz : decide (q.2.2 = 0) with
    | false => exact ⟨rfl, ⟨_, rfl, by simp, by simp, fun e => by simp at hz; exact absurd e hz⟩⟩
    | true =>
      simp only [Bool.not_true]
      have hz' : q.2.2 = 0 := of_decide_eq_true hz
      have q5' := q5 hz'
      cases hk : decide (k = 0) with
      | true => exact ⟨rfl, ⟨_, rfl, by simp only; omega, by simp only; omega, fun _ => by simp only; omega⟩⟩
      | false =>
        simp only [sel]
        have c1 : decide ((0 : Int) ≤ r.2.1 + q.2.1 ∧ r.2.1 + q.2.1 ≤ ((List.length b : Nat) : Int) ∧ ((List.length b : Nat) : Int) ≤ ((List.length b : Nat) : Int)) = true := decide_eq_true (by omega)
        rw [c1]
        cases hv : decide (b.length - (r.2.1 + q.2.1) < q.1) with
        | true => exact ⟨rfl, ⟨_, rfl, by simp, by simp, fun e => by simp at e⟩⟩
        | false =>
          simp only [decide_eq_false_iff_not, Int.not_lt] at hv
          have ev : wi64 q.1 = q.1 := wi64_id (by omega) (by omega)
          have ev2 : wi64 (r.2.1 + q.2.1 + q.1) = r.2.1 + q.2.1 + q.1 := wi64_id (by omega) (by omega)
          have et : List.drop (Int.toNat (r.2.1 + q.2.1)) (List.take (Int.toNat (r.2.1 + q.2.1 + q.1)) b) = List.take (Int.toNat q.1) (List.drop (Int.toNat (r.2.1 + q.2.1)) b) := by
            rw [List.drop_take]
            congr 1
            omega
          have el : (List.take (Int.toNat q.1) (List.drop (Int.toNat (r.2.1 + q.2.1)) b)).length ≤ 1000000000 := by
            rw [List.length_take, List.length_drop]; omega
          simp only [ev, ev2, et]
          have d1 : decide ((0 : Int) ≤ 0 ∧ 0 ≤ q.1 ∧ q.1 ≤ ((List.length (List.drop (Int.toNat (r.2.1 + q.2.1)) b) : Nat) : Int)) = true := decide_eq_true (by rw [elen]; omega)
          have d2 : decide ((List.length (List.take (Int.toNat q.1) (List.drop (Int.toNat (r.2.1 + q.2.1)) b))) * 1 ≤ LIM ∧ (List.length (List.take (Int.toNat q.1) (List.drop (Int.toNat (r.2.1 + q.2.1)) b))) ≤ LEN) = true := decide_eq_true (by unfold LIM LEN; omega)
          have d3 : decide ((0 : Int) ≤ r.2.1 + q.2.1 ∧ r.2.1 + q.2.1 ≤ r.2.1 + q.2.1 + q.1 ∧ r.2.1 + q.2.1 + q.1 ≤ ((List.length b : Nat) : Int)) = true := decide_eq_true (by omega)
          have d4 : decide ((0 + (List.length (List.take (Int.toNat q.1) (List.drop (Int.toNat (r.2.1 + q.2.1)) b)))) * 1 ≤ LIM ∧ 0 + (List.length (List.take (Int.toNat q.1) (List.drop (Int.toNat (r.2.1 + q.2.1)) b))) ≤ LEN) = true := decide_eq_true (by unfold LIM LEN; omega)
          rw [d1, d2, d3, d4]
          exact ⟨rfl, ⟨_, rfl, by simp only; omega, by simp only; omega, fun _ => by simp only; omega⟩⟩
  unfold F_wire_read F_mempoolref1_one
  simp only [read_same, hr, Option.bind_some, e7, e8, ed, e9]
  cases hz : decide (r.2.2 = 0) with
  | false => exact ⟨rfl, ⟨_, rfl, by simp, by simp, fun e => by simp at hz; exact absurd e hz⟩⟩
  | true =>
    have hz' : r.2.2 = 0 := of_decide_eq_true hz
    simp only [Bool.not_true]
    cases h1 : decide (r.1 / 8 < 1) with
    | true => exact ⟨rfl, ⟨_, rfl, by simp, by simp, fun e => by simp at e⟩⟩
    | false =>
      cases h2 : decide (536870911 < r.1 / 8) with
      | true => exact ⟨rfl, ⟨_, rfl, by simp, by simp, fun e => by simp at e⟩⟩
      | false =>
        cases h3 : decide (r.1 % 8 = 0) with
        | true => exact hc _ ((0 : Int), (0 : Int), (0 : Int), []) hz'
        | false =>
          cases h4 : decide (r.1 % 8 = 2) with
          | true => exact hc _ ((0 : Int), (0 : Int), (0 : Int), []) hz'
          | false => exact ⟨rfl, ⟨_, rfl, by simp, by simp, fun e => by simp at e⟩⟩
/-- All fields. -/
theorem fields_same (b : List UInt8) (hb : b.length ≤ 1000000000) : F_wire_Fields b = F_mempoolref1_Fields b ∧ Ok (F_mempoolref1_Fields b) fun r => r.1.length ≤ 1024 := by
  have hd : ∀ i : Int, (List.drop (Int.toNat i) b).length ≤ 1000000000 := fun i => by rw [List.length_drop]; omega
  refine ⟨?_, ?_⟩
  · unfold F_wire_Fields F_wire_Fields_l2s F_mempoolref1_Fields F_mempoolref1_Fields_l2s
    refine iter_congr (S := List UInt8 × Int × List D_api_Field) (inv := fun v => v.1 = b ∧ v.2.2.length ≤ 1024) ?_ ⟨rfl, by simp⟩
    rintro ⟨v0, i, l⟩ ⟨h0, hl⟩
    simp only at h0 hl
    subst h0
    obtain ⟨r, hr, _⟩ := (one_same _ (hd i)).2
    have e := (one_same _ (hd i)).1
    have e2 : decide (((List.length l : Nat) : Int) = 1024) = decide (1024 ≤ ((List.length l : Nat) : Int)) := by
      rw [decide_eq_decide]; omega
    have e3 : F_wire_Fields_l2 v0 i l = F_mempoolref1_Fields_l2 v0 i l := by
      simp only [F_wire_Fields_l2, F_mempoolref1_Fields_l2, drop_take_len, e, e2]
      rfl
    refine ⟨e3, fun y hy => ?_⟩
    by_cases hi : 0 ≤ i
    · have h : Ok (F_mempoolref1_Fields_l2 v0 i l) (Nxt (fun _ => True) fun z => z.1 = v0 ∧ z.2.2.length ≤ 1024) := by
        simp only [F_mempoolref1_Fields_l2, drop_take_len, hr, Option.bind_some, F_mempoolref1_Fields_c1, nxt_inl, nxt_inr, ok_sel, ok_chk, ok_some, ok_map, decide_eq_true_eq, decide_eq_false_iff_not, Bool.not_eq_true', Bool.not_eq_false', Int.not_lt, Int.not_le]
        refine ⟨fun h => ⟨fun _ => trivial, fun h4 => ⟨⟨hi, by omega, by omega⟩, fun _ => trivial, fun h5 => ⟨⟨by unfold LIM; omega, by unfold LEN; omega⟩, ?_⟩⟩⟩, fun _ => trivial⟩
        simp only [List.length_append, List.length_cons, List.length_nil]
        exact ⟨trivial, by omega⟩
      obtain ⟨y', e', h'⟩ := h
      have hy' : F_wire_Fields_l2 v0 i l = some (.inl y) := hy
      rw [e3, e'] at hy'
      injection hy' with hy'
      subst hy'
      exact h'
    · exfalso
      have hy' : F_wire_Fields_l2 v0 i l = some (.inl y) := hy
      rw [e3] at hy'
      have : F_mempoolref1_Fields_l2 v0 i l = some (.inl y) → 0 ≤ i := by
        unfold F_mempoolref1_Fields_l2
        cases decide (i < ((List.length v0 : Nat) : Int)) with
        | false => intro h; cases h
        | true =>
          cases decide (1024 ≤ ((List.length l : Nat) : Int)) with
          | true => intro h; cases h
          | false =>
            intro h
            have := (chk_some h).1
            have := of_decide_eq_true this
            exact this.1
      exact hi (this hy')
  · unfold F_mempoolref1_Fields F_mempoolref1_Fields_l2s
    refine ok_iter (S := List UInt8 × Int × List D_api_Field) (inv := fun v => v.1 = b ∧ v.2.2.length ≤ 1024 ∧ 0 ≤ v.2.1 ∧ v.2.1 ≤ b.length) (m := fun v => ((b.length : Int) - v.2.1).toNat) ?_ ⟨rfl, by simp, by simp, by simp⟩ (by simp; omega)
    rintro ⟨v0, i, l⟩ ⟨h0, hl, hi, hi2⟩
    simp only at h0 hl hi hi2
    subst h0
    obtain ⟨r, hr, h1, h2, h3⟩ := (one_same _ (hd i)).2
    rw [List.length_drop] at h2
    simp only [F_mempoolref1_Fields_l2, drop_take_len, hr, Option.bind_some, F_mempoolref1_Fields_c1, nxt_inl, nxt_inr, ok_sel, ok_chk, ok_some, ok_map, decide_eq_true_eq, decide_eq_false_iff_not, Bool.not_eq_true', Bool.not_eq_false', Int.not_lt, Int.not_le]
    refine ⟨fun h => ⟨fun _ => by simp, fun h4 => ⟨⟨hi, by omega, by omega⟩, fun _ => by simp, fun h5 => ⟨⟨by unfold LIM; omega, by unfold LEN; omega⟩, ?_⟩⟩⟩, fun _ => hl⟩
    have h6 := h3 h5
    have ew : wi64 (i + r.2.1) = i + r.2.1 := wi64_id (by omega) (by omega)
    simp only [ew, List.length_append, List.length_cons, List.length_nil]
    exact ⟨⟨trivial, by omega, by omega, by omega⟩, by omega⟩
end Go.Proofs.YtgfmnpbcbpobbaaDoor.Am.FSm
