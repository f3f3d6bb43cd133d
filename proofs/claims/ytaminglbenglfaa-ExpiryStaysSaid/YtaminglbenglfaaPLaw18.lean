/- The statements about layer 18 hold of plain data. No conditions. -/
import Derived.Test.YtaminglbenglfaaPExp
import Derived.Test.YtaminglbenglfaaPWt
import Derived.Test.YtaminglbenglfaaFAllKmempoollaw18
namespace Go.Proofs.Ytaminglbenglfaa.Am
open Go

theorem known18 : Ok (F_mempoollaw18_known.bind fun r => some r) (· = true) := ⟨true, by rw [T_mempoollaw18_known]; rfl, rfl⟩
theorem long18 {l : List Int} (hl : l.length ≤ maxLen) : F_mempoollaw18_long [l] = some (decide (160 < l.length)) := by
  simp only [maxLen] at hl
  refine ok_eq.1 ?_
  unfold F_mempoollaw18_long F_mempoollaw18_long_l1s
  have h0 : wi64 (0 + ((l.length : Nat) : Int)) = ((l.length : Nat) : Int) := by rw [wi64_id] <;> omega
  refine ok_range [l] (fun i (_ : Unit) => (if i = 0 then 0 else ((l.length : Nat) : Int), [l], (((1 : Nat) : Nat) : Int), ((i : Nat) : Int))) (fun i _ => i ≤ 1) (fun i _ hi _ => ?_) (fun _ _ => ?_) (b0 := ()) (by omega) (by simp)
  · have hi0 : i = 0 := by simp only [List.length_cons, List.length_nil] at hi; omega
    subst hi0
    simp only [F_mempoollaw18_long_l1, ok_sel, ok_chk, ok_some, nxt_inl, nxt_inr, decide_eq_true_eq, decide_eq_false_iff_not, Int.toNat_natCast]
    refine ⟨fun _ => ⟨by simp, (), ?_, by omega⟩, fun h => by omega⟩
    have h1 : wi64 (((0 : Nat) : Int) + 1) = ((0 + 1 : Nat) : Int) := by rw [wi64_id] <;> omega
    rw [h1]
    simp only [if_true]
    show (wi64 (0 + ((l.length : Nat) : Int)), [l], _, _) = _
    rw [h0]
    rfl
  · simp only [F_mempoollaw18_long_l1, ok_sel, ok_chk, ok_some, nxt_inl, nxt_inr, decide_eq_true_eq, decide_eq_false_iff_not, Int.toNat_natCast, List.length_cons, List.length_nil]
    refine ⟨fun h => by omega, fun _ => ?_⟩
    simp
    omega
theorem number_ok {L : List Int} {k : Int} {s : D_mempoolmake_Numbers} (hs : NumS L k s) (hk : k < 1000000000) : Ok (F_mempoollaw18_number s) fun r => NumS L (k + 2) r.1 ∧ s.2 < r.1.2 := by
  unfold F_mempoollaw18_number
  rw [ok_bind]
  refine (next_s hs (n := 12) (by omega) (by omega) (by omega)).mono fun r1 h1 => ?_
  obtain ⟨a1, a2, _, _⟩ := h1
  rw [ok_sel]
  refine ⟨fun _ => by rw [ok_some]; exact ⟨a1.le (by omega), a2⟩, fun _ => ?_⟩
  rw [ok_sel]
  refine ⟨fun _ => by rw [ok_some]; exact ⟨a1.le (by omega), a2⟩, fun _ => ?_⟩
  rw [ok_sel]
  refine ⟨fun _ => ?_, fun _ => ?_⟩
  · rw [ok_bind]
    refine (next_s a1 (n := 5) (by omega) (by omega) (by omega)).mono fun r2 h2 => ?_
    rw [ok_some]
    exact ⟨h2.1.le (by omega), by have := h2.2.1; dsimp only; omega⟩
  · rw [ok_bind]
    refine (next_s a1 (n := 12) (by omega) (by omega) (by omega)).mono fun r2 h2 => ?_
    rw [ok_some]
    exact ⟨h2.1.le (by omega), by have := h2.2.1; dsimp only; omega⟩
theorem qj0 : QJ 0 [] [] := ⟨List.Perm.refl _, List.Pairwise.nil, by simp, by simp⟩
theorem same_out {n : Nat} {l m : List W3} (hj : QJ n l m) (hn : n ≤ 1000000) (b s h t : Int) : F_mempoolref1_SameInts (outE b s h t m) (outE b s h t m) = some true :=
  sameInts_self (by have := outE_len b s h t m; have := hj.len; omega)
/-- The last questions of a run. -/
theorem plays_end {n : Nat} {l m : List W3} (hj : QJ n l m) (hn : n ≤ 100000) (b s : Int) : Ok (F_mempoollaw18_ExpiryPlays_c2 b s m b s l) (· = true) := by
  unfold F_mempoollaw18_ExpiryPlays_c2 F_mempoollaw18_ExpiryPlays_l3s
  refine ok_range (List.replicate 8 ()) (fun i (_ : Unit) => (b, s, m, -1 + 2 * ((i : Nat) : Int), b, s, l)) (fun i _ => i ≤ 8) (fun i _ hi _ => ?_) (fun _ _ => ?_) (b0 := ()) (by omega) (by simp)
  · rw [List.length_replicate] at hi
    have hw : wi64 (-1 + 2 * ((i : Nat) : Int) + 2) = -1 + 2 * ((i + 1 : Nat) : Int) := by rw [wi64_id] <;> omega
    unfold F_mempoollaw18_ExpiryPlays_l3
    simp only [exp_ok hj (by omega), refExp_ok (show m.length ≤ 1000000 by have := hj.len; omega), same_out hj (show n ≤ 1000000 by omega), hw, ok_sel, ok_bind, ok_some, ok_map, nxt_inl, nxt_inr, decide_eq_true_eq, decide_eq_false_iff_not, Bool.not_eq_true', Bool.not_eq_false']
    exact ⟨fun _ => ⟨fun h => (by cases h), fun _ => ⟨(), trivial, by omega⟩⟩, fun h => by omega⟩
  · unfold F_mempoollaw18_ExpiryPlays_l3
    rw [List.length_replicate, ok_sel]
    refine ⟨fun h => by simp at h, fun _ => ?_⟩
    rw [ok_map]
    exact known18.mono fun r hr => by subst hr; rfl
theorem plays_run {k : List Int} (hk : k.length ≤ 160) (b s : Int) {num : D_mempoolmake_Numbers} (hnum : NumS k 10 num) : Ok (F_mempoollaw18_ExpiryPlays_c1 k b s num) (· = true) := by
  unfold F_mempoollaw18_ExpiryPlays_c1 F_expiry_New
  rw [ok_bind, ok_some]
  unfold F_mempoollaw18_ExpiryPlays_l4s
  refine ok_iterE (fun n x => ∃ (m l : List W3) (u : D_mempoolmake_Numbers), x = (k, b, s, m, u, b, s, l) ∧ NumS k 2000 u ∧ n = 2000 - u.2.toNat ∧ ∃ c : Nat, QJ c l m ∧ (c : Int) ≤ u.2) ?_ (n := 2000 - num.2.toNat) ⟨[], [], num, rfl, hnum.le (by omega), rfl, 0, qj0, hnum.2.1⟩ (by omega)
  rintro n x ⟨m, l, u, rfl, hu, rfl, c, hj, hc⟩
  have hu0 := hu.2.1
  unfold F_mempoollaw18_ExpiryPlays_l4
  dsimp only
  rw [ok_sel]
  refine ⟨fun hlt => ?_, fun hge => ?_⟩
  · have hlt := of_decide_eq_true hlt
    have hu160 : u.2 < 160 := by omega
    have hu' : NumS k 160 u := ⟨hu.1, hu.2.1, by omega⟩
    have hcm : c ≤ 160 := by omega
    have hml := hj.len
    rw [ok_bind]
    refine (next_s hu' (n := 9) (by omega) (by omega) (by omega)).mono fun r9 h9 => ?_
    obtain ⟨a9, b9, c9, d9⟩ := h9
    have hid : wi64 (r9.2 - 2) = r9.2 - 2 := wi64_id (by omega) (by omega)
    rw [hid]
    rw [ok_bind]
    refine (next_s a9 (n := 5) (by omega) (by omega) (by omega)).mono fun r10 h10 => ?_
    obtain ⟨a10, b10, _, _⟩ := h10
    rw [ok_sel]
    refine ⟨fun _ => ?_, fun _ => ?_⟩
    · obtain ⟨l', e1, hj'⟩ := hj.rem (r9.2 - 2)
      have hl' := hj'.len
      rw [remW_ok hj.sort (by omega), ok_bind, ok_some, e1, ok_bind, ok_some]
      rw [show beqB (remW m (r9.2 - 2)).2 (remW m (r9.2 - 2)).2 = true from beq_self_eq_true _]
      rw [ok_sel]
      refine ⟨fun h => (by cases h), fun _ => ?_⟩
      unfold F_expiry_Queue_Len
      rw [ok_bind, ok_some, hj'.perm.length_eq, ok_sel]
      refine ⟨fun h => by simp at h, fun _ => ?_⟩
      rw [ok_some]
      exact ⟨_, by have := a10.2.1; omega, _, l', r10.1, rfl, a10.le (by omega), rfl, c, hj', by omega⟩
    · rw [ok_sel]
      refine ⟨fun _ => ?_, fun _ => ?_⟩
      · rw [ok_bind]
        refine (number_ok a10 (by omega)).mono fun r14 h14 => ?_
        rw [ok_bind]
        refine (number_ok h14.1 (by omega)).mono fun r15 h15 => ?_
        rw [exp_ok hj (by omega), ok_bind, ok_some, refExp_ok (by omega), ok_bind, ok_some, same_out hj (by omega), ok_bind, ok_some, ok_sel]
        refine ⟨fun h => (by cases h), fun _ => ?_⟩
        unfold F_expiry_Queue_Len
        rw [ok_bind, ok_some, hj.perm.length_eq, ok_sel]
        refine ⟨fun h => by simp at h, fun _ => ?_⟩
        rw [ok_some]
        have h1 := h14.2; have h2 := h15.2; have h3 := h15.1.2.1
        exact ⟨_, by omega, m, l, r15.1, rfl, h15.1.le (by omega), rfl, c, hj, by omega⟩
      · rw [ok_bind]
        refine (number_ok a10 (by omega)).mono fun r20 h20 => ?_
        rw [ok_bind]
        refine (number_ok h20.1 (by omega)).mono fun r21 h21 => ?_
        obtain ⟨l', e1, hj'⟩ := hj.add (x := (r9.2 - 2, r20.2, r21.2)) (by dsimp only; omega)
        have hl' := hj'.len
        dsimp only at e1
        rw [addW_ok hj.sort (by omega), ok_bind, ok_some, e1, ok_bind, ok_some]
        rw [show ∀ z : Bool, beqB z z = true from fun z => beq_self_eq_true z]
        rw [ok_sel]
        refine ⟨fun h => (by cases h), fun _ => ?_⟩
        unfold F_expiry_Queue_Len
        rw [ok_bind, ok_some, hj'.perm.length_eq, ok_sel]
        refine ⟨fun h => by simp at h, fun _ => ?_⟩
        rw [ok_some]
        have h1 := h20.2; have h2 := h21.2; have h3 := h21.1.2.1
        exact ⟨_, by omega, _, l', r21.1, rfl, h21.1.le (by omega), rfl, c + 1, hj', by omega⟩
  · have hge := of_decide_eq_false hge
    rw [ok_map]
    refine (plays_end hj ?_ b s).mono fun r hr => ?_
    · have := hu.2.2
      omega
    · subst hr; rfl
theorem expiryPlays_law (x0 : List Int) (x1 x2 : Int) (w0 : wfU (.sl (.int .i64)) x0) (_ : wfU (.int .i64) x1) (_ : wfU (.int .i64) x2) : F_mempoollaw18_ExpiryPlays x0 x1 x2 = some true := by
  refine ok_eq.1 ?_
  unfold F_mempoollaw18_ExpiryPlays
  rw [long18 (wf_len (u := .int .i64) w0), ok_bind, ok_some, ok_sel]
  refine ⟨fun _ => known18, fun h => ?_⟩
  have hk : x0.length ≤ 160 := by have := of_decide_eq_false h; omega
  rw [from_ok, ok_bind, ok_some, ok_bind]
  refine (next_s (numS0 x0) (n := 4) (by omega) (by omega) (by omega)).mono fun r25 h25 => ?_
  rw [ok_sel]
  refine ⟨fun _ => ?_, fun _ => plays_run hk _ _ (h25.1.le (by omega))⟩
  rw [ok_bind]
  refine (next_s h25.1 (n := 5) (by omega) (by omega) (by omega)).mono fun r26 h26 => ?_
  rw [ok_bind]
  refine (next_s h26.1 (n := 6) (by omega) (by omega) (by omega)).mono fun r27 h27 => ?_
  exact plays_run hk _ _ (h27.1.le (by omega))
/-! ### What has expired stays expired -/
def I64' (n : Int) : Prop := -9223372036854775808 ≤ n ∧ n ≤ 9223372036854775807
theorem lateB_eq {now th limit : Int} (h1 : I64' now) (h2 : I64' th) (h3 : I64' limit) : lateB now th limit = decide (0 < limit ∧ th < now ∧ limit < now - th) := by
  unfold lateB
  unfold I64' at *
  rw [← Bool.decide_and, ← Bool.decide_and]
  refine decide_eq_decide.2 ⟨fun ⟨a, b, c⟩ => ⟨a, b, ?_⟩, fun ⟨a, b, c⟩ => ⟨a, b, ?_⟩⟩
  · simp only [wu64, IntKind.wrap_u64] at c; omega
  · simp only [wu64, IntKind.wrap_u64]; omega
theorem hasInt_ok {l : List Int} (hl : l.length ≤ 1000000) (x : Int) : F_mempoolref1_HasInt l x = some (decide (x ∈ l)) := by
  refine ok_eq.1 ?_
  unfold F_mempoolref1_HasInt F_mempoolref1_HasInt_l1s
  refine ok_range l (fun i (_ : Unit) => (x, l, ((l.length : Nat) : Int), ((i : Nat) : Int))) (fun i _ => x ∉ l.take i) (fun i _ hi hinv => ?_) (fun _ hinv => ?_) (b0 := ()) (by simp) (by omega)
  · simp only [F_mempoolref1_HasInt_l1, wi_succ (i := i) (by omega), ok_sel, ok_chk, ok_some, nxt_inl, nxt_inr, decide_eq_true_eq, decide_eq_false_iff_not, Int.toNat_natCast, getD_lt hi]
    refine ⟨fun _ => ⟨by omega, fun h => ?_, fun h => ⟨(), trivial, ?_⟩⟩, fun h => by omega⟩
    · subst h; simp
    · rw [take_succ' hi, List.mem_append]
      rintro (h1 | h1)
      · exact hinv h1
      · exact h (List.mem_singleton.1 h1).symm
  · rw [List.take_length] at hinv
    simp only [F_mempoolref1_HasInt_l1, ok_sel, ok_chk, ok_some, nxt_inl, nxt_inr, decide_eq_true_eq, decide_eq_false_iff_not, Int.toNat_natCast]
    exact ⟨fun h => by omega, fun _ => by simp [hinv]⟩
def SmallW (m : List W3) : Prop := ∀ w ∈ m, 0 ≤ w.2.1 ∧ w.2.1 < 100 ∧ 0 ≤ w.2.2 ∧ w.2.2 < 100
theorem outE_mono {m : List W3} (hw : SmallW m) {b s h t h' t' : Int} (hb : 0 ≤ b ∧ b < 100) (hs : 0 ≤ s ∧ s < 100) (hh : 0 ≤ h ∧ h ≤ h' ∧ h' < 100) (ht : 0 ≤ t ∧ t ≤ t' ∧ t' < 100) {x : Int} (hx : x ∈ outE b s h t m) : x ∈ outE b s h' t' m := by
  unfold outE at *
  obtain ⟨w, hm, rfl⟩ := List.mem_map.1 hx
  obtain ⟨h1, h2⟩ := List.mem_filter.1 hm
  refine List.mem_map.2 ⟨w, List.mem_filter.2 ⟨h1, ?_⟩, rfl⟩
  obtain ⟨w1, w2, w3, w4⟩ := hw w h1
  unfold expB at *
  rw [lateB_eq, lateB_eq] at h2 ⊢ <;> (try (unfold I64'; omega))
  rw [Bool.or_eq_true, decide_eq_true_eq, decide_eq_true_eq] at h2 ⊢
  omega
theorem stays_end {n : Nat} {l m : List W3} (hj : QJ n l m) (hn : n ≤ 100000) (hw : SmallW m) {b s : Int} (hb : 0 ≤ b ∧ b < 100) (hs : 0 ≤ s ∧ s < 100) (x1 x2 x3 x4 : Int) : Ok (F_mempoollaw18_ExpiryStays_c1 x1 x2 x3 x4 b s l) (· = true) := by
  have hml := hj.len
  unfold F_mempoollaw18_ExpiryStays_c1
  rw [ok_bind]
  refine (place_ok (by omega) (by omega)).mono fun h hh => ?_
  rw [ok_bind]
  refine (place_ok (by omega) (by omega)).mono fun t ht => ?_
  rw [exp_ok hj (by omega), ok_bind, ok_some, ok_bind]
  refine (place_ok (by omega) (by omega)).mono fun p hp => ?_
  rw [ok_bind]
  refine (place_ok (by omega) (by omega)).mono fun q hq => ?_
  rw [wi64_id (n := h + p) (by omega) (by omega), wi64_id (n := t + q) (by omega) (by omega), exp_ok hj (by omega), ok_bind, ok_some]
  dsimp only
  have hmono := fun x => outE_mono (x := x) hw hb hs (h := h) (h' := h + p) (t := t) (t' := t + q) (by omega) (by omega)
  have hA := outE_len b s h t m
  have hB := outE_len b s (h + p) (t + q) m
  generalize hAe : outE b s h t m = A at *
  generalize hBe : outE b s (h + p) (t + q) m = B at *
  unfold F_mempoollaw18_ExpiryStays_l3s
  refine ok_range A (fun i (_ : Unit) => (h, t, ((A.length : Nat) : Int), ((i : Nat) : Int), b, s, l, A, B)) (fun _ _ => True) (fun i _ hi _ => ?_) (fun _ _ => ?_) (b0 := ()) trivial (by omega)
  · have hx : A[i] ∈ B := hmono _ (List.getElem_mem hi)
    simp only [F_mempoollaw18_ExpiryStays_l3, wi_succ (i := i) (by omega), ok_sel, ok_chk, ok_bind, ok_some, ok_map, nxt_inl, nxt_inr, decide_eq_true_eq, decide_eq_false_iff_not, Bool.not_eq_true', Bool.not_eq_false', Int.toNat_natCast, getD_lt hi, hasInt_ok (show B.length ≤ 1000000 by omega), hx, decide_true]
    exact ⟨fun _ => ⟨by omega, by omega, fun h => (by cases h), fun _ => ⟨(), trivial, trivial⟩⟩, fun h => by omega⟩
  · unfold F_mempoollaw18_ExpiryStays_l3
    rw [ok_sel]
    refine ⟨fun h => by simp at h, fun _ => ?_⟩
    rw [ok_map]
    unfold F_mempoollaw18_ExpiryStays_c2
    dsimp only
    rw [exp_ok hj (by omega), hAe, ok_bind, ok_some]
    dsimp only
    rw [sameInts_self (by omega), ok_bind, ok_some, ok_sel]
    refine ⟨fun _ => ?_, fun h => by cases h⟩
    unfold F_expiry_Queue_Len
    rw [ok_bind, ok_some, hj.perm.length_eq, ok_sel]
    refine ⟨fun _ => known18.mono fun r hr => by subst hr; rfl, fun h => ?_⟩
    have := of_decide_eq_false h
    dsimp only at this
    omega
theorem expiryStays_law (x0 : List Int) (x1 x2 x3 x4 : Int) (w0 : wfU (.sl (.int .i64)) x0) (_ : wfU (.int .i64) x1) (_ : wfU (.int .i64) x2) (_ : wfU (.int .i64) x3) (_ : wfU (.int .i64) x4) : F_mempoollaw18_ExpiryStays x0 x1 x2 x3 x4 = some true := by
  refine ok_eq.1 ?_
  unfold F_mempoollaw18_ExpiryStays
  rw [long18 (wf_len (u := .int .i64) w0), ok_bind, ok_some, ok_sel]
  refine ⟨fun _ => known18, fun h => ?_⟩
  have hk : x0.length ≤ 160 := by have := of_decide_eq_false h; omega
  rw [from_ok, ok_bind, ok_some, ok_bind]
  refine (next_s (numS0 x0) (n := 4) (by omega) (by omega) (by omega)).mono fun r4 h4 => ?_
  rw [ok_bind]
  refine (next_s h4.1 (n := 5) (by omega) (by omega) (by omega)).mono fun r5 h5 => ?_
  unfold F_expiry_New
  rw [ok_bind, ok_some]
  dsimp only
  obtain ⟨a4, _, c4, d4⟩ := h4
  obtain ⟨a5, _, c5, d5⟩ := h5
  generalize r4.2 = b at *
  generalize r5.2 = s at *
  generalize r5.1 = num at *
  unfold F_mempoollaw18_ExpiryStays_l4s
  refine ok_iterE (fun n x => ∃ (m l : List W3) (u : D_mempoolmake_Numbers), x = (x0, x1, x2, x3, x4, u, b, s, l) ∧ NumS x0 2000 u ∧ n = 2000 - u.2.toNat ∧ SmallW m ∧ ∃ c : Nat, QJ c l m ∧ (c : Int) ≤ u.2) ?_ (n := 2000 - num.2.toNat) ⟨[], [], num, rfl, a5.le (by omega), rfl, by simp [SmallW], 0, qj0, a5.2.1⟩ (by omega)
  rintro n x ⟨m, l, u, rfl, hu, rfl, hw, c, hj, hc⟩
  have hu0 := hu.2.1
  unfold F_mempoollaw18_ExpiryStays_l4
  dsimp only
  rw [ok_sel]
  refine ⟨fun hlt => ?_, fun hge => ?_⟩
  · have hlt := of_decide_eq_true hlt
    have hu' : NumS x0 160 u := ⟨hu.1, hu.2.1, by omega⟩
    have hml := hj.len
    rw [ok_bind]
    refine (next_s hu' (n := 30) (by omega) (by omega) (by omega)).mono fun r18 h18 => ?_
    rw [ok_bind]
    refine (next_s h18.1 (n := 15) (by omega) (by omega) (by omega)).mono fun r19 h19 => ?_
    rw [ok_bind]
    refine (next_s h19.1 (n := 20) (by omega) (by omega) (by omega)).mono fun r20 h20 => ?_
    have g1 := h18.2; have g2 := h19.2; have g3 := h20.2
    obtain ⟨l', e1, hj'⟩ := hj.add (x := (r18.2, r19.2, r20.2)) (by dsimp only; omega)
    dsimp only at e1
    rw [e1, ok_bind, ok_some, ok_some]
    have h3 := h20.1.2.1
    refine ⟨_, by omega, _, l', r20.1, rfl, h20.1.le (by omega), rfl, fun w hwm => ?_, c + 1, hj', by omega⟩
    unfold addW at hwm
    split at hwm
    · exact hw w hwm
    · rcases List.mem_cons.1 ((part_perm _ m _).mem_iff.1 hwm) with rfl | hwm
      · dsimp only; omega
      · exact hw w hwm
  · rw [ok_map]
    refine (stays_end hj (by have := hu.2.2; omega) hw (by omega) (by omega) x1 x2 x3 x4).mono fun r hr => ?_
    subst hr; rfl
/-! ### The edges -/
theorem outE_cons (b s h t : Int) (w : W3) (m : List W3) : outE b s h t (w :: m) = (if expB b s h t w = true then [w.1] else []) ++ outE b s h t m := by
  unfold outE
  rw [List.filter_cons]
  split <;> rfl
theorem exp2 {l : List W3} (hj : QJ 2 l l) {b s h t : Int} {out : List Int} (ho : outE b s h t l = out) : F_expiry_Queue_Expired b s l h t = some (b, s, l, out) := by
  rw [exp_ok hj (by omega), ho]
theorem qj2 {i j : Int} {x y : Int × Int} (h : i < j) (hi : -1000 ≤ i) (hj : j ≤ 1000) : QJ 2 [(i, x), (j, y)] [(i, x), (j, y)] :=
  ⟨List.Perm.refl _, by simp [SortW, h], by simp, by
    intro w hw
    simp only [List.mem_cons, List.not_mem_nil, or_false] at hw
    rcases hw with rfl | rfl <;> (dsimp only; omega)⟩
theorem expiryEdges_law (x0 x1 : Int) (_ : wfU (.int .i64) x0) (_ : wfU (.int .i64) x1) : F_mempoollaw18_ExpiryEdges x0 x1 = some true := by
  refine ok_eq.1 ?_
  unfold F_mempoollaw18_ExpiryEdges
  rw [ok_bind]
  refine (place_ok (by omega) (by omega)).mono fun r1 h1 => ?_
  rw [ok_bind]
  refine (place_ok (by omega) (by omega)).mono fun r2 h2 => ?_
  rw [wi64_id (n := 1 + r1) (by omega) (by omega), wi64_id (n := r2 - 576460752303423488) (by omega) (by omega), wi64_id (n := r2 - 576460752303423488 + (1 + r1)) (by omega) (by omega), wi64_id (n := r2 - 576460752303423488 + (1 + r1) + 1) (by omega) (by omega)]
  obtain ⟨lim, hlim⟩ : ∃ lim, lim = 1 + r1 := ⟨_, rfl⟩
  obtain ⟨at_, hat⟩ : ∃ at_, at_ = r2 - 576460752303423488 := ⟨_, rfl⟩
  rw [← hlim, ← hat]
  have ja : QJ 2 [(1, at_, 0), (2, 9223372036854775807, 0)] [(1, at_, 0), (2, 9223372036854775807, 0)] := qj2 (by omega) (by omega) (by omega)
  have jb : QJ 2 [(1, 0, at_), (3, 0, -9223372036854775808)] [(1, 0, at_), (3, 0, -9223372036854775808)] := qj2 (by omega) (by omega) (by omega)
  have ev : ∀ {now th limit : Int}, I64' now → I64' th → I64' limit → ∀ {v : Bool}, ((0 < limit ∧ th < now ∧ limit < now - th) ↔ v = true) → lateB now th limit = v := fun a b c v hv => by
    rw [lateB_eq a b c]
    cases v
    · exact decide_eq_false (fun h => by have := hv.1 h; cases this)
    · exact decide_eq_true (hv.2 rfl)
  have i64 : ∀ {n : Int}, -9223372036854775808 ≤ n → n ≤ 9223372036854775807 → I64' n := fun a b => ⟨a, b⟩
  have n0 : I64' 0 := ⟨by omega, by omega⟩
  have na : I64' at_ := ⟨by omega, by omega⟩
  have nl : I64' lim := ⟨by omega, by omega⟩
  have ns : I64' (at_ + lim) := ⟨by omega, by omega⟩
  have ns1 : I64' (at_ + lim + 1) := ⟨by omega, by omega⟩
  have nM : I64' 9223372036854775807 := ⟨by omega, by omega⟩
  have nm : I64' (-9223372036854775808) := ⟨by omega, by omega⟩
  have n5 : I64' 5 := ⟨by omega, by omega⟩
  have o1 : outE lim 0 (at_ + lim) 0 [(1, at_, 0), (2, 9223372036854775807, 0)] = [] := by
    simp only [outE_cons, expB, ev ns na nl (v := false) (by simp; omega), ev ns nM nl (v := false) (by simp; omega), ev n0 n0 n0 (v := false) (by simp)]
    rfl
  have o2 : outE lim 0 (at_ + lim + 1) 0 [(1, at_, 0), (2, 9223372036854775807, 0)] = [1] := by
    simp only [outE_cons, expB, ev ns1 na nl (v := true) (by simp; omega), ev ns1 nM nl (v := false) (by simp; omega), ev n0 n0 n0 (v := false) (by simp)]
    rfl
  have o3 : outE 0 lim 0 (at_ + lim) [(1, 0, at_), (3, 0, -9223372036854775808)] = [3] := by
    simp only [outE_cons, expB, ev ns na nl (v := false) (by simp; omega), ev ns nm nl (v := true) (by simp; omega), ev n0 n0 n0 (v := false) (by simp)]
    rfl
  have o4 : outE 0 lim 0 (at_ + lim + 1) [(1, 0, at_), (3, 0, -9223372036854775808)] = [1, 3] := by
    simp only [outE_cons, expB, ev ns1 na nl (v := true) (by simp; omega), ev ns1 nm nl (v := true) (by simp; omega), ev n0 n0 n0 (v := false) (by simp)]
    rfl
  have o5 : outE lim 0 9223372036854775807 5 [(1, at_, 0), (2, 9223372036854775807, 0)] = [1] := by
    simp only [outE_cons, expB, ev nM na nl (v := true) (by simp; omega), ev nM nM nl (v := false) (by simp), ev n5 n0 n0 (v := false) (by simp)]
    rfl
  have o6 : outE 0 lim 9223372036854775807 (-9223372036854775808) [(1, 0, at_), (3, 0, -9223372036854775808)] = [] := by
    simp only [outE_cons, expB, ev nM n0 n0 (v := false) (by simp), ev nm na nl (v := false) (by simp; omega), ev nm nm nl (v := false) (by simp)]
    rfl
  have a1 : F_expiry_Queue_Add lim 0 [] 1 at_ 0 = some (lim, 0, [(1, at_, 0)], true) := rfl
  have a2 : F_expiry_Queue_Add 0 lim [] 1 0 at_ = some (0, lim, [(1, 0, at_)], true) := rfl
  have a3 : F_expiry_Queue_Add lim 0 [(1, at_, 0)] 2 9223372036854775807 0 = some (lim, 0, [(1, at_, 0), (2, 9223372036854775807, 0)], true) := rfl
  have a4 : F_expiry_Queue_Add 0 lim [(1, 0, at_)] 3 0 (-9223372036854775808) = some (0, lim, [(1, 0, at_), (3, 0, -9223372036854775808)], true) := rfl
  have s1 : ∀ l : List Int, l.length < 10 → F_mempoolref1_SameInts l l = some true := fun l hl => sameInts_self (by omega)
  simp only [F_expiry_New, ok_sel, ok_bind, ok_some, decide_eq_true_eq, decide_eq_false_iff_not, Bool.not_eq_true', Bool.not_eq_false', a1, a2, a3, a4, exp2 ja o1, exp2 ja o2, exp2 jb o3, exp2 jb o4, exp2 ja o5, exp2 jb o6, s1 [1] (by simp), s1 [3] (by simp), s1 [1, 3] (by simp), F_expiry_Queue_Add_nil, F_expiry_Queue_Remove_nil, F_expiry_Queue_Expired_nil, F_expiry_Queue_Len_nil, T_mempoollaw18_known, List.length_nil]
  simp
end Go.Proofs.Ytaminglbenglfaa.Am
