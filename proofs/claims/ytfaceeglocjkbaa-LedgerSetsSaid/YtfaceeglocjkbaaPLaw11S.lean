/- The statements about layer 11 hold of plain data: LedgerLimits, LedgerSets. No conditions. -/
import Derived.Test.YtfaceeglocjkbaaPLaw11
namespace Go.Proofs.Ytfaceeglocjkbaa.Am
open Go

theorem get_mem {l : List D_api_Account} (hs : Srt l) {x : D_api_Account} (hx : x ∈ l) : getF l x.1 = (x, true) := by
  have h : findF l x.1 < l.length := find_mem.2 (List.mem_map.2 ⟨x, hx, rfl⟩)
  have hn := find_name h
  unfold getF
  rw [if_pos h, getD_lt h]
  obtain ⟨j, hj, rfl⟩ := List.getElem_of_mem hx
  refine Prod.ext ?_ rfl
  dsimp only
  rcases Nat.lt_trichotomy (findF l l[j].1) j with e | e | e
  · have := hs.lt h hj e
    unfold less at this
    rw [hn, bl_irrefl] at this; cases this
  · simp only [e]
  · have := hs.lt hj h e
    unfold less at this
    rw [hn, bl_irrefl] at this; cases this
theorem put_has (l : List D_api_Account) (a : D_api_Account) : a ∈ putF l a := by
  unfold putF
  split
  · exact List.mem_set (by assumption) a
  · exact (ins_perm _ a).mem_iff.2 List.mem_cons_self
theorem put_keep {l : List D_api_Account} {a x : D_api_Account} (hx : x ∈ l) (hne : x.1 ≠ a.1) : x ∈ putF l a := by
  unfold putF
  split
  · rename_i h
    obtain ⟨j, hj, rfl⟩ := List.getElem_of_mem hx
    have hn := find_name h
    have hjf : findF l a.1 ≠ j := fun e => hne (by subst e; exact hn)
    have hj' : j < (l.set (findF l a.1) a).length := by rw [List.length_set]; exact hj
    have e : (l.set (findF l a.1) a)[j] = l[j] := by rw [List.getElem_set, if_neg hjf]
    rw [← e]
    exact List.getElem_mem hj'
  · exact (ins_perm _ a).mem_iff.2 (List.mem_cons_of_mem _ hx)
theorem set_zero {g : D_api_Ledger} {a : D_api_Account} (h : (setF g a).2 = 0) : Good g ∧ isName a.1 = true ∧ setF g a = ((putF g.1 a, g.2), 0) ∧ Good (putF g.1 a, g.2) := by
  unfold setF at h ⊢
  by_cases hv : valF g = 0
  · rw [if_pos hv] at h ⊢
    have hg := val_good.1 hv
    by_cases hn : isName a.1 = false
    · rw [if_pos hn] at h; cases h
    rw [if_neg hn] at h ⊢
    have hn : isName a.1 = true := by simpa using hn
    by_cases h3 : 256 < (putF g.1 a).length
    · rw [if_pos h3] at h; cases h
    rw [if_neg h3] at h ⊢
    by_cases h4 : (sumF (g.2 + balS (putF g.1 a))).2 = true
    · rw [if_pos h4]
      refine ⟨hg, hn, rfl, by dsimp only; omega, fun x hx => ?_, put_srt hg.2.2.1, h4⟩
      rcases put_mem hx with rfl | hx
      · exact hn
      · exact hg.2.1 x hx
    · rw [if_neg h4] at h; cases h
  · rw [if_neg hv] at h; exact absurd h hv
theorem set_led {g : D_api_Ledger} {a : D_api_Account} (h : LedB g) (ha : okU a.2.1) (hn : a.1.length ≤ 1000000000000000) (hl : g.1.length ≤ 4000000000000) : LedB (setF g a).1 := by
  obtain ⟨⟨h1, h2⟩, h3⟩ := set_parts g a
  refine ⟨?_, fun x hx => ?_, fun x hx => ?_, by omega⟩
  · rcases h3 with e | e <;> rw [e]
    · exact okU_zero
    · exact h.1
  · rcases h2 x hx with rfl | hx
    · exact ha
    · exact h.2.1 x hx
  · rcases h2 x hx with rfl | hx
    · exact hn
    · exact h.2.2.1 x hx
theorem limits_c2 {l : List D_api_Account} {n : List UInt8} (h : LedB (genF l).1) (hl : (genF l).1.1.length ≤ 1000) (hl' : LedB (l, 0)) (hn : n.length ≤ 1000) : Ok (F_mempoollaw11_LedgerLimits_c2 (genF l).2 (genF l).2 n (genF l).1 (genF l).1 l) (· = true) := by
  have ha : okU ((n, 1, 0) : D_api_Account).2.1 := ⟨by dsimp only; omega, by dsimp only; omega⟩
  have hn' : ((n, 1, 0) : D_api_Account).1.length ≤ 1000000000000000 := by dsimp only; omega
  have hs := (set_parts (genF l).1 (n, 1, 0)).1.1
  unfold F_mempoollaw11_LedgerLimits_c2
  rw [set_prog h ha hn', Option.bind_some, set_ref h ha hn', Option.bind_some, decide_eq_true rfl, sel_t, same_self (by omega), Option.bind_some, sel_t, decide_eq_true rfl, sel_t, same_self (by omega), Option.bind_some, sel_t, val_prog hl', Option.bind_some, val_ref hl', Option.bind_some, decide_eq_true rfl, sel_t]
  exact known11
theorem ledgerLimits_law (x0 : Int) (x1 : Bool) (_ : wfU (.int .i64) x0) (_ : wfU .bool x1) (_ : szU (.int .i64) x0) (_ : szU .bool x1) : F_mempoollaw11_LedgerLimits x0 x1 = some true := by
  refine ok_eq.1 ?_
  unfold F_mempoollaw11_LedgerLimits
  rw [ok_bind]
  refine (place_ok (x := x0) (n := 3) (by omega) (by omega)).mono fun r h7 => ?_
  obtain ⟨p0, p1, _⟩ := h7
  have hw : wi64 (255 + r) = 255 + r := wi64_id (by omega) (by omega)
  rw [hw]
  unfold F_mempoollaw11_LedgerLimits_l3s
  refine ok_iterE (fun n v => ∃ (i : Nat) (l : List D_api_Account), v = (x1, (i : Int), l) ∧ n = i ∧ l.length + i ≤ 257 ∧ ∀ a ∈ l, a.1.length = 3 ∧ okU a.2.1) ?_ (n := (255 + r).toNat) ⟨(255 + r).toNat, [], by rw [Int.toNat_of_nonneg (by omega)], rfl, by simp only [List.length_nil]; omega, fun a h => by cases h⟩ (by omega)
  rintro n v ⟨i, l, rfl, rfl, hl, hm⟩
  unfold F_mempoollaw11_LedgerLimits_l3
  dsimp only
  rw [ok_sel]
  refine ⟨fun h => ?_, fun _ => ?_⟩
  · have h := of_decide_eq_true h
    rw [decide_eq_true (wu8_range _), chk_t, decide_eq_true (wu8_range _), chk_t, decide_eq_true (⟨by unfold LIM; omega, by unfold LEN; omega⟩ : (l.length + 1) * 32 ≤ LIM ∧ l.length + 1 ≤ LEN), chk_t, ok_some, nxt_inl, wi_pred (by omega) (by omega)]
    refine ⟨n - 1, by omega, n - 1, _, rfl, rfl, by rw [List.length_append, List.length_singleton]; omega, fun a ha => ?_⟩
    rcases List.mem_append.1 ha with ha | ha
    · exact hm a ha
    · rw [List.mem_singleton.1 ha]
      exact ⟨rfl, okU_zero⟩
  · have hb : BalsU l := fun a ha => (hm a ha).2
    have hn : ∀ a ∈ l, a.1.length ≤ 1000000000000000 := fun a ha => by rw [(hm a ha).1]; omega
    have hg := gen_len l
    unfold F_mempoollaw11_LedgerLimits_c1
    rw [ok_map, gen_prog hb hn (by omega), Option.bind_some, gen_ref hb hn (by omega), Option.bind_some, ok_sel]
    refine ⟨fun _ => ?_, fun _ => ?_⟩
    · exact (limits_c2 (gen_led hb hn (by omega)) (by omega) ⟨okU_zero, hb, hn, by dsimp only; omega⟩ (by decide)).mono fun r hr => by subst hr; rfl
    · exact (limits_c2 (gen_led hb hn (by omega)) (by omega) ⟨okU_zero, hb, hn, by dsimp only; omega⟩ (by decide)).mono fun r hr => by subst hr; rfl
theorem sets_c2 {m : D_api_Ledger} {b : D_api_Account} (h : Good (putF m.1 b, m.2)) (hb : LedB (putF m.1 b, m.2)) : Ok (F_mempoollaw11_LedgerSets_c2 m b (putF m.1 b, m.2)) (· = true) := by
  unfold F_mempoollaw11_LedgerSets_c2
  have hl := hb.2.2.2
  dsimp only at hl
  rw [get_prog (by dsimp only; omega), Option.bind_some]
  dsimp only
  rw [get_mem h.2.2.1 (put_has m.1 b)]
  dsimp only
  rw [sel_t, acc_refl, sel_t, decide_eq_true rfl, sel_t, val_prog hb, Option.bind_some, val_good.2 h, decide_eq_true rfl, sel_t]
  exact known11
theorem sets_c1 {m : D_api_Ledger} {b : D_api_Account} (h : LedB m) (hl : m.1.length ≤ 1000) (hb : okU b.2.1) (hn : b.1.length ≤ 1000000000000000) : Ok (F_mempoollaw11_LedgerSets_c1 m b) (· = true) := by
  unfold F_mempoollaw11_LedgerSets_c1
  rw [set_prog h hb hn, Option.bind_some, ok_sel]
  refine ⟨fun _ => known11, fun h0 => ?_⟩
  have h0 : (setF m b).2 = 0 := by simpa using h0
  obtain ⟨hg, hnm, hset, hg'⟩ := set_zero h0
  have hled := set_led h hb hn (by omega)
  rw [hset] at hled ⊢
  dsimp only at hled ⊢
  unfold F_mempoollaw11_LedgerSets_l3s
  refine ok_range m.1 (fun i (_ : Unit) => (m.1, ((m.1.length : Nat) : Int), ((i : Nat) : Int), m, b, (putF m.1 b, m.2))) (fun _ _ => True) (fun i _ hi _ => ?_) (fun _ _ => ?_) (b0 := ()) trivial (by omega)
  · have hx := List.getElem_mem hi
    have hl2 := hled.2.2.2
    dsimp only at hl2
    unfold F_mempoollaw11_LedgerSets_l3
    dsimp only
    rw [decide_eq_true (by omega : (i : Int) < ((m.1.length : Nat) : Int)), sel_t, decide_eq_true (by omega : (0 : Int) ≤ (i : Int) ∧ (i : Int) < ((m.1.length : Nat) : Int)), chk_t, get_prog (by dsimp only; omega), Option.bind_some]
    simp only [Int.toNat_natCast, getD_lt hi]
    by_cases hne : m.1[i].1 = b.1
    · rw [decide_eq_true hne, Bool.not_true, sel_f, ok_some, nxt_inl, wi_succ (by omega)]
      exact ⟨(), rfl, trivial⟩
    · have hgm := get_mem hg'.2.2.1 (put_keep hx hne)
      dsimp only at hgm
      rw [decide_eq_false hne, Bool.not_false, sel_t, hgm]
      dsimp only
      rw [Bool.not_true, sel_f]
      have e : U.beq U_api_Account (List.getD m.1 i d_api_Account) m.1[i] = true := by
        have e1 : List.getD m.1 i d_api_Account = m.1[i] := getD_lt hi _
        exact (congrArg (fun z : D_api_Account => U.beq U_api_Account z m.1[i]) e1).trans (acc_refl _)
      rw [ok_sel]
      refine ⟨fun h => ?_, fun _ => ?_⟩
      · rw [e] at h; cases h
      · rw [ok_some, nxt_inl, wi_succ (by omega)]
        exact ⟨(), rfl, trivial⟩
  · unfold F_mempoollaw11_LedgerSets_l3
    dsimp only
    rw [decide_eq_false (by omega), sel_f, ok_map]
    exact (sets_c2 hg' hled).mono fun r hr => by subst hr; rfl
theorem five_len (n : Nat) : (List.getD [[(97 : UInt8), (110 : UInt8), (110 : UInt8)], [(98 : UInt8), (111 : UInt8), (98 : UInt8)], [(99 : UInt8), (97 : UInt8), (114 : UInt8), (108 : UInt8)], [(122 : UInt8), (122 : UInt8)], [(48 : UInt8)]] n []).length ≤ 4 := by
  match n with
  | 0 | 1 | 2 | 3 | 4 => decide
  | n + 5 => exact Nat.zero_le _
theorem ledgerSets_law (x0 : D_api_Ledger) (x1 : List Int) (x2 : D_api_Account) (x3 : Int) (w0 : wfU U_api_Ledger x0) (_ : wfU (.sl (.int .i64)) x1) (w2 : wfU U_api_Account x2) (_ : wfU (.int .i64) x3) (z0 : szU U_api_Ledger x0) (z1 : szU (.sl (.int .i64)) x1) (z2 : szU U_api_Account x2) (_ : szU (.int .i64) x3) : F_mempoollaw11_LedgerSets x0 x1 x2 x3 = some true := by
  obtain ⟨hb0, _⟩ := wf_led w0 z0
  obtain ⟨ha1, ha2, ha3⟩ := wf_acc w2 z2
  refine ok_eq.1 ?_
  unfold F_mempoollaw11_LedgerSets
  rw [long11_ok (sz_ints z1), Option.bind_some, ok_sel]
  refine ⟨fun _ => known11, fun hk => ?_⟩
  have hk := of_decide_eq_false hk
  rw [ok_bind]
  refine (big11_ok hb0.2.2.2).mono fun r3 _ => ?_
  rw [ok_sel]
  refine ⟨fun _ => known11, fun _ => ?_⟩
  rw [ok_sel]
  refine ⟨fun _ => known11, fun _ => ?_⟩
  rw [ok_bind]
  refine (made11_ok (by omega)).mono fun m hm => ?_
  have hml := hm.1
  have hmb := hm.b (by omega)
  rw [ok_bind]
  refine (place_ok (x := x3) (n := 5) (by omega) (by omega)).mono fun r7 h7 => ?_
  obtain ⟨p0, p1, _⟩ := h7
  have q5 := five_len (Int.toNat r7)
  rw [decide_eq_true (⟨p0, p1⟩ : (0 : Int) ≤ r7 ∧ r7 < 5), chk_t, decide_eq_true (by omega : Int.toNat r7 < 5), chk_t]
  generalize hnb : (List.getD [[(97 : UInt8), (110 : UInt8), (110 : UInt8)], [(98 : UInt8), (111 : UInt8), (98 : UInt8)], [(99 : UInt8), (97 : UInt8), (114 : UInt8), (108 : UInt8)], [(122 : UInt8), (122 : UInt8)], [(48 : UInt8)]] (Int.toNat r7) []) = nb at q5
  have hbb : okU (x2.2.1 / 2 ^ 20) := ⟨by have := ha1.1; omega, by have := ha1.1; have := ha1.2; omega⟩
  obtain ⟨b, hbe⟩ : ∃ b : D_api_Account, b = (nb, x2.2.1 / 2 ^ 20, x2.2.2) := ⟨_, rfl⟩
  have hb1 : okU b.2.1 := by rw [hbe]; exact hbb
  have hb3 : b.1.length ≤ 1000000000000000 := by rw [hbe]; dsimp only; omega
  rw [← hbe]
  clear hbe
  unfold F_mempoollaw11_LedgerSets_l4s
  refine ok_range [x0, m] (fun i (_ : Unit) => (2, ((i : Nat) : Int), x2, m, b, [x0, m])) (fun _ _ => True) (fun i _ hi _ => ?_) (fun _ _ => ?_) (b0 := ()) trivial (by simp)
  · have hi2 : i < 2 := hi
    have hg : LedB [x0, m][i] := by
      rcases (by omega : i = 0 ∨ i = 1) with e | e <;> subst e
      · exact hb0
      · exact hmb
    unfold F_mempoollaw11_LedgerSets_l4
    dsimp only
    rw [decide_eq_true (by omega : (i : Int) < 2), sel_t, decide_eq_true (by simp only [List.length_cons, List.length_nil]; omega), chk_t, Int.toNat_natCast, decide_eq_true hi, chk_t, getD_lt hi]
    generalize [x0, m][i] = g at hg
    unfold F_mempoollaw11_LedgerSets_l5s
    refine ok_range [x2, b] (fun j (_ : Unit) => (2, ((i : Nat) : Int), 2, ((j : Nat) : Int), x2, m, b, g, [x0, m], [x2, b])) (fun _ _ => True) (fun j _ hj _ => ?_) (fun _ _ => ?_) (b0 := ()) trivial (by simp)
    · have hj2 : j < 2 := hj
      have hy : okU [x2, b][j].2.1 ∧ [x2, b][j].1.length ≤ 1000000000000000 := by
        rcases (by omega : j = 0 ∨ j = 1) with e | e <;> subst e
        · exact ⟨ha1, ha3⟩
        · exact ⟨hb1, hb3⟩
      unfold F_mempoollaw11_LedgerSets_l5
      dsimp only
      rw [decide_eq_true (by omega : (j : Int) < 2), sel_t, decide_eq_true (by simp only [List.length_cons, List.length_nil]; omega), chk_t, Int.toNat_natCast, decide_eq_true hj, chk_t, getD_lt hj]
      generalize [x2, b][j] = y at hy
      have hs := (set_parts g y).1.1
      have hgl := hg.2.2.2
      rw [set_prog hg hy.1 hy.2, Option.bind_some, set_ref hg hy.1 hy.2, Option.bind_some, decide_eq_true rfl, Bool.not_true, sel_f, same_self (by omega), Option.bind_some, Bool.not_true, sel_f, ok_some, nxt_inl, wi_succ (by omega)]
      exact ⟨(), rfl, trivial⟩
    · unfold F_mempoollaw11_LedgerSets_l5
      dsimp only
      rw [decide_eq_false (by simp), sel_f, ok_some, nxt_inr, wi_succ (by omega)]
      exact ⟨(), rfl, trivial⟩
  · unfold F_mempoollaw11_LedgerSets_l4
    dsimp only
    rw [decide_eq_false (by simp), sel_f, ok_map]
    exact (sets_c1 hmb (by omega) hb1 hb3).mono fun r hr => by subst hr; rfl
end Go.Proofs.Ytfaceeglocjkbaa.Am
