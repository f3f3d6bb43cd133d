/- The statements about layer 24, on plain data. No conditions. -/
import Derived.Test.YthmfeknfiekcmaaPReap
import Derived.Test.YthmfeknfiekcmaaPSameE
import Derived.Test.YthmfeknfiekcmaaPEnts
import Derived.Test.YthmfeknfiekcmaaPWt
import Derived.Test.YthmfeknfiekcmaaFAllKmempoollaw24
namespace Go.Proofs.Ythmfeknfiekcmaa.Am
open Go

theorem long24_ok (l : List (List Int)) (hl : l.length < 1000) : Ok (F_mempoollaw24_long l) fun _ => True := by
  unfold F_mempoollaw24_long F_mempoollaw24_long_l1s
  refine ok_range l (fun i (a : Int) => (a, l, ((l.length : Nat) : Int), ((i : Nat) : Int))) (fun _ _ => True) (fun i a hi _ => ?_) (fun a _ => ?_) (b0 := 0) trivial (by omega)
  · simp only [F_mempoollaw24_long_l1, wi_succ (i := i) (by omega), ok_sel, ok_chk, ok_some, nxt_inl, nxt_inr, decide_eq_true_eq, decide_eq_false_iff_not, Int.toNat_natCast]
    exact ⟨fun _ => ⟨by omega, _, rfl, trivial⟩, fun h => by omega⟩
  · simp only [F_mempoollaw24_long_l1, ok_sel, ok_chk, ok_some, nxt_inl, nxt_inr, decide_eq_true_eq, decide_eq_false_iff_not, Int.toNat_natCast]
    exact ⟨fun h => by omega, fun _ => trivial⟩
theorem raw24_ok (l : List D_api_Entry) (hl : l.length < 9223372036854775807) : Ok (F_mempoollaw24_raw l) fun _ => True := by
  unfold F_mempoollaw24_raw F_mempoollaw24_raw_l1s
  refine ok_range l (fun i (a : Int) => (a, l, ((l.length : Nat) : Int), ((i : Nat) : Int))) (fun _ _ => True) (fun i a hi _ => ?_) (fun a _ => ?_) (b0 := ((l.length : Nat) : Int)) trivial (by omega)
  · simp only [F_mempoollaw24_raw_l1, wi_succ (i := i) (by omega), ok_sel, ok_chk, ok_some, nxt_inl, nxt_inr, decide_eq_true_eq, decide_eq_false_iff_not, Int.toNat_natCast]
    exact ⟨fun _ => ⟨by omega, _, rfl, trivial⟩, fun h => by omega⟩
  · simp only [F_mempoollaw24_raw_l1, ok_sel, ok_chk, ok_some, nxt_inl, nxt_inr, decide_eq_true_eq, decide_eq_false_iff_not, Int.toNat_natCast]
    exact ⟨fun h => by omega, fun _ => trivial⟩
theorem EntsM.b {l : List D_api_Entry} (h : EntsM l) (hl : l.length ≤ 10) : EntsB l ∧ GasB l :=
  ⟨⟨by omega, fun e he => ⟨by have := (h e he).1; omega, by have := (h e he).2.2.2.2.2.2.2.2; omega⟩⟩, fun e he => by have := (h e he).2.2.2.1; omega⟩
theorem sz_entries {l : List D_api_Entry} (w : wfU (.sl U_api_Entry) l) (z : szU (.sl U_api_Entry) l) : EntsB l ∧ GasB l := by
  have h1 : l.length * 144 ≤ reachBytes := z.1
  have hr : reachBytes = 140737488351232 := rfl
  refine ⟨⟨by omega, fun e he => ?_⟩, fun e he => ?_⟩
  · have h2 : szU U_api_Entry e := z.2 e he
    have h3 : e.2.1.length * 1 ≤ reachBytes := h2.2.1.1
    have h4 : e.2.2.2.2.2.2.2.2.2.length * 8 ≤ reachBytes := h2.2.2.2.2.2.2.2.2.2.1
    exact ⟨by omega, by omega⟩
  · have h2 : wfU U_api_Entry e := w.2 e he
    exact wf_u64 h2.2.2.2.2.1
theorem vec2_0 (a b : Int) : vget (Vector.push (Vector.push #v[] a) b) 0 (0 : Int) = a := rfl
theorem vec2_1 (a b : Int) : vget (Vector.push (Vector.push #v[] a) b) 1 (0 : Int) = b := rfl
theorem known24 : Ok ((F_mempoollaw24_known).bind fun r => some r) fun x => x = true := by rw [T_mempoollaw24_known]; exact ⟨true, rfl, rfl⟩
theorem reapSorts_law (x0 : List D_api_Entry) (x1 : List Int) (x2 : Int) (w0 : wfU (.sl U_api_Entry) x0) (_ : wfU (.sl (.int .i64)) x1) (_ : wfU (.int .i64) x2) (z0 : szU (.sl U_api_Entry) x0) (_ : szU (.sl (.int .i64)) x1) (_ : szU (.int .i64) x2) : F_mempoollaw24_ReapSorts x0 x1 x2 = some true := by
  obtain ⟨hb, hg⟩ := sz_entries w0 z0
  refine ok_eq.1 ?_
  unfold F_mempoollaw24_ReapSorts
  rw [ok_bind]
  refine (long24_ok _ (by simp)).mono fun r1 _ => ?_
  rw [ok_sel]
  refine ⟨fun _ => known24, fun _ => ?_⟩
  rw [ok_bind]
  refine (raw24_ok x0 (by have := hb.1; omega)).mono fun r3 _ => ?_
  rw [ok_sel]
  refine ⟨fun _ => known24, fun _ => ?_⟩
  rw [from_ok, ok_bind, ok_some, ok_bind]
  refine (entries_s (L := x1) (k := 0) (s := numOf x1) (n := 10) (numS0 x1) (by omega) (by omega) (by omega) (by omega)).mono ?_
  rintro ⟨s1, m⟩ ⟨_, hm1, hm2⟩
  dsimp only at hm1 hm2 ⊢
  have hm := hm2.b (by omega)
  unfold F_mempoollaw24_ReapSorts_l1s
  refine ok_range [x0, m] (fun i (_ : Unit) => (x2, (2 : Int), ((i : Nat) : Int), [x0, m])) (fun _ _ => True) (fun i _ hi _ => ?_) (fun _ _ => ?_) (b0 := ()) trivial (by simp)
  · have hi2 : i < 2 := hi
    have hx : EntsB ([x0, m].getD i []) := by
      have : i = 0 ∨ i = 1 := by omega
      rcases this with rfl | rfl
      · exact hb
      · exact hm.1
    dsimp only
    unfold F_mempoollaw24_ReapSorts_l1
    rw [ok_sel]
    refine ⟨fun _ => ?_, fun h => by simp at h; omega⟩
    rw [Int.toNat_natCast, ok_chk, ok_chk]
    refine ⟨decide_eq_true (by simp; omega), decide_eq_true (by simp; omega), ?_⟩
    rw [ok_bind]
    refine (place_ok (by omega) (by omega)).mono fun r7 _ => ?_
    generalize [x0, m].getD i [] = x at hx
    have hxl := hx.1
    have hxs := sortE_len x
    unfold F_mempoollaw24_ReapSorts_l2s
    have hns : [x2, wi64 (r7 - 1)].length = 2 := rfl
    generalize [x2, wi64 (r7 - 1)] = ns at hns
    refine ok_range (l := ns) (fun j (_ : Unit) => (x2, x, (2 : Int), (i : Int), (2 : Int), ((j : Nat) : Int), [x0, m], ns)) (fun _ _ => True) (fun j _ hj _ => ?_) (fun _ _ => ?_) (b0 := ()) trivial (by omega)
    · have hse := sameEntries_self (l := sortE x) (by omega) (fun e he => by have := (hx.2 e (sortE_mem.1 he)).2; omega)
      have hfl := firstN_le (ns.getD j (0 : Int)) (sortE x)
      have hsl := sameLists_self (l := raws (firstN (ns.getD j (0 : Int)) (sortE x))) (by rw [raws_len]; omega)
      simp only [F_mempoollaw24_ReapSorts_l2, ok_sel, ok_chk, ok_bind, ok_some, decide_eq_true_eq, decide_eq_false_iff_not, Int.toNat_natCast, reapSorted_ok hx, refSorted_ok hxl, hse, count_ok hx, first_ok hx, hsl, Bool.not_true, nxt_inl, wi_succ (i := j) (by omega)]
      refine ⟨fun _ => ⟨by omega, by omega, fun h => Bool.noConfusion h, fun _ => ⟨fun h => Bool.noConfusion h, fun _ => ⟨(), by simp⟩⟩⟩, fun h => by omega⟩
    · simp only [F_mempoollaw24_ReapSorts_l2, ok_sel, ok_some, nxt_inr, nxt_inl, decide_eq_true_eq, decide_eq_false_iff_not]
      refine ⟨fun h => by omega, fun _ => ⟨(), by rw [wi_succ (i := i) (by omega)], trivial⟩⟩
  · dsimp only
    unfold F_mempoollaw24_ReapSorts_l1
    rw [ok_sel]
    refine ⟨fun h => by simp at h, fun _ => ?_⟩
    rw [ok_map]
    exact known24
theorem reapTakes_law (x0 : List D_api_Entry) (x1 : List Int) (x2 x3 : Int) (w0 : wfU (.sl U_api_Entry) x0) (_ : wfU (.sl (.int .i64)) x1) (w2 : wfU (.int .i64) x2) (w3 : wfU (.int .i64) x3) (z0 : szU (.sl U_api_Entry) x0) (_ : szU (.sl (.int .i64)) x1) (_ : szU (.int .i64) x2) (_ : szU (.int .i64) x3) : F_mempoollaw24_ReapTakes x0 x1 x2 x3 = some true := by
  obtain ⟨hb, hg⟩ := sz_entries w0 z0
  have v2 := wf_i64 w2
  have v3 := wf_i64 w3
  refine ok_eq.1 ?_
  unfold F_mempoollaw24_ReapTakes
  rw [ok_bind]
  refine (long24_ok _ (by simp)).mono fun r1 _ => ?_
  rw [ok_sel]
  refine ⟨fun _ => known24, fun _ => ?_⟩
  rw [ok_bind]
  refine (raw24_ok x0 (by have := hb.1; omega)).mono fun r3 _ => ?_
  rw [ok_sel]
  refine ⟨fun _ => known24, fun _ => ?_⟩
  rw [from_ok, ok_bind, ok_some, ok_bind]
  refine (entries_s (L := x1) (k := 0) (s := numOf x1) (n := 10) (numS0 x1) (by omega) (by omega) (by omega) (by omega)).mono ?_
  rintro ⟨s1, m⟩ ⟨hs1, hm1, hm2⟩
  dsimp only at hs1 hm1 hm2 ⊢
  have hm := hm2.b (by omega)
  unfold F_mempoollaw24_ReapTakes_l1s
  refine ok_range (S := Int × Int × Int × Int × D_mempoolmake_Numbers × List (List D_api_Entry)) [x0, m] (fun i (sx : D_mempoolmake_Numbers) => (x2, x3, (2 : Int), ((i : Nat) : Int), sx, [x0, m])) (fun i sx => NumS x1 (201 + 4 * i) sx) (fun i sx hi hsx => ?_) (fun _ _ => ?_) (b0 := s1) (hs1.le (by omega)) (by simp)
  · have hi2 : i < 2 := hi
    have hx : EntsB ([x0, m].getD i []) ∧ GasB ([x0, m].getD i []) := by
      have : i = 0 ∨ i = 1 := by omega
      rcases this with rfl | rfl
      · exact ⟨hb, hg⟩
      · exact hm
    dsimp only
    unfold F_mempoollaw24_ReapTakes_l1
    rw [ok_sel]
    refine ⟨fun _ => ?_, fun h => by simp at h; omega⟩
    rw [Int.toNat_natCast, ok_chk, ok_chk]
    refine ⟨decide_eq_true (by simp; omega), decide_eq_true (by simp; omega), ?_⟩
    rw [ok_bind]
    refine (next_s hsx (by omega) (by omega) (by omega)).mono ?_
    rintro ⟨s7, r7⟩ ⟨a1, _, a2, a3⟩
    dsimp only at a1 a2 a3 ⊢
    rw [ok_bind]
    refine (next_s a1 (by omega) (by omega) (by omega)).mono ?_
    rintro ⟨s8, r8⟩ ⟨b1, _, b2, b3⟩
    dsimp only at b1 b2 b3 ⊢
    rw [ok_bind]
    refine (next_s b1 (by omega) (by omega) (by omega)).mono ?_
    rintro ⟨s9, r9⟩ ⟨c1, _, c2, c3⟩
    dsimp only at c1 c2 c3 ⊢
    rw [ok_bind]
    refine (next_s c1 (by omega) (by omega) (by omega)).mono ?_
    rintro ⟨s10, r10⟩ ⟨d1, _, d2, d3⟩
    dsimp only at d1 d2 d3 ⊢
    have w7 : wi64 (r7 - 1) = r7 - 1 := wi64_id (by omega) (by omega)
    have w8 : wi64 (r8 - 2) = r8 - 2 := wi64_id (by omega) (by omega)
    rw [w7, w8]
    generalize [x0, m].getD i [] = x at hx
    obtain ⟨hxb, hxg⟩ := hx
    have hxl := hxb.1
    have hxs := sortE_len x
    unfold F_mempoollaw24_ReapTakes_l2s
    have hns : ∀ j, vget (List.getD [(Vector.push (Vector.push #v[] x2) x3), (Vector.push (Vector.push #v[] (r7 - 1)) (r8 - 2)), (Vector.push (Vector.push #v[] 1000) r9), (Vector.push (Vector.push #v[] r10) (-1))] j (Vector.replicate 2 (0 : Int))) 0 (0 : Int) ≤ 9223372036854775807 ∧ vget (List.getD [(Vector.push (Vector.push #v[] x2) x3), (Vector.push (Vector.push #v[] (r7 - 1)) (r8 - 2)), (Vector.push (Vector.push #v[] 1000) r9), (Vector.push (Vector.push #v[] r10) (-1))] j (Vector.replicate 2 (0 : Int))) 1 (0 : Int) ≤ 9223372036854775807 := by
      intro j
      match j with
      | 0 => exact ⟨v2.2, v3.2⟩
      | 1 => exact ⟨show r7 - 1 ≤ _ by omega, show r8 - 2 ≤ _ by omega⟩
      | 2 => exact ⟨show (1000 : Int) ≤ _ by omega, show r9 ≤ _ by omega⟩
      | 3 => exact ⟨show r10 ≤ _ by omega, show (-1 : Int) ≤ _ by omega⟩
      | j + 4 => exact ⟨show (0 : Int) ≤ _ by omega, show (0 : Int) ≤ _ by omega⟩
    have hlen : [(Vector.push (Vector.push #v[] x2) x3), (Vector.push (Vector.push #v[] (r7 - 1)) (r8 - 2)), (Vector.push (Vector.push #v[] 1000) r9), (Vector.push (Vector.push #v[] r10) (-1))].length = 4 := rfl
    generalize [(Vector.push (Vector.push #v[] x2) x3), (Vector.push (Vector.push #v[] (r7 - 1)) (r8 - 2)), (Vector.push (Vector.push #v[] 1000) r9), (Vector.push (Vector.push #v[] r10) (-1))] = ns at hns hlen
    refine ok_range (S := Int × Int × List D_api_Entry × Int × Int × Int × Int × D_mempoolmake_Numbers × List (List D_api_Entry) × List (Vector Int 2)) (l := ns) (fun j (_ : Unit) => (x2, x3, x, (2 : Int), (i : Int), (4 : Int), ((j : Nat) : Int), s10, [x0, m], ns)) (fun _ _ => True) (fun j _ hj _ => ?_) (fun _ _ => ?_) (b0 := ()) trivial (by omega)
    · obtain ⟨n0, n1⟩ := hns j
      generalize hv0 : vget (List.getD ns j (Vector.replicate 2 (0 : Int))) 0 (0 : Int) = mb at n0
      generalize hv1 : vget (List.getD ns j (Vector.replicate 2 (0 : Int))) 1 (0 : Int) = mg at n1
      have hsl := sameLists_self (l := raws (takenE x mb mg)) (by
        rw [raws_len]
        unfold takenE
        split
        · simp
        · have := takeE_le (decide (mg < 0)) (sortE x) mb (max mg 0); omega)
      simp only [F_mempoollaw24_ReapTakes_l2, ok_sel, ok_chk, ok_bind, ok_some, decide_eq_true_eq, decide_eq_false_iff_not, Int.toNat_natCast, hv0, hv1, bytesGas_ok hxb hxg n0 n1, refBytesGas_ok hxb hxg n0 n1, hsl, Bool.not_true, nxt_inl, wi_succ (i := j) (by omega)]
      refine ⟨fun _ => ⟨by omega, by omega, fun h => Bool.noConfusion h, fun _ => ⟨(), by simp⟩⟩, fun h => by omega⟩
    · simp only [F_mempoollaw24_ReapTakes_l2, ok_sel, ok_some, nxt_inr, nxt_inl, decide_eq_true_eq, decide_eq_false_iff_not]
      refine ⟨fun h => by omega, fun _ => ⟨s10, by rw [wi_succ (i := i) (by omega)], d1.le (by omega)⟩⟩
  · dsimp only
    unfold F_mempoollaw24_ReapTakes_l1
    rw [ok_sel]
    refine ⟨fun h => by simp at h, fun _ => ?_⟩
    rw [ok_map]
    exact known24
/-- The sum of the sizes. -/
def sumZ (l : List (List UInt8)) : Nat := (l.map fun b => fsz b.length).sum
theorem sumZ_app (a b : List (List UInt8)) : sumZ (a ++ b) = sumZ a + sumZ b := by simp [sumZ]
theorem sumZ_one (b : List UInt8) : sumZ [b] = fsz b.length := by simp [sumZ]
theorem sumZ_le {l : List (List UInt8)} {c : Nat} (h : ∀ b ∈ l, b.length ≤ c) (hc : c < 4611686018427387904) : sumZ l ≤ l.length * (c + 11) := by
  induction l with
  | nil => simp [sumZ]
  | cons b l ih =>
    have h1 := ih (fun x hx => h x (by simp [hx]))
    have h2 := h b (by simp)
    have h3 := fsz_le (n := b.length) (by omega)
    have e : sumZ (b :: l) = fsz b.length + sumZ l := by simp [sumZ]
    rw [e, List.length_cons, Nat.succ_mul]
    omega
def ListB (l : List (List UInt8)) : Prop := l.length ≤ 64 ∧ ∀ b ∈ l, b.length ≤ 140737488351232
theorem ListB.sum {l : List (List UInt8)} (h : ListB l) (i : Nat) : sumZ (l.take i) ≤ 9007199254480000 := by
  have h1 := sumZ_le (l := l.take i) (c := 140737488351232) (fun b hb => h.2 b (List.mem_of_mem_take hb)) (by omega)
  have hl : (l.take i).length ≤ 64 := by rw [List.length_take]; have := h.1; omega
  generalize (l.take i).length = n at h1 hl
  omega
theorem size_list {l : List (List UInt8)} (h : ListB l) : F_reap_Size l = some (sumZ l : Int) := by
  refine ok_eq.1 ?_
  have hl := h.1
  unfold F_reap_Size F_reap_Size_l1s
  refine ok_range l (fun i (a : Int) => (a, l, ((l.length : Nat) : Int), ((i : Nat) : Int))) (fun i a => a = (sumZ (l.take i) : Int)) (fun i a hi ha => ?_) (fun a ha => ?_) (b0 := 0) rfl (by omega)
  · subst ha
    have hs := h.sum i
    have hbl := h.2 (l.getD i []) (by rw [getD_lt hi]; exact List.getElem_mem hi)
    have hsz := sizeBytes_ok (n := (l.getD i []).length) (by omega)
    have hf := fsz_le (n := (l.getD i []).length) (by omega)
    have w : wi64 ((sumZ (l.take i) : Int) + (fsz (l.getD i []).length : Int)) = ((sumZ (l.take (i + 1)) : Nat) : Int) := by
      rw [wi64_id (by omega) (by omega), take_succ' hi, sumZ_app, sumZ_one, getD_lt hi]
      omega
    simp only [F_reap_Size_l1, ok_sel, ok_chk, ok_bind, ok_some, nxt_inl, decide_eq_true_eq, decide_eq_false_iff_not, Int.toNat_natCast, hsz, w, wi_succ (i := i) (by omega)]
    exact ⟨fun _ => ⟨by omega, _, rfl, rfl⟩, fun h => by omega⟩
  · subst ha
    simp only [F_reap_Size_l1, ok_sel, ok_chk, ok_bind, ok_some, nxt_inl, nxt_inr, decide_eq_true_eq, decide_eq_false_iff_not, Int.toNat_natCast]
    exact ⟨fun h => by omega, fun _ => by rw [List.take_length]⟩
theorem sum_list {l : List (List UInt8)} (h : ListB l) : F_mempoolref21_Sum l = some (sumZ l : Int) := by
  refine ok_eq.1 ?_
  have hl := h.1
  unfold F_mempoolref21_Sum F_mempoolref21_Sum_l1s
  refine ok_range l (fun i (a : Int) => (a, l, ((l.length : Nat) : Int), ((i : Nat) : Int))) (fun i a => a = (sumZ (l.take i) : Int)) (fun i a hi ha => ?_) (fun a ha => ?_) (b0 := 0) rfl (by omega)
  · subst ha
    have hs := h.sum i
    have hbl := h.2 (l.getD i []) (by rw [getD_lt hi]; exact List.getElem_mem hi)
    have hsz := refSizeBytes_ok (n := (l.getD i []).length) (by omega)
    have hf := fsz_le (n := (l.getD i []).length) (by omega)
    have w : wi64 ((sumZ (l.take i) : Int) + (fsz (l.getD i []).length : Int)) = ((sumZ (l.take (i + 1)) : Nat) : Int) := by
      rw [wi64_id (by omega) (by omega), take_succ' hi, sumZ_app, sumZ_one, getD_lt hi]
      omega
    simp only [F_mempoolref21_Sum_l1, ok_sel, ok_chk, ok_bind, ok_some, nxt_inl, decide_eq_true_eq, decide_eq_false_iff_not, Int.toNat_natCast, hsz, w, wi_succ (i := i) (by omega)]
    exact ⟨fun _ => ⟨by omega, _, rfl, rfl⟩, fun h => by omega⟩
  · subst ha
    simp only [F_mempoolref21_Sum_l1, ok_sel, ok_chk, ok_bind, ok_some, nxt_inl, nxt_inr, decide_eq_true_eq, decide_eq_false_iff_not, Int.toNat_natCast]
    exact ⟨fun h => by omega, fun _ => by rw [List.take_length]⟩
theorem reapSizes_law (x0 x1 : List (List UInt8)) (x2 : Int) (_ : wfU (.sl (.sl .byte)) x0) (_ : wfU (.sl (.sl .byte)) x1) (w2 : wfU (.int .u16) x2) (z0 : szU (.sl (.sl .byte)) x0) (z1 : szU (.sl (.sl .byte)) x1) (_ : szU (.int .u16) x2) : F_mempoollaw24_ReapSizes x0 x1 x2 = some true := by
  have v2 := wf_u16 w2
  have hr : reachBytes = 140737488351232 := rfl
  have q0 : x0.length * 24 ≤ reachBytes := z0.1
  have q1 : x1.length * 24 ≤ reachBytes := z1.1
  have b0 : ∀ b ∈ x0, b.length ≤ 140737488351232 := fun b hb => by
    have h : List.length b * 1 ≤ reachBytes := (z0.2 b hb).1
    omega
  have b1 : ∀ b ∈ x1, b.length ≤ 140737488351232 := fun b hb => by
    have h : List.length b * 1 ≤ reachBytes := (z1.2 b hb).1
    omega
  have w1 : wi64 ((((List.length x0) : Nat) : Int) + (((List.length x1) : Nat) : Int)) = ((x0.length + x1.length : Nat) : Int) := by rw [wi64_id] <;> omega
  obtain ⟨k, hk, e0⟩ : ∃ k : Nat, k < 20000 ∧ Int.tmod x2 20000 = (k : Int) := ⟨x2.toNat % 20000, by omega, by rw [Int.tmod_eq_emod_of_nonneg (by omega)]; omega⟩
  refine ok_eq.1 ?_
  unfold F_mempoollaw24_ReapSizes
  rw [w1, ok_sel]
  refine ⟨fun _ => known24, fun h40 => ?_⟩
  have h40' : x0.length + x1.length ≤ 40 := by have := of_decide_eq_false h40; omega
  have h0 : ListB x0 := ⟨by omega, b0⟩
  have h1 : ListB x1 := ⟨by omega, b1⟩
  have h : ListB (x0 ++ x1) := ⟨by rw [List.length_append]; omega, fun b hb => by
    rcases List.mem_append.1 hb with hb | hb
    · exact b0 b hb
    · exact b1 b hb⟩
  have s0 := h0.sum x0.length
  have s1 := h1.sum x1.length
  rw [List.take_length] at s0 s1
  have w2 : wi64 ((sumZ x0 : Int) + (sumZ x1 : Int)) = ((sumZ (x0 ++ x1) : Nat) : Int) := by rw [wi64_id (by omega) (by omega), sumZ_app]; omega
  have h7 : ListB [List.replicate k (0 : UInt8)] := ⟨by simp, fun b hb => by have := List.mem_singleton.1 hb; subst this; simp; omega⟩
  have w8 : wi64 ((k : Int)) = (k : Int) := wi64_id (by omega) (by omega)
  have e7 : sumZ [List.replicate k (0 : UInt8)] = fsz k := by rw [sumZ_one]; simp
  rw [e0]
  rw [ok_chk, ok_chk]
  refine ⟨decide_eq_true ⟨by unfold LIM; omega, by unfold LEN; omega⟩, decide_eq_true ⟨by unfold LIM; omega, by unfold LEN; omega⟩, ?_⟩
  rw [size_list h, sum_list h, size_list h0, size_list h1]
  rw [ok_bind, ok_some, ok_bind, ok_some, ok_sel]
  refine ⟨fun _ => ?_, fun k => by simp at k⟩
  rw [ok_bind, ok_some, ok_bind, ok_some, ok_bind, ok_some, w2, ok_sel]
  refine ⟨fun _ => ?_, fun k => by simp at k⟩
  rw [ok_chk]
  refine ⟨decide_eq_true ⟨by omega, by omega, by omega, by omega⟩, ?_⟩
  rw [Int.toNat_natCast, size_list h7, w8, refSizeBytes_ok (n := k) (by omega), e7]
  rw [ok_bind, ok_some, ok_bind, ok_some, ok_sel]
  exact ⟨fun _ => known24, fun k => by simp at k⟩
theorem reapMaximal_law (x0 : List Int) (x1 x2 : Int) (_ : wfU (.sl (.int .i64)) x0) (_ : wfU (.int .i64) x1) (_ : wfU (.int .i64) x2) (_ : szU (.sl (.int .i64)) x0) (_ : szU (.int .i64) x1) (_ : szU (.int .i64) x2) : F_mempoollaw24_ReapMaximal x0 x1 x2 = some true := by
  refine ok_eq.1 ?_
  unfold F_mempoollaw24_ReapMaximal
  rw [ok_bind]
  refine (long24_ok _ (by simp)).mono fun r1 _ => ?_
  rw [ok_sel]
  refine ⟨fun _ => known24, fun _ => ?_⟩
  rw [from_ok, ok_bind, ok_some, ok_bind]
  refine (entries_s (L := x0) (k := 0) (s := numOf x0) (n := 10) (numS0 x0) (by omega) (by omega) (by omega) (by omega)).mono ?_
  rintro ⟨s1, l⟩ ⟨_, hm1, hm2⟩
  dsimp only at hm1 hm2 ⊢
  obtain ⟨hb, hg⟩ := hm2.b (by omega)
  rw [ok_bind]
  refine (place_ok (by omega) (by omega)).mono ?_
  rintro mb ⟨mb0, mb1, _⟩
  rw [ok_bind]
  refine (place_ok (by omega) (by omega)).mono ?_
  rintro r6 ⟨q0, q1, _⟩
  have w6 : wi64 (r6 - 1) = r6 - 1 := wi64_id (by omega) (by omega)
  rw [w6]
  obtain ⟨mg, hmg⟩ : ∃ mg, mg = r6 - 1 := ⟨_, rfl⟩
  rw [← hmg]
  have g0 : -1 ≤ mg := by omega
  have g1 : mg < 150 := by omega
  have wmg : ¬ mg < 0 → wu64 mg = mg := fun h => wu64_id (by omega) (by omega)
  rw [bytesGas_ok hb hg (by omega) (by omega), reapSorted_ok hb, ok_bind, ok_some, ok_bind, ok_some]
  have hsl := sortE_len l
  have hsm : EntsM (sortE l) := fun e he => hm2 e (sortE_mem.1 he)
  have hgot : takenE l mb mg = takeE (decide (mg < 0)) mb (max mg 0) (sortE l) := by unfold takenE; rw [if_neg (by omega)]
  rw [hgot]
  generalize sortE l = s at *
  have hlb : ListB (raws (takeE (decide (mg < 0)) mb (max mg 0) s)) := by
    refine ⟨by rw [raws_len]; have := takeE_le (decide (mg < 0)) s mb (max mg 0); omega, fun b hb => ?_⟩
    obtain ⟨e, he, rfl⟩ := List.mem_map.1 hb
    have := (hsm e (takeE_sub _ s _ _ e he)).1
    omega
  have hgl := takeE_le (decide (mg < 0)) s mb (max mg 0)
  rw [← raws_len] at hgl
  generalize hG : raws (takeE (decide (mg < 0)) mb (max mg 0) s) = got at *
  unfold F_mempoollaw24_ReapMaximal_l2s
  refine ok_range (S := Int × Int × Int × Int × Int × Int × Int × List (List UInt8) × List D_api_Entry) s (fun i (v : Int × Int × Nat) => (mb, mg, v.1, v.2.1, ((v.2.2 : Nat) : Int), ((s.length : Nat) : Int), ((i : Nat) : Int), got, s)) (fun i v => 0 ≤ v.1 ∧ v.1 ≤ mb ∧ v.1 = (sumZ (got.take v.2.2) : Int) ∧ 0 ≤ v.2.1 ∧ v.2.1 ≤ 50 * i ∧ (mg < 0 ∨ v.2.1 ≤ mg) ∧ v.2.2 ≤ got.length ∧ ∃ g, (mg < 0 ∨ g = mg - v.2.1) ∧ got.drop v.2.2 = raws (takeE (decide (mg < 0)) (mb - v.1) g (s.drop i))) (fun i v hi hinv => ?_) (fun v hinv => ?_) (b0 := (0, 0, 0)) ⟨by dsimp only; omega, by dsimp only; omega, by simp [sumZ], by dsimp only; omega, by simp, by dsimp only; omega, by simp, max mg 0, by dsimp only; omega, by simp [hG]⟩ (by omega)
  · obtain ⟨by_, gas, n⟩ := v
    obtain ⟨i1, i2, i3, i4, i5, i6, i7, g, i8, i9⟩ := hinv
    dsimp only at i1 i2 i3 i4 i5 i6 i7 i8 i9 ⊢
    rw [drop_cons' hi] at i9
    have he := hsm s[i] (List.getElem_mem hi)
    generalize hx : s[i] = e at *
    have hgd : s.getD i d_api_Entry = e := by rw [getD_lt hi, hx]
    have he1 := he.1
    have he2 := he.2.2.2.1
    have hf := fsz_le (n := e.2.1.length) (by omega)
    have hsz := refSizeBytes_ok (n := e.2.1.length) (by omega)
    have w1 : wi64 (by_ + (fsz e.2.1.length : Int)) = by_ + (fsz e.2.1.length : Int) := wi64_id (by omega) (by omega)
    have w2 : wu64 (gas + e.2.2.2.2.1) = gas + e.2.2.2.2.1 := wu64_id (by omega) (by omega)
    have w3 : wi64 ((n : Int) + 1) = ((n + 1 : Nat) : Int) := wi_succ (by omega)
    rw [takeE_cons] at i9
    have no : fitsE (decide (mg < 0)) (mb - by_) g e = false → Ok (F_mempoollaw24_ReapMaximal_c3 mb mg by_ gas (n : Int) (fsz e.2.1.length : Int) false ((s.length : Nat) : Int) (i : Int) e got s) (Nxt (fun x => x = true) fun z => ∃ b' : Int × Int × Nat, z = (mb, mg, b'.1, b'.2.1, ((b'.2.2 : Nat) : Int), ((s.length : Nat) : Int), ((i + 1 : Nat) : Int), got, s) ∧ 0 ≤ b'.1 ∧ b'.1 ≤ mb ∧ b'.1 = (sumZ (got.take b'.2.2) : Int) ∧ 0 ≤ b'.2.1 ∧ b'.2.1 ≤ 50 * ((i + 1 : Nat) : Int) ∧ (mg < 0 ∨ b'.2.1 ≤ mg) ∧ b'.2.2 ≤ got.length ∧ ∃ g, (mg < 0 ∨ g = mg - b'.2.1) ∧ got.drop b'.2.2 = raws (takeE (decide (mg < 0)) (mb - b'.1) g (s.drop (i + 1)))) := fun hf => by
      rw [hf] at i9
      unfold F_mempoollaw24_ReapMaximal_c3
      rw [ok_sel]
      refine ⟨fun _ => ?_, fun k => Bool.noConfusion k⟩
      rw [ok_some, nxt_inl, wi_succ (i := i) (by omega)]
      exact ⟨(by_, gas, n), rfl, i1, i2, i3, i4, by dsimp only; omega, i6, i7, g, i8, i9⟩
    have yes : fitsE (decide (mg < 0)) (mb - by_) g e = true → Ok (F_mempoollaw24_ReapMaximal_c3 mb mg by_ gas (n : Int) (fsz e.2.1.length : Int) true ((s.length : Nat) : Int) (i : Int) e got s) (Nxt (fun x => x = true) fun z => ∃ b' : Int × Int × Nat, z = (mb, mg, b'.1, b'.2.1, ((b'.2.2 : Nat) : Int), ((s.length : Nat) : Int), ((i + 1 : Nat) : Int), got, s) ∧ 0 ≤ b'.1 ∧ b'.1 ≤ mb ∧ b'.1 = (sumZ (got.take b'.2.2) : Int) ∧ 0 ≤ b'.2.1 ∧ b'.2.1 ≤ 50 * ((i + 1 : Nat) : Int) ∧ (mg < 0 ∨ b'.2.1 ≤ mg) ∧ b'.2.2 ≤ got.length ∧ ∃ g, (mg < 0 ∨ g = mg - b'.2.1) ∧ got.drop b'.2.2 = raws (takeE (decide (mg < 0)) (mb - b'.1) g (s.drop (i + 1)))) := fun hft => by
      rw [hft, if_pos rfl] at i9
      simp only [fitsE, Bool.and_eq_true, Bool.or_eq_true, decide_eq_true_eq] at hft
      have i10 : got.drop n = e.2.1 :: raws (takeE (decide (mg < 0)) (mb - by_ - (fsz e.2.1.length : Int)) (if decide (mg < 0) then g else g - e.2.2.2.2.1) (s.drop (i + 1))) := i9
      have hn : n < got.length := by
        rcases Nat.lt_or_ge n got.length with h | h
        · exact h
        · rw [List.drop_eq_nil_of_le h] at i10; cases i10
      rw [drop_cons' hn] at i10
      obtain ⟨i11, i12⟩ := List.cons.inj i10
      have hgn : got.getD n [] = e.2.1 := by rw [getD_lt hn, i11]
      have hsame : F_mempoolref1_SameBytes e.2.1 e.2.1 = some true := by unfold F_mempoolref1_SameBytes; simp
      have htk : sumZ (got.take (n + 1)) = sumZ (got.take n) + fsz e.2.1.length := by rw [take_succ' hn, sumZ_app, sumZ_one, i11]
      unfold F_mempoollaw24_ReapMaximal_c3
      rw [ok_sel]
      refine ⟨fun k => Bool.noConfusion k, fun _ => ?_⟩
      rw [ok_sel]
      refine ⟨fun k => by have := of_decide_eq_true k; omega, fun _ => ?_⟩
      rw [ok_chk, ok_chk, Int.toNat_natCast]
      refine ⟨decide_eq_true ⟨by omega, by omega⟩, decide_eq_true hn, ?_⟩
      rw [hgn, hsame, ok_bind, ok_some, ok_sel]
      refine ⟨fun k => Bool.noConfusion k, fun _ => ?_⟩
      rw [ok_some, nxt_inl, wi_succ (i := i) (by omega), w1, w2, w3]
      refine ⟨(by_ + (fsz e.2.1.length : Int), gas + e.2.2.2.2.1, n + 1), rfl, by dsimp only; omega, by dsimp only; omega, by dsimp only; omega, by dsimp only; omega, by dsimp only; omega, by dsimp only; omega, by dsimp only; omega, (if decide (mg < 0) then g else g - e.2.2.2.2.1), ?_, ?_⟩
      · dsimp only
        by_cases h : mg < 0
        · exact .inl h
        · rw [if_neg (by simpa using h)]; right; omega
      · dsimp only
        rw [i12, Int.sub_sub]
    unfold F_mempoollaw24_ReapMaximal_l2
    rw [ok_sel]
    refine ⟨fun _ => ?_, fun k => by have := of_decide_eq_false k; omega⟩
    rw [ok_chk, ok_chk, Int.toNat_natCast]
    refine ⟨decide_eq_true ⟨by omega, by omega⟩, decide_eq_true hi, ?_⟩
    rw [hgd, hsz, ok_bind, ok_some, w1, w2, ok_sel]
    refine ⟨fun k1 => ?_, fun k1 => no ?_⟩
    · have k1 := of_decide_eq_true k1
      rw [ok_sel]
      refine ⟨fun k2 => yes ?_, fun k2 => ?_⟩
      · have k2 := of_decide_eq_true k2
        simp [fitsE]; omega
      · have k2 := of_decide_eq_false k2
        rw [wmg k2]
        by_cases k3 : gas + e.2.2.2.2.1 ≤ mg
        · rw [decide_eq_true k3]; exact yes (by simp [fitsE]; omega)
        · rw [decide_eq_false k3]; exact no (by simp [fitsE]; omega)
    · have k1 := of_decide_eq_false k1
      simp [fitsE]; omega
  · obtain ⟨by_, gas, n⟩ := v
    obtain ⟨i1, i2, i3, i4, i5, i6, i7, g, i8, i9⟩ := hinv
    dsimp only at i1 i2 i3 i4 i5 i6 i7 i8 i9 ⊢
    rw [List.drop_length] at i9
    have i10 : got.drop n = [] := i9
    have i11 := List.drop_eq_nil_iff.1 i10
    have hn : n = got.length := by omega
    unfold F_mempoollaw24_ReapMaximal_l2
    rw [ok_sel]
    refine ⟨fun k => by have := of_decide_eq_true k; omega, fun _ => ?_⟩
    rw [ok_map]
    unfold F_mempoollaw24_ReapMaximal_c1
    rw [ok_sel]
    refine ⟨fun _ => ?_, fun k => by have := of_decide_eq_false k; omega⟩
    rw [size_list hlb, ok_bind, ok_some, ok_sel]
    refine ⟨fun _ => known24, fun k => ?_⟩
    have := of_decide_eq_false k
    rw [i3, hn, List.take_length] at this
    exact absurd rfl this
end Go.Proofs.Ythmfeknfiekcmaa.Am
