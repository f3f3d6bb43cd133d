/- The program's heap, and the reference's sorted list. No conditions. -/
import Derived.Test.YthmfeknfiekcmaaPHeapL
import Derived.Test.YthmfeknfiekcmaaFAll
namespace Go.Proofs.Ythmfeknfiekcmaa.Am
open Go

theorem getD_nth (l : List D_api_Item) (k : Nat) : List.getD l k d_api_Item = nth l k := rfl
theorem before_ok (a b : D_api_Item) : F_heap_Before a b = some (decide (Bef a b)) := by
  refine ok_eq.1 ?_
  unfold F_heap_Before
  simp only [ok_sel, ok_some, Bool.not_eq_true', Bool.not_eq_false', decide_eq_true_eq, decide_eq_false_iff_not]
  refine ⟨fun h => ?_, fun h => ⟨fun k => ?_, fun k => ?_⟩⟩ <;> exact decide_eq_decide.2 (by unfold Bef; omega)
theorem refBefore_ok (a b : D_api_Item) : F_mempoolref7_Before a b = some (decide (Bef a b)) := before_ok a b
theorem swap_ok {l : List D_api_Item} {p : List (Int × Int)} {i j : Nat} (hi : i < l.length) (hj : j < l.length) : F_heap_Heap_swap l p (i : Int) (j : Int) = some (sw l i j, pSw (sw l i j) p i j) := by
  refine ok_eq.1 ?_
  unfold F_heap_Heap_swap
  simp only [ok_chk, ok_some, Int.toNat_natCast, decide_eq_true_eq, List.length_set]
  refine ⟨by omega, hj, by omega, hi, by omega, hi, by omega, hj, by omega, hi, by omega, hj, rfl⟩
theorem par_w {j : Nat} (h0 : 0 < j) (h : j ≤ 1000000) : wi64 (Int.tdiv (wi64 ((j : Int) - 1)) 2) = (((j - 1) / 2 : Nat) : Int) := by
  have h1 : wi64 ((j : Int) - 1) = ((j - 1 : Nat) : Int) := by rw [wi64_id] <;> omega
  rw [h1, Int.tdiv_eq_ediv_of_nonneg (by omega), wi64_id] <;> omega
theorem up_ok {l : List D_api_Item} {p : List (Int × Int)} {i : Nat} (hi : i < l.length) (hl : l.length ≤ 1000000) (hd : Ids l) (hp : Pl l p) (h : AH l i) : Ok (F_heap_Heap_up l p (i : Int)) fun r => r.1.Perm l ∧ Pl r.1 r.2 ∧ DH r.1 i := by
  unfold F_heap_Heap_up F_heap_Heap_up_l1s
  refine ok_iterE (fun n v => ∃ l0 p0, v = ((n : Int), l0, p0) ∧ n < l.length ∧ l0.Perm l ∧ Pl l0 p0 ∧ ((n = i ∧ AH l0 i) ∨ UH l0 n)) ?_ (n := i) ⟨l, p, rfl, hi, List.Perm.refl _, hp, .inl ⟨rfl, h⟩⟩ (by omega)
  rintro n v ⟨l0, p0, rfl, hn, hperm, hpl, hah⟩
  have hlen := hperm.length_eq
  have hid := hd.perm hperm
  have fin : (n = 0 ∨ OkAt l0 n) → DH l0 i := fun hs => by
    rcases hah with ⟨rfl, h1⟩ | h1
    · exact up_stop1 h1 hs
    · exact (up_stop2 h1 hs).dh (by omega)
  unfold F_heap_Heap_up_l1
  dsimp only
  rw [ok_sel]
  refine ⟨fun h0 => ?_, fun h0 => ?_⟩
  · have h0 : 0 < n := by have := of_decide_eq_true h0; omega
    have hpn : (n - 1) / 2 < l0.length := by omega
    rw [par_w h0 (by omega), Int.toNat_natCast, Int.toNat_natCast, getD_nth, getD_nth, before_ok, Option.bind_some, swap_ok (show n < l0.length by omega) hpn, Option.bind_some]
    simp only [ok_chk, ok_sel, ok_some, decide_eq_true_eq, decide_eq_false_iff_not, nxt_inl, nxt_inr]
    refine ⟨by omega, by omega, by omega, hpn, fun hb => ?_, fun hb => ⟨hperm, hpl, fin (.inr hb)⟩⟩
    have ha : AH l0 n := by
      rcases hah with ⟨rfl, h1⟩ | h1
      · exact h1
      · exact h1.ah
    exact ⟨(n - 1) / 2, by omega, _, _, rfl, by omega, (sw_perm (by omega) hpn).trans hperm, hpl.swap hid (by omega) hpn, .inr (up_step h0 (by omega) rfl ha hb)⟩
  · have h0 : n = 0 := by have := of_decide_eq_false h0; omega
    rw [ok_some, nxt_inr]
    exact ⟨hperm, hpl, fin (.inl h0)⟩
/-- The best of a place and what lies below it. -/
def GoodB (l : List D_api_Item) (i b : Nat) : Prop := (b = i ∨ (0 < b ∧ b < l.length ∧ (b - 1) / 2 = i ∧ Bef (nth l b) (nth l i))) ∧ ∀ c, 0 < c → c < l.length → (c - 1) / 2 = i → ¬ Bef (nth l c) (nth l b)
theorem vec2 (a b : Int) {k : Nat} (hk : k < 2) : vget (Vector.push (Vector.push #v[] a) b) k (0 : Int) = if k = 0 then a else b := by
  have : k = 0 ∨ k = 1 := by omega
  rcases this with rfl | rfl <;> rfl
theorem down_inner {l : List D_api_Item} {p : List (Int × Int)} {i : Nat} {q : (Int × List D_api_Item × List (Int × Int)) ⊕ (List D_api_Item × List (Int × Int)) → Prop} (hi : i < l.length) (hl : l.length ≤ 1000000)
    (hq : ∀ b, GoodB l i b → Ok (F_heap_Heap_down_c2 (i : Int) (b : Int) l p) q) : Ok (F_heap_Heap_down_l3s (i : Int) (i : Int) ((2 * i + 1 : Nat) : Int) ((2 * i + 2 : Nat) : Int) 0 l p) q := by
  unfold F_heap_Heap_down_l3s
  refine ok_iterE (fun n v => ∃ k b : Nat, k + n = 2 ∧ v = ((i : Int), (b : Int), ((2 * i + 1 : Nat) : Int), ((2 * i + 2 : Nat) : Int), (k : Int), l, p) ∧ (b = i ∨ (0 < b ∧ b < l.length ∧ (b - 1) / 2 = i ∧ Bef (nth l b) (nth l i))) ∧ ∀ k', k' < k → 2 * i + 1 + k' < l.length → ¬ Bef (nth l (2 * i + 1 + k')) (nth l b)) ?_ (n := 2) ⟨0, i, rfl, rfl, .inl rfl, fun _ h => by omega⟩ (by omega)
  rintro n v ⟨k, b, hk, rfl, hb, hs⟩
  have hbl : b < l.length := by rcases hb with rfl | ⟨_, h, _⟩ <;> omega
  unfold F_heap_Heap_down_l3
  dsimp only
  rw [ok_sel]
  refine ⟨fun h2 => ?_, fun h2 => ?_⟩
  · have h2 : k < 2 := by have := of_decide_eq_true h2; omega
    have hv : vget (Vector.push (Vector.push #v[] ((2 * i + 1 : Nat) : Int)) ((2 * i + 2 : Nat) : Int)) k (0 : Int) = ((2 * i + 1 + k : Nat) : Int) := by
      rw [vec2 _ _ h2]
      split <;> omega
    rw [Int.toNat_natCast, hv, Int.toNat_natCast, Int.toNat_natCast, getD_nth, getD_nth, before_ok, Option.bind_some, wi_succ (i := k) (by omega)]
    simp only [ok_chk, ok_sel, ok_some, decide_eq_true_eq, decide_eq_false_iff_not, nxt_inl]
    refine ⟨by omega, fun h3 => ⟨by omega, by omega, by omega, hbl, fun hbe => ?_, fun hbe => ?_⟩, fun h3 => ?_⟩
    · refine ⟨1 - k, by omega, k + 1, 2 * i + 1 + k, by omega, rfl, .inr ⟨by omega, by omega, by omega, ?_⟩, fun k' hk' hc => ?_⟩
      · rcases hb with rfl | ⟨_, _, _, h5⟩
        · exact hbe
        · exact hbe.trans h5
      · by_cases e : k' = k
        · rw [e]; exact Bef.irrefl _
        · exact fun hx => hs k' (by omega) hc (hx.trans hbe)
    · refine ⟨1 - k, by omega, k + 1, b, by omega, rfl, hb, fun k' hk' hc => ?_⟩
      by_cases e : k' = k
      · rw [e]; exact hbe
      · exact hs k' (by omega) hc
    · refine ⟨1 - k, by omega, k + 1, b, by omega, rfl, hb, fun k' hk' hc => ?_⟩
      by_cases e : k' = k
      · subst e; omega
      · exact hs k' (by omega) hc
  · have h2 : k = 2 := by have := of_decide_eq_false h2; omega
    subst h2
    rw [ok_map]
    refine (hq b ⟨hb, fun c c0 cl cp => ?_⟩).mono fun r hr => hr
    have : c = 2 * i + 1 + (c - (2 * i + 1)) := by omega
    have h5 := hs (c - (2 * i + 1)) (by omega) (by omega)
    rw [← this] at h5
    exact h5
theorem down_ok {l : List D_api_Item} {p : List (Int × Int)} {i : Nat} (hi : i < l.length) (hl : l.length ≤ 1000000) (hd : Ids l) (hp : Pl l p) (h : DH l i) : Ok (F_heap_Heap_down l p (i : Int)) fun r => r.1.Perm l ∧ Pl r.1 r.2 ∧ HeapO r.1 := by
  unfold F_heap_Heap_down F_heap_Heap_down_l1s
  refine ok_iterE (fun n v => ∃ (j : Nat) (l0 : List D_api_Item) (p0 : List (Int × Int)), v = ((j : Int), l0, p0) ∧ j < l.length ∧ j + n = l.length ∧ l0.Perm l ∧ Pl l0 p0 ∧ DH l0 j) ?_ (n := l.length - i) ⟨i, l, p, rfl, hi, by omega, List.Perm.refl _, hp, h⟩ (by omega)
  rintro n v ⟨j, l0, p0, rfl, hj, hn, hperm, hpl, hdh⟩
  have hlen := hperm.length_eq
  have hid := hd.perm hperm
  unfold F_heap_Heap_down_l1
  dsimp only
  have w1 : wi64 (wi64 (2 * (j : Int)) + 1) = ((2 * j + 1 : Nat) : Int) := by
    have : wi64 (2 * (j : Int)) = 2 * (j : Int) := wi64_id (by omega) (by omega)
    rw [this, wi64_id] <;> omega
  have w2 : wi64 (wi64 (2 * (j : Int)) + 2) = ((2 * j + 2 : Nat) : Int) := by
    have : wi64 (2 * (j : Int)) = 2 * (j : Int) := wi64_id (by omega) (by omega)
    rw [this, wi64_id] <;> omega
  rw [w1, w2]
  refine down_inner (by omega) (by omega) fun b hb => ?_
  obtain ⟨hb1, hb2⟩ := hb
  unfold F_heap_Heap_down_c2
  rw [ok_sel]
  refine ⟨fun e => ?_, fun e => ?_⟩
  · have e : b = j := by have := of_decide_eq_true e; omega
    subst e
    rw [ok_some, nxt_inr]
    exact ⟨hperm, hpl, down_stop hdh hb2⟩
  · have e : b ≠ j := by have := of_decide_eq_false e; omega
    rcases hb1 with rfl | ⟨b0, bl, bp, bb⟩
    · exact (e rfl).elim
    rw [swap_ok (show j < l0.length by omega) bl, Option.bind_some, ok_some, nxt_inl]
    exact ⟨l.length - b, by omega, b, _, _, rfl, by omega, by omega, (sw_perm (by omega) bl).trans hperm, hpl.swap hid (by omega) bl, down_step bl b0 bp hdh bb hb2⟩
theorem take_ok {l : List D_api_Item} {p : List (Int × Int)} {i : Nat} (hi : i < l.length) (hl : l.length ≤ 1000000) (hd : Ids l) (hp : Pl l p) (h : HeapO l) : Ok (F_heap_Heap_take l p (i : Int)) fun r => (nth l i :: r.1).Perm l ∧ Pl r.1 r.2 ∧ HeapO r.1 := by
  obtain ⟨n, hn⟩ : ∃ n, l.length = n + 1 := ⟨l.length - 1, by omega⟩
  have hnl : n < l.length := by omega
  have w : wi64 (((l.length : Nat) : Int) - 1) = (n : Int) := by rw [wi64_id] <;> omega
  have hsl := sw_len l i n
  have hspl := hp.swap hd hi hnl
  have hsid := hd.perm (sw_perm hi hnl)
  have hpop := hspl.pop hsid (show (sw l i n).length = n + 1 by omega)
  have hcp := cut_perm hn (show i ≤ n by omega)
  have htl : ((sw l i n).take n).length = n := by rw [List.length_take]; omega
  have htid : Ids ((sw l i n).take n) := by
    have := hd.perm hcp
    unfold Ids at this
    rw [List.map_cons, List.nodup_cons] at this
    exact this.2
  unfold F_heap_Heap_take
  rw [w, swap_ok hi hnl, Option.bind_some]
  simp only [ok_chk, ok_sel, Int.toNat_natCast, decide_eq_true_eq, decide_eq_false_iff_not, getD_nth, ok_bind]
  refine ⟨by omega, by omega, by omega, fun h1 => ?_, fun h1 => ?_⟩
  · refine (up_ok (show i < ((sw l i n).take n).length by omega) (by omega) htid hpop (h.cut hn (by omega))).mono fun r hr => ?_
    obtain ⟨a1, a2, a3⟩ := hr
    have hrl := a1.length_eq
    refine (down_ok (show i < r.1.length by omega) (by omega) (htid.perm a1) a2 a3).mono fun r2 hr2 => ?_
    obtain ⟨b1, b2, b3⟩ := hr2
    rw [ok_some]
    exact ⟨((b1.trans a1).cons _).trans hcp, b2, b3⟩
  · have e : i = n := by omega
    subst e
    rw [ok_some]
    refine ⟨hcp, hpop, ?_⟩
    have e2 : sw l i i = l := by
      unfold sw
      rw [List.set_set]
      refine List.ext_getElem (by rw [List.length_set]) fun m h1 h2 => ?_
      rw [List.getElem_set]
      split
      · rename_i e; subst e; exact nth_lt hi
      · rfl
    rw [e2]
    exact h.take i
/-! ### The reference -/
def befB (x y : D_api_Item) : Bool := decide (Bef y x)
def SortB (m : List D_api_Item) : Prop := m.Pairwise Bef
theorem preB {m : List D_api_Item} (h : SortB m) (x : D_api_Item) : Pre (befB x) m := h.imp fun hab hb => decide_eq_true (hab.trans (of_decide_eq_true hb))
def insB (m : List D_api_Item) (x : D_api_Item) : List D_api_Item := m.filter (befB x) ++ [x] ++ m.filter (fun y => !befB x y)
theorem mem_ids {m : List D_api_Item} {i : Nat} (hi : i < m.length) : m[i].1 ∈ m.map fun x => x.1 := List.mem_map.2 ⟨m[i], List.getElem_mem hi, rfl⟩
theorem refInsert_ok {m : List D_api_Item} (hs : SortB m) (hl : m.length ≤ 1000000) (x : D_api_Item) : F_mempoolref7_Insert m x = some (if x.1 ∈ m.map fun x => x.1 then (m, false) else (insB m x, true)) := by
  refine ok_eq.1 ?_
  unfold F_mempoolref7_Insert F_mempoolref7_Insert_l2s
  refine ok_range m (fun i (k : Nat) => (m, ((k : Nat) : Int), m, ((m.length : Nat) : Int), ((i : Nat) : Int), x)) (fun i k => k = (m.take i).countP (befB x) ∧ ∀ y ∈ m.take i, y.1 ≠ x.1) (fun i k hi hinv => ?_) (fun k hinv => ?_) (b0 := 0) ⟨rfl, by simp⟩ (by omega)
  · obtain ⟨hk, hne⟩ := hinv
    have hne' : m[i].1 ≠ x.1 → ∀ y ∈ m.take (i + 1), y.1 ≠ x.1 := fun h1 => by
      rw [take_succ' hi]; intro y hy
      rcases List.mem_append.1 hy with hy | hy
      · exact hne y hy
      · rw [List.mem_singleton.1 hy]; exact h1
    simp only [F_mempoolref7_Insert_l2, refBefore_ok, wi_succ (i := i) (by omega), ok_sel, ok_chk, ok_bind, ok_some, ok_map, nxt_inl, nxt_inr, decide_eq_true_eq, decide_eq_false_iff_not, Int.toNat_natCast, getD_lt hi]
    refine ⟨fun _ => ⟨by omega, fun h1 => ?_, fun h1 => ⟨fun h2 => ⟨i + 1, rfl, ?_, hne' h1⟩, fun h2 => ⟨k, rfl, ?_, hne' h1⟩⟩⟩, fun h => by omega⟩
    · rw [if_pos (by rw [← h1]; exact mem_ids hi)]
    · rw [pre_count (preB hs x) hi (decide_eq_true h2)]
    · rw [count_skip hi (decide_eq_false h2)]; exact hk
  · obtain ⟨hk, hne⟩ := hinv
    rw [List.take_length] at hk hne
    have hkl : k ≤ m.length := by rw [hk]; exact List.countP_le_length
    obtain ⟨t1, t2⟩ := pre_take (preB hs x)
    rw [← hk] at t1 t2
    simp only [F_mempoolref7_Insert_l2, F_mempoolref7_Insert_c1, ok_sel, ok_chk, ok_bind, ok_some, ok_map, nxt_inl, nxt_inr, decide_eq_true_eq, decide_eq_false_iff_not, Int.toNat_natCast, List.take_length, List.length_append, List.length_take, List.length_drop, List.length_cons, List.length_nil]
    refine ⟨fun h => by omega, fun _ => ⟨by omega, ⟨by unfold LIM; omega, by unfold LEN; omega⟩, ⟨by unfold LIM; omega, by unfold LEN; omega⟩, by omega, ⟨by unfold LIM; omega, by unfold LEN; omega⟩, ?_⟩⟩
    rw [if_neg (fun h => by obtain ⟨y, hy, e⟩ := List.mem_map.1 h; exact hne _ hy e)]
    unfold insB
    rw [t1, t2]
theorem filterI {m : List D_api_Item} (hs : Ids m) {i : Nat} (hi : i < m.length) : m.filter (fun w => decide (w.1 ≠ m[i].1)) = m.take i ++ m.drop (i + 1) := by
  have e : m = m.take i ++ m[i] :: m.drop (i + 1) := by rw [List.getElem_cons_drop, List.take_append_drop]
  have hs' := hs
  unfold Ids at hs'
  rw [e, List.map_append, List.map_cons, List.nodup_append, List.nodup_cons] at hs'
  obtain ⟨_, ⟨h2, _⟩, h3⟩ := hs'
  generalize hx : m[i] = x at *
  conv => lhs; rw [e]
  rw [List.filter_append, List.filter_cons_of_neg (by simp), List.filter_eq_self.2, List.filter_eq_self.2]
  · intro y hy
    exact decide_eq_true fun e => h2 (by rw [← e]; exact List.mem_map.2 ⟨y, hy, rfl⟩)
  · intro y hy
    exact decide_eq_true fun e => h3 y.1 (List.mem_map.2 ⟨y, hy, rfl⟩) x.1 (by simp) e
def delB (m : List D_api_Item) (id : Int) : List D_api_Item := m.filter (fun w => decide (w.1 ≠ id))
theorem refTake_ok {m : List D_api_Item} (hs : Ids m) (hl : m.length ≤ 1000000) (id : Int) : F_mempoolref7_Take m id = some (if id ∈ m.map fun x => x.1 then (delB m id, true) else (m, false)) := by
  refine ok_eq.1 ?_
  unfold F_mempoolref7_Take F_mempoolref7_Take_l1s
  refine ok_range m (fun i (_ : Unit) => (m, id, m, ((m.length : Nat) : Int), ((i : Nat) : Int))) (fun i _ => ∀ y ∈ m.take i, y.1 ≠ id) (fun i _ hi hne => ?_) (fun _ hne => ?_) (b0 := ()) (by simp) (by omega)
  · simp only [F_mempoolref7_Take_l1, wi_succ (i := i) (by omega), ok_sel, ok_chk, ok_some, nxt_inl, nxt_inr, decide_eq_true_eq, decide_eq_false_iff_not, Int.toNat_natCast, getD_lt hi, List.take_length, List.length_take, List.length_drop]
    refine ⟨fun _ => ⟨by omega, fun h1 => ⟨by omega, ⟨by unfold LIM; omega, by unfold LEN; omega⟩, by omega, ⟨by unfold LIM; omega, by unfold LEN; omega⟩, ?_⟩, fun h1 => ⟨(), trivial, ?_⟩⟩, fun h => by omega⟩
    · rw [if_pos (by rw [← h1]; exact mem_ids hi)]
      unfold delB
      rw [← h1, filterI hs hi]
    · rw [take_succ' hi]; intro y hy
      rcases List.mem_append.1 hy with hy | hy
      · exact hne y hy
      · rw [List.mem_singleton.1 hy]; exact h1
  · rw [List.take_length] at hne
    simp only [F_mempoolref7_Take_l1, ok_sel, ok_chk, ok_some, nxt_inl, nxt_inr, decide_eq_true_eq, decide_eq_false_iff_not, Int.toNat_natCast]
    refine ⟨fun h => by omega, fun _ => ?_⟩
    rw [if_neg (fun h => by obtain ⟨y, hy, e⟩ := List.mem_map.1 h; exact hne _ hy e)]
theorem item_self (x : D_api_Item) : U.beq U_api_Item x x = true := (U.beq_iff _ _ rfl _ _).2 rfl
theorem sameItems_self {l : List D_api_Item} (h : l.length ≤ 1000000) : F_mempoolref7_SameItems l l = some true := by
  refine ok_eq.1 ?_
  simp only [F_mempoolref7_SameItems, ok_sel, ok_some, decide_eq_true_eq, decide_eq_false_iff_not, Bool.not_eq_true', Bool.not_eq_false']
  refine ⟨fun h => (h trivial).elim, fun _ => ?_⟩
  unfold F_mempoolref7_SameItems_l1s
  refine ok_range l (fun i (_ : Unit) => (l, l, ((l.length : Nat) : Int), ((i : Nat) : Int))) (fun _ _ => True) (fun i b hi _ => ?_) (fun b _ => ?_) (b0 := ()) trivial (by omega)
  · simp only [F_mempoolref7_SameItems_l1, wi_succ (i := i) (by omega), ok_sel, ok_chk, ok_some, nxt_inl, nxt_inr, decide_eq_true_eq, decide_eq_false_iff_not, Bool.not_eq_true', Bool.not_eq_false', Int.toNat_natCast]
    refine ⟨fun _ => ⟨by omega, by omega, ?_⟩, fun h => by omega⟩
    simp
    exact item_self _
  · simp only [F_mempoolref7_SameItems_l1, ok_sel, ok_chk, ok_some, nxt_inl, nxt_inr, decide_eq_true_eq, decide_eq_false_iff_not, Bool.not_eq_true', Bool.not_eq_false', Int.toNat_natCast]
    exact ⟨fun h => by omega, fun _ => trivial⟩
end Go.Proofs.Ythmfeknfiekcmaa.Am
