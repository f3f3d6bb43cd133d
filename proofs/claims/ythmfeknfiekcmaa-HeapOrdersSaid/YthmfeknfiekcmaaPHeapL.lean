/- Heaps in lists, and the places of what lies in them. No conditions. -/
import Derived.Test.YthmfeknfiekcmaaPMap
namespace Go.Proofs.Ythmfeknfiekcmaa.Am
open Go

abbrev IT := Int × Int × Int
/-- The greater priority first, then the smaller order, then the smaller number. -/
def Bef (a b : IT) : Prop := b.2.1 < a.2.1 ∨ (a.2.1 = b.2.1 ∧ (a.2.2 < b.2.2 ∨ (a.2.2 = b.2.2 ∧ a.1 < b.1)))
instance (a b : IT) : Decidable (Bef a b) := by unfold Bef; infer_instance
theorem Bef.irrefl (a : IT) : ¬ Bef a a := by unfold Bef; omega
theorem Bef.asymm {a b : IT} (h : Bef a b) : ¬ Bef b a := by unfold Bef at *; omega
theorem Bef.trans {a b c : IT} (h : Bef a b) (k : Bef b c) : Bef a c := by unfold Bef at *; omega
theorem Bef.ntrans {a b c : IT} (h : ¬ Bef a b) (k : ¬ Bef b c) : ¬ Bef a c := by unfold Bef at *; omega
theorem Bef.tri {a b : IT} (h : ¬ Bef a b) (k : ¬ Bef b a) : a = b := by
  obtain ⟨a1, a2, a3⟩ := a
  obtain ⟨b1, b2, b3⟩ := b
  unfold Bef at *
  simp only at h k
  have e1 : a1 = b1 := by omega
  have e2 : a2 = b2 := by omega
  have e3 : a3 = b3 := by omega
  rw [e1, e2, e3]
def nth (l : List IT) (i : Nat) : IT := l.getD i ((0 : Int), (0 : Int), (0 : Int))
theorem nth_lt {l : List IT} {i : Nat} (h : i < l.length) : nth l i = l[i] := getD_lt h _
theorem nth_mem {l : List IT} {i : Nat} (h : i < l.length) : nth l i ∈ l := by rw [nth_lt h]; exact List.getElem_mem h
theorem nth_set (l : List IT) (i m : Nat) (x : IT) (hi : i < l.length) : nth (l.set i x) m = if m = i then x else nth l m := by
  unfold nth
  rw [List.getD_eq_getElem?_getD, List.getElem?_set]
  by_cases h : i = m
  · subst h; simp [hi]
  · rw [if_neg h, if_neg (fun e => h e.symm), List.getD_eq_getElem?_getD]
theorem nth_take {l : List IT} {n m : Nat} (h : m < n) : nth (l.take n) m = nth l m := by
  unfold nth
  rw [List.getD_eq_getElem?_getD, List.getElem?_take_of_lt h, List.getD_eq_getElem?_getD]
theorem nth_app {l : List IT} {m : Nat} (x : IT) (h : m < l.length) : nth (l ++ [x]) m = nth l m := by
  unfold nth
  rw [List.getD_eq_getElem?_getD, List.getElem?_append_left h, List.getD_eq_getElem?_getD]
theorem nth_new (l : List IT) (x : IT) : nth (l ++ [x]) l.length = x := by
  unfold nth
  rw [List.getD_eq_getElem?_getD, List.getElem?_append_right (Nat.le_refl _), Nat.sub_self]; rfl
/-- Two change places. -/
def sw (l : List IT) (i j : Nat) : List IT := (l.set i (nth l j)).set j (nth l i)
theorem sw_len (l : List IT) (i j : Nat) : (sw l i j).length = l.length := by unfold sw; rw [List.length_set, List.length_set]
theorem nth_sw {l : List IT} {i j : Nat} (hi : i < l.length) (hj : j < l.length) (m : Nat) : nth (sw l i j) m = if m = j then nth l i else if m = i then nth l j else nth l m := by
  unfold sw
  rw [nth_set _ _ _ _ (by rw [List.length_set]; exact hj)]
  split
  · rfl
  · rw [nth_set _ _ _ _ hi]
theorem sw_perm {l : List IT} {i j : Nat} (hi : i < l.length) (hj : j < l.length) : (sw l i j).Perm l := by
  unfold sw
  rw [nth_lt hi, nth_lt hj]
  exact List.set_set_perm hi hj
/-! ### Heaps -/
def OkAt (l : List IT) (k : Nat) : Prop := ¬ Bef (nth l k) (nth l ((k - 1) / 2))
def HeapO (l : List IT) : Prop := ∀ k, 0 < k → k < l.length → OkAt l k
/-- What lies below 'i' does not come before what lies above it. -/
def Kids (l : List IT) (i : Nat) : Prop := 0 < i → ∀ c, 0 < c → c < l.length → (c - 1) / 2 = i → ¬ Bef (nth l c) (nth l ((i - 1) / 2))
def AH (l : List IT) (i : Nat) : Prop := (∀ k, 0 < k → k < l.length → k ≠ i → (k - 1) / 2 ≠ i → OkAt l k) ∧ Kids l i
def DH (l : List IT) (i : Nat) : Prop := (∀ k, 0 < k → k < l.length → (k - 1) / 2 ≠ i → OkAt l k) ∧ Kids l i
def UH (l : List IT) (i : Nat) : Prop := (∀ k, 0 < k → k < l.length → k ≠ i → OkAt l k) ∧ Kids l i
theorem up_step {l : List IT} {i p : Nat} (hi : 0 < i) (hl : i < l.length) (hp : (i - 1) / 2 = p) (h : AH l i) (hb : Bef (nth l i) (nth l p)) : UH (sw l i p) p := by
  have hpi : p < i := by omega
  have hpl : p < l.length := by omega
  refine ⟨fun k k0 kl kp => ?_, fun p0 c c0 cl cp => ?_⟩
  · rw [sw_len] at kl
    unfold OkAt
    rw [nth_sw hl hpl k, nth_sw hl hpl ((k - 1) / 2), if_neg kp]
    by_cases h1 : k = i
    · rw [if_pos h1, if_pos (by rw [h1]; exact hp)]
      exact hb.asymm
    · rw [if_neg h1]
      by_cases h2 : (k - 1) / 2 = p
      · rw [if_pos h2]
        have := h.1 k k0 kl h1 (by omega)
        unfold OkAt at this
        rw [h2] at this
        exact fun hx => this (hx.trans hb)
      · rw [if_neg h2]
        by_cases h3 : (k - 1) / 2 = i
        · rw [if_pos h3]
          have := h.2 hi k k0 kl h3
          rw [hp] at this
          exact this
        · rw [if_neg h3]
          exact h.1 k k0 kl h1 h3
  · rw [sw_len] at cl
    have hpo := h.1 p p0 hpl (by omega) (by omega)
    rw [nth_sw hl hpl c, nth_sw hl hpl ((p - 1) / 2), if_neg (show (p - 1) / 2 ≠ p by omega), if_neg (show (p - 1) / 2 ≠ i by omega), if_neg (show c ≠ p by omega)]
    by_cases h1 : c = i
    · rw [if_pos h1]; exact hpo
    · rw [if_neg h1]
      have := h.1 c c0 cl h1 (by omega)
      unfold OkAt at this hpo
      rw [cp] at this
      exact Bef.ntrans this hpo
theorem UH.ah {l : List IT} {i : Nat} (h : UH l i) : AH l i := ⟨fun k k0 kl ki _ => h.1 k k0 kl ki, h.2⟩
theorem up_stop1 {l : List IT} {i : Nat} (h : AH l i) (hs : i = 0 ∨ OkAt l i) : DH l i := ⟨fun k k0 kl kp => by
  by_cases e : k = i
  · subst e
    rcases hs with h | h
    · omega
    · exact h
  · exact h.1 k k0 kl e kp, h.2⟩
theorem up_stop2 {l : List IT} {i : Nat} (h : UH l i) (hs : i = 0 ∨ OkAt l i) : HeapO l := fun k k0 kl => by
  by_cases e : k = i
  · subst e
    rcases hs with h | h
    · omega
    · exact h
  · exact h.1 k k0 kl e
theorem HeapO.dh {l : List IT} (h : HeapO l) {i : Nat} (hi : i < l.length) : DH l i := ⟨fun k k0 kl _ => h k k0 kl, fun i0 c c0 cl cp => by
  have h1 := h c c0 cl
  have h2 := h i i0 hi
  unfold OkAt at h1 h2
  rw [cp] at h1
  exact Bef.ntrans h1 h2⟩
theorem down_step {l : List IT} {i b : Nat} (hb : b < l.length) (hb0 : 0 < b) (hp : (b - 1) / 2 = i) (h : DH l i) (hlt : Bef (nth l b) (nth l i)) (hbest : ∀ c, 0 < c → c < l.length → (c - 1) / 2 = i → ¬ Bef (nth l c) (nth l b)) : DH (sw l i b) b := by
  have hib : i < b := by omega
  have hil : i < l.length := by omega
  refine ⟨fun k k0 kl kp => ?_, fun _ c c0 cl cp => ?_⟩
  · rw [sw_len] at kl
    unfold OkAt
    rw [nth_sw hil hb k, nth_sw hil hb ((k - 1) / 2), if_neg kp]
    by_cases h1 : k = b
    · rw [if_pos h1, if_pos (by rw [h1]; exact hp)]
      exact hlt.asymm
    · rw [if_neg h1]
      by_cases h2 : (k - 1) / 2 = i
      · rw [if_pos h2, if_neg (show k ≠ i by omega)]
        exact hbest k k0 kl h2
      · rw [if_neg h2]
        by_cases h3 : k = i
        · rw [if_pos h3]
          subst h3
          exact h.2 k0 b hb0 hb hp
        · rw [if_neg h3]
          exact h.1 k k0 kl h2
  · rw [sw_len] at cl
    rw [nth_sw hil hb c, nth_sw hil hb ((b - 1) / 2), hp, if_neg (show c ≠ b by omega), if_neg (show c ≠ i by omega), if_neg (show i ≠ b by omega), if_pos rfl]
    have := h.1 c c0 cl (by omega)
    unfold OkAt at this
    rw [cp] at this
    exact this
theorem down_stop {l : List IT} {i : Nat} (h : DH l i) (hn : ∀ c, 0 < c → c < l.length → (c - 1) / 2 = i → ¬ Bef (nth l c) (nth l i)) : HeapO l := fun k k0 kl => by
  by_cases e : (k - 1) / 2 = i
  · have := hn k k0 kl e
    unfold OkAt
    rw [e]; exact this
  · exact h.1 k k0 kl e
theorem HeapO.least {l : List IT} (h : HeapO l) : ∀ k, k < l.length → ¬ Bef (nth l k) (nth l 0) := by
  intro k
  induction k using Nat.strongRecOn with
  | _ k ih =>
    intro hk
    by_cases h0 : k = 0
    · rw [h0]; exact Bef.irrefl _
    · exact Bef.ntrans (h k (by omega) hk) (ih ((k - 1) / 2) (by omega) (by omega))
theorem HeapO.push {l : List IT} (h : HeapO l) (x : IT) : AH (l ++ [x]) l.length := by
  refine ⟨fun k k0 kl ki _ => ?_, fun _ c _ cl cp => ?_⟩
  · rw [List.length_append, List.length_singleton] at kl
    unfold OkAt
    rw [nth_app x (show k < l.length by omega), nth_app x (show (k - 1) / 2 < l.length by omega)]
    exact h k k0 (by omega)
  · rw [List.length_append, List.length_singleton] at cl
    omega
theorem HeapO.take {l : List IT} (h : HeapO l) (n : Nat) : HeapO (l.take n) := fun k k0 kl => by
  rw [List.length_take] at kl
  unfold OkAt
  rw [nth_take (by omega), nth_take (by omega)]
  exact h k k0 (by omega)
theorem HeapO.cut {l : List IT} (h : HeapO l) {i n : Nat} (hn : l.length = n + 1) (hi : i < n) : AH ((sw l i n).take n) i := by
  have hil : i < l.length := by omega
  have hnl : n < l.length := by omega
  have hlen : ((sw l i n).take n).length = n := by rw [List.length_take, sw_len]; omega
  have hat : ∀ m, m < n → nth ((sw l i n).take n) m = if m = i then nth l n else nth l m := fun m hm => by
    rw [nth_take hm, nth_sw hil hnl, if_neg (by omega)]
  refine ⟨fun k k0 kl ki kp => ?_, fun i0 c c0 cl cp => ?_⟩
  · rw [hlen] at kl
    unfold OkAt
    rw [hat k kl, hat _ (by omega), if_neg ki, if_neg kp]
    exact h k k0 (by omega)
  · rw [hlen] at cl
    rw [hat c cl, hat _ (by omega), if_neg (by omega), if_neg (by omega)]
    have h1 := h c c0 (by omega)
    have h2 := h i i0 hil
    unfold OkAt at h1 h2
    rw [cp] at h1
    exact Bef.ntrans h1 h2
theorem cut_perm {l : List IT} {i n : Nat} (hn : l.length = n + 1) (hi : i ≤ n) : (nth l i :: (sw l i n).take n).Perm l := by
  have hil : i < l.length := by omega
  have hnl : n < l.length := by omega
  have h1 := sw_perm hil hnl
  have hsl : n < (sw l i n).length := by rw [sw_len]; omega
  have e : sw l i n = (sw l i n).take n ++ [nth l i] := by
    have h2 : (sw l i n).take (n + 1) = sw l i n := List.take_of_length_le (by rw [sw_len]; omega)
    have h3 : (sw l i n)[n] = nth l i := by rw [← nth_lt hsl, nth_sw hil hnl, if_pos rfl]
    rw [take_succ' hsl, h3] at h2
    exact h2.symm
  refine List.Perm.trans ?_ h1
  conv => rhs; rw [e]
  exact (List.perm_append_comm (l₁ := [nth l i]))
/-! ### Places -/
section
variable {p : List (Int × Int)}
theorem mem_mSet {k v k' v' : Int} (hnd : (keysOf p).Nodup) : (k', v') ∈ mSet intEq k v p ↔ (k' = k ∧ v' = v) ∨ (k' ≠ k ∧ (k', v') ∈ p) := by
  by_cases hk : k ∈ keysOf p
  · obtain ⟨v0, hv⟩ := mem_keysOf.1 hk
    rw [(mSet_old intEq_ok hnd hv).mem_iff, List.mem_cons]
    have hd := mDel_perm intEq_ok hnd hv
    have hnd2 : (keysOf ((k, v0) :: mDel intEq k p)).Nodup := (keysOf_perm hd).nodup_iff.2 hnd
    rw [keysOf_cons, List.nodup_cons] at hnd2
    have hm := hd.mem_iff (a := (k', v'))
    rw [List.mem_cons] at hm
    constructor
    · rintro (h | h)
      · injection h with h1 h2; exact .inl ⟨h1, h2⟩
      · right
        exact ⟨fun e => by subst e; exact hnd2.1 (mem_keysOf.2 ⟨_, h⟩), hm.1 (.inr h)⟩
    · rintro (⟨rfl, rfl⟩ | ⟨h1, h2⟩)
      · exact .inl rfl
      · rcases hm.2 h2 with h | h
        · injection h with h _; exact (h1 h).elim
        · exact .inr h
  · rw [mSet_new intEq_ok hk, List.mem_append, List.mem_singleton]
    constructor
    · rintro (h | h)
      · exact .inr ⟨fun e => hk (by rw [← e]; exact mem_keysOf.2 ⟨_, h⟩), h⟩
      · injection h with h1 h2; exact .inl ⟨h1, h2⟩
    · rintro (⟨rfl, rfl⟩ | ⟨_, h2⟩)
      · exact .inr rfl
      · exact .inl h2
theorem nodup_mSet {k v : Int} (hnd : (keysOf p).Nodup) : (keysOf (mSet intEq k v p)).Nodup := by
  by_cases hk : k ∈ keysOf p
  · obtain ⟨v0, hv⟩ := mem_keysOf.1 hk
    have hd := mDel_perm intEq_ok hnd hv
    have hnd2 : (keysOf ((k, v0) :: mDel intEq k p)).Nodup := (keysOf_perm hd).nodup_iff.2 hnd
    exact (keysOf_perm (mSet_old intEq_ok hnd hv)).nodup_iff.2 hnd2
  · rw [mSet_new intEq_ok hk]
    have : keysOf (p ++ [(k, v)]) = keysOf p ++ [k] := by simp [keysOf]
    rw [this, List.nodup_append]
    exact ⟨hnd, by simp, fun a ha b hb e => hk (by rw [List.mem_singleton.1 hb] at e; rw [← e]; exact ha)⟩
theorem mem_mDel {k k' v' : Int} (hnd : (keysOf p).Nodup) : (k', v') ∈ mDel intEq k p ↔ k' ≠ k ∧ (k', v') ∈ p := by
  by_cases hk : k ∈ keysOf p
  · obtain ⟨v0, hv⟩ := mem_keysOf.1 hk
    have hd := mDel_perm intEq_ok hnd hv
    have hnd2 : (keysOf ((k, v0) :: mDel intEq k p)).Nodup := (keysOf_perm hd).nodup_iff.2 hnd
    rw [keysOf_cons, List.nodup_cons] at hnd2
    have hm := hd.mem_iff (a := (k', v'))
    rw [List.mem_cons] at hm
    constructor
    · intro h
      exact ⟨fun e => by subst e; exact hnd2.1 (mem_keysOf.2 ⟨_, h⟩), hm.1 (.inr h)⟩
    · rintro ⟨h1, h2⟩
      rcases hm.2 h2 with h | h
      · injection h with h _; exact (h1 h).elim
      · exact h
  · rw [mDel_none intEq_ok hk]
    exact ⟨fun h => ⟨fun e => hk (by rw [← e]; exact mem_keysOf.2 ⟨_, h⟩), h⟩, fun h => h.2⟩
theorem nodup_mDel {k : Int} (hnd : (keysOf p).Nodup) : (keysOf (mDel intEq k p)).Nodup := by
  by_cases hk : k ∈ keysOf p
  · obtain ⟨v0, hv⟩ := mem_keysOf.1 hk
    have hnd2 : (keysOf ((k, v0) :: mDel intEq k p)).Nodup := (keysOf_perm (mDel_perm intEq_ok hnd hv)).nodup_iff.2 hnd
    rw [keysOf_cons, List.nodup_cons] at hnd2
    exact hnd2.2
  · rw [mDel_none intEq_ok hk]; exact hnd
/-- Each number's place. -/
def Pl (l : List IT) (p : List (Int × Int)) : Prop := (keysOf p).Nodup ∧ ∀ k v, (k, v) ∈ p ↔ ∃ m : Nat, m < l.length ∧ v = (m : Int) ∧ (nth l m).1 = k
def Ids (l : List IT) : Prop := (l.map fun x => x.1).Nodup
theorem Ids.perm {l l' : List IT} (h : Ids l) (hp : l'.Perm l) : Ids l' := (hp.map _).nodup_iff.2 h
theorem Ids.inj {l : List IT} (h : Ids l) {m n : Nat} (hm : m < l.length) (hn : n < l.length) (e : (nth l m).1 = (nth l n).1) : m = n := by
  rw [nth_lt hm, nth_lt hn] at e
  have h1 : (l.map fun x => x.1)[m]'(by simpa using hm) = (l.map fun x => x.1)[n]'(by simpa using hn) := by simpa using e
  exact (List.getElem_inj h).1 h1
/-- The places when two have changed theirs. -/
def pSw (l' : List IT) (p : List (Int × Int)) (i j : Nat) : List (Int × Int) :=
  let p1 := mSet intEq (nth l' i).1 (i : Int) (mSet intEq (nth l' i).1 (mGet intEq (nth l' i).1 (0 : Int) p) p)
  mSet intEq (nth l' j).1 (j : Int) (mSet intEq (nth l' j).1 (mGet intEq (nth l' j).1 (0 : Int) p1) p1)
theorem mem_mSet2 {k v w k' v' : Int} (hnd : (keysOf p).Nodup) : (k', v') ∈ mSet intEq k v (mSet intEq k w p) ↔ (k' = k ∧ v' = v) ∨ (k' ≠ k ∧ (k', v') ∈ p) := by
  rw [mem_mSet (nodup_mSet hnd), mem_mSet hnd]
  constructor
  · rintro (h | ⟨h1, ⟨h2, _⟩ | ⟨_, h3⟩⟩)
    · exact .inl h
    · exact (h1 h2).elim
    · exact .inr ⟨h1, h3⟩
  · rintro (h | ⟨h1, h2⟩)
    · exact .inl h
    · exact .inr ⟨h1, .inr ⟨h1, h2⟩⟩
theorem Pl.swap {l : List IT} (h : Pl l p) (hd : Ids l) {i j : Nat} (hi : i < l.length) (hj : j < l.length) : Pl (sw l i j) (pSw (sw l i j) p i j) := by
  have hnd := h.1
  have e2 : nth (sw l i j) j = nth l i := by rw [nth_sw hi hj, if_pos rfl]
  have e1 : nth (sw l i j) i = nth l j := by
    rw [nth_sw hi hj]
    by_cases e : i = j
    · rw [if_pos e, e]
    · rw [if_neg e, if_pos rfl]
  unfold pSw
  refine ⟨nodup_mSet (nodup_mSet (nodup_mSet (nodup_mSet hnd))), fun k v => ?_⟩
  rw [mem_mSet2 (nodup_mSet (nodup_mSet hnd)), mem_mSet2 hnd, e1, e2, h.2, sw_len]
  constructor
  · rintro (⟨rfl, rfl⟩ | ⟨h1, ⟨rfl, rfl⟩ | ⟨h2, m, hm, rfl, rfl⟩⟩)
    · exact ⟨j, hj, rfl, by rw [e2]⟩
    · exact ⟨i, hi, rfl, by rw [e1]⟩
    · have n1 : m ≠ i := fun e => h1 (by rw [e])
      have n2 : m ≠ j := fun e => h2 (by rw [e])
      exact ⟨m, hm, rfl, by rw [nth_sw hi hj, if_neg n2, if_neg n1]⟩
  · rintro ⟨m, hm, rfl, rfl⟩
    by_cases n2 : m = j
    · subst n2; exact .inl ⟨by rw [e2], rfl⟩
    · right
      by_cases n1 : m = i
      · subst n1
        rw [e1]
        exact ⟨fun e => n2 (hd.inj hj hi e).symm, .inl ⟨rfl, rfl⟩⟩
      · rw [nth_sw hi hj, if_neg n2, if_neg n1]
        exact ⟨fun e => n1 (hd.inj hm hi e), .inr ⟨fun e => n2 (hd.inj hm hj e), m, hm, rfl, rfl⟩⟩
theorem Pl.push {l : List IT} (h : Pl l p) {x : IT} (hx : ∀ m, m < l.length → (nth l m).1 ≠ x.1) : Pl (l ++ [x]) (mSet intEq x.1 (l.length : Int) p) := by
  refine ⟨nodup_mSet h.1, fun k v => ?_⟩
  rw [mem_mSet h.1, h.2, List.length_append, List.length_singleton]
  constructor
  · rintro (⟨rfl, rfl⟩ | ⟨_, m, hm, rfl, rfl⟩)
    · exact ⟨l.length, by omega, rfl, by rw [nth_new]⟩
    · exact ⟨m, by omega, rfl, by rw [nth_app x hm]⟩
  · rintro ⟨m, hm, rfl, rfl⟩
    by_cases e : m = l.length
    · left; rw [e, nth_new]; exact ⟨rfl, rfl⟩
    · right
      have hm' : m < l.length := by omega
      rw [nth_app x hm']
      exact ⟨hx m hm', m, hm', rfl, rfl⟩
theorem Pl.pop {l : List IT} (h : Pl l p) (hd : Ids l) {n : Nat} (hn : l.length = n + 1) : Pl (l.take n) (mDel intEq (nth l n).1 p) := by
  refine ⟨nodup_mDel h.1, fun k v => ?_⟩
  have hlen : (l.take n).length = n := by rw [List.length_take]; omega
  rw [mem_mDel h.1, h.2, hlen]
  constructor
  · rintro ⟨h1, m, hm, rfl, rfl⟩
    have : m ≠ n := fun e => h1 (by rw [e])
    exact ⟨m, by omega, rfl, by rw [nth_take (by omega)]⟩
  · rintro ⟨m, hm, rfl, rfl⟩
    rw [nth_take hm]
    exact ⟨fun e => by have := hd.inj (show m < l.length by omega) (show n < l.length by omega) e; omega, m, by omega, rfl, rfl⟩
theorem Pl.has {l : List IT} (h : Pl l p) (k : Int) : (mIdx intEq k p).isSome = decide (k ∈ l.map fun x => x.1) := by
  have h1 := mIdx_isSome intEq_ok k p
  have h2 : k ∈ keysOf p ↔ k ∈ l.map fun x => x.1 := by
    rw [mem_keysOf, List.mem_map]
    constructor
    · rintro ⟨v, hv⟩
      obtain ⟨m, hm, _, e⟩ := (h.2 k v).1 hv
      exact ⟨_, nth_mem hm, e⟩
    · rintro ⟨x, hx, e⟩
      obtain ⟨m, hm, rfl⟩ := List.getElem_of_mem hx
      exact ⟨m, (h.2 k m).2 ⟨m, hm, rfl, by rw [nth_lt hm]; exact e⟩⟩
  cases hb : (mIdx intEq k p).isSome with
  | true => exact (decide_eq_true (h2.1 (h1.1 hb))).symm
  | false => exact (decide_eq_false (fun hm => by rw [h1.2 (h2.2 hm)] at hb; cases hb)).symm
theorem Pl.get {l : List IT} (h : Pl l p) {m : Nat} (hm : m < l.length) : mGet intEq (nth l m).1 (0 : Int) p = (m : Int) := mGet_mem intEq_ok h.1 ((h.2 _ _).2 ⟨m, hm, rfl, rfl⟩)
end
end Go.Proofs.Ythmfeknfiekcmaa.Am
