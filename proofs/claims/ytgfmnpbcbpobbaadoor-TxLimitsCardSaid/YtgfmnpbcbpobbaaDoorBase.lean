/- Words for memory that all walks of this seat share: how cells read as plain data. No conditions. -/
import Derived.WalkKit
import Derived.WalkSpells
import Derived.WalkLawsBesides
import Derived.Lib.Hide
import Derived.BigQuiet
import Derived.Deep.QuietTactic
import Derived.Deep.AppendLies
import Derived.Deep.Draws
import Derived.Maps.AppendAt
import Derived.Deep.DeepFit
import Derived.Deep.RegionHeld3
import Derived.Lib.SlBytesConst
import Derived.Laws.BytesArg
import Derived.Laws.BitsAllLaws

namespace Go.Proofs.YtgfmnpbcbpobbaaDoor
open Go.RowKit

theorem add_block (a : Addr) (n : Nat) : (a.add n).block = a.block := by unfold Addr.add; split <;> rfl
theorem add_add (a : Addr) (i j : Nat) : (a.add i).add j = a.add (i + j) := by
  unfold Addr.add
  by_cases hi : i = 0 <;> by_cases hj : j = 0 <;> simp [hi, hj, Nat.add_assoc]
theorem add_zero (a : Addr) : a.add 0 = a := by simp [Addr.add]

/-- Two worlds agree on the blocks that 'S' names (and that are there in the first). -/
def Same (S : Nat → Prop) (w w' : World) : Prop := ∀ b, S b → b < w.heap.size → w'.heap[b]? = w.heap[b]?
theorem Same.refl (S : Nat → Prop) (w : World) : Same S w w := fun _ _ _ => rfl
theorem Same.of_below {S : Nat → Prop} {B : Nat} {w w' : World} (hb : Below B w w') (h : ∀ b, S b → b < w.heap.size → b < B) : Same S w w' := fun b hs hl => hb.block b (h b hs hl)
theorem Same.below {S : Nat → Prop} {w w' : World} (hb : Below w.heap.size w w') : Same S w w' := fun b _ hl => hb.block b hl
theorem Same.grown {S : Nat → Prop} {w w' : World} {row : Option Nat} (hg : w.grownBy w' row) (h : ∀ b, S b → some b ≠ row) : Same S w w' := fun b hs hl => hg.block b hl (h b hs)
theorem Same.alloc (S : Nat → Prop) (w : World) (o : Obj) : Same S w (w.alloc o) := fun b _ hl => Below.heap_alloc w o b hl
theorem Same.drew (S : Nat → Prop) (w : World) : Same S w w.drew := fun _ _ _ => rfl
theorem Same.drewN (S : Nat → Prop) (w : World) (n : Nat) : Same S w (w.drewN n) := fun _ _ _ => rfl
theorem Same.setCell {S : Nat → Prop} {w : World} {p : Addr} (h : ¬ S p.block) (u : Value) : Same S w (w.setCell p u) := fun b hs _ => Below.heap_setCell w p u b (fun e => h (e ▸ hs))
theorem Same.trans {S : Nat → Prop} {a b c : World} (h : Same S a b) (k : Same S b c) (hz : a.heap.size ≤ b.heap.size) : Same S a c := fun x hs hl => (k x hs (by omega)).trans (h x hs hl)

/-- How a run of cells reads as a value of a Lean type; 'S' holds of every block that the reading meets. -/
structure Rep (α : Type) where
  sz : Nat
  At : World → (Nat → Prop) → List Value → α → Prop
  len : ∀ {w S cs a}, At w S cs a → cs.length = sz
  keep : ∀ {w w' S cs a}, At w S cs a → Same S w w' → At w' S cs a
  mono : ∀ {w S S' cs a}, At w S cs a → (∀ b, S b → b < w.heap.size → S' b) → At w S' cs a

/-- Cells at an address. -/
def CellsAt (w : World) (S : Nat → Prop) (A : Option Addr) (xs : List Value) : Prop :=
  0 < xs.length → ∃ ad, A = some ad ∧ S ad.block ∧ ∀ j u, xs[j]? = some u → w.cell? (ad.add j) = some u

theorem CellsAt.lt {w : World} {S : Nat → Prop} {ad : Addr} {xs : List Value} (h : CellsAt w S (some ad) xs) (hl : 0 < xs.length) : S ad.block ∧ ad.block < w.heap.size := by
  obtain ⟨ad', e, hs, hc⟩ := h hl
  injection e with e; subst e
  have := hc 0 xs[0] (List.getElem?_eq_getElem hl)
  rw [add_zero] at this
  exact ⟨hs, block_lt_of_cell this⟩
theorem CellsAt.keep {w w' : World} {S : Nat → Prop} {A : Option Addr} {xs : List Value} (h : CellsAt w S A xs) (hs : Same S w w') : CellsAt w' S A xs := by
  intro hl
  obtain ⟨ad, rfl, hb, hc⟩ := h hl
  refine ⟨ad, rfl, hb, fun j u hu => ?_⟩
  have h1 := hc j u hu
  have h2 := block_lt_of_cell h1
  rw [World.cell?_of_block (hs _ (by rw [add_block]; exact hb) h2)]
  exact h1
theorem CellsAt.mono {w : World} {S S' : Nat → Prop} {A : Option Addr} {xs : List Value} (h : CellsAt w S A xs) (hs : ∀ b, S b → b < w.heap.size → S' b) : CellsAt w S' A xs := by
  intro hl
  obtain ⟨ad, rfl, hb, hc⟩ := h hl
  exact ⟨ad, rfl, hs _ hb (CellsAt.lt h hl).2, hc⟩
/-- A run of cells reads as a list, an element after the other. -/
def Rep.all {α : Type} (R : Rep α) (w : World) (S : Nat → Prop) : List Value → List α → Prop
  | xs, [] => xs = []
  | xs, a :: l => ∃ c r, xs = c ++ r ∧ R.At w S c a ∧ R.all w S r l

section
variable {α : Type} {R : Rep α} {w w' : World} {S S' : Nat → Prop}
theorem Rep.all_len : ∀ {l : List α} {xs : List Value}, R.all w S xs l → xs.length = l.length * R.sz
  | [], xs, h => by simp only [Rep.all] at h; subst h; simp
  | a :: l, xs, h => by
    obtain ⟨c, r, rfl, hc, hr⟩ := h
    rw [List.length_append, R.len hc, Rep.all_len hr, List.length_cons, Nat.succ_mul, Nat.add_comm]
theorem Rep.all_keep (hs : Same S w w') : ∀ {l : List α} {xs : List Value}, R.all w S xs l → R.all w' S xs l
  | [], _, h => h
  | _ :: _, _, h => by
    obtain ⟨c, r, rfl, hc, hr⟩ := h
    exact ⟨c, r, rfl, R.keep hc hs, Rep.all_keep hs hr⟩
theorem Rep.all_mono (hs : ∀ b, S b → b < w.heap.size → S' b) : ∀ {l : List α} {xs : List Value}, R.all w S xs l → R.all w S' xs l
  | [], _, h => h
  | _ :: _, _, h => by
    obtain ⟨c, r, rfl, hc, hr⟩ := h
    exact ⟨c, r, rfl, R.mono hc hs, Rep.all_mono hs hr⟩
theorem Rep.all_sub (hs : ∀ {cs a}, R.At w S cs a → R.At w' S' cs a) : ∀ {l : List α} {xs : List Value}, R.all w S xs l → R.all w' S' xs l
  | [], _, h => h
  | _ :: _, _, h => by
    obtain ⟨c, r, rfl, hc, hr⟩ := h
    exact ⟨c, r, rfl, hs hc, Rep.all_sub hs hr⟩
theorem Rep.all_append : ∀ {l m : List α} {xs ys : List Value}, R.all w S xs l → R.all w S ys m → R.all w S (xs ++ ys) (l ++ m)
  | [], m, xs, ys, h, k => by simp only [Rep.all] at h; subst h; simpa using k
  | a :: l, m, xs, ys, h, k => by
    obtain ⟨c, r, rfl, hc, hr⟩ := h
    exact ⟨c, r ++ ys, by simp, hc, Rep.all_append hr k⟩
theorem Rep.all_one {c : List Value} {a : α} (h : R.At w S c a) : R.all w S c [a] := ⟨c, [], by simp, h, rfl⟩
theorem Rep.all_at : ∀ {l : List α} {xs : List Value}, R.all w S xs l → ∀ {i : Nat} (hi : i < l.length), R.At w S ((xs.drop (i * R.sz)).take R.sz) l[i]
  | a :: l, xs, h, 0, _ => by
    obtain ⟨c, r, rfl, hc, hr⟩ := h
    have hl := R.len hc
    simpa [← hl] using hc
  | a :: l, xs, h, i + 1, hi => by
    obtain ⟨c, r, rfl, hc, hr⟩ := h
    have hl := R.len hc
    have := Rep.all_at hr (i := i) (by simpa using hi)
    rw [Nat.succ_mul, Nat.add_comm, ← hl, ← List.drop_drop, List.drop_left]
    rw [← hl] at this
    exact this
theorem Rep.all_drop : ∀ {l : List α} {xs : List Value}, R.all w S xs l → ∀ (i : Nat), R.all w S (xs.drop (i * R.sz)) (l.drop i)
  | l, xs, h, 0 => by simpa using h
  | [], xs, h, i + 1 => by simp only [Rep.all] at h; subst h; simp [Rep.all]
  | a :: l, xs, h, i + 1 => by
    obtain ⟨c, r, rfl, hc, hr⟩ := h
    have hl := R.len hc
    have := Rep.all_drop hr i
    rw [Nat.succ_mul, Nat.add_comm, ← hl, ← List.drop_drop, List.drop_left]
    rw [← hl] at this
    exact this
theorem Rep.all_take : ∀ {l : List α} {xs : List Value}, R.all w S xs l → ∀ (i : Nat), R.all w S (xs.take (i * R.sz)) (l.take i)
  | l, xs, h, 0 => by simp [Rep.all]
  | [], xs, h, i + 1 => by simp only [Rep.all] at h; subst h; simp [Rep.all]
  | a :: l, xs, h, i + 1 => by
    obtain ⟨c, r, rfl, hc, hr⟩ := h
    have hl := R.len hc
    have := Rep.all_take hr i
    refine ⟨c, r.take (i * R.sz), ?_, hc, this⟩
    rw [Nat.succ_mul, List.take_append, List.take_of_length_le (by omega)]
    congr 2
    omega
end

/-- A slice's one cell: it reads as a list; 'n' is the slice's own length. -/
def SliceAt {α : Type} (R : Rep α) (w : World) (S : Nat → Prop) (v : Value) (l : List α) : Prop :=
  ∃ A c xs, v = .slice A l.length c ∧ l.length ≤ c ∧ c ≤ maxLen ∧ CellsAt w S A xs ∧ R.all w S xs l

def Rep.slice {α : Type} (R : Rep α) : Rep (List α) where
  sz := 1
  At w S cs l := ∃ v, cs = [v] ∧ SliceAt R w S v l
  len := by rintro w S cs a ⟨v, rfl, _⟩; rfl
  keep := by
    rintro w w' S cs a ⟨v, rfl, A, c, xs, rfl, hc, hm, hx, hr⟩ hs
    exact ⟨_, rfl, A, c, xs, rfl, hc, hm, hx.keep hs, R.all_keep hs hr⟩
  mono := by
    rintro w S S' cs a ⟨v, rfl, A, c, xs, rfl, hc, hm, hx, hr⟩ hs
    exact ⟨_, rfl, A, c, xs, rfl, hc, hm, hx.mono hs, R.all_mono hs hr⟩

/-- The same, the slice's parts named: '.slice A n c'. -/
structure Sl {α : Type} (R : Rep α) (w : World) (S : Nat → Prop) (A : Option Addr) (n c : Nat) (l : List α) : Prop where
  len : n = l.length
  le : n ≤ c
  cap : c ≤ maxLen
  ex : ∃ xs, CellsAt w S A xs ∧ R.all w S xs l

section
variable {α : Type} {R : Rep α} {w w' : World} {S S' : Nat → Prop} {A : Option Addr} {n c : Nat} {l : List α}
theorem SliceAt.open_ {v : Value} (h : SliceAt R w S v l) : ∃ A n c, v = .slice A n c ∧ Sl R w S A n c l := by
  obtain ⟨A, c, xs, rfl, hc, hm, hx, hr⟩ := h
  exact ⟨A, _, c, rfl, rfl, hc, hm, xs, hx, hr⟩
theorem Sl.shut (h : Sl R w S A n c l) : SliceAt R w S (.slice A n c) l := by
  obtain ⟨rfl, hc, hm, xs, hx, hr⟩ := h
  exact ⟨A, c, xs, rfl, hc, hm, hx, hr⟩
theorem Sl.keep (h : Sl R w S A n c l) (hs : Same S w w') : Sl R w' S A n c l := by
  obtain ⟨hn, hc, hm, xs, hx, hr⟩ := h
  exact ⟨hn, hc, hm, xs, hx.keep hs, R.all_keep hs hr⟩
theorem Sl.mono (h : Sl R w S A n c l) (hs : ∀ b, S b → b < w.heap.size → S' b) : Sl R w S' A n c l := by
  obtain ⟨hn, hc, hm, xs, hx, hr⟩ := h
  exact ⟨hn, hc, hm, xs, hx.mono hs, R.all_mono hs hr⟩
theorem Sl.nil_ (R : Rep α) (w : World) (S : Nat → Prop) : Sl R w S none 0 0 [] := ⟨rfl, Nat.le_refl _, by simp [maxLen], [], fun h => by simp at h, rfl⟩
/-- 's[k:]'. -/
theorem Sl.drop (h : Sl R w S A n c l) {k : Nat} (hk : k ≤ n) : Sl R w S (if c = k then A else A.map (·.add (k * R.sz))) (n - k) (c - k) (l.drop k) := by
  obtain ⟨rfl, hc, hm, xs, hx, hr⟩ := h
  refine ⟨by simp, by omega, by omega, xs.drop (k * R.sz), ?_, R.all_drop hr k⟩
  have hl := R.all_len hr
  intro h0
  rw [List.length_drop, hl] at h0
  have hkl : k * R.sz < l.length * R.sz := by omega
  have hkn : k < l.length := Nat.lt_of_mul_lt_mul_right hkl
  obtain ⟨ad, rfl, hb, hcell⟩ := hx (by omega)
  rw [if_neg (by omega)]
  refine ⟨ad.add (k * R.sz), rfl, by rw [add_block]; exact hb, fun j u hu => ?_⟩
  rw [add_add]
  exact hcell _ u (by rw [← hu, List.getElem?_drop])
/-- 's[:k]'. -/
theorem Sl.take (h : Sl R w S A n c l) {k : Nat} (hk : k ≤ n) : Sl R w S A k c (l.take k) := by
  obtain ⟨rfl, hc, hm, xs, hx, hr⟩ := h
  refine ⟨by simp; omega, by omega, hm, xs.take (k * R.sz), ?_, R.all_take hr k⟩
  intro h0
  rw [List.length_take] at h0
  obtain ⟨ad, rfl, hb, hcell⟩ := hx (by omega)
  exact ⟨ad, rfl, hb, fun j u hu => hcell j u (by rw [List.getElem?_take] at hu; split at hu <;> simp_all)⟩
/-- The element at 'i': where it lies, and its cells. -/
theorem Sl.at_ (h : Sl R w S A n c l) (hz : 0 < R.sz) {i : Nat} (hi : i < l.length) : ∃ ad cs, A = some ad ∧ S ad.block ∧ ad.block < w.heap.size ∧ R.At w S cs l[i] ∧ ∀ j u, cs[j]? = some u → w.cell? (ad.add (i * R.sz + j)) = some u := by
  obtain ⟨rfl, hc, hm, xs, hx, hr⟩ := h
  have hl := R.all_len hr
  have h1 : (i + 1) * R.sz ≤ l.length * R.sz := Nat.mul_le_mul_right _ hi
  rw [Nat.succ_mul] at h1
  have h0 : 0 < xs.length := by omega
  obtain ⟨ad, rfl, hb, hcell⟩ := hx h0
  refine ⟨ad, _, rfl, hb, (CellsAt.lt (fun _ => ⟨ad, rfl, hb, hcell⟩) h0).2, R.all_at hr hi, fun j u hu => hcell _ u ?_⟩
  rw [List.getElem?_take] at hu
  split at hu
  · rw [List.getElem?_drop] at hu; exact hu
  · cases hu
end

/-- No block. -/
def No : Nat → Prop := fun _ => False
theorem Same.no (w w' : World) : Same No w w' := fun _ h => h.elim

/-- A row of the call's own: 'n' elements that read as 'l'; the row's block is from 'base' on; what the elements lead to lies in blocks of 'S', and the row's own block is none of them. -/
structure Own {α : Type} (R : Rep α) (e : TypeId) (w : World) (base : Nat) (S : Nat → Prop) (v : Value) (n : Nat) (l : List α) : Prop where
  len : n = l.length
  apart : ∀ k, v.ownBlock = some k → ¬ S k
  ex : ∃ xs : List Value, w.ownsRow base e R.sz v n xs ∧ R.all w S xs l

section
variable {α : Type} {R : Rep α} {e : TypeId} {w w' : World} {base : Nat} {S S' : Nat → Prop} {v : Value} {n : Nat} {l : List α}
theorem Own.nil_ (R : Rep α) (e : TypeId) (w : World) (base : Nat) (S : Nat → Prop) : Own R e w base S (.slice none 0 0) 0 [] :=
  ⟨rfl, fun _ h => by simp [Value.ownBlock] at h, [], World.ownsRow_nil w base e R.sz, rfl⟩
theorem Own.lt (h : Own R e w base S v n l) : ∀ k, v.ownBlock = some k → base ≤ k ∧ k < w.heap.size := by
  obtain ⟨_, _, xs, ho, _⟩ := h
  exact ho.lt
theorem Own.form (h : Own R e w base S v n l) : ∃ A c, v = .slice A n c ∧ n ≤ c ∧ c ≤ maxLen := by
  obtain ⟨_, _, xs, ho, _⟩ := h
  rcases ho.2 with ⟨rfl, rfl⟩ | ⟨g, cap, cur, rfl, _, _, h1, h2, _⟩
  · exact ⟨none, 0, rfl, Nat.le_refl _, by simp [maxLen]⟩
  · exact ⟨_, cap, rfl, h1, h2⟩
/-- Read as a slice: its blocks are the row's own and those of 'S'. -/
theorem Own.sl {A : Option Addr} {c : Nat} (h : Own R e w base S (.slice A n c) n l) (hS : ∀ b, S b → S' b) (hB : ∀ b, base ≤ b → b < w.heap.size → S' b) : Sl R w S' A n c l := by
  obtain ⟨A', c', hv, h1, h2⟩ := h.form
  have hlt := h.lt
  obtain ⟨hn, _, xs, ho, hr⟩ := h
  injection hv with hA _ hcc
  subst hA; subst hcc
  refine ⟨hn, h1, h2, xs, fun h0 => ?_, R.all_mono (fun b hb _ => hS b hb) hr⟩
  rcases ho.2 with ⟨hv, rfl⟩ | ⟨g, cap, cur, hv, _, hg, _⟩
  · have := R.all_len hr
    rw [← hn] at this
    omega
  · injection hv with hA _ hcc
    subst hA
    have := hlt g rfl
    exact ⟨_, rfl, hB g this.1 this.2, ho.cells (g := g) rfl⟩
theorem Own.keep {row : Option Nat} (h : Own R e w base S v n l) (hg : w.grownBy w' row) (hne : v.ownBlock = none ∨ v.ownBlock ≠ row) (hS : Same S w w') : Own R e w' base S v n l := by
  obtain ⟨hn, ha, xs, ho, hr⟩ := h
  exact ⟨hn, ha, xs, ho.kept hg hne, R.all_keep hS hr⟩
theorem grown_of_below (h : Below w.heap.size w w') : w.grownBy w' none := ⟨h.os, h.tape, h.output, h.size, fun i hi _ => h.block i hi⟩
theorem below_of_grown (h : w.grownBy w' none) : Below w.heap.size w w' := ⟨h.os, h.tape, h.output, h.size, fun i hi => h.block i hi (by simp)⟩
theorem Own.below (h : Own R e w base S v n l) (hb : Below w.heap.size w w') : Own R e w' base S v n l := by
  refine h.keep (grown_of_below hb) ?_ (Same.below hb)
  rcases h : v.ownBlock with _ | k <;> simp
theorem Own.mono (h : Own R e w base S v n l) {base' : Nat} (hb : base' ≤ base) (hs : ∀ b, S b → b < w.heap.size → S' b) (ha : ∀ k, v.ownBlock = some k → S' k → S k) : Own R e w base' S' v n l := by
  obtain ⟨hn, hap, xs, ho, hr⟩ := h
  refine ⟨hn, fun k hk hk' => hap k hk (ha k hk hk'), xs, ⟨ho.1, ?_⟩, R.all_mono hs hr⟩
  rcases ho.2 with h2 | ⟨g, cap, cur, h1, h2, h3⟩
  · exact .inl h2
  · exact .inr ⟨g, cap, cur, h1, Nat.le_trans hb h2, h3⟩
end

/-- What a program's table says of a slice type 't' over elements 'e', each of 'R.sz' cells. -/
structure Elt (P : Program) {α : Type} (R : Rep α) (t e : TypeId) (bytes : Nat) : Prop where
  und : P.underlying t = some (.slice e)
  info : ∃ i z, P.info? e = some i ∧ i.zero = some z ∧ i.size = R.sz ∧ i.bytes = bytes ∧ z.cells.size = R.sz
  pos : 0 < R.sz
  one : ∀ {w S cs a}, R.At w S cs a → ∀ u ∈ cs, u.oneCell' = true

theorem Rep.all_mem {α : Type} {R : Rep α} {w : World} {S : Nat → Prop} (h1 : ∀ {w S cs a}, R.At w S cs a → ∀ u ∈ cs, u.oneCell' = true) : ∀ {l : List α} {xs : List Value}, R.all w S xs l → ∀ u ∈ xs, u.oneCell' = true
  | [], xs, h => by simp only [Rep.all] at h; subst h; simp
  | a :: l, xs, h => by
    obtain ⟨c, r, rfl, hc, hr⟩ := h
    intro u hu
    rcases List.mem_append.1 hu with h | h
    · exact h1 hc u h
    · exact Rep.all_mem h1 hr u h

section
variable {P : Program} {α : Type} {R : Rep α} {t e : TypeId} {by_ : Nat}

theorem run_app_nil {w : World} (T : Elt P R t e by_) {ty : TypeId} {base : Nat} {S : Nat → Prop} {v : Value} {n : Nat} {l : List α} (hown : Own R e w base S v n l) (c : Nat) :
    (Builtin.append_ #[t, t] ty #[v, .slice none 0 c]).run P w = .ok v w := by
  obtain ⟨ht, ⟨i, z, hi, hz, h1, h2, h3⟩, hp, _⟩ := T
  obtain ⟨_, _, xs, ho, _⟩ := hown
  rcases ho.2 with ⟨rfl, rfl⟩ | ⟨g, cap, cur, rfl, _, _, hnc, _⟩
  · simp [Builtin.append_, run_underlying ht, sizeOf, typeInfo, hi, Builtin.lenOf, Builtin.firstCells]
  · simp [Builtin.append_, run_underlying ht, sizeOf, typeInfo, hi, Builtin.lenOf, Builtin.firstCells, hnc, storeCells]

theorem run_app {w : World} (T : Elt P R t e by_) (ty : TypeId) {base : Nat} {S : Nat → Prop} {v : Value} {n : Nat} {l : List α} (hown : Own R e w base S v n l)
    {A : Option Addr} {m c : Nat} {k : List α} {Sx : Nat → Prop} (hr : Sl R w Sx A m c k) (hsub : ∀ {cs a}, R.At w Sx cs a → R.At w S cs a) (h63 : (n + m) * by_ ≤ 140737488355328) (h64 : n + m ≤ maxLen) (hbase : base ≤ w.heap.size) (hS : ¬ S w.heap.size) :
    ∃ v' w', (Builtin.append_ #[t, t] ty #[v, .slice A m c]).run P w = .ok v' w' ∧ Own R e w' base S v' (n + m) (l ++ k) ∧ w.grownBy w' v.ownBlock ∧
      (v'.ownBlock = v.ownBlock ∨ v'.ownBlock = some w.heap.size) := by
  obtain ⟨hm, hmc, hcm, ys, hys, hry⟩ := hr
  rcases A with _ | ad
  · have hm0 : m = 0 := by
      rcases Nat.eq_zero_or_pos ys.length with h0 | h0
      · have := R.all_len hry
        rw [h0] at this
        rcases Nat.mul_eq_zero.1 this.symm with h1 | h1
        · omega
        · have := T.pos; omega
      · obtain ⟨_, h, _⟩ := hys h0
        cases h
    subst hm0
    have hk : k = [] := List.eq_nil_of_length_eq_zero hm.symm
    subst hk
    exact ⟨v, w, run_app_nil T hown c, by simpa using hown, World.grownBy.refl w _, .inl rfl⟩
  · obtain ⟨hn, hap, xs, ho, hrx⟩ := hown
    obtain ⟨ht, ⟨i, z, hi, hz, h1, h2, h3⟩, hp, hone⟩ := T
    have hl := R.all_len hry
    have hry' : R.all w S ys k := Rep.all_sub hsub hry
    have hcells : ∀ j u, ys[j]? = some u → w.cell? (ad.add j) = some u := by
      intro j u hu
      have h0 : 0 < ys.length := by
        rcases Nat.eq_zero_or_pos ys.length with h0 | h0
        · have := List.eq_nil_of_length_eq_zero h0; subst this; simp at hu
        · exact h0
      obtain ⟨ad', h, _, hc⟩ := hys h0
      injection h with h
      subst h
      exact hc j u hu
    obtain ⟨v', w', hrun, h2, h3, _, h5⟩ := run_append_own_at (P := P) w base t ty e i z R.sz by_ ht hi hz h1 h2 h3 hp v n xs ho ad m c ys (by rw [hl, hm]) hcells (Rep.all_mem hone hry) h64 h63 hbase
    have hsame : Same S w w' := Same.grown h3 (fun b hb hbv => hap b hbv.symm hb)
    refine ⟨v', w', hrun, ⟨by simp [hn, hm], fun q hq hSq => ?_, xs ++ ys, h2, Rep.all_append (R.all_keep hsame hrx) (R.all_keep hsame hry')⟩, h3, h5⟩
    rcases h5 with h5 | h5
    · exact hap q (h5 ▸ hq) hSq
    · rw [h5] at hq; injection hq with hq; subst hq; exact hS hSq

theorem wp_app {o : Oper} {a : Act} {w : World} {K : Act → World → Prop} {Q : Exit → Act → World → Prop} (T : Elt P R t e by_) {s x : Operand}
    (ho : o.op = .call { callee := .builtin .append, args := #[s, x], argTypes := #[t, t] })
    {base : Nat} {S : Nat → Prop} {v : Value} {n : Nat} {l : List α} (hown : Own R e w base S v n l) (hs : a.eval s = v)
    {A : Option Addr} {m c : Nat} {k : List α} {Sx : Nat → Prop} (hr : Sl R w Sx A m c k) (hx : a.eval x = .slice A m c) (hsub : ∀ {cs a}, R.At w Sx cs a → R.At w S cs a) (h63 : (n + m) * by_ ≤ 140737488355328) (h64 : n + m ≤ maxLen) (hbase : base ≤ w.heap.size) (hS : ¬ S w.heap.size)
    (h : ∀ A' c' w', Own R e w' base S (.slice A' (n + m) c') (n + m) (l ++ k) → w.grownBy w' v.ownBlock → ((Value.slice A' (n + m) c').ownBlock = v.ownBlock ∨ (Value.slice A' (n + m) c').ownBlock = some w.heap.size) → K (a.put o.dst (.slice A' (n + m) c')) w') : o.wp P a w K Q := by
  obtain ⟨v', w', hrun, h2, h3, h4⟩ := run_app T o.type hown hr hsub h63 h64 hbase hS
  obtain ⟨A', c', rfl, _⟩ := h2.form
  unfold Oper.wp execOp
  simp only [ho, resolve, invoke, builtin, Sem.run_bind, Sem.run_pure, Result.andThen_ok, List.map_toArray, List.map_cons, List.map_nil, hs, hx, hrun]
  exact h A' c' w' h2 h3 h4

/-- 'append(v, x...)' onto a row of the call's own. -/
theorem wpList_app {ops : Array Oper} {rest : List Oper} {o : Oper} {a : Act} {w : World} {Q : Exit → Act → World → Prop} (T : Elt P R t e by_) (hgd : o.guard = none) {s x : Operand}
    (ho : o.op = .call { callee := .builtin .append, args := #[s, x], argTypes := #[t, t] })
    {base : Nat} {S : Nat → Prop} {v : Value} {n : Nat} {l : List α} (hown : Own R e w base S v n l) (hs : a.eval s = v)
    {A : Option Addr} {m c : Nat} {k : List α} {Sx : Nat → Prop} (hr : Sl R w Sx A m c k) (hx : a.eval x = .slice A m c) (hsub : ∀ {cs a}, R.At w Sx cs a → R.At w S cs a) (h63 : (n + m) * by_ ≤ 140737488355328) (h64 : n + m ≤ maxLen) (hbase : base ≤ w.heap.size) (hS : ¬ S w.heap.size)
    (h : ∀ A' n' c' w', Hid (n' = n + m) → Own R e w' base S (.slice A' n' c') n' (l ++ k) → Below base w w' → w.grownBy w' v.ownBlock → ((Value.slice A' n' c').ownBlock = v.ownBlock ∨ (Value.slice A' n' c').ownBlock = some w.heap.size) → wpList P ops Q rest (a.put o.dst (.slice A' n' c')) w') : wpList P ops Q (o :: rest) a w :=
  wpList_plain hgd fun _ hK => wp_app T ho hown hs hr hx hsub h63 h64 hbase hS fun A' c' w' h2 h3 h4 => hK _ _ (h A' _ c' w' rfl h2 ((Below.refl base w).grown h3 hbase fun k hk => (hown.lt k hk).1) h3 h4)
/-- The same onto nil. -/
theorem wpList_app0 {ops : Array Oper} {rest : List Oper} {o : Oper} {a : Act} {w : World} {Q : Exit → Act → World → Prop} (T : Elt P R t e by_) (hgd : o.guard = none) {s x : Operand}
    (ho : o.op = .call { callee := .builtin .append, args := #[s, x], argTypes := #[t, t] }) {base : Nat} (S : Nat → Prop) (hs : a.eval s = .slice none 0 0)
    {A : Option Addr} {m c : Nat} {k : List α} {Sx : Nat → Prop} (hr : Sl R w Sx A m c k) (hx : a.eval x = .slice A m c) (hsub : ∀ {cs a}, R.At w Sx cs a → R.At w S cs a) (h63 : m * by_ ≤ 140737488355328) (h64 : m ≤ maxLen) (hbase : base ≤ w.heap.size) (hS : ¬ S w.heap.size)
    (h : ∀ A' c' w', Own R e w' base S (.slice A' m c') m k → Below w.heap.size w w' → wpList P ops Q rest (a.put o.dst (.slice A' m c')) w') : wpList P ops Q (o :: rest) a w :=
  wpList_plain hgd fun _ hK => wp_app T ho (Own.nil_ R e w base S) hs hr hx hsub (by rw [Nat.zero_add]; exact h63) (by omega) hbase hS fun A' c' w' h2 h3 _ => by
    rw [Nat.zero_add] at h2 ⊢
    exact hK _ _ (h A' c' w' h2 (below_of_grown h3))
/-- The same onto an empty literal that has just been laid. -/
theorem wpList_appE {ops : Array Oper} {rest : List Oper} {o : Oper} {a : Act} {w : World} {Q : Exit → Act → World → Prop} (T : Elt P R t e by_) (hgd : o.guard = none) {s x : Operand}
    (ho : o.op = .call { callee := .builtin .append, args := #[s, x], argTypes := #[t, t] }) {base : Nat} (S : Nat → Prop) {b : Nat} (hb : b = w.heap.size) (hs : a.eval s = .slice (some ⟨b, 0, none⟩) 0 0)
    {A : Option Addr} {m c : Nat} {k : List α} {Sx : Nat → Prop} (hr : Sl R (w.alloc (.cells #[] e)) Sx A m c k) (hx : a.eval x = .slice A m c) (hsub : ∀ {cs a}, R.At (w.alloc (.cells #[] e)) Sx cs a → R.At (w.alloc (.cells #[] e)) S cs a) (h63 : m * by_ ≤ 140737488355328) (h64 : m ≤ maxLen) (hbase : base ≤ w.heap.size) (hS : ¬ S w.heap.size) (hS' : ¬ S (w.heap.size + 1))
    (h : ∀ A' c' w', Own R e w' base S (.slice A' m c') m k → Below w.heap.size w w' → wpList P ops Q rest (a.put o.dst (.slice A' m c')) w') : wpList P ops Q (o :: rest) a (w.alloc (.cells #[] e)) := by
  subst hb
  have hsz : (w.alloc (.cells #[] e)).heap.size = w.heap.size + 1 := by simp
  have h0 : Own R e (w.alloc (.cells #[] e)) base S (.slice (some ⟨w.heap.size, 0, none⟩) 0 0) 0 [] :=
    ⟨rfl, fun k hk => by simp [Value.ownBlock] at hk; subst hk; exact hS, [], ⟨by simp, .inr ⟨w.heap.size, 0, #[], rfl, hbase, heap_alloc_new w _, Nat.le_refl _, by simp [maxLen], by simp, by simp⟩⟩, rfl⟩
  refine wpList_plain hgd fun _ hK => wp_app T ho h0 hs hr hx hsub (by rw [Nat.zero_add]; exact h63) (by omega) (by omega) (by rw [hsz]; exact hS') fun A' c' w' h2 h3 _ => ?_
  rw [Nat.zero_add] at h2 ⊢
  refine hK _ _ (h A' c' w' h2 ?_)
  exact ((Below.refl w.heap.size w).alloc (Nat.le_refl _) _).grown h3 (by omega) (fun k hk => by simp [Value.ownBlock] at hk; omega)
end

theorem Own.base {α : Type} {R : Rep α} {e : TypeId} {w : World} {b b0 : Nat} {S : Nat → Prop} {v : Value} {n : Nat} {l : List α} (h : Own R e w b S v n l) (hb : b0 ≤ b) : Own R e w b0 S v n l :=
  h.mono hb (fun _ h _ => h) (fun _ _ h => h)
theorem Own.alloc {α : Type} {R : Rep α} {e : TypeId} {w : World} {base : Nat} {S : Nat → Prop} {v : Value} {n : Nat} {l : List α} (h : Own R e w base S v n l) (o : Obj) : Own R e (w.alloc o) base S v n l :=
  h.below ((Below.refl _ _).alloc (Nat.le_refl _) _)
theorem Own.drew {α : Type} {R : Rep α} {e : TypeId} {w : World} {base : Nat} {S : Nat → Prop} {v : Value} {n : Nat} {l : List α} (h : Own R e w base S v n l) : Own R e w.drew base S v n l :=
  h.below (Below.refl _ _).drew
theorem Own.drewN {α : Type} {R : Rep α} {e : TypeId} {w : World} {base : Nat} {S : Nat → Prop} {v : Value} {n : Nat} {l : List α} (h : Own R e w base S v n l) (q : Nat) : Own R e (w.drewN q) base S v n l :=
  h.below ⟨rfl, rfl, rfl, Nat.le_refl _, fun _ _ => rfl⟩
/-- '[]T{}'. -/
theorem Own.lit0 {α : Type} (R : Rep α) (e : TypeId) (w : World) (S : Nat → Prop) (h : ¬ S w.heap.size) : Own R e (w.alloc (.cells #[] e)) w.heap.size S (.slice (some ⟨w.heap.size, 0, none⟩) 0 0) 0 [] :=
  ⟨rfl, fun k hk => by simp [Value.ownBlock] at hk; subst hk; exact h, [], ⟨by simp, .inr ⟨w.heap.size, 0, #[], rfl, Nat.le_refl _, heap_alloc_new w _, Nat.le_refl _, by simp [maxLen], by simp, by simp⟩⟩, rfl⟩
/-- A literal that the call has just laid, as its own row. -/
theorem Own.lit {α : Type} {R : Rep α} {e : TypeId} (w : World) (cs : List Value) {S : Nat → Prop} (hS : ¬ S w.heap.size) {l : List α} (h : R.all (w.alloc (.cells cs.toArray e)) S cs l) {n : Nat} (hn : n = l.length) (hm : n ≤ maxLen) :
    Own R e (w.alloc (.cells cs.toArray e)) w.heap.size S (.slice (some ⟨w.heap.size, 0, none⟩) n n) n l := by
  have hl := R.all_len h
  refine ⟨hn, fun k hk => by simp [Value.ownBlock] at hk; subst hk; exact hS, cs, ⟨by rw [hl, hn], .inr ⟨w.heap.size, n, cs.toArray, rfl, Nat.le_refl _, heap_alloc_new w _, Nat.le_refl _, hm, by simp [hl, hn], ?_⟩⟩, h⟩
  rw [hn, ← hl]; simp
/-- A literal that the call has just laid. -/
theorem Sl.lit {α : Type} {R : Rep α} (w : World) (cs : List Value) (t : TypeId) {S : Nat → Prop} {l : List α} (h : R.all (w.alloc (.cells cs.toArray t)) S cs l) {n : Nat} (hn : n = l.length) (hm : n ≤ maxLen) :
    Sl R (w.alloc (.cells cs.toArray t)) (fun b => S b ∨ b = w.heap.size) (some ⟨w.heap.size, 0, none⟩) n n l := by
  refine ⟨hn, Nat.le_refl _, hm, cs, fun _ => ⟨_, rfl, .inr rfl, fun j u hu => ?_⟩, Rep.all_mono (fun b hb _ => .inl hb) h⟩
  have hadd : (⟨w.heap.size, 0, none⟩ : Addr).add j = ⟨w.heap.size, j, none⟩ := by unfold Addr.add; split <;> simp_all
  rw [hadd, cell_of_row _ _ _ _ _ _ (heap_alloc_new w _)]
  simpa using hu

/-- A byte. -/
def Rep.u8 : Rep UInt8 where
  sz := 1
  At _ _ cs a := cs = [.int .u8 a.toNat]
  len := by rintro w S cs a rfl; rfl
  keep h _ := h
  mono h _ := h
theorem Rep.u8_all {w : World} {S : Nat → Prop} : ∀ {l : List UInt8} {xs : List Value}, Rep.u8.all w S xs l → xs = l.map fun a => .int .u8 (a.toNat : Int)
  | [], _, h => h
  | _ :: _, _, h => by
    obtain ⟨c, r, rfl, hc, hr⟩ := h
    rw [Rep.u8_all hr, show c = [_] from hc]; rfl
theorem Rep.u8_mk (w : World) (S : Nat → Prop) : ∀ (l : List UInt8), Rep.u8.all w S (l.map fun a => .int .u8 (a.toNat : Int)) l
  | [] => rfl
  | _ :: l => ⟨[_], _, rfl, rfl, Rep.u8_mk w S l⟩
/-- 'string(b)'. -/
theorem Sl.str {P : Program} {w : World} {S : Nat → Prop} {A : Option Addr} {n c : Nat} {l : List UInt8} (h : Sl Rep.u8 w S A n c l) {src e dst : TypeId} (hs : P.underlying src = some (.slice e)) (he : P.underlying e = some (.int .u8)) (hd : P.underlying dst = some .string) :
    (convert src dst (.slice A n c)).run P w = .ok (.string ⟨l.toArray⟩) w := by
  obtain ⟨rfl, _, _, xs, hx, hr⟩ := h
  have hxs := Rep.u8_all hr
  rcases A with _ | ad
  · have h0 : l = [] := by
      rcases Nat.eq_zero_or_pos l.length with h0 | h0
      · exact List.eq_nil_of_length_eq_zero h0
      · obtain ⟨_, h, _⟩ := hx (by rw [hxs]; simpa using h0)
        cases h
    subst h0
    exact run_convert_bytes_nil w src e hs he _ _ dst hd
  · have hl : (loadCells ad l.length).run P w = .ok ((l.map fun a => (a.toNat : Int)).map (Value.int .u8)).toArray w := by
      have := run_loadCells_list (P := P) w ad xs (fun j v hj => by
        have h0 : 0 < xs.length := by
          rcases Nat.eq_zero_or_pos xs.length with h0 | h0
          · have := List.eq_nil_of_length_eq_zero h0; subst this; simp at hj
          · exact h0
        obtain ⟨ad', h, _, hc⟩ := hx h0
        injection h with h
        subst h
        exact hc j v hj)
      rw [hxs] at this
      rw [List.map_map]
      simpa [Function.comp_def] using this
    rw [run_convert_bytes_string w src dst e _ _ c hs he hd, run_bytesToString w ad _ c _ hl, foldl_push_bytes]
    have e1 : (l.map fun a => (a.toNat : Int)).map (fun n => UInt8.ofNat n.toNat) = l := by
      rw [List.map_map]
      conv => rhs; rw [← List.map_id l]
      apply List.map_congr_left
      intro a _
      simp
    rw [e1]
    simp [ByteArray.empty, ByteArray.emptyWithCapacity]
    rfl
/-- The byte at 'k'. -/
theorem Sl.byte {w : World} {S : Nat → Prop} {A : Option Addr} {n c : Nat} {l : List UInt8} (h : Sl Rep.u8 w S A n c l) {k : Nat} (hk : k < l.length) : ∃ ad, A = some ad ∧ w.cell? (ad.add k) = some (.int .u8 (l[k].toNat : Int)) := by
  obtain ⟨ad, cs, hA, _, _, hcs, hcell⟩ := h.at_ (by decide) hk
  refine ⟨ad, hA, ?_⟩
  have := hcell 0 (.int .u8 (l[k].toNat : Int)) (by rw [show cs = [_] from hcs]; rfl)
  simpa [Rep.u8] using this
theorem bytes_eq (a b : List UInt8) : ((⟨a.toArray⟩ : ByteArray) = ⟨b.toArray⟩) = (a = b) := by
  simp
/-- A literal of bytes that the call has just laid, frozen or not. (The cells come from the goal; 'h' by 'by rfl', 'hb' by 'by simp'.) -/
theorem Sl.litB {w : World} {t : TypeId} (l : List UInt8) {cs : Array Value} {fr : Nat × Nat} (h : cs = (l.map fun a => Value.int .u8 (a.toNat : Int)).toArray) {n : Nat} (hn : n = l.length) (hm : n ≤ maxLen) {b : Nat} (hb : b = w.heap.size) :
    Sl Rep.u8 (w.alloc (.cells cs t fr)) (fun b => False ∨ b = w.heap.size) (some ⟨b, 0, none⟩) n n l := by
  subst h; subst hb
  refine ⟨hn, Nat.le_refl _, hm, _, fun _ => ⟨_, rfl, .inr rfl, fun j u hu => ?_⟩, Rep.u8_mk _ _ l⟩
  have hadd : (⟨w.heap.size, 0, none⟩ : Addr).add j = ⟨w.heap.size, j, none⟩ := by unfold Addr.add; split <;> simp_all
  rw [hadd, cell_of_row _ _ _ _ _ _ (heap_alloc_new w _)]
  simpa using hu

/-! ### 'Below a.heap.size a w': what was there in 'a' is in 'w' as it was -/
theorem Grw.step {a b c : World} (h : Below a.heap.size a b) (k : Below b.heap.size b c) : Below a.heap.size a c := h.trans (k.mono h.size)
theorem Grw.alloc {a w : World} (h : Below a.heap.size a w) (o : Obj) : Below a.heap.size a (w.alloc o) := h.alloc h.size o
theorem Grw.drew {a w : World} (h : Below a.heap.size a w) : Below a.heap.size a w.drew := h.drew
theorem Grw.drewN {a w : World} (h : Below a.heap.size a w) (n : Nat) : Below a.heap.size a (w.drewN n) := ⟨h.os, h.tape, h.output, h.size, h.block⟩
theorem Grw.setCell {a w : World} (h : Below a.heap.size a w) {p : Addr} (hp : a.heap.size ≤ p.block) (u : Value) : Below a.heap.size a (w.setCell p u) := h.setCell hp u

/-- An unsigned word. -/
def U64 : Nat := 18446744073709551616
def Rep.u64 : Rep Nat where
  sz := 1
  At _ _ cs a := cs = [.int .u64 a] ∧ a < U64
  len := by rintro w S cs a ⟨rfl, _⟩; rfl
  keep h _ := h
  mono h _ := h
theorem Rep.u64_mk (w : World) (S : Nat → Prop) : ∀ (l : List Nat), (∀ x ∈ l, x < U64) → Rep.u64.all w S (l.map fun (a : Nat) => .int .u64 (a : Int)) l
  | [], _ => rfl
  | a :: l, h => ⟨[_], _, rfl, ⟨rfl, h a (by simp)⟩, Rep.u64_mk w S l fun x hx => h x (by simp [hx])⟩
/-- An int. -/
def Rep.int : Rep Int where
  sz := 1
  At _ _ cs a := cs = [.int .i64 a] ∧ -9223372036854775808 ≤ a ∧ a ≤ 9223372036854775807
  len := by rintro w S cs a ⟨rfl, _⟩; rfl
  keep h _ := h
  mono h _ := h
theorem Rep.int_mk (w : World) (S : Nat → Prop) : ∀ (l : List Int), (∀ x ∈ l, -9223372036854775808 ≤ x ∧ x ≤ 9223372036854775807) → Rep.int.all w S (l.map fun (a : Int) => .int .i64 a) l
  | [], _ => rfl
  | a :: l, h => ⟨[_], _, rfl, ⟨rfl, h a (by simp)⟩, Rep.int_mk w S l fun x hx => h x (by simp [hx])⟩
/-- The one cell of the element at 'k'. -/
theorem Sl.cell {α : Type} {R : Rep α} {w : World} {S : Nat → Prop} {A : Option Addr} {n c : Nat} {l : List α} (h : Sl R w S A n c l) (hz : R.sz = 1) {k : Nat} (hk : k < l.length) : ∃ ad u, A = some ad ∧ S ad.block ∧ ad.block < w.heap.size ∧ R.At w S [u] l[k] ∧ w.cell? (ad.add k) = some u := by
  obtain ⟨ad, cs, hA, h1, h2, hcs, hcell⟩ := h.at_ (by omega) hk
  have hl := R.len hcs
  rw [hz] at hl hcell
  match cs, hl with
  | [u], _ =>
    have := hcell 0 u rfl
    exact ⟨ad, u, hA, h1, h2, hcs, by simpa using this⟩
/-- A literal of one-cell elements that the call has just laid. -/
theorem Sl.litOf {α : Type} {R : Rep α} {w : World} {t : TypeId} {S : Nat → Prop} {cs : Array Value} (l : List α) (h : R.all (w.alloc (.cells cs t)) S cs.toList l) {n : Nat} (hn : n = l.length) (hm : n ≤ maxLen) {b : Nat} (hb : b = w.heap.size) :
    Sl R (w.alloc (.cells cs t)) (fun b => S b ∨ b = w.heap.size) (some ⟨b, 0, none⟩) n n l := by
  subst hb
  have h2 : cs = cs.toList.toArray := by simp
  rw [h2] at h ⊢
  exact Sl.lit w _ t (by simpa using h) hn hm
/-- The world under a new name, with what is to be known of it. -/
theorem wp_world {P : Program} {c : Code} {Q : Exit → Act → World → Prop} {a : Act} {w : World} (F : World → Prop) (hF : F w) (h : ∀ W, F W → Code.wp P c Q a W) : Code.wp P c Q a w := h w hF
theorem wrap64_range (z : Int) : ∃ x : Nat, IntKind.u64.wrap z = (x : Int) ∧ x < U64 := by
  refine ⟨(IntKind.u64.wrap z).toNat, ?_, ?_⟩
  · rw [IntKind.wrap_u64]; omega
  · rw [IntKind.wrap_u64]; unfold U64; omega
theorem orbyte (y : Nat) (h : y < 256) : ∃ u : UInt8, bits .or .u8 (y : Int) 128 = (u.toNat : Int) := by
  refine ⟨UInt8.ofNat (y ||| 128), ?_⟩
  have h2 : y ||| 128 < 2 ^ 8 := Nat.or_lt_two_pow h (by omega)
  rw [UInt8.toNat_ofNat', show ((128 : Int) = ((128 : Nat) : Int)) from rfl, u8_or_nat y 128 h (by omega)]
  omega
theorem andbyte (y : Nat) (h : y < 256) : ∃ u : UInt8, bits .and .u8 (y : Int) 127 = (u.toNat : Int) := by
  refine ⟨UInt8.ofNat (y &&& 127), ?_⟩
  have h2 : y &&& 127 < 2 ^ 8 := Nat.and_lt_two_pow _ (by omega)
  rw [UInt8.toNat_ofNat', show ((127 : Int) = ((127 : Nat) : Int)) from rfl, u8_and_nat y 127 h (by omega)]
  omega
theorem byteOf (y : Nat) (h : y < 256) : ∃ u : UInt8, (y : Int) = (u.toNat : Int) := ⟨UInt8.ofNat y, by rw [UInt8.toNat_ofNat']; omega⟩
/-- All blocks. -/
def All : Nat → Prop := fun _ => True
theorem Own.sla {α : Type} {R : Rep α} {e : TypeId} {w : World} {base : Nat} {S : Nat → Prop} {n : Nat} {l : List α} {A : Option Addr} {c : Nat} (h : Own R e w base S (.slice A n c) n l) : Sl R w All A n c l :=
  h.sl (fun _ _ => trivial) (fun _ _ _ => trivial)
theorem Sl.all {α : Type} {R : Rep α} {w : World} {S : Nat → Prop} {n : Nat} {l : List α} {A : Option Addr} {c : Nat} (h : Sl R w S A n c l) : Sl R w All A n c l := h.mono fun _ _ _ => trivial
/-- A mark at which the walk stops: 'go_wp2_with (at_builtin; refine Stop.mk ?_)', then 'refine Stop.un (law ..)'. -/
def Stop (p : Prop) : Prop := p
theorem Stop.mk {p : Prop} (h : Stop p) : p := h
theorem Stop.un {p : Prop} (h : p) : Stop p := h
/-- A literal slice of slices that the call has just laid. -/
theorem Rep.slice_one {α : Type} {R : Rep α} {w : World} {S : Nat → Prop} {A : Option Addr} {n c : Nat} {l : List α} (h : Sl R w S A n c l) : R.slice.At w S [.slice A n c] l := ⟨_, rfl, h.shut⟩
theorem Rep.all_cons {α : Type} {R : Rep α} {w : World} {S : Nat → Prop} {u : Value} {a : α} {xs : List Value} {l : List α} (h : R.At w S [u] a) (hr : R.all w S xs l) : R.all w S (u :: xs) (a :: l) := ⟨[u], xs, rfl, h, hr⟩
theorem Rep.all_nil {α : Type} (R : Rep α) (w : World) (S : Nat → Prop) : R.all w S [] [] := rfl
/-- The slice in the one cell of an element. -/
theorem Rep.slice_open {α : Type} {R : Rep α} {w : World} {S : Nat → Prop} {u : Value} {l : List α} (h : R.slice.At w S [u] l) : ∃ A n c, u = .slice A n c ∧ Sl R w S A n c l := by
  obtain ⟨v, hv, hs⟩ := h
  injection hv with hv; subst hv
  exact hs.open_
theorem Rep.all_set {α : Type} {R : Rep α} (hz : R.sz = 1) {w : World} {S : Nat → Prop} : ∀ {l : List α} {xs : List Value}, R.all w S xs l → ∀ {u : Value} {a : α} (k : Nat), R.At w S [u] a → R.all w S (xs.set k u) (l.set k a)
  | [], xs, h, u, a, k, hu => by simp only [Rep.all] at h; subst h; simp [Rep.all]
  | x :: l, xs, h, u, a, k, hu => by
    obtain ⟨c, r, rfl, hc, hr⟩ := h
    have hl := R.len hc
    rw [hz] at hl
    match c, hl with
    | [y], _ =>
      cases k with
      | zero => exact ⟨[u], r, rfl, hu, hr⟩
      | succ k => exact ⟨[y], r.set k u, rfl, hc, Rep.all_set hz hr k hu⟩
/-- A row of one-cell elements: where the element at 'k' lies, and what a store there makes of it. -/
theorem Own.row1 {α : Type} {R : Rep α} {e : TypeId} {w : World} {base : Nat} {S : Nat → Prop} {A : Option Addr} {n c : Nat} {l : List α} (h : Own R e w base S (.slice A n c) n l) (hz : R.sz = 1) {k : Nat} (hk : k < l.length) :
    ∃ g u, A = some ⟨g, 0, none⟩ ∧ base ≤ g ∧ g < w.heap.size ∧ R.At w S [u] l[k] ∧ w.cell? ⟨g, k, none⟩ = some u ∧ w.frozen? ⟨g, k, none⟩ = false ∧
      ∀ u' a, R.At w S [u'] a → Own R e (w.setCell ⟨g, k, none⟩ u') base S (.slice A n c) n (l.set k a) := by
  obtain ⟨hn, hap, xs, ho, hr⟩ := h
  have hl := R.all_len hr
  rw [hz] at hl
  rcases ho.2 with ⟨hv, h0⟩ | ⟨g, cap, cur, hv, hb, hg, hnc, hm, hsz, htk⟩
  · omega
  · injection hv with hA _ hcc
    subst hA; subst hcc
    have hk2 : k < xs.length := by omega
    have hc := ho.cells (g := g) rfl k xs[k] (List.getElem?_eq_getElem hk2)
    have hadd : (⟨g, 0, none⟩ : Addr).add k = ⟨g, k, none⟩ := by unfold Addr.add; split <;> simp_all
    rw [hadd] at hc
    have hat := R.all_at hr hk
    rw [hz] at hat
    have h1 : (xs.drop (k * 1)).take 1 = [xs[k]] := by
      rw [Nat.mul_one, List.drop_eq_getElem_cons hk2]; rfl
    rw [h1] at hat
    refine ⟨g, xs[k], rfl, hb, (Array.getElem?_eq_some_iff.1 hg).1, hat, hc, frozen_of_row w g k cur e hg, fun u' a hu => ?_⟩
    have hsame : Same S w (w.setCell ⟨g, k, none⟩ u') := Same.setCell (fun hs => hap g rfl hs) u'
    refine ⟨by simpa using hn, hap, xs.set k u', ⟨by rw [List.length_set]; exact ho.1, .inr ⟨g, c, cur.setIfInBounds k u', rfl, hb, heap_setCell_same w g k cur e u' hg, hnc, hm, by simpa using hsz, ?_⟩⟩, R.all_keep hsame (Rep.all_set hz hr k hu)⟩
    rw [Array.toList_setIfInBounds, List.take_set, htk]
theorem ret_bool {a b : Bool} (h : a = b) : Ending.returned (.bool a) = .returned (.bool b) := by rw [h]
theorem ret_i64 {a b : Int} (h : a = b) : Ending.returned (.int .i64 a) = .returned (.int .i64 b) := by rw [h]
theorem ret_u64 {a b : Int} (h : a = b) : Ending.returned (.int .u64 a) = .returned (.int .u64 b) := by rw [h]
section
variable {P : Program} {α : Type} {R : Rep α} {t e : TypeId} {by_ : Nat}
/-- 'append(v, x...)' onto a row of the call's own, in a region that draws its order. -/
theorem step_app {ops : Array Oper} {o : Oper} {a : Act} {w : World} {K : Act → World → Prop} {Q : Exit → Act → World → Prop} {E : Prop} (T : Elt P R t e by_) (hgd : o.guard = none) {s x : Operand}
    (ho : o.op = .call { callee := .builtin .append, args := #[s, x], argTypes := #[t, t] })
    {base : Nat} {S : Nat → Prop} {v : Value} {n : Nat} {l : List α} (hown : Own R e w base S v n l) (hs : a.eval s = v)
    {A : Option Addr} {m c : Nat} {k : List α} {Sx : Nat → Prop} (hr : Sl R w Sx A m c k) (hx : a.eval x = .slice A m c) (hsub : ∀ {cs a}, R.At w Sx cs a → R.At w S cs a) (h63 : (n + m) * by_ ≤ 140737488355328) (h64 : n + m ≤ maxLen) (hbase : base ≤ w.heap.size) (hS : ¬ S w.heap.size)
    (h : ∀ A' n' c' w', Hid (n' = n + m) → Own R e w' base S (.slice A' n' c') n' (l ++ k) → Below base w w' → w.grownBy w' v.ownBlock → ((Value.slice A' n' c').ownBlock = v.ownBlock ∨ (Value.slice A' n' c').ownBlock = some w.heap.size) → K (a.put o.dst (.slice A' n' c')) w') :
    if Region.wanted o (yielded ops a.tmps) = true then Oper.wp P o a w K Q else E := by
  have hw : Region.wanted o (yielded ops a.tmps) = true := by simp [Region.wanted, hgd]
  rw [if_pos hw]
  exact wp_app T ho hown hs hr hx hsub h63 h64 hbase hS fun A' c' w' h2 h3 h4 => h A' _ c' w' rfl h2 ((Below.refl base w).grown h3 hbase fun k hk => (hown.lt k hk).1) h3 h4
end
/-- A block that the call made and knows whole. -/
def Box (w : World) (g : Nat) (t : TypeId) (cs : List Value) : Prop := w.heap[g]? = some (.cells cs.toArray t (0, 0))
section
variable {w w' : World} {g : Nat} {t : TypeId} {cs : List Value}
theorem Box.lt (h : Box w g t cs) : g < w.heap.size := (Array.getElem?_eq_some_iff.1 h).1
theorem Box.cell (h : Box w g t cs) (i : Nat) {v : Value} (hv : cs[i]? = some v) : w.cell? ⟨g, i, none⟩ = some v := by
  rw [cell_of_row w g i _ t (0, 0) h]; simpa using hv
theorem Box.frozen (h : Box w g t cs) (i : Nat) : w.frozen? ⟨g, i, none⟩ = false := frozen_of_row w g i _ t h
theorem Box.new (w : World) (t : TypeId) (cs : List Value) {b : Nat} (hb : b = w.heap.size) : Box (w.alloc (.cells cs.toArray t)) b t cs := by subst hb; exact heap_alloc_new w _
theorem Box.keep {S : Nat → Prop} (h : Box w g t cs) (hs : Same S w w') (hg : S g) : Box w' g t cs := (hs g hg h.lt).trans h
theorem Box.below (h : Box w g t cs) (hb : Below w.heap.size w w') : Box w' g t cs := (hb.block g h.lt).trans h
theorem Box.alloc (h : Box w g t cs) (o : Obj) : Box (w.alloc o) g t cs := (Below.heap_alloc w o g h.lt).trans h
theorem Box.drew (h : Box w g t cs) : Box w.drew g t cs := h
theorem Box.grown {row : Option Nat} (h : Box w g t cs) (hg : w.grownBy w' row) (hne : some g ≠ row) : Box w' g t cs := (hg.block g h.lt hne).trans h
theorem Box.set_ (h : Box w g t cs) (i : Nat) (u : Value) : Box (w.setCell ⟨g, i, none⟩ u) g t (cs.set i u) := by
  unfold Box at *
  rw [heap_setCell_same w g i _ t u h]
  simp
theorem Box.far (h : Box w g t cs) {p : Addr} (hp : g ≠ p.block) (u : Value) : Box (w.setCell p u) g t cs := (heap_setCell_other w p g u hp).trans h
end
/-- A row of the call's own, and all that its elements lead to, in blocks from 'base' on. -/
def OwnF {α : Type} (R : Rep α) (e : TypeId) (w : World) (base : Nat) (v : Value) (n : Nat) (l : List α) : Prop :=
  ∃ S : Nat → Prop, (∀ b, S b → base ≤ b ∧ b < w.heap.size) ∧ Own R e w base S v n l
/-- The blocks from 'B' on. -/
def Ge (B : Nat) : Nat → Prop := fun b => B ≤ b
section
variable {α : Type} {R : Rep α} {e : TypeId} {w w' : World} {base : Nat} {v : Value} {n : Nat} {l : List α}
theorem OwnF.nil_ (R : Rep α) (e : TypeId) (w : World) (base : Nat) : OwnF R e w base (.slice none 0 0) 0 [] := ⟨No, fun _ h => h.elim, Own.nil_ R e w base No⟩
theorem OwnF.len (h : OwnF R e w base v n l) : n = l.length := by obtain ⟨S, _, h⟩ := h; exact h.len
theorem OwnF.lt (h : OwnF R e w base v n l) : ∀ k, v.ownBlock = some k → base ≤ k ∧ k < w.heap.size := by obtain ⟨S, _, h⟩ := h; exact h.lt
theorem OwnF.below (h : OwnF R e w base v n l) (hb : Below w.heap.size w w') : OwnF R e w' base v n l := by
  obtain ⟨S, hs, h⟩ := h
  exact ⟨S, fun b hb' => ⟨(hs b hb').1, by have := (hs b hb').2; have := hb.size; omega⟩, h.below hb⟩
theorem OwnF.form (h : OwnF R e w base v n l) : ∃ A c, v = .slice A n c ∧ n ≤ c ∧ c ≤ maxLen := by obtain ⟨S, _, h⟩ := h; exact h.form
theorem OwnF.sl {A : Option Addr} {c : Nat} (h : OwnF R e w base (.slice A n c) n l) : Sl R w (Ge base) A n c l := by
  obtain ⟨S, hs, h⟩ := h
  exact h.sl (fun b hb => (hs b hb).1) (fun b hb _ => hb)
theorem OwnF.sla {A : Option Addr} {c : Nat} (h : OwnF R e w base (.slice A n c) n l) : Sl R w All A n c l := h.sl.all
theorem OwnF.lower (h : OwnF R e w base v n l) {b0 : Nat} (hb : b0 ≤ base) : OwnF R e w b0 v n l := by
  obtain ⟨S, hs, h⟩ := h
  exact ⟨S, fun b hb' => ⟨by have := (hs b hb').1; omega, (hs b hb').2⟩, h.base hb⟩
theorem OwnF.alloc (h : OwnF R e w base v n l) (o : Obj) : OwnF R e (w.alloc o) base v n l := h.below ((Below.refl _ _).alloc (Nat.le_refl _) _)
theorem OwnF.drew (h : OwnF R e w base v n l) : OwnF R e w.drew base v n l := h.below (Below.refl _ _).drew
theorem OwnF.not (h : OwnF R e w base v n l) {b : Nat} (hb : w.heap.size ≤ b) : v.ownBlock ≠ some b := fun e => by have := (h.lt b e).2; omega
theorem Own.toF {S : Nat → Prop} (h : Own R e w base S v n l) (hs : ∀ b, S b → base ≤ b ∧ b < w.heap.size) : OwnF R e w base v n l := ⟨S, hs, h⟩
theorem Own.toF0 (h : Own R e w base No v n l) : OwnF R e w base v n l := ⟨No, fun _ h => h.elim, h⟩
end
section
variable {P : Program} {α : Type} {R : Rep α} {t e : TypeId} {by_ : Nat}
theorem OwnF.grow {w : World} {base : Nat} {v : Value} {n : Nat} {l : List α} (hown : OwnF R e w base v n l) :
    ∃ S : Nat → Prop, (∀ b, S b → base ≤ b ∧ b < w.heap.size) ∧ Own R e w base S v n l ∧ ¬ S w.heap.size ∧ ∀ b, base ≤ b → b < w.heap.size → v.ownBlock ≠ some b → S b := by
  obtain ⟨S, hs, h⟩ := hown
  refine ⟨fun b => S b ∨ (base ≤ b ∧ b < w.heap.size ∧ v.ownBlock ≠ some b), ?_, ?_, ?_, ?_⟩
  · rintro b (hb | ⟨h1, h2, _⟩)
    · exact hs b hb
    · exact ⟨h1, h2⟩
  · refine h.mono (Nat.le_refl _) (fun b hb _ => .inl hb) ?_
    rintro k hk (hb | ⟨_, _, h3⟩)
    · exact hb
    · exact absurd hk h3
  · rintro (hb | ⟨_, h2, _⟩)
    · have := (hs _ hb).2; omega
    · omega
  · exact fun b h1 h2 h3 => .inr ⟨h1, h2, h3⟩
/-- 'append(v, x...)' onto a fresh row: what the new elements lead to lies from 'base' on, apart from the row itself. -/
theorem wpList_appF {ops : Array Oper} {rest : List Oper} {o : Oper} {a : Act} {w : World} {Q : Exit → Act → World → Prop} (T : Elt P R t e by_) (hgd : o.guard = none) {s x : Operand}
    (ho : o.op = .call { callee := .builtin .append, args := #[s, x], argTypes := #[t, t] })
    {base : Nat} {v : Value} {n : Nat} {l : List α} (hown : OwnF R e w base v n l) (hs : a.eval s = v)
    {A : Option Addr} {m c : Nat} {k : List α} {Sx : Nat → Prop} (hr : Sl R w Sx A m c k) (hx : a.eval x = .slice A m c) (hsub : ∀ {cs a}, R.At w Sx cs a → R.At w (fun b => base ≤ b ∧ v.ownBlock ≠ some b) cs a) (h63 : (n + m) * by_ ≤ 140737488355328) (h64 : n + m ≤ maxLen) (hbase : base ≤ w.heap.size)
    (h : ∀ A' n' c' w', Hid (n' = n + m) → OwnF R e w' base (.slice A' n' c') n' (l ++ k) → Below base w w' → w.grownBy w' v.ownBlock → wpList P ops Q rest (a.put o.dst (.slice A' n' c')) w') : wpList P ops Q (o :: rest) a w := by
  obtain ⟨S, hS, hown', hnew, hall⟩ := hown.grow
  refine wpList_app T hgd ho hown' hs hr hx (fun hc => R.mono (hsub hc) (fun b hb hlt => hall b hb.1 hlt hb.2)) h63 h64 hbase hnew ?_
  intro A' n' c' w' hn h2 h3 h4 h5
  exact h A' n' c' w' hn ⟨S, fun b hb => ⟨(hS b hb).1, by have := (hS b hb).2; have := h3.size; omega⟩, h2⟩ h3 h4
end
theorem and7 (t : Nat) (h : t < U64) : bits .and .u64 (t : Int) 7 = (t : Int) % 8 := by
  have := u64_and_nat t 7 (by unfold U64 at h; exact h) (by omega)
  rw [nat_mask3] at this
  rw [show ((7 : Int) = ((7 : Nat) : Int)) from rfl, this]
  omega
section
variable {P : Program} {α : Type} {R : Rep α} {t e : TypeId} {by_ : Nat} {w : World} {S : Nat → Prop} {A : Option Addr} {n c : Nat} {l : List α}
/-- 's[k:]' under one name: lay the equation ahead of the walk. -/
theorem Sl.cutL (T : Elt P R t e by_) (h : Sl R w S A n c l) {k : Nat} (hk : k ≤ n) :
    ∃ A', Sl R w S A' (n - k) (c - k) (l.drop k) ∧ ∀ W : World, (Instr.sliceAt t (.slice A n c) (some (.int .i64 (k : Int))) none none).run P W = .ok (.slice A' (n - k) (c - k)) W := by
  obtain ⟨ht, ⟨i, z, hi, hz, h1, h2, h3⟩, hp, _⟩ := T
  refine ⟨_, h.drop hk, fun W => ?_⟩
  simp [Instr.sliceAt, Instr.slice, run_underlying ht, Instr.sliceBounds, run_sliceBound, sizeOf, typeInfo, hi, h1, hk]
/-- 's[j:k]' under one name. -/
theorem Sl.cutLH (T : Elt P R t e by_) (h : Sl R w S A n c l) {j k : Nat} (hj : j ≤ k) (hk : k ≤ n) :
    ∃ A', Sl R w S A' (k - j) (c - j) ((l.take k).drop j) ∧ ∀ W : World, (Instr.sliceAt t (.slice A n c) (some (.int .i64 (j : Int))) (some (.int .i64 (k : Int))) none).run P W = .ok (.slice A' (k - j) (c - j)) W := by
  obtain ⟨ht, ⟨i, z, hi, hz, h1, h2, h3⟩, hp, _⟩ := T
  have hle := h.le
  refine ⟨_, (h.take hk).drop hj, fun W => ?_⟩
  simp [Instr.sliceAt, Instr.slice, run_underlying ht, Instr.sliceBounds, run_sliceBound, sizeOf, typeInfo, hi, h1, hj, (by omega : k ≤ c)]
end
theorem Sl.setCell {α : Type} {R : Rep α} {w : World} {S : Nat → Prop} {A : Option Addr} {n c : Nat} {l : List α} (h : Sl R w S A n c l) {p : Addr} (hp : ¬ S p.block) (u : Value) : Sl R (w.setCell p u) S A n c l := h.keep (Same.setCell hp u)
end Go.Proofs.YtgfmnpbcbpobbaaDoor
