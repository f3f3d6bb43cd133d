/- The machine's texts, laid together: AmGt, AmDefs, AmRel, AmEqual, AmQ, AmRun, AmOk, AmMem, AmOps, AmOps2, AmOps3, AmOps4, AmOps5, AmStr, AmMaps, AmMaps2, AmMaps3, AmMaps4, AmMaps5, AmApp. No conditions. -/
import Derived.WalkKit
import Derived.Lib.DecodeN
import Derived.WalkSpells
import Derived.Lib.Hide
import Derived.Orders
import Derived.Maps.AppendAt
import Derived.Deep.AppendLies
import Derived.ChangeKeysEq
import Derived.DeepKeys
import Derived.Laws.BytesArg
import Derived.Laws.BytesString
import Derived.Laws.Tables
import Derived.Great.BuildSlice
import Derived.Lib.ConvBytes
import Derived.Laws.MakeOwn
import Derived.MapKept
/- The program's package-level tables that the abstract machine leans on. No conditions. -/
namespace Go.Proofs.YtgfmnpbcbpobbaaDoor.Am
open Go

def GT : Nat → Nat → Option Value
  | 0, j => if j < 256 then some (.int .u8 (Lib.firstT j)) else none
  | 1, j => if j < 32 then some (.int .u8 (if j % 2 = 0 then Lib.accLo (j / 2) else Lib.accHi (j / 2))) else none
  | _, _ => none
end Go.Proofs.YtgfmnpbcbpobbaaDoor.Am
/- An abstract machine over plain data: its words. No conditions. -/
namespace Go.Proofs.YtgfmnpbcbpobbaaDoor.Am
open Go

/-- Data in cells that never change again. -/
inductive DV where
  | v (x : Value)
  | sl (es : List (List DV))
  | it (t : TypeId) (x : DV)
/-- One cell: data, a slice of the call's own, a pointer into a box, into data, into a slice of the call's own. -/
inductive AC where
  | d (x : DV)
  | nil
  | row (id ver : Nat)
  | ptr (id ver off : Nat)
  | eptr (cs : List DV)
  | rptr (id ver i off sz : Nat)
  | junk
/-- A slot's value. -/
inductive AV where
  | c (x : AC)
  | agg (xs : List AC)
  | tup (xs : List AV)
  | clo (f id ver : Nat)
  | nx (b : Bool) (x y : AC)
  | any
/-- .. which is there if 'g' holds. -/
structure GV where
  g : Bool
  x : AV
/-- A slice of the call's own: its elements, the cells of each, their type; frozen: it has been read as data, and its elements are stored to no more. -/
structure Row where
  es : List (List DV)
  sz : Nat
  e : TypeId
  fr : Bool
structure BS where
  ver : Nat
  c : Option (List AC)
structure RS where
  ver : Nat
  c : Option Row
/-- The state: the number of slots; slots, boxes, slices of the call's own. -/
structure St where
  n : Nat
  t : Nat → GV
  b : Nat → BS
  r : Nat → RS
def upd {α : Type} (f : Nat → α) (k : Nat) (x : α) : Nat → α := fun j => if j = k then x else f j
def St.setT (s : St) (k : Nat) (x : GV) : St := ⟨s.n, upd s.t k x, s.b, s.r⟩
def St.setB (s : St) (k : Nat) (x : BS) : St := ⟨s.n, s.t, upd s.b k x, s.r⟩
def St.setR (s : St) (k : Nat) (x : RS) : St := ⟨s.n, s.t, s.b, upd s.r k x⟩
inductive Upd where
  | t (k : Nat) (x : GV)
  | b (k : Nat) (x : BS)
  | r (k : Nat) (x : RS)
def St.app1 (s : St) : Upd → St
  | .t k x => s.setT k x
  | .b k x => s.setB k x
  | .r k x => s.setR k x
def St.app (s : St) : List Upd → St
  | [] => s
  | u :: us => (s.app1 u).app us
/-- A question to the state. -/
inductive Q (α : Type) where
  | ret (a : α)
  | rdT (k : Nat) (f : GV → Q α)
  | rdB (k : Nat) (f : BS → Q α)
  | rdR (k : Nat) (f : RS → Q α)
  | req (p : Prop) (q : Q α)
  | fail
def Q.bind {α β : Type} : Q α → (α → Q β) → Q β
  | .ret a, f => f a
  | .rdT k g, f => .rdT k fun x => (g x).bind f
  | .rdB k g, f => .rdB k fun x => (g x).bind f
  | .rdR k g, f => .rdR k fun x => (g x).bind f
  | .req p q, f => .req p (q.bind f)
  | .fail, _ => .fail
def Q.wp {α : Type} : Q α → St → (α → Prop) → Prop
  | .ret a, _, K => K a
  | .rdT k f, s, K => (f (s.t k)).wp s K
  | .rdB k f, s, K => (f (s.b k)).wp s K
  | .rdR k f, s, K => (f (s.r k)).wp s K
  | .req p q, s, K => p ∧ q.wp s K
  | .fail, _, _ => False
theorem Q.wp_bind {α β : Type} (q : Q α) (f : α → Q β) (s : St) (K : β → Prop) : (q.bind f).wp s K ↔ q.wp s fun a => (f a).wp s K := by
  induction q with
  | ret a => rfl
  | rdT k g ih => exact ih _
  | rdB k g ih => exact ih _
  | rdR k g ih => exact ih _
  | req p q ih => exact and_congr Iff.rfl ih
  | fail => rfl
theorem Q.wp_mono {α : Type} {q : Q α} {s : St} {K K' : α → Prop} (h : q.wp s K) (hk : ∀ a, K a → K' a) : q.wp s K' := by
  induction q with
  | ret a => exact hk _ h
  | rdT k g ih => exact ih _ h
  | rdB k g ih => exact ih _ h
  | rdR k g ih => exact ih _ h
  | req p q ih => exact ⟨h.1, ih h.2⟩
  | fail => exact h
/-- What is answered, and what is asked besides. -/
def Q.den {α : Type} : Q α → St → Option α
  | .ret a, _ => some a
  | .rdT k f, s => (f (s.t k)).den s
  | .rdB k f, s => (f (s.b k)).den s
  | .rdR k f, s => (f (s.r k)).den s
  | .req _ q, s => q.den s
  | .fail, _ => none
theorem Q.wp_den {α : Type} {q : Q α} {s : St} {K : α → Prop} (h : q.wp s K) : ∃ a, q.den s = some a ∧ K a ∧ q.wp s (· = a) := by
  induction q with
  | ret a => exact ⟨a, rfl, h, rfl⟩
  | rdT k g ih => exact ih _ h
  | rdB k g ih => exact ih _ h
  | rdR k g ih => exact ih _ h
  | req p q ih => obtain ⟨a, h1, h2, h3⟩ := ih h.2; exact ⟨a, h1, h2, h.1, h3⟩
  | fail => exact h.elim
/-- The parts of a state. -/
inductive Part where
  | t (k : Nat)
  | b (k : Nat)
  | r (k : Nat)
  deriving DecidableEq
/-- What is read. -/
def Q.reads {α : Type} : Q α → St → List Part
  | .ret _, _ => []
  | .rdT k f, s => .t k :: (f (s.t k)).reads s
  | .rdB k f, s => .b k :: (f (s.b k)).reads s
  | .rdR k f, s => .r k :: (f (s.r k)).reads s
  | .req _ q, s => q.reads s
  | .fail, _ => []
def Part.same (s s' : St) : Part → Prop
  | .t k => s.t k = s'.t k
  | .b k => s.b k = s'.b k
  | .r k => s.r k = s'.r k
theorem Q.wp_same {α : Type} {q : Q α} {s s' : St} {K : α → Prop} (h : q.wp s K) (hs : ∀ c ∈ q.reads s, c.same s s') : q.wp s' K := by
  induction q with
  | ret a => exact h
  | rdT k g ih =>
    have e : s.t k = s'.t k := hs (.t k) (by simp [Q.reads])
    simp only [Q.wp] at h ⊢
    rw [← e]
    exact ih _ h (fun c hc => hs c (by simp [Q.reads, hc]))
  | rdB k g ih =>
    have e : s.b k = s'.b k := hs (.b k) (by simp [Q.reads])
    simp only [Q.wp] at h ⊢
    rw [← e]
    exact ih _ h (fun c hc => hs c (by simp [Q.reads, hc]))
  | rdR k g ih =>
    have e : s.r k = s'.r k := hs (.r k) (by simp [Q.reads])
    simp only [Q.wp] at h ⊢
    rw [← e]
    exact ih _ h (fun c hc => hs c (by simp [Q.reads, hc]))
  | req p q ih => exact ⟨h.1, ih h.2 hs⟩
  | fail => exact h

/-! ### How memory reads -/
mutual
def DVr (I : Nat → Nat → Prop) (w : World) : DV → Value → Prop
  | .v y, x => x = y ∧ y.oneCell' = true
  | .it t d, x => ∃ y, x = .iface t y ∧ DVr I w d y
  | .sl es, x => ∃ A c z xs, x = .slice A es.length c ∧ es.length ≤ c ∧ c ≤ maxLen ∧ 0 < z ∧ (∀ e ∈ es, e.length = z) ∧
      (0 < es.length → ∃ ad, A = some ad ∧ ∀ j u, xs[j]? = some u → w.cell? (ad.add j) = some u ∧ I ad.block (ad.off + j)) ∧ DVee I w es xs
def DVrs (I : Nat → Nat → Prop) (w : World) : List DV → List Value → Prop
  | [], xs => xs = []
  | d :: ds, xs => ∃ x r, xs = x :: r ∧ DVr I w d x ∧ DVrs I w ds r
def DVee (I : Nat → Nat → Prop) (w : World) : List (List DV) → List Value → Prop
  | [], xs => xs = []
  | e :: es, xs => ∃ c r, xs = c ++ r ∧ DVrs I w e c ∧ DVee I w es r
end
/-- Cells that never change are as they were. -/
def Keep (I : Nat → Nat → Prop) (w w' : World) : Prop := ∀ b o, I b o → w'.cell? ⟨b, o, none⟩ = w.cell? ⟨b, o, none⟩
/-- What the program's package-level tables hold: it is there, and never changes. -/
def Glob (I : Nat → Nat → Prop) (w : World) : Prop := ∀ g j v, GT g j = some v → w.cell? ⟨g, j, none⟩ = some v ∧ I g j
theorem Glob.mono {I I' : Nat → Nat → Prop} {w w' : World} (h : Glob I w) (hi : ∀ b o, I b o → I' b o) (hk : Keep I w w') : Glob I' w' := fun g j v e => by
  obtain ⟨h1, h2⟩ := h g j v e
  exact ⟨(hk g j h2).trans h1, hi g j h2⟩
theorem Keep.refl (I : Nat → Nat → Prop) (w : World) : Keep I w w := fun _ _ _ => rfl
theorem cell_spot {w : World} {a : Addr} {u : Value} (h : w.cell? a = some u) : a = ⟨a.block, a.off, none⟩ := by
  obtain ⟨b, o, s⟩ := a
  cases s with
  | none => rfl
  | some k => simp [World.cell?] at h; split at h <;> simp_all
theorem addr_add_off (a : Addr) (j : Nat) (hs : a.spot = none) : a.add j = ⟨a.block, a.off + j, none⟩ := by
  obtain ⟨b, o, s⟩ := a
  simp only at hs
  subst hs
  unfold Addr.add
  split <;> simp_all
theorem add_block (a : Addr) (n : Nat) : (a.add n).block = a.block := by unfold Addr.add; split <;> rfl
theorem add_off (a : Addr) (n : Nat) : (a.add n).off = a.off + n := by unfold Addr.add; split <;> simp_all
theorem add_add (a : Addr) (i j : Nat) : (a.add i).add j = a.add (i + j) := by
  unfold Addr.add
  by_cases hi : i = 0 <;> by_cases hj : j = 0 <;> simp [hi, hj, Nat.add_assoc]
theorem add_zero (a : Addr) : a.add 0 = a := by simp [Addr.add]
theorem Keep.at_ {I : Nat → Nat → Prop} {w w' : World} (h : Keep I w w') {a : Addr} {u : Value} (hc : w.cell? a = some u) (hi : I a.block a.off) : w'.cell? a = some u := by
  have e := cell_spot hc
  rw [e] at hc ⊢
  rw [h _ _ hi]
  exact hc
section
variable {I I' : Nat → Nat → Prop} {w w' : World}
mutual
theorem DVr.mono (hi : ∀ b o, I b o → I' b o) (hk : Keep I w w') : ∀ (d : DV) {x : Value}, DVr I w d x → DVr I' w' d x
  | .v _, _, h => h
  | .it _ d, _, h => by
    simp only [DVr] at h ⊢
    obtain ⟨y, h1, h2⟩ := h
    exact ⟨y, h1, DVr.mono hi hk d h2⟩
  | .sl es, _, h => by
    simp only [DVr] at h ⊢
    obtain ⟨A, c, z, xs, h1, h2, h3, h4, h5, h6, h7⟩ := h
    refine ⟨A, c, z, xs, h1, h2, h3, h4, h5, fun h0 => ?_, DVee.mono hi hk es h7⟩
    obtain ⟨ad, e, hc⟩ := h6 h0
    refine ⟨ad, e, fun j u hu => ?_⟩
    obtain ⟨k1, k2⟩ := hc j u hu
    exact ⟨hk.at_ k1 (by rw [add_block, add_off]; exact k2), hi _ _ k2⟩
theorem DVrs.mono (hi : ∀ b o, I b o → I' b o) (hk : Keep I w w') : ∀ (ds : List DV) {xs : List Value}, DVrs I w ds xs → DVrs I' w' ds xs
  | [], _, h => h
  | d :: ds, _, h => by
    simp only [DVrs] at h ⊢
    obtain ⟨x, r, h1, h2, h3⟩ := h
    exact ⟨x, r, h1, DVr.mono hi hk d h2, DVrs.mono hi hk ds h3⟩
theorem DVee.mono (hi : ∀ b o, I b o → I' b o) (hk : Keep I w w') : ∀ (es : List (List DV)) {xs : List Value}, DVee I w es xs → DVee I' w' es xs
  | [], _, h => h
  | e :: es, _, h => by
    simp only [DVee] at h ⊢
    obtain ⟨c, r, h1, h2, h3⟩ := h
    exact ⟨c, r, h1, DVrs.mono hi hk e h2, DVee.mono hi hk es h3⟩
end
theorem DVrs.len : ∀ {ds : List DV} {xs : List Value}, DVrs I w ds xs → xs.length = ds.length
  | [], xs, h => by simp only [DVrs] at h; subst h; rfl
  | d :: ds, xs, h => by
    simp only [DVrs] at h
    obtain ⟨x, r, rfl, _, h3⟩ := h
    simp [DVrs.len h3]
theorem DVrs.get : ∀ {ds : List DV} {xs : List Value}, DVrs I w ds xs → ∀ {j : Nat} {d : DV}, ds[j]? = some d → ∃ x, xs[j]? = some x ∧ DVr I w d x
  | [], _, _, j, d, hd => by simp at hd
  | d :: ds, xs, h, j, d', hd => by
    simp only [DVrs] at h
    obtain ⟨x, r, rfl, h2, h3⟩ := h
    cases j with
    | zero => simp at hd; subst hd; exact ⟨x, rfl, h2⟩
    | succ j => exact DVrs.get h3 (by simpa using hd)
theorem DVrs.app : ∀ {ds es : List DV} {xs ys : List Value}, DVrs I w ds xs → DVrs I w es ys → DVrs I w (ds ++ es) (xs ++ ys)
  | [], es, xs, ys, h, k => by simp only [DVrs] at h; subst h; exact k
  | d :: ds, es, xs, ys, h, k => by
    simp only [DVrs] at h
    obtain ⟨x, r, rfl, h2, h3⟩ := h
    simp only [List.cons_append, DVrs]
    exact ⟨x, r ++ ys, rfl, h2, DVrs.app h3 k⟩
theorem DVrs.drop : ∀ {ds : List DV} {xs : List Value} (n : Nat), DVrs I w ds xs → DVrs I w (ds.drop n) (xs.drop n)
  | _, _, 0, h => by simpa using h
  | [], xs, n + 1, h => by simp only [DVrs] at h; subst h; simp [DVrs]
  | d :: ds, xs, n + 1, h => by
    simp only [DVrs] at h
    obtain ⟨x, r, rfl, h2, h3⟩ := h
    simpa using DVrs.drop n h3
theorem DVrs.take : ∀ {ds : List DV} {xs : List Value} (n : Nat), DVrs I w ds xs → DVrs I w (ds.take n) (xs.take n)
  | _, _, 0, h => by simp [DVrs]
  | [], xs, n + 1, h => by simp only [DVrs] at h; subst h; simp [DVrs]
  | d :: ds, xs, n + 1, h => by
    simp only [DVrs] at h
    obtain ⟨x, r, rfl, h2, h3⟩ := h
    simp only [List.take_succ_cons, DVrs]
    exact ⟨x, r.take n, rfl, h2, DVrs.take n h3⟩
theorem DVee.len {z : Nat} : ∀ {es : List (List DV)} {xs : List Value}, DVee I w es xs → (∀ e ∈ es, e.length = z) → xs.length = es.length * z
  | [], xs, h, _ => by simp only [DVee] at h; subst h; simp
  | e :: es, xs, h, hu => by
    simp only [DVee] at h
    obtain ⟨c, r, rfl, h2, h3⟩ := h
    rw [List.length_append, h2.len, hu e (by simp), DVee.len h3 (fun e he => hu e (by simp [he])), List.length_cons, Nat.succ_mul, Nat.add_comm]
theorem DVee.app : ∀ {es fs : List (List DV)} {xs ys : List Value}, DVee I w es xs → DVee I w fs ys → DVee I w (es ++ fs) (xs ++ ys)
  | [], fs, xs, ys, h, k => by simp only [DVee] at h; subst h; exact k
  | e :: es, fs, xs, ys, h, k => by
    simp only [DVee] at h
    obtain ⟨c, r, rfl, h2, h3⟩ := h
    simp only [List.cons_append, DVee]
    exact ⟨c, r ++ ys, by simp, h2, DVee.app h3 k⟩
theorem DVee.get {z : Nat} : ∀ {es : List (List DV)} {xs : List Value}, DVee I w es xs → (∀ e ∈ es, e.length = z) → ∀ {i : Nat} {e : List DV}, es[i]? = some e → DVrs I w e ((xs.drop (i * z)).take z)
  | [], _, _, _, i, e, he => by simp at he
  | e0 :: es, xs, h, hu, i, e, he => by
    simp only [DVee] at h
    obtain ⟨c, r, rfl, h2, h3⟩ := h
    have hl : c.length = z := by rw [h2.len, hu e0 (by simp)]
    cases i with
    | zero =>
      simp at he
      subst he
      have e1 : (c ++ r).take z = c := by rw [← hl]; exact List.take_left
      rw [Nat.zero_mul, List.drop_zero, e1]
      exact h2
    | succ i =>
      have := DVee.get h3 (fun e he => hu e (by simp [he])) (i := i) (by simpa using he)
      rw [Nat.succ_mul, Nat.add_comm, ← hl, ← List.drop_drop, List.drop_left]
      rw [← hl] at this
      exact this
theorem DVee.drop {z : Nat} : ∀ {es : List (List DV)} {xs : List Value}, DVee I w es xs → (∀ e ∈ es, e.length = z) → ∀ (i : Nat), DVee I w (es.drop i) (xs.drop (i * z))
  | es, xs, h, _, 0 => by simpa using h
  | [], xs, h, _, i + 1 => by simp only [DVee] at h; subst h; simp [DVee]
  | e0 :: es, xs, h, hu, i + 1 => by
    simp only [DVee] at h
    obtain ⟨c, r, rfl, h2, h3⟩ := h
    have hl : c.length = z := by rw [h2.len, hu e0 (by simp)]
    have := DVee.drop h3 (fun e he => hu e (by simp [he])) i
    rw [List.drop_succ_cons, Nat.succ_mul, Nat.add_comm, ← hl, ← List.drop_drop, List.drop_left]
    rw [← hl] at this
    exact this
theorem DVee.take {z : Nat} : ∀ {es : List (List DV)} {xs : List Value}, DVee I w es xs → (∀ e ∈ es, e.length = z) → ∀ (i : Nat), DVee I w (es.take i) (xs.take (i * z))
  | es, xs, h, _, 0 => by simp [DVee]
  | [], xs, h, _, i + 1 => by simp only [DVee] at h; subst h; simp [DVee]
  | e0 :: es, xs, h, hu, i + 1 => by
    simp only [DVee] at h
    obtain ⟨c, r, rfl, h2, h3⟩ := h
    have hl : c.length = z := by rw [h2.len, hu e0 (by simp)]
    have := DVee.take h3 (fun e he => hu e (by simp [he])) i
    simp only [List.take_succ_cons, DVee]
    refine ⟨c, r.take (i * z), ?_, h2, this⟩
    rw [Nat.succ_mul, List.take_append, List.take_of_length_le (by omega)]
    congr 2
    omega
theorem DVee.set {z : Nat} : ∀ {es : List (List DV)} {xs : List Value}, DVee I w es xs → (∀ e ∈ es, e.length = z) → ∀ (i : Nat) {e : List DV} {c : List Value}, i < es.length → DVrs I w e c → DVee I w (es.set i e) (xs.take (i * z) ++ c ++ xs.drop ((i + 1) * z))
  | [], xs, h, _, i, e, c, hi, _ => by simp at hi
  | e0 :: es, xs, h, hu, i, e, c', hi, hc => by
    simp only [DVee] at h
    obtain ⟨c, r, rfl, h2, h3⟩ := h
    have hl : c.length = z := by rw [h2.len, hu e0 (by simp)]
    cases i with
    | zero =>
      simp only [List.set_cons_zero, DVee]
      refine ⟨c', r, ?_, hc, h3⟩
      have e1 : (c ++ r).drop z = r := by rw [← hl]; exact List.drop_left
      simp [e1]
    | succ i =>
      have := DVee.set h3 (fun e he => hu e (by simp [he])) i (by simpa using hi) hc
      simp only [List.set_cons_succ, DVee]
      refine ⟨c, _, ?_, h2, this⟩
      have e1 : (c ++ r).take ((i + 1) * z) = c ++ r.take (i * z) := by
        rw [Nat.succ_mul, List.take_append, List.take_of_length_le (by omega)]
        congr 2
        omega
      have e2 : (c ++ r).drop ((i + 1 + 1) * z) = r.drop ((i + 1) * z) := by
        rw [Nat.succ_mul (i + 1), Nat.add_comm, ← hl, ← List.drop_drop, List.drop_left]
      rw [e1, e2]
      simp
end
end Go.Proofs.YtgfmnpbcbpobbaaDoor.Am
/- An abstract machine over plain data: how a state reads in a frame and a memory. No conditions. -/
namespace Go.Proofs.YtgfmnpbcbpobbaaDoor.Am
open Go

/-- What the state leaves open: the cells that never change again; the boxes' blocks; the slices. -/
structure Gh where
  I : Nat → Nat → Prop
  bx : Nat → Nat
  rw : Nat → Value
/-- A function value that has captured one box. -/
def closV (f : FuncId) (b : Nat) : Value := .func (.func f) #[] #[.pointer (some ⟨b, 0, none⟩)]
def ACr (G : Gh) (s : St) (w : World) : AC → Value → Prop
  | .d x, v => DVr G.I w x v
  | .nil, v => v = .slice none 0 0
  | .row id ver, v => v.oneCell' = true ∧ ver ≤ (s.r id).ver ∧ (ver = (s.r id).ver → (s.r id).c.isSome = true → v = G.rw id)
  | .ptr id ver off, v => v.oneCell' = true ∧ ver ≤ (s.b id).ver ∧ (ver = (s.b id).ver → (s.b id).c.isSome = true → v = .pointer (some ⟨G.bx id, off, none⟩))
  | .eptr cs, v => ∃ ad xs, v = .pointer (some ad) ∧ DVrs G.I w cs xs ∧ ∀ j u, xs[j]? = some u → w.cell? (ad.add j) = some u ∧ G.I ad.block (ad.off + j)
  | .rptr id ver i off sz, v => v.oneCell' = true ∧ ver ≤ (s.r id).ver ∧ (ver = (s.r id).ver → (s.r id).c.isSome = true → ∃ ad n c, G.rw id = .slice (some ad) n c ∧ v = .pointer (some (ad.add (i * sz + off))))
  | .junk, v => v.oneCell' = true
def ACs (G : Gh) (s : St) (w : World) : List AC → List Value → Prop
  | [], xs => xs = []
  | d :: ds, xs => ∃ x r, xs = x :: r ∧ ACr G s w d x ∧ ACs G s w ds r
mutual
def AVr (G : Gh) (s : St) (w : World) : AV → Value → Prop
  | .c x, v => ACr G s w x v
  | .agg xs, v => ∃ vs, v = .agg vs ∧ ACs G s w xs vs.toList
  | .tup xs, v => ∃ vs, v = .tuple vs ∧ AVs G s w xs vs.toList
  | .clo f id ver, v => ver ≤ (s.b id).ver ∧ (ver = (s.b id).ver → (s.b id).c.isSome = true → v = closV f (G.bx id))
  | .nx b x y, v => (b = true → ∃ vx vy, v = .tuple #[.bool true, vx, vy] ∧ ACr G s w x vx ∧ ACr G s w y vy) ∧ (b = false → v = .tuple #[.bool false])
  | .any, _ => True
def AVs (G : Gh) (s : St) (w : World) : List AV → List Value → Prop
  | [], xs => xs = []
  | d :: ds, xs => ∃ x r, xs = x :: r ∧ AVr G s w d x ∧ AVs G s w ds r
end
def GVr (G : Gh) (s : St) (w : World) (x : GV) (v : Value) : Prop := (x.g = true → AVr G s w x.x v) ∧ (x.g = false → v = undef)

theorem DVr.one {I : Nat → Nat → Prop} {w : World} : ∀ {d : DV} {x : Value}, DVr I w d x → x.oneCell' = true
  | .v _, _, h => by simp only [DVr] at h; rw [h.1]; exact h.2
  | .it _ _, _, h => by simp only [DVr] at h; obtain ⟨y, rfl, _⟩ := h; rfl
  | .sl _, _, h => by simp only [DVr] at h; obtain ⟨A, c, z, xs, rfl, _⟩ := h; rfl
section
variable {G G' : Gh} {s s' : St} {w w' : World}
theorem ACr.one {x : AC} {v : Value} (h : ACr G s w x v) : v.oneCell' = true := by
  cases x <;> simp only [ACr] at h
  case d => exact DVr.one h
  case nil => rw [h]; rfl
  case row => exact h.1
  case ptr => exact h.1
  case eptr => obtain ⟨ad, xs, rfl, _⟩ := h; rfl
  case rptr => exact h.1
  case junk => exact h
/-- From one state to a later one: what held of a cell holds on. -/
structure Ext (G : Gh) (s : St) (w : World) (G' : Gh) (s' : St) (w' : World) : Prop where
  I : ∀ b o, G.I b o → G'.I b o
  keep : Keep G.I w w'
  b : ∀ id, (s.b id).ver ≤ (s'.b id).ver ∧ ((s.b id).ver = (s'.b id).ver → (s'.b id).c.isSome = true → (s.b id).c.isSome = true ∧ G'.bx id = G.bx id)
  r : ∀ id, (s.r id).ver ≤ (s'.r id).ver ∧ ((s.r id).ver = (s'.r id).ver → (s'.r id).c.isSome = true → (s.r id).c.isSome = true ∧ G'.rw id = G.rw id)
theorem Ext.refl (G : Gh) (s : St) (w : World) : Ext G s w G s w := ⟨fun _ _ h => h, Keep.refl _ _, fun _ => ⟨Nat.le_refl _, fun _ h => ⟨h, rfl⟩⟩, fun _ => ⟨Nat.le_refl _, fun _ h => ⟨h, rfl⟩⟩⟩
theorem Ext.ac (E : Ext G s w G' s' w') {x : AC} {v : Value} (h : ACr G s w x v) : ACr G' s' w' x v := by
  cases x <;> simp only [ACr] at h ⊢
  case d x => exact DVr.mono E.I E.keep x h
  case nil => exact h
  case row id ver =>
    obtain ⟨h0, h1, h2⟩ := h
    refine ⟨h0, Nat.le_trans h1 (E.r id).1, fun e hs => ?_⟩
    have e1 : (s.r id).ver = (s'.r id).ver := by have := (E.r id).1; omega
    obtain ⟨k1, k2⟩ := (E.r id).2 e1 hs
    rw [k2]
    exact h2 (by omega) k1
  case ptr id ver off =>
    obtain ⟨h0, h1, h2⟩ := h
    refine ⟨h0, Nat.le_trans h1 (E.b id).1, fun e hs => ?_⟩
    have e1 : (s.b id).ver = (s'.b id).ver := by have := (E.b id).1; omega
    obtain ⟨k1, k2⟩ := (E.b id).2 e1 hs
    rw [k2]
    exact h2 (by omega) k1
  case eptr cs =>
    obtain ⟨ad, xs, h1, h2, h3⟩ := h
    refine ⟨ad, xs, h1, DVrs.mono E.I E.keep _ h2, fun j u hu => ?_⟩
    obtain ⟨k1, k2⟩ := h3 j u hu
    exact ⟨E.keep.at_ k1 (by rw [add_block, add_off]; exact k2), E.I _ _ k2⟩
  case rptr id ver i off sz =>
    obtain ⟨h0, h1, h2⟩ := h
    refine ⟨h0, Nat.le_trans h1 (E.r id).1, fun e hs => ?_⟩
    have e1 : (s.r id).ver = (s'.r id).ver := by have := (E.r id).1; omega
    obtain ⟨k1, k2⟩ := (E.r id).2 e1 hs
    rw [k2]
    exact h2 (by omega) k1
  case junk => exact h
theorem Ext.acs (E : Ext G s w G' s' w') : ∀ {xs : List AC} {vs : List Value}, ACs G s w xs vs → ACs G' s' w' xs vs
  | [], _, h => h
  | x :: xs, _, h => by
    simp only [ACs] at h ⊢
    obtain ⟨v, r, h1, h2, h3⟩ := h
    exact ⟨v, r, h1, E.ac h2, E.acs h3⟩
mutual
theorem Ext.av (E : Ext G s w G' s' w') : ∀ (x : AV) {v : Value}, AVr G s w x v → AVr G' s' w' x v
  | .c _, _, h => by simp only [AVr] at h ⊢; exact E.ac h
  | .agg _, _, h => by simp only [AVr] at h ⊢; obtain ⟨vs, h1, h2⟩ := h; exact ⟨vs, h1, E.acs h2⟩
  | .tup xs, _, h => by simp only [AVr] at h ⊢; obtain ⟨vs, h1, h2⟩ := h; exact ⟨vs, h1, Ext.avs E xs h2⟩
  | .clo f id ver, _, h => by
    simp only [AVr] at h ⊢
    obtain ⟨h1, h2⟩ := h
    refine ⟨Nat.le_trans h1 (E.b id).1, fun e hs => ?_⟩
    have e1 : (s.b id).ver = (s'.b id).ver := by have := (E.b id).1; omega
    obtain ⟨k1, k2⟩ := (E.b id).2 e1 hs
    rw [k2]
    exact h2 (by omega) k1
  | .nx b x y, _, h => by
    simp only [AVr] at h ⊢
    refine ⟨fun e => ?_, h.2⟩
    obtain ⟨vx, vy, h1, h2, h3⟩ := h.1 e
    exact ⟨vx, vy, h1, E.ac h2, E.ac h3⟩
  | .any, _, _ => by simp only [AVr]
theorem Ext.avs (E : Ext G s w G' s' w') : ∀ (xs : List AV) {vs : List Value}, AVs G s w xs vs → AVs G' s' w' xs vs
  | [], _, h => h
  | x :: xs, _, h => by
    simp only [AVs] at h ⊢
    obtain ⟨v, r, h1, h2, h3⟩ := h
    exact ⟨v, r, h1, Ext.av E x h2, Ext.avs E xs h3⟩
end
theorem Ext.gv (E : Ext G s w G' s' w') {x : GV} {v : Value} (h : GVr G s w x v) : GVr G' s' w' x v := ⟨fun e => E.av _ (h.1 e), h.2⟩
theorem Ext.trans {G1 G2 G3 : Gh} {s1 s2 s3 : St} {w1 w2 w3 : World} (h : Ext G1 s1 w1 G2 s2 w2) (k : Ext G2 s2 w2 G3 s3 w3) : Ext G1 s1 w1 G3 s3 w3 := by
  refine ⟨fun b o h1 => k.I b o (h.I b o h1), fun b o h1 => (k.keep b o (h.I b o h1)).trans (h.keep b o h1), fun id => ?_, fun id => ?_⟩
  · have a1 := h.b id
    have a2 := k.b id
    refine ⟨Nat.le_trans a1.1 a2.1, fun e hs => ?_⟩
    obtain ⟨b1, b2⟩ := a2.2 (by omega) hs
    obtain ⟨c1, c2⟩ := a1.2 (by omega) b1
    exact ⟨c1, b2.trans c2⟩
  · have a1 := h.r id
    have a2 := k.r id
    refine ⟨Nat.le_trans a1.1 a2.1, fun e hs => ?_⟩
    obtain ⟨b1, b2⟩ := a2.2 (by omega) hs
    obtain ⟨c1, c2⟩ := a1.2 (by omega) b1
    exact ⟨c1, b2.trans c2⟩
/-- The slots do not matter to a cell's reading. -/
theorem Ext.slots (G : Gh) (s : St) (w : World) (n : Nat) (t : Nat → GV) : Ext G s w G ⟨n, t, s.b, s.r⟩ w := ⟨fun _ _ h => h, Keep.refl _ _, fun _ => ⟨Nat.le_refl _, fun _ h => ⟨h, rfl⟩⟩, fun _ => ⟨Nat.le_refl _, fun _ h => ⟨h, rfl⟩⟩⟩
theorem ACs.len : ∀ {ds : List AC} {xs : List Value}, ACs G s w ds xs → xs.length = ds.length
  | [], xs, h => by simp only [ACs] at h; subst h; rfl
  | d :: ds, xs, h => by
    simp only [ACs] at h
    obtain ⟨x, r, rfl, _, h3⟩ := h
    simp [ACs.len h3]
theorem ACs.app : ∀ {ds es : List AC} {xs ys : List Value}, ACs G s w ds xs → ACs G s w es ys → ACs G s w (ds ++ es) (xs ++ ys)
  | [], es, xs, ys, h, k => by simp only [ACs] at h; subst h; exact k
  | d :: ds, es, xs, ys, h, k => by
    simp only [ACs] at h
    obtain ⟨x, r, rfl, h2, h3⟩ := h
    simp only [List.cons_append, ACs]
    exact ⟨x, r ++ ys, rfl, h2, ACs.app h3 k⟩
theorem ACs.drop : ∀ {ds : List AC} {xs : List Value} (n : Nat), ACs G s w ds xs → ACs G s w (ds.drop n) (xs.drop n)
  | _, _, 0, h => by simpa using h
  | [], xs, n + 1, h => by simp only [ACs] at h; subst h; simp [ACs]
  | d :: ds, xs, n + 1, h => by
    simp only [ACs] at h
    obtain ⟨x, r, rfl, h2, h3⟩ := h
    simpa using ACs.drop n h3
theorem ACs.take : ∀ {ds : List AC} {xs : List Value} (n : Nat), ACs G s w ds xs → ACs G s w (ds.take n) (xs.take n)
  | _, _, 0, h => by simp [ACs]
  | [], xs, n + 1, h => by simp only [ACs] at h; subst h; simp [ACs]
  | d :: ds, xs, n + 1, h => by
    simp only [ACs] at h
    obtain ⟨x, r, rfl, h2, h3⟩ := h
    simp only [List.take_succ_cons, ACs]
    exact ⟨x, r.take n, rfl, h2, ACs.take n h3⟩
theorem ACs.get : ∀ {ds : List AC} {xs : List Value}, ACs G s w ds xs → ∀ {j : Nat} {d : AC}, ds[j]? = some d → ∃ x, xs[j]? = some x ∧ ACr G s w d x
  | [], _, _, j, d, hd => by simp at hd
  | d :: ds, xs, h, j, d', hd => by
    simp only [ACs] at h
    obtain ⟨x, r, rfl, h2, h3⟩ := h
    cases j with
    | zero => simp at hd; subst hd; exact ⟨x, rfl, h2⟩
    | succ j => exact ACs.get h3 (by simpa using hd)
theorem ACs.one : ∀ {ds : List AC} {xs : List Value}, ACs G s w ds xs → ∀ u ∈ xs, u.oneCell' = true
  | [], xs, h, u, hu => by simp only [ACs] at h; subst h; simp at hu
  | d :: ds, xs, h, u, hu => by
    simp only [ACs] at h
    obtain ⟨x, r, rfl, h2, h3⟩ := h
    rcases List.mem_cons.1 hu with rfl | hu
    · exact h2.one
    · exact ACs.one h3 u hu
theorem ACs.of_dv : ∀ {ds : List DV} {xs : List Value}, DVrs G.I w ds xs → ACs G s w (ds.map .d) xs
  | [], xs, h => by simp only [DVrs] at h; subst h; simp [ACs]
  | d :: ds, xs, h => by
    simp only [DVrs] at h
    obtain ⟨x, r, rfl, h2, h3⟩ := h
    simp only [List.map_cons, ACs, ACr]
    exact ⟨x, r, rfl, h2, ACs.of_dv h3⟩
theorem DVrs.one {I : Nat → Nat → Prop} : ∀ {ds : List DV} {xs : List Value}, DVrs I w ds xs → ∀ u ∈ xs, u.oneCell' = true
  | [], xs, h, u, hu => by simp only [DVrs] at h; subst h; simp at hu
  | d :: ds, xs, h, u, hu => by
    simp only [DVrs] at h
    obtain ⟨x, r, rfl, h2, h3⟩ := h
    rcases List.mem_cons.1 hu with rfl | hu
    · exact h2.one
    · exact DVrs.one h3 u hu
theorem DVee.one {I : Nat → Nat → Prop} : ∀ {es : List (List DV)} {xs : List Value}, DVee I w es xs → ∀ u ∈ xs, u.oneCell' = true
  | [], xs, h, u, hu => by simp only [DVee] at h; subst h; simp at hu
  | e :: es, xs, h, u, hu => by
    simp only [DVee] at h
    obtain ⟨c, r, rfl, h2, h3⟩ := h
    rcases List.mem_append.1 hu with hu | hu
    · exact h2.one u hu
    · exact DVee.one h3 u hu
end

/-- The block of a slice, of a map. -/
def obk : Value → Option Nat
  | .slice (some a) _ _ => some a.block
  | .map (some r) => some r
  | .pointer (some a) => some a.block
  | _ => none
theorem obk_sl (A : Option Addr) (n c : Nat) : obk (.slice A n c) = (Value.slice A n c).ownBlock := by cases A <;> rfl
theorem ownsRow_ob {w : World} {base : Nat} {e : TypeId} {sz : Nat} {v : Value} {n : Nat} {xs : List Value} (h : w.ownsRow base e sz v n xs) : obk v = v.ownBlock := by
  rcases h.2 with ⟨rfl, _⟩ | ⟨g, cap, cur, rfl, _⟩ <;> rfl
/-- Who owns a block: a box (inl), a slice or a map (inr). -/
def own (G : Gh) (s : St) : Nat ⊕ Nat → Option Nat
  | .inl id => if (s.b id).c.isSome then some (G.bx id) else none
  | .inr id => if (s.r id).c.isSome then obk (G.rw id) else none
/-- What was there when the call began is as it was, but for the blocks of 'M'. -/
structure Fr (W0 : World) (M : Nat → Prop) (w : World) : Prop where
  os : w.os = W0.os
  tape : w.tape = W0.tape
  output : w.output = W0.output
  size : W0.heap.size ≤ w.heap.size
  block : ∀ k, k < W0.heap.size → ¬ M k → w.heap[k]? = W0.heap[k]?
def BoxOk (G : Gh) (s : St) (w : World) (g : Nat) (cs : List AC) : Prop := ∃ cur ty, w.heap[g]? = some (.cells cur ty (0, 0)) ∧ ACs G s w cs cur.toList
/-- A row whose type is from here on is a map: its elements are the entries, each the key's cells and the element's. -/
def mapF : Nat := 4000000
/-- The number of a key's cells; whether keys, elements are made of parts. -/
def mKs (e : Nat) : Nat := e / 4 % 1000000
def mKa (e : Nat) : Bool := decide (e / 2 % 2 = 1)
def mVa (e : Nat) : Bool := decide (e % 2 = 1)
/-- The value of a key, of an element. -/
def CV (I : Nat → Nat → Prop) (w : World) : Bool → List DV → Value → Prop
  | true, ds, x => ∃ vs, x = .agg vs ∧ DVrs I w ds vs.toList
  | false, ds, x => ∃ d, ds = [d] ∧ DVr I w d x
def ME (I : Nat → Nat → Prop) (w : World) (e : Nat) (c : List DV) (m : MapEntry) : Prop := CV I w (mKa e) (c.take (mKs e)) m.key ∧ CV I w (mVa e) (c.drop (mKs e)) m.val
def MEs (I : Nat → Nat → Prop) (w : World) (e : Nat) : List (List DV) → List MapEntry → Prop
  | [], ms => ms = []
  | c :: cs, ms => ∃ m r, ms = m :: r ∧ ME I w e c m ∧ MEs I w e cs r
/-- The entries' times of birth. -/
def Born (ms : List MapEntry) (clock : Nat) : Prop := ms.Pairwise (fun a b => a.born < b.born) ∧ ∀ m ∈ ms, m.born < clock
def MapOk (I : Nat → Nat → Prop) (w : World) (v : Value) (R : Row) : Prop := ∃ g entries clock, v = .map (some g) ∧ w.heap[g]? = some (.map entries clock) ∧ MEs I w R.e R.es entries.toList ∧ Born entries.toList clock
/-- The walk over a string: the string, where it has come to. -/
def iterF : Nat := 9000000
def MapE (e : Nat) : Prop := mapF ≤ e ∧ e ≠ iterF
def IterOk (w : World) (v : Value) (R : Row) : Prop := ∃ (g : Nat) (s : ByteArray) (pos : Nat), v = .pointer (some ⟨g, 0, none⟩) ∧ w.heap[g]? = some (.stringIter s pos) ∧ R.es = [[.v (.string s), .v (.int .i64 (pos : Int))]]
def RowOk (I : Nat → Nat → Prop) (w : World) (v : Value) (R : Row) : Prop := 0 < R.sz ∧ (∀ e ∈ R.es, e.length = R.sz) ∧ ((R.e < mapF ∧ ∃ xs, w.ownsRow 0 R.e R.sz v R.es.length xs ∧ DVee I w R.es xs) ∨ (MapE R.e ∧ MapOk I w v R) ∨ (R.e = iterF ∧ IterOk w v R))
theorem RowOk.sl {I : Nat → Nat → Prop} {w : World} {v : Value} {R : Row} (h : RowOk I w v R) (he : R.e < mapF) : 0 < R.sz ∧ (∀ e ∈ R.es, e.length = R.sz) ∧ ∃ xs, w.ownsRow 0 R.e R.sz v R.es.length xs ∧ DVee I w R.es xs := by
  obtain ⟨h1, h2, ⟨_, h3⟩ | ⟨h3, _⟩ | ⟨h3, _⟩⟩ := h
  · exact ⟨h1, h2, h3⟩
  · exact absurd he (Nat.not_lt.2 h3.1)
  · rw [h3] at he; exact absurd he (by decide)
theorem RowOk.slv {I : Nat → Nat → Prop} {w : World} {v : Value} {R : Row} (h : RowOk I w v R) (hv : ∃ A n c, v = .slice A n c) : 0 < R.sz ∧ (∀ e ∈ R.es, e.length = R.sz) ∧ ∃ xs, w.ownsRow 0 R.e R.sz v R.es.length xs ∧ DVee I w R.es xs := by
  obtain ⟨h1, h2, ⟨_, h3⟩ | ⟨_, g, _, _, h3, _⟩ | ⟨_, g, _, _, h3, _⟩⟩ := h
  · exact ⟨h1, h2, h3⟩
  · obtain ⟨A, n, c, rfl⟩ := hv; cases h3
  · obtain ⟨A, n, c, rfl⟩ := hv; cases h3
theorem RowOk.lte {I : Nat → Nat → Prop} {w : World} {v : Value} {R : Row} (h : RowOk I w v R) (hv : ∃ A n c, v = .slice A n c) : R.e < mapF := by
  obtain ⟨h1, h2, ⟨h3, _⟩ | ⟨_, g, _, _, h3, _⟩ | ⟨_, g, _, _, h3, _⟩⟩ := h
  · exact h3
  · obtain ⟨A, n, c, rfl⟩ := hv; cases h3
  · obtain ⟨A, n, c, rfl⟩ := hv; cases h3
theorem RowOk.as {I : Nat → Nat → Prop} {w : World} {v : Value} {R R' : Row} (h : RowOk I w v R) (e1 : R.es = R'.es) (e2 : R.sz = R'.sz) (e3 : R.e = R'.e) : RowOk I w v R' := by
  obtain ⟨a, b, c, d⟩ := R
  obtain ⟨a', b', c', d'⟩ := R'
  simp only at e1 e2 e3
  subst e1; subst e2; subst e3
  exact h
theorem RowOk.one {I : Nat → Nat → Prop} {w : World} {v : Value} {R : Row} (h : RowOk I w v R) : v.oneCell' = true := by
  obtain ⟨_, _, ⟨_, xs, ho, _⟩ | ⟨_, g, _, _, rfl, _⟩ | ⟨_, g, _, _, rfl, _⟩⟩ := h
  · rcases ho.2 with ⟨rfl, _⟩ | ⟨g, cap, cur, rfl, _⟩ <;> rfl
  · rfl
  · rfl
theorem RowOk.lt {I : Nat → Nat → Prop} {w : World} {v : Value} {R : Row} (h : RowOk I w v R) {b : Nat} (hb : obk v = some b) : b < w.heap.size := by
  obtain ⟨_, _, ⟨_, xs, ho, _⟩ | ⟨_, g, _, _, rfl, hg, _⟩ | ⟨_, g, _, _, rfl, hg, _⟩⟩ := h
  · rw [ownsRow_ob ho] at hb; exact (ho.lt b hb).2
  · injection hb with hb; subst hb; exact (Array.getElem?_eq_some_iff.1 hg).1
  · injection hb with hb; subst hb; exact (Array.getElem?_eq_some_iff.1 hg).1
theorem CV.mono {I I' : Nat → Nat → Prop} {w w' : World} (hi : ∀ b o, I b o → I' b o) (hk : Keep I w w') : ∀ {ag : Bool} {ds : List DV} {x : Value}, CV I w ag ds x → CV I' w' ag ds x
  | true, _, _, ⟨vs, h1, h2⟩ => ⟨vs, h1, DVrs.mono hi hk _ h2⟩
  | false, _, _, ⟨d, h1, h2⟩ => ⟨d, h1, DVr.mono hi hk d h2⟩
theorem ME.mono {I I' : Nat → Nat → Prop} {w w' : World} {e : Nat} (hi : ∀ b o, I b o → I' b o) (hk : Keep I w w') {c : List DV} {m : MapEntry} (h : ME I w e c m) : ME I' w' e c m := by
  unfold ME at h ⊢
  exact ⟨CV.mono hi hk h.1, CV.mono hi hk h.2⟩
theorem MEs.mono {I I' : Nat → Nat → Prop} {w w' : World} {e : Nat} (hi : ∀ b o, I b o → I' b o) (hk : Keep I w w') : ∀ {cs : List (List DV)} {ms : List MapEntry}, MEs I w e cs ms → MEs I' w' e cs ms
  | [], _, h => h
  | c :: cs, ms, h => by
    simp only [MEs] at h ⊢
    obtain ⟨m, r, h1, h2, h3⟩ := h
    exact ⟨m, r, h1, ME.mono hi hk h2, MEs.mono hi hk h3⟩
theorem RowOk.mono {I I' : Nat → Nat → Prop} {w : World} {v : Value} {R : Row} (h : RowOk I w v R) (hi : ∀ b o, I b o → I' b o) : RowOk I' w v R := by
  obtain ⟨h1, h2, ⟨h3, xs, ho, hd⟩ | ⟨h3, g, es, c, k1, k2, k3, k4⟩ | h3⟩ := h
  · exact ⟨h1, h2, .inl ⟨h3, xs, ho, DVee.mono hi (Keep.refl _ _) _ hd⟩⟩
  · exact ⟨h1, h2, .inr (.inl ⟨h3, g, es, c, k1, k2, k3.mono hi (Keep.refl _ _), k4⟩)⟩
  · exact ⟨h1, h2, .inr (.inr h3)⟩
/-- What the call was handed: blocks that it may write to; cells that never change; values that are kept in sight behind the slots. -/
structure Own where
  m : Nat → Prop
  I : Nat → Nat → Prop
  pin : Nat → Value
instance : CoeFun Own fun _ => Nat → Prop := ⟨Own.m⟩
structure Mem (W0 : World) (M : Own) (G : Gh) (s : St) (w : World) : Prop where
  bx : ∀ id cs, (s.b id).c = some cs → BoxOk G s w (G.bx id) cs
  rw : ∀ id R, (s.r id).c = some R → RowOk G.I w (G.rw id) R
  dj : ∀ x y b, own G s x = some b → own G s y = some b → x = y
  bI : ∀ id, (s.b id).c.isSome = true → ∀ o, ¬ G.I (G.bx id) o
  rI : ∀ id R g, (s.r id).c = some R → obk (G.rw id) = some g → ∀ o, G.I g o → R.fr = true ∧ o < R.es.length * R.sz
  oM : ∀ x b, own G s x = some b → W0.heap.size ≤ b ∨ M b
  In : ∀ b o, G.I b o → b < w.heap.size
  fr : Fr W0 M.m w
  ii : (∀ b o, M.I b o → G.I b o) ∧ ∀ b o, G.I b o → M.I b o ∨ M b ∨ W0.heap.size ≤ b
  gl : Glob G.I w
structure Rel (W0 : World) (M : Own) (G : Gh) (s : St) (a : Act) (w : World) : Prop where
  sz : a.tmps.size = s.n
  df : a.defers = []
  tm : ∀ k, GVr G s w (s.t k) (a.tmps.getD k undef)
  mem : Mem W0 M G s w
  pin : ∀ k, AVr G s w (s.t (s.n + k)).x (M.pin k)
def RelE (W0 : World) (M : Own) (s : St) (a : Act) (w : World) : Prop := ∃ G, Rel W0 M G s a w

section
variable {W0 : World} {M : Own} {G G' : Gh} {s s' : St} {a : Act} {w w' : World}
theorem Mem.ownlt (h : Mem W0 M G s w) {x : Nat ⊕ Nat} {b : Nat} (hx : own G s x = some b) : b < w.heap.size := by
  rcases x with id | id
  · simp only [own] at hx
    split at hx
    · rename_i hs
      injection hx with hx
      subst hx
      obtain ⟨cs, hc⟩ := Option.isSome_iff_exists.1 hs
      obtain ⟨cur, ty, hh, _⟩ := h.bx id cs hc
      exact (Array.getElem?_eq_some_iff.1 hh).1
    · cases hx
  · simp only [own] at hx
    split at hx
    · rename_i hs
      obtain ⟨R, hc⟩ := Option.isSome_iff_exists.1 hs
      exact (h.rw id R hc).lt hx
    · cases hx
/-- The slots alone change. -/
theorem Mem.slots (h : Mem W0 M G s w) (n : Nat) (t : Nat → GV) : Mem W0 M G ⟨n, t, s.b, s.r⟩ w :=
  ⟨fun id cs hc => by obtain ⟨cur, ty, h1, h2⟩ := h.bx id cs hc; exact ⟨cur, ty, h1, (Ext.slots G s w n t).acs h2⟩, h.rw, fun x y b hx hy => h.dj x y b (by cases x <;> exact hx) (by cases y <;> exact hy), h.bI, h.rI, fun x b hx => h.oM x b (by cases x <;> exact hx), h.In, h.fr, h.ii, h.gl⟩
theorem Fr.grown (h : Fr W0 M.m w) {row : Option Nat} (hg : w.grownBy w' row) (hr : ∀ b, row = some b → b < W0.heap.size → M b) : Fr W0 M.m w' :=
  ⟨hg.os.trans h.os, hg.tape.trans h.tape, hg.output.trans h.output, Nat.le_trans h.size hg.size, fun k hk hm =>
    (hg.block k (Nat.lt_of_lt_of_le hk h.size) (fun e => hm (hr k e.symm hk))).trans (h.block k hk hm)⟩
theorem ownsRow.kept' {R : Row} {I : Nat → Nat → Prop} {v : Value} {row : Option Nat} (h : RowOk I w v R) (hg : w.grownBy w' row) (hne : ∀ b, obk v = some b → row ≠ some b) (hk : Keep I w w') : RowOk I w' v R := by
  obtain ⟨h1, h2, ⟨h3, xs, ho, hd⟩ | ⟨h3, g, es, c, rfl, k2, k3, k4⟩ | ⟨h3, g, s, p, rfl, k2, k3⟩⟩ := h
  · refine ⟨h1, h2, .inl ⟨h3, xs, ho.kept hg ?_, DVee.mono (fun _ _ h => h) hk _ hd⟩⟩
    rcases hv : v.ownBlock with _ | b
    · exact .inl rfl
    · exact .inr fun e => hne b (by rw [ownsRow_ob ho]; exact hv) e.symm
  · exact ⟨h1, h2, .inr (.inl ⟨h3, g, es, c, rfl, (hg.block g (Array.getElem?_eq_some_iff.1 k2).1 (fun e => hne g rfl e.symm)).trans k2, k3.mono (fun _ _ h => h) hk, k4⟩)⟩
  · exact ⟨h1, h2, .inr (.inr ⟨h3, g, s, p, rfl, (hg.block g (Array.getElem?_eq_some_iff.1 k2).1 (fun e => hne g rfl e.symm)).trans k2, k3⟩)⟩
/-- The world changes where nobody owns and nothing is fixed. -/
theorem Mem.world (h : Mem W0 M G s w) {row : Option Nat} (hg : w.grownBy w' row) (hk : Keep G.I w w') (hne : ∀ x b, own G s x = some b → row ≠ some b) (hr : ∀ b, row = some b → b < W0.heap.size → M b) : Mem W0 M G s w' := by
  have E : Ext G s w G s w' := ⟨fun _ _ h => h, hk, fun _ => ⟨Nat.le_refl _, fun _ h => ⟨h, rfl⟩⟩, fun _ => ⟨Nat.le_refl _, fun _ h => ⟨h, rfl⟩⟩⟩
  refine ⟨fun id cs hc => ?_, fun id R hc => ?_, h.dj, h.bI, h.rI, h.oM, fun b o hi => Nat.lt_of_lt_of_le (h.In b o hi) hg.size, h.fr.grown hg hr, h.ii, h.gl.mono E.I E.keep⟩
  · obtain ⟨cur, ty, h1, h2⟩ := h.bx id cs hc
    have hlt := (Array.getElem?_eq_some_iff.1 h1).1
    refine ⟨cur, ty, (hg.block _ hlt (fun e => hne (.inl id) (G.bx id) (by simp [own, hc]) e.symm)).trans h1, E.acs h2⟩
  · exact ownsRow.kept' (h.rw id R hc) hg (fun b hb => hne (.inr id) b (by simp [own, hc, hb])) hk
theorem Mem.grow (h : Mem W0 M G s w) (hg : w.grownBy w' none) : Mem W0 M G s w' ∧ Ext G s w G s w' := by
  have hk : Keep G.I w w' := fun b o hi => World.cell?_of_block (a := ⟨b, o, none⟩) (hg.block b (h.In b o hi) (by simp))
  exact ⟨h.world hg hk (fun _ _ _ => by simp) (fun _ h => by cases h), ⟨fun _ _ h => h, hk, fun _ => ⟨Nat.le_refl _, fun _ h => ⟨h, rfl⟩⟩, fun _ => ⟨Nat.le_refl _, fun _ h => ⟨h, rfl⟩⟩⟩⟩
theorem Keep.alloc (I : Nat → Nat → Prop) (hI : ∀ b o, I b o → b < w.heap.size) (o : Obj) : Keep I w (w.alloc o) := fun b _ hi => World.cell?_of_block (heap_alloc_old w o (hI b _ hi))
theorem grown_alloc (w : World) (o : Obj) : w.grownBy (w.alloc o) none := ⟨rfl, rfl, rfl, by simp, fun k hk _ => heap_alloc_old w o hk⟩
theorem grown_drew_alloc (w : World) (o : Obj) : w.grownBy (w.drew.alloc o) none := ⟨rfl, rfl, rfl, by simp, fun k hk _ => heap_alloc_old w.drew o hk⟩
/-- A box is added (under a later version). -/
theorem Mem.addBox (h : Mem W0 M G s w) (id ver g : Nat) (cs : List AC) (hv : (s.b id).ver < ver) (hb : BoxOk G s w g cs) (hown : ∀ x, own G s x ≠ some g) (hI : ∀ o, ¬ G.I g o) (hM : W0.heap.size ≤ g ∨ M g) :
    Mem W0 M ⟨G.I, upd G.bx id g, G.rw⟩ (s.setB id ⟨ver, some cs⟩) w ∧ Ext G s w ⟨G.I, upd G.bx id g, G.rw⟩ (s.setB id ⟨ver, some cs⟩) w := by
  have E : Ext G s w ⟨G.I, upd G.bx id g, G.rw⟩ (s.setB id ⟨ver, some cs⟩) w := by
    refine ⟨fun _ _ h => h, Keep.refl _ _, fun k => ?_, fun _ => ⟨Nat.le_refl _, fun _ h => ⟨h, rfl⟩⟩⟩
    simp only [St.setB, upd]
    by_cases e : k = id
    · subst e; simp only [if_true]; exact ⟨by omega, fun e => by omega⟩
    · simp only [e, if_false]; exact ⟨Nat.le_refl _, fun _ h => ⟨h, trivial⟩⟩
  have ho : ∀ x b, own ⟨G.I, upd G.bx id g, G.rw⟩ (s.setB id ⟨ver, some cs⟩) x = some b → (x = .inl id ∧ b = g) ∨ (x ≠ .inl id ∧ own G s x = some b) := by
    intro x b hx
    rcases x with k | k
    · by_cases e : k = id
      · subst e
        simp [own, St.setB, upd] at hx
        exact .inl ⟨rfl, hx.symm⟩
      · right
        refine ⟨by simp [e], ?_⟩
        simpa [own, St.setB, upd, e] using hx
    · right
      exact ⟨by simp, hx⟩
  refine ⟨⟨fun k c hc => ?_, fun k R hc => h.rw k R hc, fun x y b hx hy => ?_, fun k hc => ?_, h.rI, fun x b hx => ?_, h.In, h.fr, h.ii, h.gl.mono E.I E.keep⟩, E⟩
  · simp only [St.setB, upd] at hc ⊢
    by_cases e : k = id
    · subst e
      simp only [if_true] at hc ⊢
      injection hc with hc; subst hc
      obtain ⟨cur, ty, h1, h2⟩ := hb
      exact ⟨cur, ty, h1, E.acs h2⟩
    · simp only [e, if_false] at hc ⊢
      obtain ⟨cur, ty, h1, h2⟩ := h.bx k c hc
      exact ⟨cur, ty, h1, E.acs h2⟩
  · rcases ho x b hx with ⟨rfl, rfl⟩ | ⟨n1, k1⟩ <;> rcases ho y b hy with ⟨rfl, e2⟩ | ⟨n2, k2⟩
    · rfl
    · exact (hown y k2).elim
    · subst e2; exact (hown x k1).elim
    · exact h.dj x y b k1 k2
  · simp only [St.setB, upd] at hc ⊢
    by_cases e : k = id
    · simp only [e, if_true]; exact hI
    · simp only [e, if_false] at hc ⊢; exact h.bI k hc
  · rcases ho x b hx with ⟨rfl, rfl⟩ | ⟨_, k1⟩
    · exact hM
    · exact h.oM x b k1
/-- A slice of the call's own is added (under a later version). -/
theorem Mem.addRow (h : Mem W0 M G s w) (id ver : Nat) (v : Value) (R : Row) (hv : (s.r id).ver < ver) (hb : RowOk G.I w v R) (hown : ∀ x b, obk v = some b → own G s x ≠ some b)
    (hI : ∀ g, obk v = some g → ∀ o, G.I g o → R.fr = true ∧ o < R.es.length * R.sz) (hM : ∀ g, obk v = some g → W0.heap.size ≤ g ∨ M g) :
    Mem W0 M ⟨G.I, G.bx, upd G.rw id v⟩ (s.setR id ⟨ver, some R⟩) w ∧ Ext G s w ⟨G.I, G.bx, upd G.rw id v⟩ (s.setR id ⟨ver, some R⟩) w := by
  have E : Ext G s w ⟨G.I, G.bx, upd G.rw id v⟩ (s.setR id ⟨ver, some R⟩) w := by
    refine ⟨fun _ _ h => h, Keep.refl _ _, fun _ => ⟨Nat.le_refl _, fun _ h => ⟨h, rfl⟩⟩, fun k => ?_⟩
    simp only [St.setR, upd]
    by_cases e : k = id
    · subst e; simp only [if_true]; exact ⟨by omega, fun e => by omega⟩
    · simp only [e, if_false]; exact ⟨Nat.le_refl _, fun _ h => ⟨h, trivial⟩⟩
  have ho : ∀ x b, own ⟨G.I, G.bx, upd G.rw id v⟩ (s.setR id ⟨ver, some R⟩) x = some b → (x = .inr id ∧ obk v = some b) ∨ (x ≠ .inr id ∧ own G s x = some b) := by
    intro x b hx
    rcases x with k | k
    · right
      exact ⟨by simp, hx⟩
    · by_cases e : k = id
      · subst e
        simp [own, St.setR, upd] at hx
        exact .inl ⟨rfl, hx⟩
      · right
        refine ⟨by simp [e], ?_⟩
        simpa [own, St.setR, upd, e] using hx
  refine ⟨⟨fun k c hc => ?_, fun k R' hc => ?_, fun x y b hx hy => ?_, h.bI, fun k R' g hc hg => ?_, fun x b hx => ?_, h.In, h.fr, h.ii, h.gl.mono E.I E.keep⟩, E⟩
  · obtain ⟨cur, ty, h1, h2⟩ := h.bx k c hc
    exact ⟨cur, ty, h1, E.acs h2⟩
  · simp only [St.setR, upd] at hc ⊢
    by_cases e : k = id
    · simp only [e, if_true] at hc ⊢
      injection hc with hc; subst hc
      exact hb
    · simp only [e, if_false] at hc ⊢
      exact h.rw k R' hc
  · rcases ho x b hx with ⟨rfl, e1⟩ | ⟨n1, k1⟩ <;> rcases ho y b hy with ⟨rfl, e2⟩ | ⟨n2, k2⟩
    · rfl
    · exact (hown y b e1 k2).elim
    · exact (hown x b e2 k1).elim
    · exact h.dj x y b k1 k2
  · simp only [St.setR, upd] at hc hg ⊢
    by_cases e : k = id
    · simp only [e, if_true] at hc hg
      injection hc with hc; subst hc
      exact hI g hg
    · simp only [e, if_false] at hc hg
      exact h.rI k R' g hc hg
  · rcases ho x b hx with ⟨rfl, e1⟩ | ⟨_, k1⟩
    · exact hM b e1
    · exact h.oM x b k1
/-- A slice is given up. -/
theorem Mem.dropRow (h : Mem W0 M G s w) (id : Nat) : Mem W0 M G (s.setR id ⟨(s.r id).ver, none⟩) w ∧ Ext G s w G (s.setR id ⟨(s.r id).ver, none⟩) w := by
  have E : Ext G s w G (s.setR id ⟨(s.r id).ver, none⟩) w := by
    refine ⟨fun _ _ h => h, Keep.refl _ _, fun _ => ⟨Nat.le_refl _, fun _ h => ⟨h, rfl⟩⟩, fun k => ?_⟩
    simp only [St.setR, upd]
    by_cases e : k = id
    · subst e; simp
    · simp only [e, if_false]; exact ⟨Nat.le_refl _, fun _ h => ⟨h, trivial⟩⟩
  have ho : ∀ x b, own G (s.setR id ⟨(s.r id).ver, none⟩) x = some b → own G s x = some b := by
    intro x b hx
    rcases x with k | k
    · exact hx
    · by_cases e : k = id
      · subst e; simp [own, St.setR, upd] at hx
      · simpa [own, St.setR, upd, e] using hx
  refine ⟨⟨fun k c hc => ?_, fun k R hc => ?_, fun x y b hx hy => h.dj x y b (ho x b hx) (ho y b hy), h.bI, fun k R g hc hg => ?_, fun x b hx => h.oM x b (ho x b hx), h.In, h.fr, h.ii, h.gl.mono E.I E.keep⟩, E⟩
  · obtain ⟨cur, ty, h1, h2⟩ := h.bx k c hc
    exact ⟨cur, ty, h1, E.acs h2⟩
  · simp only [St.setR, upd] at hc
    by_cases e : k = id
    · simp [e] at hc
    · simp only [e, if_false] at hc; exact h.rw k R hc
  · simp only [St.setR, upd] at hc
    by_cases e : k = id
    · simp [e] at hc
    · simp only [e, if_false] at hc; exact h.rI k R g hc hg
/-- Another slot. -/
theorem Rel.put (h : Rel W0 M G s a w) {d : Nat} (hd : d < s.n) {x : GV} {v : Value} (hx : GVr G s w x v) : Rel W0 M G (s.setT d x) (a.put (some d) v) w := by
  have E : Ext G s w G (s.setT d x) w := Ext.slots G s w s.n _
  refine ⟨by simp [Act.put, h.sz, St.setT], h.df, fun k => ?_, h.mem.slots _ _, fun k => ?_⟩
  case refine_2 =>
    have e : s.n + k ≠ d := by omega
    simp only [St.setT, upd, e, if_false]
    exact E.av _ (h.pin k)
  have hlt : d < a.tmps.size := by rw [h.sz]; exact hd
  simp only [St.setT, upd, Act.put]
  by_cases e : k = d
  · subst e
    simp only [if_true]
    have : (a.tmps.setIfInBounds k v).getD k undef = v := by simp [Array.getD, hlt]
    rw [this]
    exact E.gv hx
  · simp only [e, if_false]
    have : (a.tmps.setIfInBounds d v).getD k undef = a.tmps.getD k undef := by
      simp only [Array.getD_eq_getD_getElem?, Array.getElem?_setIfInBounds]
      rw [if_neg (by omega)]
    rw [this]
    exact E.gv (h.tm k)
/-- The memory changes, the slots' readings go along. -/
theorem Rel.mem' (h : Rel W0 M G s a w) (E : Ext G s w G' s' w') (hm : Mem W0 M G' s' w') (hn : s'.n = s.n) (ht : s'.t = s.t) : Rel W0 M G' s' a w' :=
  ⟨by rw [hn]; exact h.sz, h.df, fun k => by rw [ht]; exact E.gv (h.tm k), hm, fun k => by rw [hn, ht]; exact E.av _ (h.pin k)⟩
end
end Go.Proofs.YtgfmnpbcbpobbaaDoor.Am
/- '==' on values that are cells of booleans, integers and strings. No conditions. -/
namespace Go.Proofs.YtgfmnpbcbpobbaaDoor.Am
open Go

inductive CK where
  | b
  | i (k : IntKind)
  | s
  deriving DecidableEq
def ckOf : Value → Option CK
  | .bool _ => some .b
  | .int k _ => some (.i k)
  | .string _ => some .s
  | _ => none
def eqCell : Value → Value → Bool
  | .bool a, .bool b => a == b
  | .int _ a, .int _ b => a == b
  | .string a, .string b => a.toList == b.toList
  | _, _ => false
def eqCells : List Value → List Value → Bool
  | [], [] => true
  | x :: xs, y :: ys => eqCell x y && eqCells xs ys
  | _, _ => false
theorem eqCells_app : ∀ (a c b d : List Value), a.length = c.length → eqCells (a ++ b) (c ++ d) = (eqCells a c && eqCells b d)
  | [], [], b, d, _ => by simp [eqCells]
  | x :: a, y :: c, b, d, h => by
    simp only [List.length_cons, Nat.add_right_cancel_iff] at h
    simp only [List.cons_append, eqCells, eqCells_app a c b d h, Bool.and_assoc]
def cmpFs (rec : TypeId → Option (List CK)) (cells : TypeId → Nat) : Nat → List Field → Option (List CK)
  | _, [] => some []
  | off, f :: fs => match decide (f.name ≠ "_" ∧ f.offset = off) with
    | true => (rec f.type).bind fun ks => match ks.length == cells f.type with
      | true => (cmpFs rec cells (off + ks.length) fs).map (ks ++ ·)
      | false => none
    | false => none
/-- The cells of a type that '==' compares cell by cell. -/
def cmpT (P : Program) : Nat → TypeId → Option (List CK)
  | 0, _ => none
  | d + 1, t => match P.underlying t with
    | some .bool => some [.b]
    | some (.int k) => some [.i k]
    | some .string => some [.s]
    | some (.array n e) => (cmpT P d e).bind fun ks => match ks.length == P.cellsOf e with
      | true => some (List.replicate n ks).flatten
      | false => none
    | some (.struct fs) => match P.stoodInHeld t with
      | true => none
      | false => cmpFs (cmpT P d) P.cellsOf 0 fs.toList
    | _ => none
def fmd (P : Program) (t : TypeId) (x : Value) : Prop := match P.underlying t with
  | some (.array _ _) | some (.struct _) => ∃ cs, x = .agg cs
  | _ => x.cells.toList = [x]
def EqOk (P : Program) (d : Nat) (t : TypeId) (ks : List CK) : Prop := ∀ (w : World) (x y : Value), fmd P t x → fmd P t y → x.cells.toList.map ckOf = ks.map some → y.cells.toList.map ckOf = ks.map some → (Op.equalIn d t x y).run P w = .ok (eqCells x.cells.toList y.cells.toList) w
section
variable {P : Program}
theorem part_cmp {d : Nat} {e : TypeId} {ks : List CK} (h : cmpT P d e = some ks) (hl : ks.length = P.cellsOf e) (w : World) (xs : Array Value) (off : Nat) (hc : ((xs.toList.drop off).take ks.length).map ckOf = ks.map some) :
    ∃ a, (part e xs off).run P w = .ok a w ∧ fmd P e a ∧ a.cells.toList = (xs.toList.drop off).take ks.length := by
  cases d with
  | zero => cases h
  | succ d =>
    unfold cmpT at h
    have agg : ∀ kd, P.underlying e = some kd → (match kd with | .array _ _ | .struct _ => true | _ => false) = true → ∃ a, (part e xs off).run P w = .ok a w ∧ fmd P e a ∧ a.cells.toList = (xs.toList.drop off).take ks.length := by
      intro kd hu hk
      obtain ⟨i, hi⟩ := info_of_underlying hu
      have e1 : (xs.extract off (off + P.cellsOf e)).toList = (xs.toList.drop off).take ks.length := by
        rw [Array.toList_extract, hl]; simp [List.extract]
      refine ⟨.agg (xs.extract off (off + P.cellsOf e)), ?_, ?_, e1⟩
      · cases kd <;> simp at hk <;> simp [part, isAgg, run_underlying hu, run_sizeOf w hi]
      · unfold fmd; rw [hu]
        cases kd <;> simp at hk <;> exact ⟨_, rfl⟩
    have one : ∀ kd k, P.underlying e = some kd → P.plainKey e = true → (match kd with | .array _ _ | .struct _ => false | _ => true) = true → ks = [k] → ∃ a, (part e xs off).run P w = .ok a w ∧ fmd P e a ∧ a.cells.toList = (xs.toList.drop off).take ks.length := by
      rintro kd k hu hp hk rfl
      have hlen : ((xs.toList.drop off).take 1).length = 1 := by
        have := congrArg List.length hc
        simpa using this
      match hxs : (xs.toList.drop off).take 1, hlen with
      | [v], _ =>
        have hx : xs[off]? = some v := by
          have h0 : ((xs.toList.drop off).take 1)[0]? = some v := by rw [hxs]; rfl
          rw [List.getElem?_take] at h0
          simpa using h0
        have hv : v.cells.toList = [v] := by
          simp only [List.length_cons, List.length_nil, Nat.zero_add, hxs, List.map_cons, List.map_nil, List.cons.injEq, and_true] at hc
          cases v <;> simp [ckOf] at hc <;> rfl
        refine ⟨v, run_part_plain w hp hx, ?_, by rw [hv]; first | done | exact hxs.symm⟩
        unfold fmd; rw [hu]
        cases kd <;> simp at hk <;> exact hv
    cases hu : P.underlying e with
    | none => rw [hu] at h; cases h
    | some kd =>
      rw [hu] at h
      cases kd <;> try (cases h; done)
      case bool => injection h with h; exact one _ _ hu (by simp [Program.plainKey, hu]) rfl h.symm
      case int k => injection h with h; exact one _ _ hu (by simp [Program.plainKey, hu]) rfl h.symm
      case string => injection h with h; exact one _ _ hu (by simp [Program.plainKey, hu]) rfl h.symm
      case array n e' => exact agg _ hu rfl
      case struct fs => exact agg _ hu rfl
theorem step_cmp {d m : Nat} {e : TypeId} {ks : List CK} (h : cmpT P d e = some ks) (hl : ks.length = P.cellsOf e) (he : EqOk P m e ks) (w : World) (xs ys : Array Value) (off : Nat)
    (hx : ((xs.toList.drop off).take ks.length).map ckOf = ks.map some) (hy : ((ys.toList.drop off).take ks.length).map ckOf = ks.map some) :
    ∃ a b, (part e xs off).run P w = .ok a w ∧ (part e ys off).run P w = .ok b w ∧ (Op.equalIn m e a b).run P w = .ok (eqCells ((xs.toList.drop off).take ks.length) ((ys.toList.drop off).take ks.length)) w := by
  obtain ⟨a, p1, f1, c1⟩ := part_cmp h hl w xs off hx
  obtain ⟨b, p2, f2, c2⟩ := part_cmp h hl w ys off hy
  refine ⟨a, b, p1, p2, ?_⟩
  rw [he w a b f1 f2 (by rw [c1]; exact hx) (by rw [c2]; exact hy), c1, c2]
theorem drop_split {xs : List Value} {off : Nat} {ks ks' : List CK} (h : (xs.drop off).map ckOf = (ks ++ ks').map some) :
    ((xs.drop off).take ks.length).map ckOf = ks.map some ∧ (xs.drop (off + ks.length)).map ckOf = ks'.map some := by
  rw [List.map_append] at h
  have hl : (ks.map some).length = ks.length := List.length_map ..
  constructor
  · rw [List.map_take, h, ← hl, List.take_left]
  · rw [← List.drop_drop, List.map_drop, h, ← hl, List.drop_left]
theorem eq_split {xs ys : List Value} {off : Nat} {ks ks' : List CK} (hx : (xs.drop off).map ckOf = (ks ++ ks').map some) (hy : (ys.drop off).map ckOf = (ks ++ ks').map some) :
    eqCells (xs.drop off) (ys.drop off) = (eqCells ((xs.drop off).take ks.length) ((ys.drop off).take ks.length) && eqCells (xs.drop (off + ks.length)) (ys.drop (off + ks.length))) := by
  have e : ∀ l : List Value, l.drop off = (l.drop off).take ks.length ++ l.drop (off + ks.length) := fun l => by rw [← List.drop_drop, List.take_append_drop]
  conv => lhs; rw [e xs, e ys]
  refine eqCells_app _ _ _ _ ?_
  have h1 := congrArg List.length (drop_split hx).1
  have h2 := congrArg List.length (drop_split hy).1
  simp only [List.length_map] at h1 h2
  rw [h1, h2]
theorem eqFields_cmp {d m : Nat} (IH : ∀ e ks, cmpT P d e = some ks → EqOk P m e ks) (w : World) (xs ys : Array Value) : ∀ (fs : List Field) (off : Nat) (ks : List CK), cmpFs (cmpT P d) P.cellsOf off fs = some ks →
    (xs.toList.drop off).map ckOf = ks.map some → (ys.toList.drop off).map ckOf = ks.map some → (Op.eqFields m xs ys fs).run P w = .ok (eqCells (xs.toList.drop off) (ys.toList.drop off)) w
  | [], off, ks, h, hx, hy => by
    injection h with h; subst h
    simp only [List.map_nil, List.map_eq_nil_iff] at hx hy
    rw [hx, hy]; simp [Op.eqFields, eqCells]
  | f :: fs, off, ks, h, hx, hy => by
    unfold cmpFs at h
    split at h
    · rename_i hd
      obtain ⟨hn, ho⟩ := of_decide_eq_true hd
      obtain ⟨k1, hk, h⟩ := Option.bind_eq_some_iff.1 h
      split at h
      · rename_i hl
        obtain ⟨k2, h2, rfl⟩ := Option.map_eq_some_iff.1 h
        obtain ⟨x1, x2⟩ := drop_split hx
        obtain ⟨y1, y2⟩ := drop_split hy
        obtain ⟨a, b, p1, p2, p3⟩ := step_cmp hk (beq_iff_eq.1 hl) (IH _ _ hk) w xs ys off x1 y1
        have r := eqFields_cmp IH w xs ys fs _ k2 h2 x2 y2
        rw [eq_split hx hy]
        simp only [Op.eqFields, hn, ne_eq, not_false_eq_true, if_true, Sem.run_bind, ho, p1, p2, p3, Result.andThen_ok]
        cases eqCells ((xs.toList.drop off).take k1.length) ((ys.toList.drop off).take k1.length)
        · simp
        · simpa using r
      · cases h
    · cases h
theorem eqItems_cmp {d m : Nat} {e : TypeId} {ks : List CK} (hk : cmpT P d e = some ks) (hl : ks.length = P.cellsOf e) (IH : EqOk P m e ks) (w : World) (xs ys : Array Value) : ∀ (n j : Nat),
    (xs.toList.drop (j * P.cellsOf e)).map ckOf = ((List.replicate n ks).flatten).map some → (ys.toList.drop (j * P.cellsOf e)).map ckOf = ((List.replicate n ks).flatten).map some →
    (Op.eqItems m e (P.cellsOf e) xs ys (List.range' j n)).run P w = .ok (eqCells (xs.toList.drop (j * P.cellsOf e)) (ys.toList.drop (j * P.cellsOf e))) w
  | 0, j, hx, hy => by
    simp only [List.replicate_zero, List.flatten_nil, List.map_nil, List.map_eq_nil_iff] at hx hy
    rw [hx, hy]; simp [Op.eqItems, eqCells]
  | n + 1, j, hx, hy => by
    rw [List.replicate_succ, List.flatten_cons] at hx hy
    obtain ⟨x1, x2⟩ := drop_split hx
    obtain ⟨y1, y2⟩ := drop_split hy
    obtain ⟨a, b, p1, p2, p3⟩ := step_cmp hk hl IH w xs ys _ x1 y1
    have ej : j * P.cellsOf e + ks.length = (j + 1) * P.cellsOf e := by rw [hl, Nat.succ_mul]
    rw [ej] at x2 y2
    have r := eqItems_cmp hk hl IH w xs ys n (j + 1) x2 y2
    rw [eq_split hx hy, ej]
    simp only [List.range'_succ, Op.eqItems, Sem.run_bind, p1, p2, p3, Result.andThen_ok]
    cases eqCells ((xs.toList.drop (j * P.cellsOf e)).take ks.length) ((ys.toList.drop (j * P.cellsOf e)).take ks.length)
    · simp
    · simpa using r
theorem one_cell {v : Value} {k : CK} (h1 : v.cells.toList = [v]) (h : v.cells.toList.map ckOf = [k].map some) : ckOf v = some k := by
  rw [h1] at h; simpa using h
theorem equal_cmp (m : Nat) : ∀ (d : Nat) (t : TypeId) (ks : List CK), cmpT P d t = some ks → EqOk P (m + d) t ks
  | 0, _, _, h => by cases h
  | d + 1, t, ks, h => by
    intro w x y fx fy hx hy
    unfold cmpT at h
    unfold fmd at fx fy
    cases hu : P.underlying t with
    | none => rw [hu] at h; cases h
    | some kd =>
      rw [hu] at h fx fy
      cases kd <;> try (cases h; done)
      case bool =>
        injection h with h; subst h
        have a := one_cell fx hx
        have b := one_cell fy hy
        rw [fx, fy]
        cases x <;> simp [ckOf] at a
        cases y <;> simp [ckOf] at b
        simp only [eqCells, eqCell, Bool.and_true]
        exact run_equalIn_bool' w (m + d) t _ _ hu
      case int k =>
        injection h with h; subst h
        have a := one_cell fx hx
        have b := one_cell fy hy
        rw [fx, fy]
        cases x <;> simp [ckOf] at a
        cases y <;> simp [ckOf] at b
        subst a; subst b
        simp only [eqCells, eqCell, Bool.and_true]
        exact run_equalIn_int w (m + d) t _ _ _ _ hu
      case string =>
        injection h with h; subst h
        have a := one_cell fx hx
        have b := one_cell fy hy
        rw [fx, fy]
        cases x <;> simp [ckOf] at a
        cases y <;> simp [ckOf] at b
        simp only [eqCells, eqCell, Bool.and_true]
        exact run_equalIn_string w (m + d) t _ _ hu
      case array n e =>
        obtain ⟨xs, rfl⟩ := fx
        obtain ⟨ys, rfl⟩ := fy
        obtain ⟨k1, hk, h⟩ := Option.bind_eq_some_iff.1 h
        split at h
        · rename_i hl
          injection h with h; subst h
          have hi : ∃ i, P.info? e = some i := by
            cases d with
            | zero => cases hk
            | succ d =>
              unfold cmpT at hk
              cases hue : P.underlying e with
              | none => rw [hue] at hk; cases hk
              | some _ => exact info_of_underlying hue
          obtain ⟨i, hi⟩ := hi
          have := eqItems_cmp hk (beq_iff_eq.1 hl) (equal_cmp m d e k1 hk) w xs ys n 0 (by simpa [Value.cells] using hx) (by simpa [Value.cells] using hy)
          rw [show m + (d + 1) = (m + d) + 1 from rfl, run_equalIn_array w (m + d) xs ys hu hi, List.range_eq_range', this]
          simp [Value.cells]
        · cases h
      case struct fs =>
        obtain ⟨xs, rfl⟩ := fx
        obtain ⟨ys, rfl⟩ := fy
        have hfs : P.fieldsOf t = fs := by simp [Program.fieldsOf, hu]
        simp only at h
        split at h
        · cases h
        · rename_i hst
          have := eqFields_cmp (equal_cmp m d) w xs ys fs.toList 0 ks h (by simpa [Value.cells] using hx) (by simpa [Value.cells] using hy)
          rw [show m + (d + 1) = (m + d) + 1 from rfl, run_equalIn_struct w (m + d) t xs ys (by rw [hfs]; exact hu) hst, hfs, this]
          simp [Value.cells]
end
end Go.Proofs.YtgfmnpbcbpobbaaDoor.Am
/- An abstract machine over plain data: what each operation does to a state. No conditions. -/
namespace Go.Proofs.YtgfmnpbcbpobbaaDoor.Am
open Go

inductive TK where
  | int (k : IntKind)
  | bool
  | str
  | slice (e : TypeId)
  | arr (n : Nat) (e : TypeId)
  | struct (fs : List (Nat × Nat))
  | ptr (e : TypeId)
  | map (k v : TypeId)
  | other
/-- What the machine knows of a type: its kind, the number of its cells, its bytes, the zero value's cells. -/
structure TI where
  k : TK
  size : Nat
  bytes : Nat
  zero : List Value
  cmp : List CK := []
def TI.agg (i : TI) : Bool := match i.k with | .struct _ | .arr _ _ => true | _ => false
def constC : Value → AC
  | .slice none 0 0 => .nil
  | x => .d (.v x)
def constV : Value → AV
  | .agg cs => if cs.toList.all Value.oneCell' then .agg (cs.toList.map constC) else .any
  | .tuple _ => .any
  | x => .c (constC x)
def zeroD : Value → DV
  | .slice none 0 0 => .sl []
  | x => .v x
def Q.ofOpt {α : Type} : Option α → Q α
  | some a => .ret a
  | none => .fail
def ev : Operand → Q AV
  | .tmp k => .rdT k fun x => .req (x.g = true) (.ret x.x)
  | .const v => .ret (constV v)
  | .func f => .ret (.c (.d (.v (.func (.func f) #[] #[]))))
  | .global _ => .fail
def evs : List Operand → Q (List AV)
  | [] => .ret []
  | x :: xs => (ev x).bind fun v => (evs xs).bind fun vs => .ret (v :: vs)
def evps : List (Nat × Operand) → Q (List (Nat × AV))
  | [] => .ret []
  | p :: xs => (ev p.2).bind fun v => (evps xs).bind fun vs => .ret ((p.1, v) :: vs)
def Q.bool : AV → Q Bool
  | .c (.d (.v (.bool b))) => .ret b
  | _ => .fail
def Q.int : AV → Q Int
  | .c (.d (.v (.int _ n))) => .ret n
  | _ => .fail
def evo : Option Operand → Q (Option Int)
  | none => .ret none
  | some x => (ev x).bind fun v => (Q.int v).bind fun n => .ret (some n)
def AV.cells : AV → Q (List AC)
  | .c x => .ret [x]
  | .agg xs => .ret xs
  | _ => .fail
/-- A cell as data; the slices of the call's own that are read by it. -/
def toD : AC → Q (DV × List Nat)
  | .d x => .ret (x, [])
  | .nil => .ret (.sl [], [])
  | .row id ver => .rdR id fun r => match r.c with
    | some R => .req (ver = r.ver ∧ R.e < mapF) (.ret (.sl R.es, [id]))
    | none => .fail
  | _ => .fail
def toDs : List AC → Q (List DV × List Nat)
  | [] => .ret ([], [])
  | x :: xs => (toD x).bind fun d => (toDs xs).bind fun ds => .ret (d.1 :: ds.1, d.2 ++ ds.2)
/-- Slices that have been read as data are frozen. -/
def freeze : List Nat → Q (List Upd)
  | [] => .ret []
  | id :: ids => .rdR id fun r => match r.c with
    | some R => .req (R.e < mapF) ((freeze ids).bind fun us => .ret (match R.fr with | true => us | false => .r id ⟨r.ver, some ⟨R.es, R.sz, R.e, true⟩⟩ :: us))
    | none => .fail
def asV (sh : TI) (cs : List AC) : Q AV := match sh.agg with
  | true => .ret (.agg cs)
  | false => match cs with
    | [x] => .ret (.c x)
    | _ => .fail
def oneU (d : Option Nat) (x : AV) : List Upd := match d with
  | some d => [.t d ⟨true, x⟩]
  | none => []
def one (d : Option Nat) (x : AV) : Q (List Upd) := .ret (oneU d x)
def intBin (op : BinOp) (k : IntKind) (a b : Int) : Q Value := match op with
  | .add => .ret (.int k (k.wrap (a + b)))
  | .sub => .ret (.int k (k.wrap (a - b)))
  | .mul => .ret (.int k (k.wrap (a * b)))
  | .quo => .req (b ≠ 0) (.ret (.int k (k.wrap (a.tdiv b))))
  | .rem => .req (b ≠ 0) (.ret (.int k (a.tmod b)))
  | .and => .ret (.int k (k.wrap (BitVec.ofInt k.bits a &&& BitVec.ofInt k.bits b).toNat))
  | .or => .ret (.int k (k.wrap (BitVec.ofInt k.bits a ||| BitVec.ofInt k.bits b).toNat))
  | .xor => .ret (.int k (k.wrap (BitVec.ofInt k.bits a ^^^ BitVec.ofInt k.bits b).toNat))
  | .andNot => .ret (.int k (k.wrap (BitVec.ofInt k.bits a &&& ~~~(BitVec.ofInt k.bits b)).toNat))
  | .eql => .ret (.bool (decide (a = b)))
  | .neq => .ret (.bool (!decide (a = b)))
  | .lss => .ret (.bool (decide (a < b)))
  | .leq => .ret (.bool (decide (a ≤ b)))
  | .gtr => .ret (.bool (decide (b < a)))
  | .geq => .ret (.bool (decide (b ≤ a)))
  | _ => .fail
def shiftQ (op : BinOp) (k : IntKind) (a b : Int) : Q Value := match op with
  | .shl => .req (0 ≤ b) (.ret (.int k (k.wrap (a * 2 ^ (min b.toNat k.bits)))))
  | .shr => .req (0 ≤ b) (.ret (.int k (a.fdiv (2 ^ (min b.toNat k.bits)))))
  | _ => .fail
def strBin (op : BinOp) (a b : ByteArray) : Q Value := match op with
  | .add => .req (a.size + b.size ≤ 4611686018427387904) (.ret (.string (a ++ b)))
  | .eql => .ret (.bool (decide (a.data.toList = b.data.toList)))
  | .neq => .ret (.bool (!decide (a.data.toList = b.data.toList)))
  | .lss => .ret (.bool (Op.bytesLess a.data.toList b.data.toList))
  | .leq => .ret (.bool (Op.bytesLess a.data.toList b.data.toList || decide (a.data.toList = b.data.toList)))
  | .gtr => .ret (.bool (!(Op.bytesLess a.data.toList b.data.toList || decide (a.data.toList = b.data.toList))))
  | .geq => .ret (.bool (!Op.bytesLess a.data.toList b.data.toList))
  | _ => .fail
def isShift : BinOp → Bool
  | .shl | .shr => true
  | _ => false
def binV (op : BinOp) : Value → Value → Q Value
  | .int k a, .int k' b => match isShift op with
    | true => shiftQ op k a b
    | false => .req (k = k') (intBin op k a b)
  | .string a, .string b => strBin op a b
  | _, _ => .fail
/-- '==' on booleans and pointers, where the type is of that kind. -/
def dvs : List AC → Option (List Value)
  | [] => some []
  | .d (.v v) :: cs => (dvs cs).map (v :: ·)
  | _ :: _ => none
/-- .. on arrays and structs of them. -/
def eqA (i : TI) (xs ys : List AC) : Q Bool := match dvs xs, dvs ys with
  | some vs, some us => .req (i.agg = true ∧ i.cmp ≠ [] ∧ vs.map ckOf = i.cmp.map some ∧ us.map ckOf = i.cmp.map some) (.ret (eqCells vs us))
  | _, _ => .fail
def eqV (i : TI) (k : TK) : AV → AV → Q Bool
  | .agg xs, .agg ys => eqA i xs ys
  | .c (.d (.v (.bool a))), .c (.d (.v (.bool b))) => match k with | .bool => .ret (a == b) | _ => .fail
  | .c (.ptr id ver _), .c (.d (.v (.pointer none))) => match k with | .ptr _ => .rdB id fun b => .req (ver = b.ver ∧ b.c.isSome = true) (.ret false) | _ => .fail
  | .c (.d (.v (.pointer none))), .c (.d (.v (.pointer none))) => match k with | .ptr _ => .ret true | _ => .fail
  | _, _ => .fail
def isEq : BinOp → Option Bool
  | .eql => some true
  | .neq => some false
  | _ => none
def isScalar : AV → Bool
  | .c (.d (.v (.int _ _))) => true
  | .c (.d (.v (.string _))) => true
  | _ => false
def binQ (op : BinOp) (i : TI) (x y : AV) : Q AV := match isScalar x with
  | true => match x, y with
    | .c (.d (.v a)), .c (.d (.v b)) => (binV op a b).bind fun v => .req (v.oneCell' = true) (.ret (.c (.d (.v v))))
    | _, _ => .fail
  | false => match isEq op with
    | some e => (eqV i i.k x y).bind fun b => .ret (.c (.d (.v (.bool (match e with | true => b | false => !b)))))
    | none => .fail
def unQ (op : UnOp) : AV → Q AV
  | .c (.d (.v (.bool b))) => match op with | .not => .ret (.c (.d (.v (.bool (!b))))) | _ => .fail
  | .c (.d (.v (.int k n))) => match op with | .neg => .ret (.c (.d (.v (.int k (k.wrap (0 - n)))))) | .xor => .ret (.c (.d (.v (.int k (k.wrap (BitVec.ofInt k.bits (if k.signed then -1 else k.max) ^^^ BitVec.ofInt k.bits n).toNat))))) | _ => .fail
  | _ => .fail
def evG : Operand → Q GV
  | .tmp k => .rdT k .ret
  | .const v => .ret ⟨true, constV v⟩
  | .func f => .ret ⟨true, .c (.d (.v (.func (.func f) #[] #[])))⟩
  | .global _ => .fail
def pickQ (c : Bool) (x y : GV) : Q AV := match c with
  | true => .req (x.g = true) (.ret x.x)
  | false => .req (y.g = true) (.ret y.x)
def loadQ (i : TI) : AV → Q AV
  | .c (.ptr id ver off) => .rdB id fun b => match b.c with
    | some cs => .req (ver = b.ver ∧ off + i.size ≤ cs.length) (asV i ((cs.drop off).take i.size))
    | none => .fail
  | .c (.eptr cs) => .req (i.size ≤ cs.length) (asV i ((cs.take i.size).map .d))
  | .c (.rptr id ver k off sz) => .rdR id fun r => match r.c with
    | some R => .req (ver = r.ver ∧ sz = R.sz ∧ k < R.es.length ∧ off + i.size ≤ sz) (asV i ((((R.es.getD k []).drop off).take i.size).map .d))
    | none => .fail
  | _ => .fail
def setAt {α : Type} (l : List α) (off : Nat) (xs : List α) : List α := l.take off ++ xs ++ l.drop (off + xs.length)
def storeQ (i : TI) (x : List AC) : AV → Q (List Upd)
  | .c (.ptr id ver off) => .rdB id fun b => match b.c with
    | some cs => .req (ver = b.ver ∧ x.length = i.size ∧ off + i.size ≤ cs.length) (.ret [.b id ⟨b.ver, some (setAt cs off x)⟩])
    | none => .fail
  | .c (.rptr id ver k off sz) => (toDs x).bind fun d => (freeze d.2).bind fun us => .rdR id fun r => match r.c with
    | some R => .req (ver = r.ver ∧ sz = R.sz ∧ R.fr = false ∧ id ∉ d.2 ∧ k < R.es.length ∧ d.1.length = i.size ∧ off + i.size ≤ sz) (.ret (us ++ [.r id ⟨r.ver, some ⟨R.es.set k (setAt (R.es.getD k []) off d.1), R.sz, R.e, false⟩⟩]))
    | none => .fail
  | _ => .fail
def fieldQ (o : Nat) : AV → Q AV
  | .c (.ptr id ver off) => .rdB id fun b => .req (ver = b.ver ∧ b.c.isSome = true) (.ret (.c (.ptr id ver (off + o))))
  | .c (.eptr cs) => .ret (.c (.eptr (cs.drop o)))
  | .c (.rptr id ver k off sz) => .rdR id fun r => .req (ver = r.ver ∧ r.c.isSome = true) (.ret (.c (.rptr id ver k (off + o) sz)))
  | _ => .fail
def indexQ (z : Nat) (k : Int) : AV → Q AV
  | .c (.d (.sl es)) => .req (0 ≤ k ∧ k < es.length ∧ (es.getD k.toNat []).length = z) (.ret (.c (.eptr (es.getD k.toNat []))))
  | .c (.row id ver) => .rdR id fun r => match r.c with
    | some R => .req (ver = r.ver ∧ 0 ≤ k ∧ k < R.es.length ∧ R.sz = z ∧ R.e < mapF) (.ret (.c (.rptr id ver k.toNat 0 z)))
    | none => .fail
  | _ => .fail
def indexAQ (n z : Nat) (k : Int) : AV → Q AV
  | .c (.ptr id ver off) => .rdB id fun b => .req (0 ≤ k ∧ k < n ∧ ver = b.ver ∧ b.c.isSome = true) (.ret (.c (.ptr id ver (off + k.toNat * z))))
  | .c (.eptr cs) => .req (0 ≤ k ∧ k < n) (.ret (.c (.eptr (cs.drop (k.toNat * z)))))
  | .c (.rptr id ver i off sz) => .rdR id fun r => .req (0 ≤ k ∧ k < n ∧ ver = r.ver ∧ r.c.isSome = true) (.ret (.c (.rptr id ver i (off + k.toNat * z) sz)))
  | _ => .fail
def lenQ : AV → Q Nat
  | .c (.d (.sl es)) => .ret es.length
  | .c .nil => .ret 0
  | .c (.row id ver) => .rdR id fun r => match r.c with
    | some R => .req (ver = r.ver ∧ R.e < mapF) (.ret R.es.length)
    | none => .fail
  | _ => .fail
def strLenQ : AV → Q Nat
  | .c (.d (.v (.string s))) => .ret s.size
  | _ => .fail
def allLen (z : Nat) (es : List (List DV)) : Prop := ∀ e ∈ es, e.length = z
/-- 'x[lo:hi]' of data, or of a slice of the call's own, which is read as data by it. -/
def sliceQ (d z : Nat) (lo hi : Option Int) (x : AC) : Q (List Upd) := (toD x).bind fun y => (freeze y.2).bind fun us => match y.1 with
  | .sl es => .req (allLen z es ∧ 0 ≤ lo.getD 0 ∧ lo.getD 0 ≤ hi.getD es.length ∧ hi.getD es.length ≤ es.length) (.ret (us ++ [.t d ⟨true, .c (.d (.sl ((es.take (hi.getD es.length).toNat).drop (lo.getD 0).toNat)))⟩]))
  | _ => .fail
def sliceSQ (lo hi : Option Int) : AV → Q AV
  | .c (.d (.v (.string s))) => .req (0 ≤ lo.getD 0 ∧ lo.getD 0 ≤ hi.getD s.size ∧ hi.getD s.size ≤ s.size) (.ret (.c (.d (.v (.string (s.extract (lo.getD 0).toNat (hi.getD s.size).toNat))))))
  | _ => .fail
def indexSQ (k : Int) : AV → Q AV
  | .c (.d (.v (.string s))) => .req (0 ≤ k ∧ k < s.size) (.ret (.c (.d (.v (.int .u8 ((s.data.toList.getD k.toNat 0).toNat : Int))))))
  | _ => .fail
def fillC (place : Nat → Option (Nat × Nat)) (cs : List AC) : List (Nat × AV) → Q (List AC)
  | [] => .ret cs
  | p :: rest => p.2.cells.bind fun v => match place p.1 with
    | some q => .req (v.length = q.2 ∧ q.1 + q.2 ≤ cs.length) (fillC place (setAt cs q.1 v) rest)
    | none => .fail
def toDps : List (Nat × AV) → Q (List (Nat × List DV) × List Nat)
  | [] => .ret ([], [])
  | p :: ps => p.2.cells.bind fun cs => (toDs cs).bind fun d => (toDps ps).bind fun ds => .ret ((p.1, d.1) :: ds.1, d.2 ++ ds.2)
/-- The parts of a literal slice: the cells of each element. -/
def fillR (z : Nat) (es : List (List DV)) : List (Nat × List DV) → Q (List (List DV))
  | [] => .ret es
  | p :: rest => .req (p.2.length = z ∧ p.1 < es.length) (fillR z (es.set p.1 p.2) rest)
/-- 'append(x, y...)': the new slice bears the slot's number. -/
def appendQ (d e z by_ : Nat) (x y : AC) : Q (List Upd) :=
  (toD y).bind fun y => match y.1 with
    | .sl ys => .req (allLen z ys ∧ e < mapF) ((freeze y.2).bind fun us => .rdR d fun rd => match x with
      | .nil => .req (ys.length * by_ ≤ 140737488355328 ∧ ys.length ≤ 4611686018427387904) (.ret (us ++ [.r d ⟨rd.ver + 1, some ⟨ys, z, e, false⟩⟩, .t d ⟨true, .c (.row d (rd.ver + 1))⟩]))
      | .row id ver => .rdR id fun r => match r.c with
        | some R => .req (ver = r.ver ∧ R.sz = z ∧ R.e = e ∧ (R.es.length + ys.length) * by_ ≤ 140737488355328 ∧ R.es.length + ys.length ≤ 4611686018427387904)
          (.ret (us ++ [.r id ⟨r.ver, none⟩, .r d ⟨rd.ver + 1, some ⟨R.es ++ ys, z, e, R.fr || y.2.contains id⟩⟩, .t d ⟨true, .c (.row d (rd.ver + 1))⟩]))
        | none => .fail
      | _ => .fail)
    | _ => .fail
def byteC (x : UInt8) : List DV := [.v (.int .u8 x.toNat)]
def unByte : List DV → UInt8
  | [.v (.int _ n)] => UInt8.ofNat n.toNat
  | _ => 0
/-- 'string(x)' of bytes: they are read alone. -/
def bytesQ : DV → Q (List UInt8)
  | .sl es => .req (es = (es.map unByte).map byteC) (.ret (es.map unByte))
  | _ => .fail
/-! ### Maps whose keys are numbers or strings -/
/-- Such a map's type, as its row bears it. -/
def mE (b : Bool) : Nat := mapF + 4 + b.toNat
def KK (k : TK) (v : Value) : Prop := match k, v with
  | .int q, .int q' _ => q' = q
  | .str, .string _ => True
  | _, _ => False
def keyV : AC → Q Value
  | .d (.v (.int k n)) => .ret (.int k n)
  | .d (.v (.string s)) => .ret (.string s)
  | _ => .fail
def kOf : List DV → Value
  | .v x :: _ => x
  | _ => undef
def sameKV : Value → Value → Bool
  | .int _ a, .int _ b => decide (a = b)
  | .string a, .string b => decide (a.data.toList = b.data.toList)
  | _, _ => false
/-- The first entry at a key. -/
def idxM (k : Value) : List (List DV) → Option Nat
  | [] => none
  | e :: es => if sameKV k (kOf e) then some 0 else (idxM k es).map (· + 1)
def lookM (k : Value) (es : List (List DV)) : Option (List DV) := (idxM k es).map fun i => (es.getD i []).drop 1
def updM (k : Value) (x : List DV) (es : List (List DV)) : List (List DV) := match idxM k es with
  | some i => es.set i (.v k :: x)
  | none => es ++ [.v k :: x]
def delM (k : Value) (es : List (List DV)) : List (List DV) := match idxM k es with
  | some i => es.eraseIdx i
  | none => es
def allKey (k : TK) (es : List (List DV)) : Prop := ∀ e ∈ es, ∃ v r, e = .v v :: r ∧ KK k v
def okV (ok : Bool) (x : AV) (b : Bool) : AV := match ok with
  | true => .tup [x, .c (.d (.v (.bool b)))]
  | false => x
def keyQ : AV → Q Value
  | .c x => keyV x
  | _ => .fail
def lookQ (ik iv : TI) (kv : Value) : AV → Q (List DV × Bool)
  | .c (.row id ver) => .rdR id fun r => match r.c with
    | some R => .req (ver = r.ver ∧ R.e = mE iv.agg ∧ KK ik.k kv ∧ allKey ik.k R.es) (.ret ((lookM kv R.es).getD (iv.zero.map zeroD), (idxM kv R.es).isSome))
    | none => .fail
  | _ => .fail
def cellsA (ag : Bool) : AV → Q (List AC)
  | .c x => .req (ag = false) (.ret [x])
  | .agg xs => .req (ag = true) (.ret xs)
  | _ => .fail
def updQ (ik iv : TI) (kv : Value) (x : List AC) : AV → Q (List Upd)
  | .c (.row id ver) => (toDs x).bind fun d => (freeze d.2).bind fun us => .rdR id fun r => match r.c with
    | some R => .req (ver = r.ver ∧ R.e = mE iv.agg ∧ R.sz = 1 + iv.size ∧ R.fr = false ∧ id ∉ d.2 ∧ d.1.length = iv.size ∧ KK ik.k kv ∧ allKey ik.k R.es) (.ret (us ++ [.r id ⟨r.ver, some ⟨updM kv d.1 R.es, R.sz, R.e, false⟩⟩]))
    | none => .fail
  | _ => .fail
def delQ (ik iv : TI) (kv : Value) : AV → Q (List Upd)
  | .c (.row id ver) => .rdR id fun r => match r.c with
    | some R => .req (ver = r.ver ∧ R.e = mE iv.agg ∧ R.fr = false ∧ KK ik.k kv ∧ allKey ik.k R.es) (.ret [.r id ⟨r.ver, some ⟨delM kv R.es, R.sz, R.e, false⟩⟩])
    | none => .fail
  | _ => .fail
def mapLenQ : AV → Q Nat
  | .c (.row id ver) => .rdR id fun r => match r.c with
    | some R => .req (ver = r.ver ∧ mapF ≤ R.e ∧ R.e ≠ iterF) (.ret R.es.length)
    | none => .fail
  | _ => .fail
/-! ### Strings walked over; interface values -/
def extractQ (k : Nat) : AV → Q AV
  | .tup xs => Q.ofOpt xs[k]?
  | .nx b x y => match k with
    | 0 => .ret (.c (.d (.v (.bool b))))
    | 1 => .req (b = true) (.ret (.c x))
    | 2 => .req (b = true) (.ret (.c y))
    | _ => .fail
  | _ => .fail
def rangeQ (k : TK) (d : Nat) (x : AV) : Q (List Upd) := match k, x with
  | .str, .c (.d (.v (.string s))) => .rdR d fun r => .ret [.r d ⟨r.ver + 1, some ⟨[[.v (.string s), .v (.int .i64 0)]], 2, iterF, false⟩⟩, .t d ⟨true, .c (.row d (r.ver + 1))⟩]
  | _, _ => .fail
def iterS : List (List DV) → ByteArray
  | [.v (.string s), _] :: _ => s
  | _ => ⟨#[]⟩
def iterP : List (List DV) → Int
  | [_, .v (.int _ p)] :: _ => p
  | _ => 0
def nextP (s : ByteArray) (p : Int) : Int := if p.toNat < s.size then ((p.toNat + (Utf8.decode s p.toNat).2 : Nat) : Int) else p
def nextQ (d : Nat) : AV → Q (List Upd)
  | .c (.row id ver) => .rdR id fun r => match r.c with
    | some R => .req (ver = r.ver ∧ R.e = iterF ∧ R.fr = false) (.ret [.r id ⟨r.ver, some ⟨[[.v (.string (iterS R.es)), .v (.int .i64 (nextP (iterS R.es) (iterP R.es)))]], R.sz, R.e, false⟩⟩,
      .t d ⟨true, .nx (decide ((iterP R.es).toNat < (iterS R.es).size)) (.d (.v (.int .i64 (iterP R.es)))) (.d (.v (.int .i32 (((Utf8.decode (iterS R.es) (iterP R.es).toNat).1 : Nat) : Int))))⟩])
    | none => .fail
  | _ => .fail
/-- A type that is no interface, as the table knows it. -/
def TK.conc : TK → Bool
  | .other => false
  | _ => true
def zeroA (i : TI) : Q AV := match i.agg with
  | true => .ret (.agg (i.zero.map constC))
  | false => match i.zero with
    | [z] => .ret (.c (constC z))
    | _ => .fail
def assertQ (i : TI) (t : TypeId) : AV → Q AV
  | .c (.d (.it t' x)) => .req (i.k.conc = true ∧ i.agg = false) (match decEq t' t with
    | .isTrue _ => .ret (.tup [.c (.d x), .c (.d (.v (.bool true)))])
    | .isFalse _ => (zeroA i).bind fun z => .ret (.tup [z, .c (.d (.v (.bool false)))]))
  | _ => .fail
section
variable (T : TypeId → Option TI) (cq : Oper → Call → Q (List Upd))
def tq (t : TypeId) : Q TI := .ofOpt (T t)
def opQ (o : Oper) : Q (List Upd) := match o.op with
  | .move x => (ev x).bind (one o.dst)
  | .assign x => (ev x).bind (one o.dst)
  | .pick c a b => (ev c).bind fun c => (Q.bool c).bind fun c => (evG a).bind fun a => (evG b).bind fun b => (pickQ c a b).bind (one o.dst)
  | .alloc t => (tq T t).bind fun i => (Q.ofOpt o.dst).bind fun d => .rdB d fun b => .ret [.b d ⟨b.ver + 1, some (i.zero.map constC)⟩, .t d ⟨true, .c (.ptr d (b.ver + 1) 0)⟩]
  | .box _t x => (Q.ofOpt o.dst).bind fun d => (ev x).bind fun v => v.cells.bind fun cs => .rdB d fun b => .ret [.b d ⟨b.ver + 1, some cs⟩, .t d ⟨true, .c (.ptr d (b.ver + 1) 0)⟩]
  | .build t parts => (tq T t).bind fun i => (evps parts.toList).bind fun ps => match i.k with
    | .struct fs => (fillC (fs[·]?) (i.zero.map constC) ps).bind fun cs => one o.dst (.agg cs)
    | .arr _ e => (tq T e).bind fun ie => (fillC (fun j => some (j * ie.size, ie.size)) (i.zero.map constC) ps).bind fun cs => one o.dst (.agg cs)
    | _ => .fail
  | .buildSlice t len parts => (tq T t).bind fun i => (Q.ofOpt o.dst).bind fun d => match i.k with
    | .slice e => (tq T e).bind fun ie => .req (len * ie.size ≤ 16777216 ∧ 0 < ie.size ∧ (len = 0 → parts.size = 0) ∧ e < mapF) ((evps parts.toList).bind fun ps => (toDps ps).bind fun y => (freeze y.2).bind fun us => (fillR ie.size (List.replicate len (ie.zero.map zeroD)) y.1).bind fun es =>
      .rdR d fun r => .ret (us ++ [.r d ⟨r.ver + 1, some ⟨es, ie.size, e, false⟩⟩, .t d ⟨true, .c (.row d (r.ver + 1))⟩]))
    | _ => .fail
  | .load t a => (tq T t).bind fun i => (ev a).bind fun a => (loadQ i a).bind (one o.dst)
  | .store t a x => match o.dst with
    | some _ => .fail
    | none => (tq T t).bind fun i => (ev a).bind fun a => (ev x).bind fun x => x.cells.bind fun cs => storeQ i cs a
  | .nilCheck x => (ev x).bind fun x => match x with
    | .c (.ptr id ver _off) => .rdB id fun b => .req (ver = b.ver ∧ b.c.isSome = true) (one o.dst x)
    | .c (.eptr _) => one o.dst x
    | .c (.rptr id ver _ _ _) => .rdR id fun r => .req (ver = r.ver ∧ r.c.isSome = true) (one o.dst x)
    | .c (.d (.v (.func (.func _) _ _))) => one o.dst x
    | _ => .fail
  | .binOp op t x y _ => (tq T t).bind fun i => (ev x).bind fun x => (ev y).bind fun y => (binQ op i x y).bind (one o.dst)
  | .unOp op _ x => (ev x).bind fun x => (unQ op x).bind (one o.dst)
  | .convert src dst x => (tq T src).bind fun i => (tq T dst).bind fun j => (ev x).bind fun x => match i.k, j.k with
    | .int _, .int k => (Q.int x).bind fun n => one o.dst (.c (.d (.v (.int k (k.wrap n)))))
    | .str, .str => match x with
      | .c (.d (.v (.string _))) => one o.dst x
      | _ => .fail
    | .slice e, .str => (tq T e).bind fun ie => match ie.k with
      | .int .u8 => match x with
        | .c x => (toD x).bind fun y => (bytesQ y.1).bind fun l => one o.dst (.c (.d (.v (.string ⟨l.toArray⟩))))
        | _ => .fail
      | _ => .fail
    | .str, .slice e => (tq T e).bind fun ie => match ie.k with
      | .int .u8 => match x with
        | .c (.d (.v (.string str))) => .req (str.size ≤ maxLen) (one o.dst (.c (.d (.sl (str.data.toList.map byteC)))))
        | _ => .fail
      | _ => .fail
    | _, _ => .fail
  | .slice t x lo hi none => (tq T t).bind fun i => (ev x).bind fun x => (evo lo).bind fun l => (evo hi).bind fun h => match i.k with
      | .slice e => (tq T e).bind fun ie => match x with
        | .c x => (Q.ofOpt o.dst).bind fun d => sliceQ d ie.size l h x
        | _ => .fail
      | .str => (sliceSQ l h x).bind (one o.dst)
      | _ => .fail
  | .fieldAddr t x f => (tq T t).bind fun i => match i.k with
    | .struct fs => (Q.ofOpt fs[f]?).bind fun p => (ev x).bind fun x => (fieldQ p.1 x).bind (one o.dst)
    | _ => .fail
  | .indexAddr t x k => (tq T t).bind fun i => (ev x).bind fun x => (ev k).bind fun k => (Q.int k).bind fun k => match i.k with
    | .slice e => (tq T e).bind fun ie => (indexQ ie.size k x).bind (one o.dst)
    | .arr n e => (tq T e).bind fun ie => (indexAQ n ie.size k x).bind (one o.dst)
    | _ => .fail
  | .index t x k => (tq T t).bind fun i => (ev x).bind fun x => (ev k).bind fun k => (Q.int k).bind fun k => match i.k with
    | .str => (indexSQ k x).bind (one o.dst)
    | _ => .fail
  | .extract x k => (ev x).bind fun x => (extractQ k x).bind (one o.dst)
  | .makeSlice t l c => (tq T t).bind fun i => (Q.ofOpt o.dst).bind fun d => (ev l).bind fun l => (Q.int l).bind fun l => (ev c).bind fun c => (Q.int c).bind fun c => match i.k with
    | .slice e => (tq T e).bind fun ie => .req (0 < ie.size ∧ 0 ≤ l ∧ l ≤ c ∧ (ie.bytes : Int) * c ≤ 281474976710656 ∧ c ≤ 4611686018427387904 ∧ e < mapF) (.rdR d fun r =>
      .ret [.r d ⟨r.ver + 1, some ⟨List.replicate l.toNat (ie.zero.map zeroD), ie.size, e, false⟩⟩, .t d ⟨true, .c (.row d (r.ver + 1))⟩])
    | _ => .fail
  | .makeMap t r => (tq T t).bind fun i => (Q.ofOpt o.dst).bind fun d => (evo r).bind fun _ => match i.k with
    | .map _ vt => (tq T vt).bind fun iv => .rdR d fun r => .ret [.r d ⟨r.ver + 1, some ⟨[], 1 + iv.size, mE iv.agg, false⟩⟩, .t d ⟨true, .c (.row d (r.ver + 1))⟩]
    | _ => .fail
  | .lookup t m k ok => (tq T t).bind fun i => (ev m).bind fun m => (ev k).bind fun k => match i.k with
    | .map kt vt => (tq T kt).bind fun ik => (tq T vt).bind fun iv => (keyQ k).bind fun kv => (lookQ ik iv kv m).bind fun p => (asV iv (p.1.map .d)).bind fun x => one o.dst (okV ok x p.2)
    | _ => .fail
  | .mapUpdate t m k x => match o.dst with
    | some _ => .fail
    | none => (tq T t).bind fun i => (ev m).bind fun m => (ev k).bind fun k => (ev x).bind fun x => match i.k with
      | .map kt vt => (tq T kt).bind fun ik => (tq T vt).bind fun iv => (keyQ k).bind fun kv => (cellsA iv.agg x).bind fun cs => updQ ik iv kv cs m
      | _ => .fail
  | .range t x => (tq T t).bind fun i => (Q.ofOpt o.dst).bind fun d => (ev x).bind fun x => rangeQ i.k d x
  | .next x true => (Q.ofOpt o.dst).bind fun d => (ev x).bind fun x => nextQ d x
  | .makeInterface t x => (tq T t).bind fun i => (Q.ofOpt o.dst).bind fun d => (ev x).bind fun x => match x with
    | .c x => .req (i.k.conc = true) ((toD x).bind fun y => (freeze y.2).bind fun us => .ret (us ++ [.t d ⟨true, .c (.d (.it t y.1))⟩]))
    | _ => .fail
  | .typeAssert x _ t true => (tq T t).bind fun i => (ev x).bind fun x => (assertQ i t x).bind (one o.dst)
  | .call c => cq o c
  | _ => .fail
def skipU (d : Option Nat) : List Upd := match d with
  | some d => [.t d ⟨false, .any⟩]
  | none => []
/-- An operation of a region, whether it is carried out or not, as one question. -/
def opD (ops : List Oper) (o : Oper) : Q (List Upd) := match o.guard with
  | none => opQ T cq o
  | some (j, want) => match (ops[j]?).bind (·.dst) with
    | some d => .rdT d fun x => match x.g with
      | false => .ret (skipU o.dst)
      | true => (Q.bool x.x).bind fun b => match b == want with
        | true => opQ T cq o
        | false => .ret (skipU o.dst)
    | none => .fail
def wpO (ops : List Oper) (o : Oper) (s : St) (K : List Upd → Prop) : Prop := (opD T cq ops o).wp s K
end
end Go.Proofs.YtgfmnpbcbpobbaaDoor.Am
/- An abstract machine over plain data: runs of the model's operations, and of memory. No conditions. -/
namespace Go.Proofs.YtgfmnpbcbpobbaaDoor.Am
open Go

def isAggV : Value → Bool
  | .agg _ => true
  | _ => false
/-- What the program's table says of a type. -/
structure TOk (P : Program) (t : TypeId) (i : TI) : Prop where
  info : ∃ inf z, P.info? t = some inf ∧ inf.size = i.size ∧ inf.bytes = i.bytes ∧ inf.zero = some z ∧ z.cells.toList = i.zero ∧ i.zero.length = i.size ∧ (i.zero.all Value.oneCell') = true
  und : ∃ d, P.underlying t = some d ∧ match i.k with
    | .int k => d = .int k
    | .bool => d = .bool
    | .str => d = .string
    | .slice e => d = .slice e
    | .arr n e => d = .array n e
    | .struct fs => ∃ fields : Array Field, d = .struct fields ∧ fields.toList.map (fun f => (f.offset, P.cellsOf f.type)) = fs ∧ (fields.toList.all fun f => decide (0 < P.cellsOf f.type) && (P.info? f.type).isSome) = true
    | .ptr e => d = .pointer e
    | .map k v => d = .map k v
    | .other => (match d with | .struct _ | .array _ _ => false | _ => true) = true
  agg : ∀ inf z, P.info? t = some inf → inf.zero = some z → isAggV z = i.agg
  cmp : i.cmp ≠ [] → (∃ d, d ≤ 10000 ∧ cmpT P d t = some i.cmp) ∧ P.eqGuardType P.depth t = false
theorem TOk.mk' {P : Program} {t : TypeId} {i : TI} (hinfo : (P.info? t).map (fun j => (j.zero.map (fun z => (z.cells.toList, isAggV z)), j.size, j.bytes)) = some (some (i.zero, i.agg), i.size, i.bytes)) (hlen : i.zero.length = i.size) (hone : (i.zero.all Value.oneCell') = true)
    (und : ∃ d, P.underlying t = some d ∧ match i.k with
    | .int k => d = .int k
    | .bool => d = .bool
    | .str => d = .string
    | .slice e => d = .slice e
    | .arr n e => d = .array n e
    | .struct fs => ∃ fields : Array Field, d = .struct fields ∧ fields.toList.map (fun f => (f.offset, P.cellsOf f.type)) = fs ∧ (fields.toList.all fun f => decide (0 < P.cellsOf f.type) && (P.info? f.type).isSome) = true
    | .ptr e => d = .pointer e
    | .map k v => d = .map k v
    | .other => (match d with | .struct _ | .array _ _ => false | _ => true) = true)
    (cmp : i.cmp ≠ [] → (∃ d, d ≤ 10000 ∧ cmpT P d t = some i.cmp) ∧ P.eqGuardType P.depth t = false := by exact fun h => (h rfl).elim) : TOk P t i := by
  refine ⟨?_, und, fun inf z hi hz => ?_, cmp⟩
  rotate_left
  · rw [hi] at hinfo
    simp only [Option.map_some, hz, Option.some.injEq, Prod.mk.injEq] at hinfo
    exact hinfo.1.2
  cases hi : P.info? t with
  | none => rw [hi] at hinfo; cases hinfo
  | some inf =>
    rw [hi] at hinfo
    simp only [Option.map_some, Option.some.injEq, Prod.mk.injEq] at hinfo
    obtain ⟨h1, h2, h3⟩ := hinfo
    cases hz : inf.zero with
    | none => rw [hz] at h1; cases h1
    | some z =>
      rw [hz] at h1
      simp only [Option.map_some, Option.some.injEq, Prod.mk.injEq] at h1
      exact ⟨inf, z, rfl, h2, h3, hz, h1.1, hlen, hone⟩
section
variable {P : Program} {t : TypeId} {i : TI}
theorem TOk.sizeOf (h : TOk P t i) (w : World) : (Go.sizeOf t).run P w = .ok i.size w := by
  obtain ⟨inf, z, h1, h2, _⟩ := h.info
  simp [Go.sizeOf, typeInfo, h1, h2]
theorem TOk.zeroV (h : TOk P t i) (w : World) : ∃ z, (zeroValue t).run P w = .ok z w ∧ z.cells.toList = i.zero := by
  obtain ⟨inf, z, h1, _, _, h4, h5, _⟩ := h.info
  exact ⟨z, by simp [zeroValue, typeInfo, h1, h4], h5⟩
theorem TOk.isAgg (h : TOk P t i) (w : World) : (Go.isAgg t).run P w = .ok i.agg w := by
  obtain ⟨d, h1, h2⟩ := h.und
  have hu := run_underlying h1 w
  unfold Go.isAgg
  rw [Sem.run_bind, hu, Result.andThen_ok]
  unfold TI.agg
  cases hk : i.k <;> rw [hk] at h2 <;> simp only at h2
  case struct fs => obtain ⟨fields, rfl, _⟩ := h2; rfl
  case other => cases d <;> simp_all
  all_goals subst h2; rfl
theorem run_loadVar (h : TOk P t i) {w : World} {ad : Addr} {xs : List Value} (hl : xs.length = i.size) (hc : ∀ j u, xs[j]? = some u → w.cell? (ad.add j) = some u) :
    (i.agg = true → (loadVar t ad).run P w = .ok (.agg xs.toArray) w) ∧ (i.agg = false → ∀ x, xs = [x] → (loadVar t ad).run P w = .ok x w) := by
  refine ⟨fun ha => ?_, fun ha x hx => ?_⟩
  · unfold loadVar
    simp only [Sem.run_bind, h.isAgg, Result.andThen_ok, ha, if_true, h.sizeOf]
    rw [← hl, run_loadCells_list w ad xs hc]
    rfl
  · subst hx
    have h0 := hc 0 x rfl
    rw [add_zero] at h0
    unfold loadVar
    simp only [Sem.run_bind, h.isAgg, Result.andThen_ok, ha]
    simp [h0]
theorem setCells_row (g : Nat) (ty : TypeId) : ∀ (vs : List Value) (o : Nat) (w : World) (cur : Array Value), w.heap[g]? = some (.cells cur ty (0, 0)) → o + vs.length ≤ cur.size →
    ∃ cur' : Array Value, (w.setCells g o vs).heap[g]? = some (.cells cur' ty (0, 0)) ∧ cur'.toList = setAt cur.toList o vs
  | [], o, w, cur, h, hl => ⟨cur, h, by simp [setAt]⟩
  | v :: vs, o, w, cur, h, hl => by
    simp only [List.length_cons] at hl
    have h1 := heap_setCell_same w g o cur ty v h
    obtain ⟨cur', h2, h3⟩ := setCells_row g ty vs (o + 1) (w.setCell ⟨g, o, none⟩ v) (cur.setIfInBounds o v) h1 (by simp; omega)
    refine ⟨cur', h2, ?_⟩
    rw [h3]
    simp only [setAt, Array.toList_setIfInBounds, List.length_cons]
    have hs : cur.toList.length = cur.size := Array.length_toList
    rw [List.take_set, List.drop_set, if_pos (by omega)]
    have e1 : (cur.toList.take (o + 1)).set o v = cur.toList.take o ++ [v] := by
      rw [List.take_succ_eq_append_getElem (by omega), List.set_append_right _ _ (by simp; omega)]
      simp [List.length_take, Nat.min_eq_left (show o ≤ cur.size by omega)]
    rw [e1]
    simp [Nat.add_assoc, Nat.add_comm 1]
theorem setCells_other (g : Nat) (k : Nat) (hk : k ≠ g) : ∀ (vs : List Value) (o : Nat) (w : World), (w.setCells g o vs).heap[k]? = w.heap[k]?
  | [], _, _ => rfl
  | v :: vs, o, w => (setCells_other g k hk vs (o + 1) _).trans (heap_setCell_other w ⟨g, o, none⟩ k v hk)
theorem setCells_facts (g : Nat) : ∀ (vs : List Value) (o : Nat) (w : World), (w.setCells g o vs).os = w.os ∧ (w.setCells g o vs).tape = w.tape ∧ (w.setCells g o vs).output = w.output ∧ (w.setCells g o vs).heap.size = w.heap.size
  | [], _, _ => ⟨rfl, rfl, rfl, rfl⟩
  | v :: vs, o, w => by
    obtain ⟨h1, h2, h3, h4⟩ := setCells_facts g vs (o + 1) (w.setCell ⟨g, o, none⟩ v)
    exact ⟨h1, h2, h3, h4.trans (by simp [World.setCell])⟩
theorem setCells_grown (g o : Nat) (vs : List Value) (w : World) : w.grownBy (w.setCells g o vs) (some g) := by
  obtain ⟨h1, h2, h3, h4⟩ := setCells_facts g vs o w
  exact ⟨h1, h2, h3, Nat.le_of_eq h4.symm, fun k _ hk => setCells_other g k (fun e => hk (by rw [e])) vs o w⟩
theorem run_storeVar (h : TOk P t i) {w : World} {g off : Nat} {cur : Array Value} {ty : TypeId} (hg : w.heap[g]? = some (.cells cur ty (0, 0))) {v : Value} {vs : List Value} (hv : v.cells.toList = vs) (hl : vs.length = i.size) (hr : off + vs.length ≤ cur.size) (h1 : ∀ u ∈ vs, u.oneCell' = true) :
    (storeVar t ⟨g, off, none⟩ v).run P w = .ok () (w.setCells g off vs) := by
  have hsz : v.cells.size = i.size := by rw [← hl, ← hv, Array.length_toList]
  unfold storeVar
  simp only [Sem.run_bind, h.sizeOf, Result.andThen_ok, hsz, ne_eq, not_true_eq_false, if_false]
  rw [hv]
  exact run_storeCells_cells (P := P) g off vs 0 w (fun j hj => by rw [cell_of_row w g _ cur ty _ hg]; simp; omega) (fun j _ => frozen_of_row w g _ cur ty hg) h1
end
end Go.Proofs.YtgfmnpbcbpobbaaDoor.Am
/- An abstract machine over plain data: its operations are sound. No conditions. -/
namespace Go.Proofs.YtgfmnpbcbpobbaaDoor.Am
open Go

/-- An operation does to the state what 'q' says. -/
def OpOk (P : Program) (o : Oper) (q : Q (List Upd)) : Prop := ∀ (W0 : World) (M : Own) (s : St) (a : Act) (w : World) (K : List Upd → Prop) (Q' : Exit → Act → World → Prop),
  (∀ d, o.dst = some d → d < s.n) → RelE W0 M s a w → q.wp s K → o.wp P a w (fun a' w' => ∃ us, K us ∧ RelE W0 M (s.app us) a' w') Q'

section
variable {P : Program} {W0 : World} {M : Own} {G : Gh} {s : St} {a : Act} {w : World} {o : Oper} {K : List Upd → Prop} {Q' : Exit → Act → World → Prop}
theorem wp_value {w' : World} {v : Value} {next : Act → World → Prop} (h : (execOp a.eval o).run P w = .ok (.value v) w') (hn : next (a.put o.dst v) w') : o.wp P a w next Q' := by
  unfold Oper.wp; rw [h]; exact hn
theorem wp_skip' {w' : World} {next : Act → World → Prop} (h : (execOp a.eval o).run P w = .ok .skip w') (hn : next (a.put o.dst undef) w') : o.wp P a w next Q' := by
  unfold Oper.wp; rw [h]; exact hn
theorem Rel.putOne (h : Rel W0 M G s a w) (hd : ∀ d, o.dst = some d → d < s.n) {x : AV} {v : Value} (hx : AVr G s w x v) : RelE W0 M (s.app (oneU o.dst x)) (a.put o.dst v) w := by
  cases hod : o.dst with
  | none => exact ⟨G, h⟩
  | some d => exact ⟨G, h.put (hd d hod) ⟨fun _ => hx, fun e => by cases e⟩⟩
theorem ok_one (h : Rel W0 M G s a w) (hd : ∀ d, o.dst = some d → d < s.n) {x : AV} {v : Value} (hx : AVr G s w x v) (hK : K (oneU o.dst x)) (hr : (execOp a.eval o).run P w = .ok (.value v) w) :
    o.wp P a w (fun a' w' => ∃ us, K us ∧ RelE W0 M (s.app us) a' w') Q' := wp_value hr ⟨_, hK, h.putOne hd hx⟩
theorem constC_ok {v : Value} (h : v.oneCell' = true) : ACr G s w (constC v) v := by
  unfold constC
  split
  · simp [ACr]
  · simp [ACr, DVr, h]
theorem constCs_ok : ∀ {vs : List Value}, (vs.all Value.oneCell') = true → ACs G s w (vs.map constC) vs
  | [], _ => by simp [ACs]
  | v :: vs, h => by
    simp only [List.all_cons, Bool.and_eq_true] at h
    simp only [List.map_cons, ACs]
    exact ⟨v, vs, rfl, constC_ok h.1, constCs_ok h.2⟩
theorem constV_ok (v : Value) : AVr G s w (constV v) v := by
  unfold constV
  split
  · split
    · simp only [AVr]
      exact ⟨_, rfl, constCs_ok (by assumption)⟩
    · simp only [AVr]
  · simp only [AVr]
  · rename_i h1 h2
    simp only [AVr]
    refine constC_ok ?_
    cases v <;> first | rfl | exact (h1 _ rfl).elim | exact (h2 _ rfl).elim
theorem ev_ok (h : Rel W0 M G s a w) {x : Operand} {K : AV → Prop} (hq : (ev x).wp s K) : ∃ v, K v ∧ AVr G s w v (a.eval x) := by
  cases x with
  | tmp k =>
    simp only [ev, Q.wp] at hq
    exact ⟨_, hq.2, (h.tm k).1 hq.1⟩
  | const v => exact ⟨_, hq, constV_ok v⟩
  | global g => exact hq.elim
  | func f =>
    refine ⟨_, hq, ?_⟩
    simp only [AVr, ACr, DVr]
    exact ⟨rfl, rfl⟩
theorem evG_ok (h : Rel W0 M G s a w) {x : Operand} {K : GV → Prop} (hq : (evG x).wp s K) : ∃ v, K v ∧ GVr G s w v (a.eval x) := by
  cases x with
  | tmp k => exact ⟨_, hq, h.tm k⟩
  | const v => exact ⟨_, hq, fun _ => constV_ok v, fun e => by cases e⟩
  | global g => exact hq.elim
  | func f =>
    refine ⟨_, hq, fun _ => ?_, fun e => by cases e⟩
    simp only [AVr, ACr, DVr]
    exact ⟨rfl, rfl⟩
theorem evs_ok (h : Rel W0 M G s a w) : ∀ {xs : List Operand} {K : List AV → Prop}, (evs xs).wp s K → ∃ vs, K vs ∧ AVs G s w vs (xs.map a.eval)
  | [], K, hq => ⟨[], hq, by simp [AVs]⟩
  | x :: xs, K, hq => by
    simp only [evs, Q.wp_bind, Q.wp] at hq
    obtain ⟨v, hq, h1⟩ := ev_ok h hq
    obtain ⟨vs, hq, h2⟩ := evs_ok h hq
    exact ⟨_, hq, by simp only [AVs, List.map_cons]; exact ⟨_, _, rfl, h1, h2⟩⟩
theorem int_ok {x : AV} {v : Value} {K : Int → Prop} (hx : AVr G s w x v) (hq : (Q.int x).wp s K) : ∃ k n, v = .int k n ∧ K n := by
  unfold Q.int at hq
  split at hq
  · rename_i k n
    simp only [AVr, ACr, DVr] at hx
    exact ⟨k, n, hx.1, hq⟩
  · exact hq.elim
theorem evo_ok (h : Rel W0 M G s a w) {x : Option Operand} {K : Option Int → Prop} (hq : (evo x).wp s K) : (x = none ∧ K none) ∨ ∃ y k n, x = some y ∧ K (some n) ∧ a.eval y = .int k n := by
  cases x with
  | none => exact .inl ⟨rfl, hq⟩
  | some y =>
    simp only [evo, Q.wp_bind, Q.wp] at hq
    obtain ⟨v, hq, h1⟩ := ev_ok h hq
    obtain ⟨k, n, h2, hq⟩ := int_ok h1 hq
    exact .inr ⟨y, k, n, rfl, hq, h2⟩
theorem bool_ok {x : AV} {v : Value} {K : Bool → Prop} (hx : AVr G s w x v) (hq : (Q.bool x).wp s K) : ∃ b, v = .bool b ∧ x = .c (.d (.v (.bool b))) ∧ K b := by
  unfold Q.bool at hq
  split at hq
  · rename_i b
    simp only [AVr, ACr, DVr] at hx
    exact ⟨b, hx.1, rfl, hq⟩
  · exact hq.elim
theorem cells_ok {x : AV} {v : Value} {K : List AC → Prop} (hx : AVr G s w x v) (hq : x.cells.wp s K) : ∃ cs, K cs ∧ ACs G s w cs v.cells.toList := by
  unfold AV.cells at hq
  split at hq
  · simp only [AVr] at hx
    refine ⟨_, hq, ?_⟩
    have h1 := hx.one
    have hc : v.cells = #[v] := by cases v <;> first | rfl | (simp [Value.oneCell'] at h1)
    rw [hc]
    simp only [ACs]
    exact ⟨v, [], rfl, hx, rfl⟩
  · simp only [AVr] at hx
    obtain ⟨vs, rfl, h2⟩ := hx
    exact ⟨_, hq, h2⟩
  · exact hq.elim
theorem asV_ok {t : TypeId} {i : TI} (hT : TOk P t i) {cs : List AC} {xs : List Value} {K : AV → Prop} (hq : (asV i cs).wp s K) (hc : ACs G s w cs xs) (hl : xs.length = i.size) {ad : Addr} (hcell : ∀ j u, xs[j]? = some u → w.cell? (ad.add j) = some u) :
    ∃ x v, K x ∧ AVr G s w x v ∧ (loadVar t ad).run P w = .ok v w := by
  obtain ⟨h1, h2⟩ := run_loadVar hT hl hcell
  unfold asV at hq
  split at hq
  · rename_i hg
    exact ⟨_, _, hq, by simp only [AVr]; exact ⟨xs.toArray, rfl, by simpa using hc⟩, h1 hg⟩
  · rename_i hg
    split at hq
    · rename_i x
      simp only [ACs] at hc
      obtain ⟨v, r, rfl, h3, rfl⟩ := hc
      exact ⟨_, v, hq, by simp only [AVr]; exact h3, h2 hg v rfl⟩
    · exact hq.elim
theorem take_drop_get {α : Type} {l : List α} {o n j : Nat} {u : α} (h : ((l.drop o).take n)[j]? = some u) : l[o + j]? = some u := by
  rw [List.getElem?_take] at h
  split at h
  · rw [List.getElem?_drop] at h; exact h
  · cases h
theorem Mem.rowAddr (h : Mem W0 M G s w) {id : Nat} {R : Row} (hr : (s.r id).c = some R) (hl : 0 < R.es.length) (hE : R.e < mapF) : ∃ g n c, G.rw id = .slice (some ⟨g, 0, none⟩) n c ∧ n = R.es.length := by
  obtain ⟨_, _, xs, ho, _⟩ := (h.rw id R hr).sl hE
  rcases ho.2 with ⟨_, h0⟩ | ⟨g, cap, cur, hv, _⟩
  · omega
  · exact ⟨g, _, _, hv, rfl⟩
theorem load_ok (h : Rel W0 M G s a w) {t : TypeId} {i : TI} (hT : TOk P t i) {x : AV} {p : Value} {K : AV → Prop} (hx : AVr G s w x p) (hq : (loadQ i x).wp s K) : ∃ y v ad, p = .pointer (some ad) ∧ K y ∧ AVr G s w y v ∧ (loadVar t ad).run P w = .ok v w := by
  unfold loadQ at hq
  split at hq
  · rename_i id ver off
    simp only [Q.wp] at hq
    split at hq
    · rename_i cs hcs
      simp only [Q.wp] at hq
      obtain ⟨⟨rfl, hlen⟩, hq⟩ := hq
      simp only [AVr, ACr] at hx
      obtain rfl := hx.2.2 trivial (by rw [hcs]; rfl)
      obtain ⟨cur, ty, hh, hac⟩ := h.mem.bx id cs hcs
      have hal := hac.len
      obtain ⟨y, v, hy, hv, hrun⟩ := asV_ok (P := P) hT (ad := ⟨G.bx id, off, none⟩) hq ((hac.drop off).take i.size) (by rw [List.length_take, List.length_drop, hal]; omega) (fun j u hu => by
        rw [addr_add_off _ _ rfl, cell_of_row w _ _ cur ty _ hh]
        have := take_drop_get hu
        simpa using this)
      exact ⟨y, v, _, rfl, hy, hv, hrun⟩
    · exact hq.elim
  · rename_i cs
    simp only [Q.wp] at hq
    obtain ⟨hlen, hq⟩ := hq
    simp only [AVr, ACr] at hx
    obtain ⟨ad, xs, rfl, hdv, hcell⟩ := hx
    have hl := hdv.len
    obtain ⟨y, v, hy, hv, hrun⟩ := asV_ok (P := P) hT (ad := ad) hq (ACs.of_dv (hdv.take i.size)) (by rw [List.length_take, hl]; omega) (fun j u hu => by
      have : xs[j]? = some u := by rw [List.getElem?_take] at hu; split at hu; exact hu; cases hu
      exact (hcell j u this).1)
    exact ⟨y, v, ad, rfl, hy, hv, hrun⟩
  · rename_i id ver k off sz
    simp only [Q.wp] at hq
    split at hq
    · rename_i R hR
      simp only [Q.wp] at hq
      obtain ⟨⟨rfl, rfl, hk, hoff⟩, hq⟩ := hq
      simp only [AVr, ACr] at hx
      obtain ⟨ad, n, c, hrw, rfl⟩ := hx.2.2 trivial (by rw [hR]; rfl)
      obtain ⟨hz, hu, xs, ho, hd⟩ := (h.mem.rw id R hR).slv ⟨_, _, _, hrw⟩
      obtain ⟨g, n', c', hrw', _⟩ := h.mem.rowAddr hR (by omega) ((h.mem.rw id R hR).lte ⟨_, _, _, hrw⟩)
      rw [hrw] at hrw'
      injection hrw' with e1 _ _
      injection e1 with e1
      subst e1
      have hcells := ho.cells (g := g) (by rw [hrw]; rfl)
      have he : R.es[k]? = some (R.es.getD k []) := by rw [List.getD_eq_getElem?_getD, List.getElem?_eq_getElem hk]; rfl
      have hget := DVee.get hd hu he
      have hlk : (R.es.getD k []).length = R.sz := hu _ (List.mem_of_getElem? he)
      have hxl := DVee.len hd hu
      have hll := hget.len
      obtain ⟨y, v, hy, hv, hrun⟩ := asV_ok (P := P) hT (ad := (⟨g, 0, none⟩ : Addr).add (k * R.sz + off)) hq (ACs.of_dv ((hget.drop off).take i.size)) (by rw [List.length_take, List.length_drop, hll, hlk]; omega) (fun j u hj => by
        have h1 := take_drop_get hj
        have h2 := take_drop_get h1
        have := hcells _ _ h2
        rw [add_add]
        rw [Nat.add_assoc]
        exact this)
      exact ⟨y, v, _, rfl, hy, hv, hrun⟩
    · exact hq.elim
  · exact hq.elim
end
end Go.Proofs.YtgfmnpbcbpobbaaDoor.Am
/- An abstract machine over plain data: what stores, literals and readings do to a memory. No conditions. -/
namespace Go.Proofs.YtgfmnpbcbpobbaaDoor.Am
open Go

theorem St.app_append (s : St) : ∀ (us vs : List Upd), s.app (us ++ vs) = (s.app us).app vs
  | [], _ => rfl
  | u :: us, vs => by simp only [List.cons_append, St.app]; exact St.app_append _ us vs
section
variable {P : Program} {W0 : World} {M : Own} {G : Gh} {s : St} {a : Act} {w w' : World} {o : Oper}
/-- A slice of the call's own is read as data: its cells never change again. -/
theorem Mem.freeze1 (h : Mem W0 M G s w) {id : Nat} {R : Row} (hR : (s.r id).c = some R) (hE : R.e < mapF) :
    ∃ I' : Nat → Nat → Prop, Mem W0 M ⟨I', G.bx, G.rw⟩ (s.setR id ⟨(s.r id).ver, some ⟨R.es, R.sz, R.e, true⟩⟩) w ∧ Ext G s w ⟨I', G.bx, G.rw⟩ (s.setR id ⟨(s.r id).ver, some ⟨R.es, R.sz, R.e, true⟩⟩) w ∧ DVr I' w (.sl R.es) (G.rw id) := by
  let I' : Nat → Nat → Prop := fun b o => G.I b o ∨ (obk (G.rw id) = some b ∧ o < R.es.length * R.sz)
  have hI : ∀ b o, G.I b o → I' b o := fun b o hi => .inl hi
  have hown : ∀ b, obk (G.rw id) = some b → own G s (.inr id) = some b := fun b hb => by simp [own, hR, hb]
  have E : Ext G s w ⟨I', G.bx, G.rw⟩ (s.setR id ⟨(s.r id).ver, some ⟨R.es, R.sz, R.e, true⟩⟩) w := by
    refine ⟨hI, Keep.refl _ _, fun _ => ⟨Nat.le_refl _, fun _ h => ⟨h, rfl⟩⟩, fun k => ?_⟩
    simp only [St.setR, upd]
    by_cases e : k = id
    · subst e; simp only [if_true]; exact ⟨Nat.le_refl _, fun _ _ => ⟨by rw [hR]; rfl, trivial⟩⟩
    · simp only [e, if_false]; exact ⟨Nat.le_refl _, fun _ h => ⟨h, trivial⟩⟩
  have ho : ∀ x, own ⟨I', G.bx, G.rw⟩ (s.setR id ⟨(s.r id).ver, some ⟨R.es, R.sz, R.e, true⟩⟩) x = own G s x := by
    intro x
    rcases x with k | k
    · rfl
    · by_cases e : k = id
      · subst e; simp [own, St.setR, upd, hR]
      · simp [own, St.setR, upd, e]
  obtain ⟨hz, hu, xs, how, hd⟩ := (h.rw id R hR).sl hE
  refine ⟨I', ⟨fun k c hc => ?_, fun k R' hc => ?_, fun x y b hx hy => h.dj x y b (by rw [ho] at hx; exact hx) (by rw [ho] at hy; exact hy), fun k hc o hi => ?_, fun k R' g hc hg o hi => ?_, fun x b hx => h.oM x b (by rw [ho] at hx; exact hx), fun b o hi => ?_, h.fr, ⟨fun b o hi => .inl (h.ii.1 b o hi), fun b o hi => ?_⟩, h.gl.mono E.I E.keep⟩, E, ?_⟩
  · obtain ⟨cur, ty, h1, h2⟩ := h.bx k c hc
    exact ⟨cur, ty, h1, E.acs h2⟩
  · simp only [St.setR, upd] at hc
    by_cases e : k = id
    · subst e
      simp only [if_true] at hc
      injection hc with hc; subst hc
      exact ⟨hz, hu, .inl ⟨hE, xs, how, DVee.mono hI (Keep.refl _ _) _ hd⟩⟩
    · simp only [e, if_false] at hc
      exact (h.rw k R' hc).mono hI
  · rcases hi with hi | ⟨hb, _⟩
    · exact h.bI k hc o hi
    · have := h.dj (.inl k) (.inr id) (G.bx k) (by simp only [own]; rw [if_pos]; exact hc) (hown _ hb)
      cases this
  · simp only [St.setR, upd] at hc
    by_cases e : k = id
    · subst e
      simp only [if_true] at hc
      injection hc with hc; subst hc
      refine ⟨rfl, ?_⟩
      rcases hi with hi | ⟨_, hb⟩
      · exact (h.rI k R g hR hg o hi).2
      · exact hb
    · simp only [e, if_false] at hc
      rcases hi with hi | ⟨hb, _⟩
      · exact h.rI k R' g hc hg o hi
      · have := h.dj (.inr k) (.inr id) g (by simp only [own, hc]; exact hg) (hown _ hb)
        injection this with this
        exact (e this).elim
  · rcases hi with hi | ⟨hb, _⟩
    · exact h.In b o hi
    · exact h.ownlt (hown _ hb)
  · rcases hi with hi | ⟨hb, _⟩
    · exact h.ii.2 b o hi
    · rcases h.oM _ _ (hown _ hb) with h1 | h1
      · exact .inr (.inr h1)
      · exact .inr (.inl h1)
  · simp only [DVr]
    have hxl := hd.len hu
    have hd' : DVee I' w R.es xs := DVee.mono hI (Keep.refl _ _) _ hd
    rcases how.2 with ⟨hv, h0⟩ | ⟨g, cap, cur, hv, _, hg, h1, h2, _⟩
    · exact ⟨none, 0, R.sz, xs, by rw [hv, h0], by omega, by simp [maxLen], hz, hu, fun h => by omega, hd'⟩
    · refine ⟨some ⟨g, 0, none⟩, cap, R.sz, xs, hv, h1, h2, hz, hu, fun _ => ⟨_, rfl, fun j u hj => ⟨how.cells (g := g) (by rw [hv]; rfl) j u hj, .inr ⟨by rw [hv]; rfl, ?_⟩⟩⟩, hd'⟩
      have : j < xs.length := by
        rcases Nat.lt_or_ge j xs.length with h | h
        · exact h
        · rw [List.getElem?_eq_none h] at hj; cases hj
      simp only; omega
/-- One state of slices and the next: the same but for what is frozen. -/
def Frz (s s' : St) : Prop := s'.n = s.n ∧ s'.t = s.t ∧ s'.b = s.b ∧ ∀ id, (s'.r id).ver = (s.r id).ver ∧ ((s.r id).c = none → (s'.r id).c = none) ∧ ∀ R, (s.r id).c = some R → ∃ fr, (s'.r id).c = some ⟨R.es, R.sz, R.e, fr⟩ ∧ (fr = false → R.fr = false)
theorem Frz.refl (s : St) : Frz s s := ⟨rfl, rfl, rfl, fun _id => ⟨rfl, fun h => h, fun R hR => ⟨R.fr, hR, fun h => h⟩⟩⟩
theorem Frz.trans {s1 s2 s3 : St} (h : Frz s1 s2) (k : Frz s2 s3) : Frz s1 s3 := by
  obtain ⟨h1, h2, h3, h4⟩ := h
  obtain ⟨k1, k2, k3, k4⟩ := k
  refine ⟨k1.trans h1, k2.trans h2, k3.trans h3, fun id => ⟨(k4 id).1.trans (h4 id).1, fun e => (k4 id).2.1 ((h4 id).2.1 e), fun R hR => ?_⟩⟩
  obtain ⟨fr, e1, e2⟩ := (h4 id).2.2 R hR
  obtain ⟨fr', e3, e4⟩ := (k4 id).2.2 _ e1
  exact ⟨fr', e3, fun e => e2 (e4 e)⟩
theorem freeze_ok (s0 : St) : ∀ {ids : List Nat} {K : List Upd → Prop} {s : St} {G : Gh}, (freeze ids).wp s0 K → Mem W0 M G s w → Frz s0 s →
    ∃ us G', K us ∧ Mem W0 M G' (s.app us) w ∧ Ext G s w G' (s.app us) w ∧ (∀ id ∈ ids, ∀ R, (s0.r id).c = some R → DVr G'.I w (.sl R.es) (G.rw id)) ∧ Frz s (s.app us) ∧ G'.bx = G.bx ∧ G'.rw = G.rw ∧
      (∀ id R, ((s.app us).r id).c = some R → R.fr = true → (∃ R', (s.r id).c = some R' ∧ R'.fr = true) ∨ id ∈ ids)
  | [], K, s, G, hq, hm, _ => ⟨[], G, hq, hm, Ext.refl _ _ _, by simp, Frz.refl s, rfl, rfl, fun id R h1 h2 => .inl ⟨R, h1, h2⟩⟩
  | id :: ids, K, s, G, hq, hm, hf => by
    simp only [freeze, Q.wp] at hq
    split at hq
    · rename_i R hR
      obtain ⟨hE, hq⟩ := hq
      rw [Q.wp_bind] at hq
      obtain ⟨fr, hR', hfr'⟩ := (hf.2.2.2 id).2.2 R hR
      have hver := (hf.2.2.2 id).1
      obtain ⟨I', m1, e1, d1⟩ := hm.freeze1 hR' hE
      simp only at m1 e1 d1
      rw [hver] at m1 e1
      have hf1 : Frz s (s.setR id ⟨(s0.r id).ver, some ⟨R.es, R.sz, R.e, true⟩⟩) := by
        refine ⟨rfl, rfl, rfl, fun k => ?_⟩
        simp only [St.setR, upd]
        by_cases e : k = id
        · subst e
          simp only [if_true]
          exact ⟨hver.symm, (fun h => by rw [hR'] at h; cases h), fun R2 h2 => by rw [hR'] at h2; injection h2 with h2; subst h2; exact ⟨true, rfl, fun h => by cases h⟩⟩
        · simp only [e, if_false]
          exact ⟨trivial, fun h => h, fun R hR => ⟨R.fr, hR, fun h => h⟩⟩
      cases hfr : R.fr with
      | true =>
        rw [hfr] at hq
        have hs : s.setR id ⟨(s0.r id).ver, some ⟨R.es, R.sz, R.e, true⟩⟩ = s := by
          have : upd s.r id ⟨(s0.r id).ver, some ⟨R.es, R.sz, R.e, true⟩⟩ = s.r := by
            funext k
            simp only [upd]
            split
            · rename_i e
              subst e
              have hfr2 : fr = true := by
                cases fr with
                | true => rfl
                | false => have := hfr' rfl; rw [hfr] at this; cases this
              rw [hfr2] at hR'
              rw [← hver, ← hR']
            · rfl
          unfold St.setR
          rw [this]
        rw [hs] at m1 e1
        obtain ⟨us, G', k1, k2, k3, k4, k5, k6, k7, k8⟩ := freeze_ok s0 hq m1 hf
        simp only at k6 k7
        refine ⟨_, G', k1, k2, e1.trans k3, ?_, k5, k6, k7, ?_⟩
        · intro j hj R2 hR2
          rcases List.mem_cons.1 hj with rfl | hj
          · rw [hR] at hR2
            injection hR2 with hR2; subst hR2
            exact DVr.mono k3.I k3.keep _ d1
          · exact k4 j hj R2 hR2
        · intro j R2 h1 h2
          rcases k8 j R2 h1 h2 with h | h
          · exact .inl h
          · right; simp [h]
      | false =>
      rw [hfr] at hq
      obtain ⟨us, G', k1, k2, k3, k4, k5, k6, k7, k8⟩ := freeze_ok s0 hq m1 (hf.trans hf1)
      simp only at k6 k7
      refine ⟨_, G', k1, k2, e1.trans k3, ?_, hf1.trans k5, k6, k7, ?_⟩
      · intro j hj R2 hR2
        rcases List.mem_cons.1 hj with rfl | hj
        · rw [hR] at hR2
          injection hR2 with hR2; subst hR2
          exact DVr.mono k3.I k3.keep _ d1
        · exact k4 j hj R2 hR2
      · intro j R2 h1 h2
        rcases k8 j R2 h1 h2 with ⟨R', h3, h4⟩ | h
        · simp only [St.setR, upd] at h3
          by_cases e : j = id
          · right; simp [e]
          · simp only [e, if_false] at h3; exact .inl ⟨R', h3, h4⟩
        · right; simp [h]
    · exact hq.elim
theorem toD_ok {x : AC} {v : Value} {K : DV × List Nat → Prop} (hx : ACr G s w x v) (hq : (toD x).wp s K) :
    ∃ d, K d ∧ (∀ id ∈ d.2, x = .row id (s.r id).ver ∧ ∀ R, (s.r id).c = some R → R.e < mapF) ∧ (∀ I' : Nat → Nat → Prop, (∀ b o, G.I b o → I' b o) → (∀ id ∈ d.2, ∀ R, (s.r id).c = some R → DVr I' w (.sl R.es) (G.rw id)) → DVr I' w d.1 v) := by
  unfold toD at hq
  split at hq
  · rename_i d
    simp only [ACr] at hx
    exact ⟨_, hq, by simp, fun _ hi _ => DVr.mono hi (Keep.refl _ _) _ hx⟩
  · simp only [ACr] at hx
    refine ⟨_, hq, by simp, fun _ _ _ => ?_⟩
    subst hx
    simp only [DVr]
    exact ⟨none, 0, 1, [], rfl, Nat.le_refl _, by simp [maxLen], by omega, by simp, by simp, by simp [DVee]⟩
  · rename_i id ver
    simp only [Q.wp] at hq
    split at hq
    · rename_i R hR
      simp only [Q.wp] at hq
      obtain ⟨⟨rfl, hE⟩, hq⟩ := hq
      simp only [ACr] at hx
      have hv := hx.2.2 trivial (by rw [hR]; rfl)
      refine ⟨_, hq, fun i hi => by simp at hi; subst hi; exact ⟨rfl, fun R' hR' => by rw [hR] at hR'; injection hR' with e; subst e; exact hE⟩, fun _ _ hf => ?_⟩
      rw [hv]
      exact hf id (by simp) R hR
    · exact hq.elim
  · exact hq.elim
theorem toDs_ok : ∀ {cs : List AC} {xs : List Value} {K : List DV × List Nat → Prop}, ACs G s w cs xs → (toDs cs).wp s K →
    ∃ d, K d ∧ d.1.length = cs.length ∧ (∀ I' : Nat → Nat → Prop, (∀ b o, G.I b o → I' b o) → (∀ id ∈ d.2, ∀ R, (s.r id).c = some R → DVr I' w (.sl R.es) (G.rw id)) → DVrs I' w d.1 xs)
  | [], xs, K, hx, hq => by
    simp only [ACs] at hx; subst hx
    exact ⟨_, hq, rfl, fun _ _ _ => by simp [DVrs]⟩
  | c :: cs, xs, K, hx, hq => by
    simp only [ACs] at hx
    obtain ⟨v, r, rfl, h1, h2⟩ := hx
    simp only [toDs, Q.wp_bind, Q.wp] at hq
    obtain ⟨d, hq, _, hd⟩ := toD_ok h1 hq
    obtain ⟨ds, hq, hl, hds⟩ := toDs_ok h2 hq
    refine ⟨_, hq, by simp [hl], fun I' hi hf => ?_⟩
    simp only [DVrs]
    exact ⟨v, r, rfl, hd I' hi (fun id hm => hf id (by simp [hm])), hds I' hi (fun id hm => hf id (by simp [hm]))⟩
/-- A store into a box. -/
theorem Mem.setBox (h : Mem W0 M G s w) {id : Nat} {cs cs' : List AC} (hc : (s.b id).c = some cs) (hg : w.grownBy w' (some (G.bx id))) {cur' : Array Value} {ty : TypeId} (hh : w'.heap[G.bx id]? = some (.cells cur' ty (0, 0))) (hac : ACs G s w cs' cur'.toList) :
    Mem W0 M G (s.setB id ⟨(s.b id).ver, some cs'⟩) w' ∧ Ext G s w G (s.setB id ⟨(s.b id).ver, some cs'⟩) w' := by
  have hlive : (s.b id).c.isSome = true := by rw [hc]; rfl
  have hown : own G s (.inl id) = some (G.bx id) := by simp [own, hc]
  have hk : Keep G.I w w' := fun b o hi => World.cell?_of_block (a := ⟨b, o, none⟩) (hg.block b (h.In b o hi) (fun e => by injection e with e; subst e; exact h.bI id hlive o hi))
  have E : Ext G s w G (s.setB id ⟨(s.b id).ver, some cs'⟩) w' := by
    refine ⟨fun _ _ h => h, hk, fun k => ?_, fun _ => ⟨Nat.le_refl _, fun _ h => ⟨h, rfl⟩⟩⟩
    simp only [St.setB, upd]
    by_cases e : k = id
    · subst e; simp only [if_true]; exact ⟨Nat.le_refl _, fun _ _ => ⟨hlive, trivial⟩⟩
    · simp only [e, if_false]; exact ⟨Nat.le_refl _, fun _ h => ⟨h, trivial⟩⟩
  have ho : ∀ x, own G (s.setB id ⟨(s.b id).ver, some cs'⟩) x = own G s x := by
    intro x
    rcases x with k | k
    · by_cases e : k = id
      · subst e; simp [own, St.setB, upd, hc]
      · simp [own, St.setB, upd, e]
    · rfl
  refine ⟨⟨fun k c hck => ?_, fun k R hR => ?_, fun x y b hx hy => h.dj x y b (by rw [ho] at hx; exact hx) (by rw [ho] at hy; exact hy), fun k hck => ?_, h.rI, fun x b hx => h.oM x b (by rw [ho] at hx; exact hx), fun b o hi => Nat.lt_of_lt_of_le (h.In b o hi) hg.size, h.fr.grown hg (fun b hb hlt => ?_), h.ii, h.gl.mono E.I E.keep⟩, E⟩
  · simp only [St.setB, upd] at hck
    by_cases e : k = id
    · subst e
      simp only [if_true] at hck
      injection hck with hck; subst hck
      exact ⟨cur', ty, hh, E.acs hac⟩
    · simp only [e, if_false] at hck
      obtain ⟨cur, ty', h1, h2⟩ := h.bx k c hck
      have hlt := (Array.getElem?_eq_some_iff.1 h1).1
      refine ⟨cur, ty', (hg.block _ hlt (fun e1 => ?_)).trans h1, E.acs h2⟩
      injection e1 with e1
      have := h.dj (.inl k) (.inl id) (G.bx id) (by simp only [own, hck]; rw [e1]; rfl) hown
      injection this with this
      exact e this
  · exact ownsRow.kept' (h.rw k R hR) hg (fun b hb e1 => by injection e1 with e1; subst e1; cases h.dj (.inr k) (.inl id) _ (by have h3 : (s.r k).c = some R := hR; simp [own, h3, hb]) hown) hk
  · simp only [St.setB, upd] at hck
    by_cases e : k = id
    · subst e; exact h.bI k hlive
    · simp only [e, if_false] at hck; exact h.bI k hck
  · injection hb with hb; subst hb
    rcases h.oM _ _ hown with h1 | h1
    · omega
    · exact h1
theorem setAt_len {α : Type} {l xs : List α} {o : Nat} (h : o + xs.length ≤ l.length) : (setAt l o xs).length = l.length := by
  simp [setAt]; omega
theorem ACs.setAt {cs x : List AC} {cur vs : List Value} {o : Nat} (h : ACs G s w cs cur) (k : ACs G s w x vs) : ACs G s w (Am.setAt cs o x) (Am.setAt cur o vs) := by
  unfold Am.setAt
  rw [k.len]
  exact ((h.take o).app k).app (h.drop _)
theorem DVrs.setAt {I : Nat → Nat → Prop} {cs x : List DV} {cur vs : List Value} {o : Nat} (h : DVrs I w cs cur) (k : DVrs I w x vs) : DVrs I w (Am.setAt cs o x) (Am.setAt cur o vs) := by
  unfold Am.setAt
  rw [k.len]
  exact ((h.take o).app k).app (h.drop _)
/-- The elements of a slice of the call's own that nobody has read as data change. -/
theorem Mem.setRow (h : Mem W0 M G s w) {id : Nat} {R : Row} {es' : List (List DV)} (hR : (s.r id).c = some R) (hnf : R.fr = false) {g : Nat} (hrg : obk (G.rw id) = some g) (hg : w.grownBy w' (some g)) (hnew : Keep G.I w w' → RowOk G.I w' (G.rw id) ⟨es', R.sz, R.e, false⟩) :
    Mem W0 M G (s.setR id ⟨(s.r id).ver, some ⟨es', R.sz, R.e, false⟩⟩) w' ∧ Ext G s w G (s.setR id ⟨(s.r id).ver, some ⟨es', R.sz, R.e, false⟩⟩) w' := by
  have hlive : (s.r id).c.isSome = true := by rw [hR]; rfl
  have hown : own G s (.inr id) = some g := by simp [own, hR, hrg]
  have hno : ∀ o, ¬ G.I g o := fun o hi => by have := (h.rI id R g hR hrg o hi).1; rw [hnf] at this; cases this
  have hk : Keep G.I w w' := fun b o hi => World.cell?_of_block (a := ⟨b, o, none⟩) (hg.block b (h.In b o hi) (fun e => by injection e with e; subst e; exact hno o hi))
  have E : Ext G s w G (s.setR id ⟨(s.r id).ver, some ⟨es', R.sz, R.e, false⟩⟩) w' := by
    refine ⟨fun _ _ h => h, hk, fun _ => ⟨Nat.le_refl _, fun _ h => ⟨h, rfl⟩⟩, fun k => ?_⟩
    simp only [St.setR, upd]
    by_cases e : k = id
    · subst e; simp only [if_true]; exact ⟨Nat.le_refl _, fun _ _ => ⟨hlive, trivial⟩⟩
    · simp only [e, if_false]; exact ⟨Nat.le_refl _, fun _ h => ⟨h, trivial⟩⟩
  have ho : ∀ x, own G (s.setR id ⟨(s.r id).ver, some ⟨es', R.sz, R.e, false⟩⟩) x = own G s x := by
    intro x
    rcases x with k | k
    · rfl
    · by_cases e : k = id
      · subst e; simp [own, St.setR, upd, hR]
      · simp [own, St.setR, upd, e]
  refine ⟨⟨fun k c hck => ?_, fun k R' hck => ?_, fun x y b hx hy => h.dj x y b (by rw [ho] at hx; exact hx) (by rw [ho] at hy; exact hy), h.bI, fun k R' g' hck hg' => ?_, fun x b hx => h.oM x b (by rw [ho] at hx; exact hx), fun b o hi => Nat.lt_of_lt_of_le (h.In b o hi) hg.size, h.fr.grown hg (fun b hb hlt => ?_), h.ii, h.gl.mono E.I E.keep⟩, E⟩
  · have hck' : (s.b k).c = some c := hck
    obtain ⟨cur, ty', h1, h2⟩ := h.bx k c hck'
    have hlt := (Array.getElem?_eq_some_iff.1 h1).1
    refine ⟨cur, ty', (hg.block _ hlt (fun e1 => ?_)).trans h1, E.acs h2⟩
    injection e1 with e1
    cases h.dj (.inl k) (.inr id) g (by simp [own, hck', e1]) hown
  · simp only [St.setR, upd] at hck
    by_cases e : k = id
    · subst e
      simp only [if_true] at hck
      injection hck with hck; subst hck
      exact hnew hk
    · simp only [e, if_false] at hck
      refine ownsRow.kept' (h.rw k R' hck) hg (fun b hb e1 => ?_) hk
      injection e1 with e1; subst e1
      have := h.dj (.inr k) (.inr id) g (by simp [own, hck, hb]) hown
      injection this with this
      exact e this
  · simp only [St.setR, upd] at hck
    by_cases e : k = id
    · subst e
      rw [hrg] at hg'
      injection hg' with hg'; subst hg'
      intro o hi
      exact (hno o hi).elim
    · simp only [e, if_false] at hck
      exact h.rI k R' g' hck hg'
  · injection hb with hb; subst hb
    rcases h.oM _ _ hown with h1 | h1
    · omega
    · exact h1
theorem take_setAt {α : Type} (l xs : List α) (o m : Nat) (h1 : o + xs.length ≤ m) (h2 : m ≤ l.length) : (setAt l o xs).take m = setAt (l.take m) o xs := by
  obtain ⟨A, X, D, E, rfl, hA, hX, hD⟩ : ∃ A X D E : List α, l = A ++ (X ++ (D ++ E)) ∧ A.length = o ∧ X.length = xs.length ∧ D.length = m - o - xs.length :=
    ⟨l.take o, (l.drop o).take xs.length, ((l.drop o).drop xs.length).take (m - o - xs.length), ((l.drop o).drop xs.length).drop (m - o - xs.length), by rw [List.take_append_drop, List.take_append_drop, List.take_append_drop], by rw [List.length_take]; omega, by rw [List.length_take, List.length_drop]; omega, by rw [List.length_take, List.length_drop, List.length_drop]; omega⟩
  have t1 : (A ++ (X ++ (D ++ E))).take o = A := by rw [← hA]; exact List.take_left
  have t2 : (A ++ (X ++ (D ++ E))).drop (o + xs.length) = D ++ E := by rw [← hA, ← hX, ← List.length_append, ← List.append_assoc]; exact List.drop_left
  have t3 : (A ++ (X ++ (D ++ E))).take m = A ++ (X ++ D) := by
    have e : m = (A ++ (X ++ D)).length := by simp only [List.length_append]; omega
    rw [e, show A ++ (X ++ (D ++ E)) = (A ++ (X ++ D)) ++ E from by simp]; exact List.take_left
  have t4 : (A ++ (X ++ D)).take o = A := by rw [← hA]; exact List.take_left
  have t5 : (A ++ (X ++ D)).drop (o + xs.length) = D := by rw [← hA, ← hX, ← List.length_append, ← List.append_assoc]; exact List.drop_left
  unfold setAt
  rw [t3, t1, t2, t4, t5]
  have e : m = (A ++ xs ++ D).length := by simp only [List.length_append]; omega
  rw [e, show A ++ xs ++ (D ++ E) = (A ++ xs ++ D) ++ E from by simp]; exact List.take_left
theorem setAt_chunk {α : Type} (xs vs : List α) (k z off : Nat) (hk : (k + 1) * z ≤ xs.length) (ho : off + vs.length ≤ z) :
    setAt xs (k * z + off) vs = xs.take (k * z) ++ setAt ((xs.drop (k * z)).take z) off vs ++ xs.drop ((k + 1) * z) := by
  rw [Nat.succ_mul] at hk ⊢
  have e0 : xs = xs.take (k * z) ++ ((xs.drop (k * z)).take z ++ xs.drop (k * z + z)) := by
    rw [← List.drop_drop, List.take_append_drop, List.take_append_drop]
  have l1 : (xs.take (k * z)).length = k * z := by rw [List.length_take]; omega
  have l2 : ((xs.drop (k * z)).take z).length = z := by rw [List.length_take, List.length_drop]; omega
  generalize xs.take (k * z) = A at *
  generalize (xs.drop (k * z)).take z = B at *
  generalize xs.drop (k * z + z) = C at *
  subst e0
  unfold setAt
  rw [List.take_append, List.drop_append]
  simp only [l1]
  rw [List.take_of_length_le (by omega), List.drop_eq_nil_of_le (by omega), show k * z + off - k * z = off from by omega, show k * z + off + vs.length - k * z = off + vs.length from by omega]
  rw [List.take_append_of_le_length (by omega), List.drop_append_of_le_length (by omega)]
  simp
theorem store_ok (h : Rel W0 M G s a w) {t : TypeId} {i : TI} (hT : TOk P t i) (hdst : o.dst = none) {x : List AC} {p v : Value} {K : List Upd → Prop} {y : AV} (hx : ACs G s w x v.cells.toList) (hp : AVr G s w y p) (hq : (storeQ i x y).wp s K) :
    ∃ us ad w', p = .pointer (some ad) ∧ (storeVar t ad v).run P w = .ok () w' ∧ K us ∧ RelE W0 M (s.app us) (a.put o.dst undef) w' := by
  have hput : a.put o.dst undef = a := by rw [hdst]; rfl
  rw [hput]
  unfold storeQ at hq
  split at hq
  · rename_i id ver off
    simp only [Q.wp] at hq
    split at hq
    · rename_i cs hcs
      simp only [Q.wp] at hq
      obtain ⟨⟨rfl, hl, hoff⟩, hq⟩ := hq
      simp only [AVr, ACr] at hp
      obtain rfl := hp.2.2 trivial (by rw [hcs]; rfl)
      obtain ⟨cur, ty, hh, hac⟩ := h.mem.bx id cs hcs
      have hsz : cur.size = cs.length := by rw [← Array.length_toList]; exact hac.len
      have hxl := hx.len
      have hrun := run_storeVar hT hh rfl (by rw [hxl]; exact hl) (by omega) hx.one (off := off)
      obtain ⟨cur', hh', htl⟩ := setCells_row (G.bx id) ty v.cells.toList off w cur hh (by omega)
      obtain ⟨m1, e1⟩ := h.mem.setBox hcs (setCells_grown (G.bx id) off v.cells.toList w) hh' (cs' := setAt cs off x) (by rw [htl]; exact hac.setAt hx)
      exact ⟨_, _, _, rfl, hrun, hq, G, h.mem' e1 m1 rfl rfl⟩
    · exact hq.elim
  · rename_i id ver k off sz
    rw [Q.wp_bind] at hq
    obtain ⟨d, hq1, hdl, hds⟩ := toDs_ok hx hq
    clear hq
    have hq := hq1
    clear hq1
    rw [Q.wp_bind] at hq
    obtain ⟨us, G', hK, m1, e1, hf, hfrz, hb', hr', hfr⟩ := freeze_ok s hq h.mem (Frz.refl s)
    clear hq
    have hq := hK
    clear hK
    simp only [Q.wp] at hq
    split at hq
    · rename_i R hR
      simp only [Q.wp] at hq
      obtain ⟨⟨rfl, rfl, hnf, hnot, hk, hdi, hoff⟩, hq⟩ := hq
      simp only [AVr, ACr] at hp
      obtain ⟨ad, n, c, hrw, rfl⟩ := hp.2.2 trivial (by rw [hR]; rfl)
      have hdv := hds G'.I e1.I hf
      obtain ⟨fr, hR1, _⟩ := (hfrz.2.2.2 id).2.2 R hR
      have hfr0 : fr = false := by
        cases fr with
        | false => rfl
        | true =>
          rcases hfr id _ hR1 rfl with ⟨R', h1, h2⟩ | h1
          · rw [hR] at h1; injection h1 with h1; subst h1; rw [hnf] at h2; cases h2
          · exact (hnot h1).elim
      subst hfr0
      have hver := (hfrz.2.2.2 id).1
      have hrw' : G'.rw id = .slice (some ad) n c := by rw [hr']; exact hrw
      have hE := (m1.rw id _ hR1).lte ⟨_, _, _, hrw'⟩
      obtain ⟨hz, hu, xs, ho, hd⟩ := (m1.rw id _ hR1).sl hE
      simp only at hz hu ho hd hE
      rcases ho.2 with ⟨_, h0⟩ | ⟨g, cap, cur, hv, _, hg, hnc, hcm, hcs, htk⟩
      · omega
      rw [hrw'] at hv
      injection hv with hv1 hv2 hv3
      injection hv1 with hv1
      subst hv1; subst hv2; subst hv3
      have hxl := hd.len hu
      have hxv := hx.len
      have hchunk : (k + 1) * R.sz ≤ R.es.length * R.sz := Nat.mul_le_mul_right _ hk
      have hcap : R.es.length * R.sz ≤ cur.size := by rw [hcs]; exact Nat.mul_le_mul_right _ hnc
      rw [Nat.succ_mul] at hchunk
      have hdl' : v.cells.toList.length = i.size := by rw [hxv, ← hdl]; exact hdi
      have hrun := run_storeVar hT hg (v := v) rfl hdl' (by rw [hdl']; omega) hx.one (off := k * R.sz + off)
      obtain ⟨cur', hh', htl⟩ := setCells_row g R.e v.cells.toList (k * R.sz + off) w cur hg (by rw [hdl']; omega)
      have he : R.es[k]? = some (R.es.getD k []) := by rw [List.getD_eq_getElem?_getD, List.getElem?_eq_getElem hk]; rfl
      have hget := DVee.get hd hu he
      have hlk : (R.es.getD k []).length = R.sz := hu _ (List.mem_of_getElem? he)
      have hset := DVee.set hd hu k hk (hget.setAt (o := off) hdv)
      rw [← setAt_chunk xs v.cells.toList k R.sz off (by rw [hxl, Nat.succ_mul]; exact hchunk) (by rw [hdl']; exact hoff)] at hset
      have hxs : xs = cur.toList.take (R.es.length * R.sz) := htk.symm
      have hcl : cur.toList.length = cur.size := Array.length_toList
      have hxs' : cur'.toList.take (R.es.length * R.sz) = setAt xs (k * R.sz + off) v.cells.toList := by
        rw [htl, hxs]
        exact take_setAt _ _ _ _ (by rw [hdl']; omega) (by rw [hcl]; exact hcap)
      obtain ⟨m2, e2⟩ := m1.setRow hR1 rfl (g := g) (by rw [hrw']; rfl) (setCells_grown g (k * R.sz + off) v.cells.toList w) (es' := R.es.set k (setAt (R.es.getD k []) off d.1)) (fun hkp => ⟨hz, fun e hm => by
        rcases List.mem_or_eq_of_mem_set hm with hm | rfl
        · exact hu e hm
        · rw [setAt_len (by omega)]; exact hlk, .inl ⟨hE, setAt xs (k * R.sz + off) v.cells.toList, ⟨by rw [setAt_len (by rw [hdl']; omega), List.length_set]; exact ho.1, .inr ⟨g, _, cur', by rw [hrw']; simp, Nat.zero_le _, hh', by simpa using hnc, hcm, by rw [← Array.length_toList, htl, setAt_len (by rw [hdl']; omega)]; exact hcs, by rw [List.length_set]; exact hxs'⟩⟩, DVee.mono (fun _ _ h => h) hkp _ hset⟩⟩)
      rw [hver] at m2 e2
      refine ⟨_, _, w.setCells g (k * R.sz + off) v.cells.toList, rfl, ?_, hq, G', ?_⟩
      · rw [addr_add_off _ _ rfl]
        simpa using hrun
      · rw [St.app_append]
        exact h.mem' (e1.trans e2) m2 hfrz.1 hfrz.2.1
    · exact hq.elim
  · exact hq.elim
end
end Go.Proofs.YtgfmnpbcbpobbaaDoor.Am
/- An abstract machine over plain data: its operations are sound (2). No conditions. -/
namespace Go.Proofs.YtgfmnpbcbpobbaaDoor.Am
open Go

section
variable {P : Program} {T : TypeId → Option TI} {W0 : World} {M : Own} {G : Gh} {s : St} {a : Act} {w : World} {o : Oper} {K : List Upd → Prop} {Q' : Exit → Act → World → Prop}
/-- What an operation has to show. -/
def Does (P : Program) (W0 : World) (M : Own) (s : St) (o : Oper) (a : Act) (w : World) (K : List Upd → Prop) (Q' : Exit → Act → World → Prop) : Prop := o.wp P a w (fun a' w' => ∃ us, K us ∧ RelE W0 M (s.app us) a' w') Q'
theorem ofOpt_ok {α : Type} {x : Option α} {K : α → Prop} (h : (Q.ofOpt x).wp s K) : ∃ y, x = some y ∧ K y := by
  cases x with
  | none => exact h.elim
  | some y => exact ⟨y, rfl, h⟩
theorem tq_ok {t : TypeId} {K : TI → Prop} (h : (tq T t).wp s K) : ∃ y, T t = some y ∧ K y := ofOpt_ok h
/-- A new box. -/
theorem new_box (h : Rel W0 M G s a w) {d : Nat} (hod : o.dst = some d) (hd : d < s.n) {cs : List AC} {vs : Array Value} {ty : TypeId} (hac : ACs G s w cs vs.toList)
    (hK : K [.b d ⟨(s.b d).ver + 1, some cs⟩, .t d ⟨true, .c (.ptr d ((s.b d).ver + 1) 0)⟩]) (hr : (execOp a.eval o).run P w = .ok (.value (.pointer (some ⟨w.heap.size, 0, none⟩))) (w.alloc (.cells vs ty))) : Does P W0 M s o a w K Q' := by
  obtain ⟨m1, e1⟩ := h.mem.grow (grown_alloc w (.cells vs ty))
  obtain ⟨m2, e2⟩ := m1.addBox d ((s.b d).ver + 1) w.heap.size cs (Nat.lt_succ_self _) ⟨vs, ty, heap_alloc_new w _, e1.acs hac⟩ (fun x hx => by have := h.mem.ownlt hx; omega) (fun o hi => by have := h.mem.In _ _ hi; omega) (.inl h.mem.fr.size)
  refine wp_value hr ⟨_, hK, ?_⟩
  have h2 := h.mem' (e1.trans e2) m2 rfl rfl
  rw [hod]
  refine ⟨_, h2.put (show d < (s.setB d _).n from hd) ⟨fun _ => ?_, fun e => by cases e⟩⟩
  simp only [AVr, ACr, St.setB, upd, if_true]
  exact ⟨rfl, Nat.le_refl _, fun _ _ => trivial⟩
/-- A new slice of the call's own, in a new block. -/
theorem new_row {W1 : World} (h : Rel W0 M G s a w) {d : Nat} (hod : o.dst = some d) (hd : d < s.n) {R : Row} {v : Value} (hg : w.grownBy W1 none) (hrow : RowOk G.I W1 v R) (hb : ∀ b, obk v = some b → w.heap.size ≤ b) {us : List Upd} {s0 : St} (hs : s0.app us = s)
    (hK : K (us ++ [.r d ⟨(s.r d).ver + 1, some R⟩, .t d ⟨true, .c (.row d ((s.r d).ver + 1))⟩])) (hr : (execOp a.eval o).run P w = .ok (.value v) W1) : Does P W0 M s0 o a w K Q' := by
  obtain ⟨m1, e1⟩ := h.mem.grow hg
  obtain ⟨m2, e2⟩ := m1.addRow d ((s.r d).ver + 1) v R (Nat.lt_succ_self _) hrow (fun x b hv hx => by have := h.mem.ownlt hx; have := hb b hv; omega) (fun g hv o hi => by have := h.mem.In _ _ hi; have := hb g hv; omega) (fun g hv => .inl (Nat.le_trans h.mem.fr.size (hb g hv)))
  refine wp_value hr ⟨_, hK, ?_⟩
  have h2 := h.mem' (e1.trans e2) m2 rfl rfl
  rw [St.app_append, hs, hod]
  have hone : v.oneCell' = true := hrow.one
  refine ⟨_, h2.put (show d < (s.setR d _).n from hd) ⟨fun _ => ?_, fun e => by cases e⟩⟩
  simp only [AVr, ACr, St.setR, upd, if_true]
  exact ⟨hone, Nat.le_refl _, fun _ _ => trivial⟩
theorem ok_move {x : Operand} (ho : o.op = .move x ∨ o.op = .assign x) (h : Rel W0 M G s a w) (hd : ∀ d, o.dst = some d → d < s.n) (hq : ((ev x).bind (one o.dst)).wp s K) : Does P W0 M s o a w K Q' := by
  rw [Q.wp_bind] at hq
  obtain ⟨v, hq, hv⟩ := ev_ok h hq
  refine ok_one h hd hv hq ?_
  rcases ho with ho | ho <;> (unfold execOp; rw [ho]; rfl)
theorem ok_pick {c x y : Operand} (ho : o.op = .pick c x y) (h : Rel W0 M G s a w) (hd : ∀ d, o.dst = some d → d < s.n)
    (hq : ((ev c).bind fun c => (Q.bool c).bind fun c => (evG x).bind fun x => (evG y).bind fun y => (pickQ c x y).bind (one o.dst)).wp s K) : Does P W0 M s o a w K Q' := by
  simp only [Q.wp_bind] at hq
  obtain ⟨cv, hq, hc⟩ := ev_ok h hq
  obtain ⟨b, hcb, _, hq⟩ := bool_ok hc hq
  obtain ⟨xv, hq, hx⟩ := evG_ok h hq
  obtain ⟨yv, hq, hy⟩ := evG_ok h hq
  have hr : (execOp a.eval o).run P w = .ok (.value (if b then a.eval x else a.eval y)) w := by
    unfold execOp
    rw [ho]
    simp only [hcb]
    rfl
  unfold pickQ at hq
  cases b with
  | true => exact ok_one h hd (hx.1 hq.1) hq.2 hr
  | false => exact ok_one h hd (hy.1 hq.1) hq.2 hr
theorem zero_all {t : TypeId} {i : TI} (hT : TOk P t i) : (i.zero.all Value.oneCell') = true ∧ i.zero.length = i.size := by
  obtain ⟨inf, z, _, _, _, _, _, h6, h7⟩ := hT.info
  exact ⟨h7, h6⟩
theorem ok_alloc {t : TypeId} (ho : o.op = .alloc t) (hT : ∀ t i, T t = some i → TOk P t i) (h : Rel W0 M G s a w) (hd : ∀ d, o.dst = some d → d < s.n)
    (hq : ((tq T t).bind fun i => (Q.ofOpt o.dst).bind fun d => .rdB d fun b => .ret [.b d ⟨b.ver + 1, some (i.zero.map constC)⟩, .t d ⟨true, .c (.ptr d (b.ver + 1) 0)⟩]).wp s K) : Does P W0 M s o a w K Q' := by
  simp only [Q.wp_bind] at hq
  obtain ⟨i, hi, hq⟩ := tq_ok hq
  obtain ⟨d, hdd, hq⟩ := ofOpt_ok hq
  simp only [Q.wp] at hq
  obtain ⟨z, hz, hzl⟩ := (hT t i hi).zeroV w
  refine new_box h hdd (hd d hdd) (vs := z.cells) (ty := t) (by rw [hzl]; exact constCs_ok (zero_all (hT t i hi)).1) hq ?_
  unfold execOp
  rw [ho]
  simp only [Instr.alloc, Sem.run_bind, hz, Result.andThen_ok]
  rfl
theorem ok_box {t : TypeId} {x : Operand} (ho : o.op = .box t x) (h : Rel W0 M G s a w) (hd : ∀ d, o.dst = some d → d < s.n)
    (hq : ((Q.ofOpt o.dst).bind fun d => (ev x).bind fun v => v.cells.bind fun cs => .rdB d fun b => .ret [.b d ⟨b.ver + 1, some cs⟩, .t d ⟨true, .c (.ptr d (b.ver + 1) 0)⟩]).wp s K) : Does P W0 M s o a w K Q' := by
  simp only [Q.wp_bind] at hq
  obtain ⟨d, hdd, hq⟩ := ofOpt_ok hq
  obtain ⟨v, hq, hv⟩ := ev_ok h hq
  obtain ⟨cs, hq, hcs⟩ := cells_ok hv hq
  simp only [Q.wp] at hq
  refine new_box h hdd (hd d hdd) (vs := (a.eval x).cells) (ty := t) hcs hq ?_
  unfold execOp
  rw [ho]
  rfl
theorem ok_load {t : TypeId} {x : Operand} (ho : o.op = .load t x) (hT : ∀ t i, T t = some i → TOk P t i) (h : Rel W0 M G s a w) (hd : ∀ d, o.dst = some d → d < s.n)
    (hq : ((tq T t).bind fun i => (ev x).bind fun x => (loadQ i x).bind (one o.dst)).wp s K) : Does P W0 M s o a w K Q' := by
  simp only [Q.wp_bind] at hq
  obtain ⟨i, hi, hq⟩ := tq_ok hq
  obtain ⟨v, hq, hv⟩ := ev_ok h hq
  obtain ⟨y, u, ad, hp, hq, hy, hrun⟩ := load_ok h (hT t i hi) hv hq
  refine ok_one h hd hy hq ?_
  unfold execOp
  rw [ho]
  simp only [hp, Instr.loadAt, Instr.sureAddr, Sem.run_bind, Sem.run_pure, Result.andThen_ok, hrun]
theorem ok_store {t : TypeId} {x y : Operand} (ho : o.op = .store t x y) (hT : ∀ t i, T t = some i → TOk P t i) (h : Rel W0 M G s a w) (hdst : o.dst = none)
    (hq : ((tq T t).bind fun i => (ev x).bind fun a => (ev y).bind fun x => x.cells.bind fun cs => storeQ i cs a).wp s K) : Does P W0 M s o a w K Q' := by
  simp only [Q.wp_bind] at hq
  obtain ⟨i, hi, hq⟩ := tq_ok hq
  obtain ⟨v, hq, hv⟩ := ev_ok h hq
  obtain ⟨u, hq, hu⟩ := ev_ok h hq
  obtain ⟨cs, hq, hcs⟩ := cells_ok hu hq
  obtain ⟨us, ad, w', hp, hrun, hK, hR⟩ := store_ok h (hT t i hi) hdst hcs hv hq
  refine wp_skip' ?_ ⟨us, hK, hR⟩
  unfold execOp
  rw [ho]
  simp only [hp, Instr.storeAt, Instr.sureAddr, Sem.run_bind, Sem.run_pure, Result.andThen_ok, hrun]
theorem AVs.get : ∀ {xs : List AV} {l : List Value}, AVs G s w xs l → ∀ {k : Nat} {y : AV}, xs[k]? = some y → ∃ u, l[k]? = some u ∧ AVr G s w y u
  | [], _, _, k, y, hk => by simp at hk
  | x :: xs, l, hl, k, y, hk => by
    simp only [AVs] at hl
    obtain ⟨u, r, rfl, h1, h2⟩ := hl
    cases k with
    | zero => simp at hk; subst hk; exact ⟨u, rfl, h1⟩
    | succ k => exact AVs.get h2 (by simpa using hk)
theorem ok_extract {x : Operand} {k : Nat} (ho : o.op = .extract x k) (h : Rel W0 M G s a w) (hd : ∀ d, o.dst = some d → d < s.n)
    (hq : ((ev x).bind fun x => (extractQ k x).bind (one o.dst)).wp s K) : Does P W0 M s o a w K Q' := by
  simp only [Q.wp_bind] at hq
  obtain ⟨v, hq, hv⟩ := ev_ok h hq
  have fin : ∀ {y : AV} {u : Value}, AVr G s w y u → (one o.dst y).wp s K → (Instr.extract (a.eval x) k).run P w = .ok u w → Does P W0 M s o a w K Q' := fun hur hq he => ok_one h hd hur hq (by
    unfold execOp
    rw [ho]
    simp only [Sem.run_bind, he, Result.andThen_ok]
    rfl)
  unfold extractQ at hq
  split at hq
  · rename_i xs
    obtain ⟨y, hy, hq⟩ := ofOpt_ok hq
    simp only [AVr] at hv
    obtain ⟨vs, he, hvs⟩ := hv
    obtain ⟨u, hu, hur⟩ := AVs.get hvs hy
    refine fin hur hq ?_
    simp only [he, Instr.extract]
    have : vs[k]? = some u := by simpa using hu
    rw [this]
    rfl
  · rename_i b y z
    simp only [AVr] at hv
    split at hq
    · refine fin (u := .bool b) (by simp only [AVr, ACr, DVr]; exact ⟨trivial, rfl⟩) hq ?_
      cases b with
      | true => obtain ⟨vx, vy, he, _⟩ := hv.1 rfl; rw [he]; rfl
      | false => rw [hv.2 rfl]; rfl
    · obtain ⟨hb, hq⟩ := hq
      obtain ⟨vx, vy, he, h1, h2⟩ := hv.1 hb
      refine fin (u := vx) (by simp only [AVr]; exact h1) hq ?_
      rw [he]; rfl
    · obtain ⟨hb, hq⟩ := hq
      obtain ⟨vx, vy, he, h1, h2⟩ := hv.1 hb
      refine fin (u := vy) (by simp only [AVr]; exact h2) hq ?_
      rw [he]; rfl
    · exact hq.elim
  · exact hq.elim
theorem addr_live_b (_h : Rel W0 M G s a w) {id ver off : Nat} {v : Value} (hv : AVr G s w (.c (.ptr id ver off)) v) (h1 : ver = (s.b id).ver) (h2 : (s.b id).c.isSome = true) : v = .pointer (some ⟨G.bx id, off, none⟩) := by
  simp only [AVr, ACr] at hv
  exact hv.2.2 h1 h2
theorem addr_live_r (_h : Rel W0 M G s a w) {id ver i off sz : Nat} {v : Value} (hv : AVr G s w (.c (.rptr id ver i off sz)) v) (h1 : ver = (s.r id).ver) (h2 : (s.r id).c.isSome = true) : ∃ ad n c, G.rw id = .slice (some ad) n c ∧ v = .pointer (some (ad.add (i * sz + off))) := by
  simp only [AVr, ACr] at hv
  exact hv.2.2 h1 h2
theorem eptr_drop {cs : List DV} {v : Value} (n : Nat) (hv : ACr G s w (.eptr cs) v) : ∃ ad, v = .pointer (some ad) ∧ ACr G s w (.eptr (cs.drop n)) (.pointer (some (ad.add n))) := by
  simp only [ACr] at hv ⊢
  obtain ⟨ad, xs, rfl, h1, h2⟩ := hv
  refine ⟨ad, rfl, _, xs.drop n, rfl, h1.drop n, fun j u hu => ?_⟩
  rw [List.getElem?_drop] at hu
  obtain ⟨k1, k2⟩ := h2 _ _ hu
  rw [add_add, add_block, add_off, Nat.add_assoc]
  exact ⟨k1, k2⟩
theorem field_ok (h : Rel W0 M G s a w) {n : Nat} {x : AV} {v : Value} {K : AV → Prop} (hv : AVr G s w x v) (hq : (fieldQ n x).wp s K) : ∃ y ad, K y ∧ v = .pointer (some ad) ∧ AVr G s w y (.pointer (some (ad.add n))) := by
  unfold fieldQ at hq
  split at hq
  · rename_i id ver off
    simp only [Q.wp] at hq
    obtain ⟨⟨h1, h2⟩, hq⟩ := hq
    obtain rfl := addr_live_b h hv h1 h2
    refine ⟨_, _, hq, rfl, ?_⟩
    rw [addr_add_off _ _ rfl]
    simp only [AVr, ACr] at hv ⊢
    exact ⟨rfl, hv.2.1, fun _ _ => trivial⟩
  · rename_i cs
    obtain ⟨ad, e, h2⟩ := eptr_drop n (by simpa only [AVr] using hv)
    exact ⟨_, ad, hq, e, by simpa only [AVr] using h2⟩
  · rename_i id ver k off sz
    simp only [Q.wp] at hq
    obtain ⟨⟨h1, h2⟩, hq⟩ := hq
    obtain ⟨ad, m, c, h3, rfl⟩ := addr_live_r h hv h1 h2
    refine ⟨_, _, hq, rfl, ?_⟩
    simp only [AVr, ACr] at hv ⊢
    refine ⟨rfl, hv.2.1, fun _ _ => ⟨ad, m, c, h3, ?_⟩⟩
    rw [add_add, Nat.add_assoc]
  · exact hq.elim
theorem ok_field {t : TypeId} {x : Operand} {f : Nat} (ho : o.op = .fieldAddr t x f) (hT : ∀ t i, T t = some i → TOk P t i) (h : Rel W0 M G s a w) (hd : ∀ d, o.dst = some d → d < s.n)
    (hq : ((tq T t).bind fun i => match i.k with | .struct fs => (Q.ofOpt fs[f]?).bind fun p => (ev x).bind fun x => (fieldQ p.1 x).bind (one o.dst) | _ => .fail).wp s K) : Does P W0 M s o a w K Q' := by
  simp only [Q.wp_bind] at hq
  obtain ⟨i, hi, hq⟩ := tq_ok hq
  split at hq
  · rename_i fs hk
    simp only [Q.wp_bind] at hq
    obtain ⟨p, hp, hq⟩ := ofOpt_ok hq
    obtain ⟨v, hq, hv⟩ := ev_ok h hq
    obtain ⟨y, ad, hq, he, hy⟩ := field_ok h hv hq
    refine ok_one h hd hy hq ?_
    obtain ⟨d, hu, hdk⟩ := (hT t i hi).und
    rw [hk] at hdk
    obtain ⟨fields, rfl, hmap, hall⟩ := hdk
    rw [← hmap, List.getElem?_map] at hp
    obtain ⟨fl, hfl, rfl⟩ := Option.map_eq_some_iff.1 hp
    have hfl' : fields[f]? = some fl := by simpa using hfl
    have hpos := List.all_eq_true.1 hall fl (List.mem_of_getElem? hfl)
    simp only [Bool.and_eq_true, decide_eq_true_eq] at hpos
    obtain ⟨inf, hinf⟩ := Option.isSome_iff_exists.1 hpos.2
    have hsz : (Go.sizeOf fl.type).run P w = .ok (P.cellsOf fl.type) w := run_sizeOf w hinf
    have hne : ¬ P.cellsOf fl.type = 0 := by omega
    unfold execOp
    rw [ho]
    simp only [he, Instr.fieldAt, Sem.run_bind, run_underlying hu, Result.andThen_ok, hfl', Instr.sureAddr, Sem.run_pure, fieldPlace, hsz, hne, if_false]
  · exact hq.elim
end
end Go.Proofs.YtgfmnpbcbpobbaaDoor.Am
/- An abstract machine over plain data: its operations are sound (3). No conditions. -/
namespace Go.Proofs.YtgfmnpbcbpobbaaDoor.Am
open Go

section
variable {P : Program} {T : TypeId → Option TI} {W0 : World} {M : Own} {G : Gh} {s : St} {a : Act} {w : World} {o : Oper} {K : List Upd → Prop} {Q' : Exit → Act → World → Prop}
theorem cell_one {x : AC} {v : Value} (hv : AVr G s w (.c x) v) : ACr G s w x v := by simpa only [AVr] using hv
theorem ok_nilCheck {x : Operand} (ho : o.op = .nilCheck x) (h : Rel W0 M G s a w) (hd : ∀ d, o.dst = some d → d < s.n)
    (hq : ((ev x).bind fun x => match x with
      | .c (.ptr id ver _off) => .rdB id fun b => .req (ver = b.ver ∧ b.c.isSome = true) (one o.dst x)
      | .c (.eptr _) => one o.dst x
      | .c (.rptr id ver _ _ _) => .rdR id fun r => .req (ver = r.ver ∧ r.c.isSome = true) (one o.dst x)
      | .c (.d (.v (.func (.func _) _ _))) => one o.dst x
      | _ => .fail).wp s K) : Does P W0 M s o a w K Q' := by
  rw [Q.wp_bind] at hq
  obtain ⟨v, hq, hv⟩ := ev_ok h hq
  have key : ∀ ad, a.eval x = .pointer (some ad) → (execOp a.eval o).run P w = .ok (.value (a.eval x)) w := by
    intro ad he
    unfold execOp
    rw [ho]
    simp only [he]
    rfl
  split at hq
  · simp only [Q.wp] at hq
    obtain ⟨⟨h1, h2⟩, hq⟩ := hq
    exact ok_one h hd hv hq (key _ (addr_live_b h hv h1 h2))
  · have := cell_one hv
    simp only [ACr] at this
    obtain ⟨ad, xs, h1, _⟩ := this
    exact ok_one h hd hv hq (key _ h1)
  · simp only [Q.wp] at hq
    obtain ⟨⟨h1, h2⟩, hq⟩ := hq
    obtain ⟨ad, m, c, _, h3⟩ := addr_live_r h hv h1 h2
    exact ok_one h hd hv hq (key _ h3)
  · rename_i f fi ca
    have := cell_one hv
    simp only [ACr, DVr] at this
    refine ok_one h hd hv hq ?_
    unfold execOp
    rw [ho]
    simp only [this.1]
    rfl
  · exact hq.elim
theorem intBin_ok (op : BinOp) (t : TypeId) (k : IntKind) (a b : Int) {K : Value → Prop} (hop : isShift op = false) (hq : (intBin op k a b).wp s K) : ∃ r, K r ∧ (binOp op t (.int k a) (.int k b)).run P w = .ok r w := by
  cases op <;> simp only [isShift] at hop <;> simp only [intBin, Q.wp] at hq <;> (try exact hq.elim)
  case quo => exact ⟨_, hq.2, by simp [binOp, Op.intDiv, hq.1]⟩
  case rem => exact ⟨_, hq.2, by simp [binOp, Op.intDiv, hq.1]⟩
  all_goals first
    | exact ⟨_, hq, by simp [binOp, Op.intArith, Op.intBits, Op.intCmp]; rfl⟩
    | exact ⟨_, hq, by simp [binOp, Op.intArith, Op.intBits, Op.intCmp]⟩
    | cases hop
theorem shift_ok (op : BinOp) (t : TypeId) (k k' : IntKind) (a b : Int) {K : Value → Prop} (hop : isShift op = true) (hq : (shiftQ op k a b).wp s K) : ∃ r, K r ∧ (binOp op t (.int k a) (.int k' b)).run P w = .ok r w := by
  cases op <;> simp only [isShift] at hop <;> (try cases hop) <;> simp only [shiftQ, Q.wp] at hq
  · exact ⟨_, hq.2, by simp [binOp, Op.shift, Int.not_lt.2 hq.1]⟩
  · exact ⟨_, hq.2, by simp [binOp, Op.shift, Int.not_lt.2 hq.1]⟩
theorem strBin_ok (op : BinOp) (t : TypeId) (a b : ByteArray) {K : Value → Prop} (hq : (strBin op a b).wp s K) : ∃ r, K r ∧ (binOp op t (.string a) (.string b)).run P w = .ok r w := by
  cases op <;> simp only [strBin, Q.wp] at hq <;> (try exact hq.elim)
  case add =>
    refine ⟨_, hq.2, ?_⟩
    have : ¬ (9223372036854775807 < (a.size : Int) + (b.size : Int)) := by have := hq.1; omega
    simp [binOp, Op.stringOp, IntKind.max, IntKind.signed, IntKind.bits, this]
  all_goals
    have hb : (a.toList == b.toList) = decide (a.data.toList = b.data.toList) := by rw [ByteArray.toList_eq, ByteArray.toList_eq, Bool.eq_iff_iff]; simp
    exact ⟨_, hq, by simp only [binOp, Op.stringOp, hb]; (try simp only [ByteArray.toList_eq]); rfl⟩
theorem eqGuard_scalar (op : BinOp) (t : TypeId) (x y : Operand) (u v : Value) (hu : (match u with | .nilIface | .agg _ => false | _ => true) = true) : (eqGuard op t x y u v).run P w = .ok () w := by
  unfold eqGuard
  cases u <;> first | (cases op <;> first | rfl | (cases v <;> rfl)) | cases hu
/-- A value whose equality the machine knows. -/
def eqKind : Value → Bool
  | .bool _ | .pointer _ | .agg _ => true
  | _ => false
theorem equal_bool {t : TypeId} (hu : P.underlying t = some .bool) (n : Nat) (a b : Bool) : (Op.equalIn (n + 1) t (.bool a) (.bool b)).run P w = .ok (a == b) w := by
  simp only [Op.equalIn, Sem.run_bind, run_underlying hu, Result.andThen_ok]; rfl
theorem equal_ptr {t e : TypeId} (hu : P.underlying t = some (.pointer e)) (n : Nat) (a : Addr) : (Op.equalIn (n + 1) t (.pointer (some a)) (.pointer none)).run P w = .ok false w := by
  simp only [Op.equalIn, Sem.run_bind, run_underlying hu, Result.andThen_ok]; rfl
theorem equal_ptr0 {t e : TypeId} (hu : P.underlying t = some (.pointer e)) (n : Nat) : (Op.equalIn (n + 1) t (.pointer none) (.pointer none)).run P w = .ok true w := by
  simp only [Op.equalIn, Sem.run_bind, run_underlying hu, Result.andThen_ok]; rfl
theorem dvs_ok {G : Gh} {s : St} {w : World} : ∀ (xs : List AC) (us vs : List Value), ACs G s w xs us → dvs xs = some vs → us = vs
  | [], us, vs, h, e => by
    injection e with e; subst e
    simpa [ACs] using h
  | x :: xs, us, vs, h, e => by
    simp only [ACs] at h
    obtain ⟨u, r, rfl, h3, h4⟩ := h
    cases x with
    | d y =>
      cases y with
      | v y =>
        obtain ⟨vs', e', rfl⟩ := Option.map_eq_some_iff.1 e
        simp only [ACr, DVr] at h3
        rw [h3.1, dvs_ok xs r vs' h4 e']
      | _ => cases e
    | _ => cases e
theorem eqV_ok {t : TypeId} {i : TI} (hT : TOk P t i) (h : Rel W0 M G s a w) {x y : AV} {u v : Value} {K : Bool → Prop} (hx : AVr G s w x u) (hy : AVr G s w y v) (hq : (eqV i i.k x y).wp s K) :
    ∃ b, K b ∧ (Op.equal t u v).run P w = .ok b w ∧ eqKind u = true ∧ ∀ op x y, (eqGuard op t x y u v).run P w = .ok () w := by
  obtain ⟨d, hu, hdk⟩ := hT.und
  unfold eqV at hq
  split at hq
  · rename_i xs ys
    simp only [AVr] at hx hy
    obtain ⟨vs, rfl, hx⟩ := hx
    obtain ⟨us, rfl, hy⟩ := hy
    unfold eqA at hq
    split at hq
    · rename_i vs' us' e1 e2
      obtain ⟨⟨ha, h0, h1, h2⟩, hq⟩ := hq
      obtain ⟨⟨dd, hd, hc⟩, hg⟩ := hT.cmp h0
      have a1 := dvs_ok _ _ _ hx e1
      have a2 := dvs_ok _ _ _ hy e2
      have hag : ∀ zs : Array Value, fmd P t (.agg zs) := fun zs => by
        unfold fmd; rw [hu]
        unfold TI.agg at ha
        split at ha
        · rename_i hk; rw [hk] at hdk; obtain ⟨_, rfl, _⟩ := hdk; exact ⟨_, rfl⟩
        · rename_i hk; rw [hk] at hdk; simp only at hdk; subst hdk; exact ⟨_, rfl⟩
        · cases ha
      have := equal_cmp (10000 - dd) dd t i.cmp hc w (.agg vs) (.agg us) (hag vs) (hag us) (by simpa [Value.cells, a1] using h1) (by simpa [Value.cells, a2] using h2)
      rw [Nat.sub_add_cancel hd] at this
      refine ⟨_, hq, ?_, rfl, fun op x y => run_eqGuard_agg w op t x y vs us hg⟩
      rw [← a1, ← a2]
      exact this
    · exact hq.elim
  · rename_i p q
    split at hq
    · rename_i hk
      rw [hk] at hdk
      simp only at hdk
      subst hdk
      have h1 := (cell_one hx)
      have h2 := (cell_one hy)
      simp only [ACr, DVr] at h1 h2
      obtain ⟨rfl, _⟩ := h1
      obtain ⟨rfl, _⟩ := h2
      exact ⟨_, hq, equal_bool hu 9999 p q, rfl, fun op x y => eqGuard_scalar op t x y _ _ rfl⟩
    · exact hq.elim
  · rename_i id ver off
    split at hq
    · rename_i e hk
      rw [hk] at hdk
      simp only at hdk
      subst hdk
      simp only [Q.wp] at hq
      obtain ⟨⟨e1, e2⟩, hq⟩ := hq
      obtain rfl := addr_live_b h hx e1 e2
      have h2 := (cell_one hy)
      simp only [ACr, DVr] at h2
      obtain ⟨rfl, _⟩ := h2
      exact ⟨_, hq, equal_ptr hu 9999 _, rfl, fun op x y => eqGuard_scalar op t x y _ _ rfl⟩
    · exact hq.elim
  · split at hq
    · rename_i e hk
      rw [hk] at hdk
      simp only at hdk
      subst hdk
      have h1 := (cell_one hx)
      have h2 := (cell_one hy)
      simp only [ACr, DVr] at h1 h2
      obtain ⟨rfl, _⟩ := h1
      obtain ⟨rfl, _⟩ := h2
      exact ⟨_, hq, equal_ptr0 hu 9999, rfl, fun op x y => eqGuard_scalar op t x y _ _ rfl⟩
    · exact hq.elim
  · exact hq.elim
theorem run_binOp_eq {op : BinOp} {t : TypeId} {u v : Value} {e b : Bool} (hop : isEq op = some e) (hr : (Op.equal t u v).run P w = .ok b w) (hu : eqKind u = true) :
    (binOp op t u v).run P w = .ok (.bool (match e with | true => b | false => !b)) w := by
  cases op <;> simp only [isEq] at hop <;> first | cases hop | (injection hop with hop; subst hop)
  · cases u <;> first | (simp only [binOp, Sem.run_bind, hr, Result.andThen_ok]; rfl) | cases hu
  · cases u <;> first | (simp only [binOp, Sem.run_bind, hr, Result.andThen_ok]; rfl) | cases hu
theorem ok_binOp {op : BinOp} {t t' : TypeId} {x y : Operand} (ho : o.op = .binOp op t x y t') (hT : ∀ t i, T t = some i → TOk P t i) (h : Rel W0 M G s a w) (hd : ∀ d, o.dst = some d → d < s.n)
    (hq : ((tq T t).bind fun i => (ev x).bind fun x => (ev y).bind fun y => (binQ op i x y).bind (one o.dst)).wp s K) : Does P W0 M s o a w K Q' := by
  simp only [Q.wp_bind] at hq
  obtain ⟨i, hi, hq⟩ := tq_ok hq
  obtain ⟨u, hq, hu⟩ := ev_ok h hq
  obtain ⟨v, hq, hv⟩ := ev_ok h hq
  have fin : ∀ (r : Value) (z : AV), AVr G s w z r → K (oneU o.dst z) → (eqGuard op t x y (a.eval x) (a.eval y)).run P w = .ok () w → (binOp op t (a.eval x) (a.eval y)).run P w = .ok r w → Does P W0 M s o a w K Q' := by
    intro r z hz hK hg hb
    refine ok_one h hd hz hK ?_
    unfold execOp
    rw [ho]
    simp only [Sem.run_bind, hg, Result.andThen_ok, hb]
    rfl
  unfold binQ at hq
  split at hq
  · rename_i hsc
    split at hq
    · rename_i p q
      have h1 := cell_one hu
      have h2 := cell_one hv
      simp only [ACr, DVr] at h1 h2
      simp only [Q.wp_bind] at hq
      unfold binV at hq
      split at hq
      · rename_i k m k' n
        have hg : (eqGuard op t x y (a.eval x) (a.eval y)).run P w = .ok () w := eqGuard_scalar op t x y _ _ (by rw [h1.1])
        split at hq
        · rename_i hsh
          obtain ⟨r, hq, hr⟩ := shift_ok (P := P) (w := w) op t k k' m n hsh hq
          exact fin r _ (by simp only [AVr, ACr, DVr]; exact ⟨trivial, hq.1⟩) hq.2 hg (by rw [h1.1, h2.1]; exact hr)
        · rename_i hsh
          obtain ⟨rfl, hq⟩ := hq
          obtain ⟨r, hq, hr⟩ := intBin_ok (P := P) (w := w) op t k m n hsh hq
          exact fin r _ (by simp only [AVr, ACr, DVr]; exact ⟨trivial, hq.1⟩) hq.2 hg (by rw [h1.1, h2.1]; exact hr)
      · rename_i m n
        have hg : (eqGuard op t x y (a.eval x) (a.eval y)).run P w = .ok () w := eqGuard_scalar op t x y _ _ (by rw [h1.1])
        obtain ⟨r, hq, hr⟩ := strBin_ok (P := P) (w := w) op t m n hq
        exact fin r _ (by simp only [AVr, ACr, DVr]; exact ⟨trivial, hq.1⟩) hq.2 hg (by rw [h1.1, h2.1]; exact hr)
      · exact hq.elim
    · exact hq.elim
  · split at hq
    · rename_i e hop
      rw [Q.wp_bind] at hq
      obtain ⟨b, hq, hr, hsh, hg⟩ := eqV_ok (hT t i hi) h hu hv hq
      refine fin _ _ ?_ hq (hg op x y) (run_binOp_eq hop hr hsh)
      simp only [AVr, ACr, DVr]
      exact ⟨by cases e <;> rfl, rfl⟩
    · exact hq.elim
theorem ok_unOp {op : UnOp} {t : TypeId} {x : Operand} (ho : o.op = .unOp op t x) (h : Rel W0 M G s a w) (hd : ∀ d, o.dst = some d → d < s.n) (hq : ((ev x).bind fun x => (unQ op x).bind (one o.dst)).wp s K) : Does P W0 M s o a w K Q' := by
  simp only [Q.wp_bind] at hq
  obtain ⟨u, hq, hu⟩ := ev_ok h hq
  have fin : ∀ (r : Value) (z : AV), AVr G s w z r → K (oneU o.dst z) → (Op.unary op (a.eval x)).run P w = .ok r w → Does P W0 M s o a w K Q' := by
    intro r z hz hK hb
    refine ok_one h hd hz hK ?_
    unfold execOp
    rw [ho]
    simp only [Sem.run_bind, hb, Result.andThen_ok]
    rfl
  unfold unQ at hq
  split at hq
  · rename_i b
    have h1 := cell_one hu
    simp only [ACr, DVr] at h1
    split at hq
    · exact fin _ _ (by simp only [AVr, ACr, DVr]; exact ⟨rfl, rfl⟩) hq (by rw [h1.1]; rfl)
    · exact hq.elim
  · rename_i k n
    have h1 := cell_one hu
    simp only [ACr, DVr] at h1
    split at hq
    · exact fin _ _ (by simp only [AVr, ACr, DVr]; exact ⟨rfl, rfl⟩) hq (by rw [h1.1]; rfl)
    · exact fin _ _ (by simp only [AVr, ACr, DVr]; exact ⟨rfl, rfl⟩) hq (by rw [h1.1]; rfl)
    · exact hq.elim
  · exact hq.elim
end
end Go.Proofs.YtgfmnpbcbpobbaaDoor.Am
/- An abstract machine over plain data: its operations are sound (4). No conditions. -/
namespace Go.Proofs.YtgfmnpbcbpobbaaDoor.Am
open Go

section
variable {P : Program} {T : TypeId → Option TI} {W0 : World} {M : Own} {G : Gh} {s : St} {a : Act} {w : World} {o : Oper} {K : List Upd → Prop} {Q' : Exit → Act → World → Prop}
theorem row_dv {I : Nat → Nat → Prop} {v : Value} {R : Row} (h : RowOk I w v R) (hE : R.e < mapF) : DVr (fun _ _ => True) w (.sl R.es) v := by
  obtain ⟨hz, hu, xs, how, hd⟩ := h.sl hE
  have hd' : DVee (fun _ _ => True) w R.es xs := DVee.mono (fun _ _ _ => trivial) (Keep.refl _ _) _ hd
  simp only [DVr]
  rcases how.2 with ⟨hv, h0⟩ | ⟨g, cap, cur, hv, _, hg, h1, h2, _⟩
  · exact ⟨none, 0, R.sz, xs, by rw [hv, h0], by omega, by simp [maxLen], hz, hu, fun h => by omega, hd'⟩
  · exact ⟨some ⟨g, 0, none⟩, cap, R.sz, xs, hv, h1, h2, hz, hu, fun _ => ⟨_, rfl, fun j u hj => ⟨how.cells (g := g) (by rw [hv]; rfl) j u hj, trivial⟩⟩, hd'⟩
theorem bytes_cells {I : Nat → Nat → Prop} : ∀ {l : List UInt8} {xs : List Value}, DVee I w (l.map byteC) xs → xs = l.map fun b => Value.int .u8 b.toNat
  | [], xs, h => by simp only [List.map_nil, DVee] at h; rw [h]; rfl
  | b :: l, xs, h => by
    simp only [List.map_cons, DVee, byteC, DVrs, DVr] at h
    obtain ⟨c, r, rfl, ⟨x, r', rfl, ⟨rfl, _⟩, rfl⟩, h3⟩ := h
    rw [bytes_cells h3]
    rfl
theorem run_bytes_str {src e dst : TypeId} (hs : P.underlying src = some (.slice e)) (he : P.underlying e = some (.int .u8)) (hd : P.underlying dst = some .string) {I : Nat → Nat → Prop} {l : List UInt8} {v : Value} (h : DVr I w (.sl (l.map byteC)) v) :
    (convert src dst v).run P w = .ok (.string ⟨l.toArray⟩) w := by
  simp only [DVr] at h
  obtain ⟨A, c, z, xs, rfl, h1, h2, h3, h4, h5, h6⟩ := h
  have hxs := bytes_cells h6
  rw [List.length_map] at h1 h5 ⊢
  rcases A with _ | ad
  · have h0 : l = [] := by
      rcases Nat.eq_zero_or_pos l.length with h0 | h0
      · exact List.eq_nil_of_length_eq_zero h0
      · obtain ⟨_, h, _⟩ := h5 h0
        cases h
    subst h0
    simp only [convert, Sem.run_bind, run_underlying hs, run_underlying hd, run_underlying he, Result.andThen_ok]
    rfl
  · have hl : (loadCells ad l.length).run P w = .ok ((l.map fun a => (a.toNat : Int)).map (Value.int .u8)).toArray w := by
      have := run_loadCells_list (P := P) w ad xs (fun j v hj => by
        have h0 : 0 < l.length := by
          rcases Nat.eq_zero_or_pos l.length with h0 | h0
          · have := List.eq_nil_of_length_eq_zero h0; subst this; rw [hxs] at hj; simp at hj
          · exact h0
        obtain ⟨ad', h, hc⟩ := h5 h0
        injection h with h
        subst h
        exact (hc j v hj).1)
      rw [hxs] at this
      rw [List.map_map]
      simpa [Function.comp_def] using this
    rw [run_convert_bytes_string w src dst e _ _ c hs he hd, run_bytesToString w ad _ c _ hl, foldl_push_bytes]
    have e1 : (l.map fun a => (a.toNat : Int)).map (fun n => UInt8.ofNat n.toNat) = l := by
      rw [List.map_map]
      conv => rhs; rw [← List.map_id l]
      apply List.map_congr_left
      intro a _
      simp
    rw [e1]
    simp
/-- The world has one block more, whose first cells never change again. -/
theorem Mem.newI (h : Mem W0 M G s w) {w' : World} (hg : w.grownBy w' none) (n : Nat) (hlt : w.heap.size < w'.heap.size) :
    Mem W0 M ⟨fun b o => G.I b o ∨ (b = w.heap.size ∧ o < n), G.bx, G.rw⟩ s w' ∧ Ext G s w ⟨fun b o => G.I b o ∨ (b = w.heap.size ∧ o < n), G.bx, G.rw⟩ s w' := by
  obtain ⟨m, e⟩ := h.grow hg
  have E : Ext G s w ⟨fun b o => G.I b o ∨ (b = w.heap.size ∧ o < n), G.bx, G.rw⟩ s w' := ⟨fun _ _ h => .inl h, e.keep, e.b, e.r⟩
  have E' : Ext G s w' ⟨fun b o => G.I b o ∨ (b = w.heap.size ∧ o < n), G.bx, G.rw⟩ s w' := ⟨fun _ _ h => .inl h, Keep.refl _ _, e.b, e.r⟩
  have ho : ∀ x, own ⟨fun b o => G.I b o ∨ (b = w.heap.size ∧ o < n), G.bx, G.rw⟩ s x = own G s x := fun x => by cases x <;> rfl
  refine ⟨⟨fun k c hc => ?_, fun k R hc => (m.rw k R hc).mono (fun _ _ h => .inl h), fun x y b hx hy => m.dj x y b (by rw [ho] at hx; exact hx) (by rw [ho] at hy; exact hy), fun k hc o hi => ?_, fun k R g hc hg' o hi => ?_, fun x b hx => m.oM x b (by rw [ho] at hx; exact hx), fun b o hi => ?_, m.fr, ⟨fun b o hi => .inl (m.ii.1 b o hi), fun b o hi => ?_⟩, m.gl.mono E'.I E'.keep⟩, E⟩
  · obtain ⟨cur, ty, h1, h2⟩ := m.bx k c hc
    exact ⟨cur, ty, h1, E'.acs h2⟩
  · rcases hi with hi | ⟨hb, _⟩
    · exact m.bI k hc o hi
    · have := h.ownlt (x := .inl k) (b := G.bx k) (by simp only [own]; rw [if_pos]; exact hc)
      simp only at hb
      omega
  · rcases hi with hi | ⟨hb, _⟩
    · exact m.rI k R g hc hg' o hi
    · have := h.ownlt (x := .inr k) (b := g) (by simp only [own, hc]; exact hg')
      omega
  · rcases hi with hi | ⟨hb, _⟩
    · exact m.In b o hi
    · rw [hb]; exact hlt
  · rcases hi with hi | ⟨hb, _⟩
    · exact m.ii.2 b o hi
    · exact .inr (.inr (by rw [hb]; exact h.fr.size))
theorem DVee.bytes {I : Nat → Nat → Prop} : ∀ l : List UInt8, DVee I w (l.map byteC) (l.map fun b => Value.int .u8 b.toNat)
  | [] => by simp [DVee]
  | b :: l => by
    simp only [List.map_cons, DVee]
    exact ⟨[.int .u8 b.toNat], _, rfl, ⟨_, [], rfl, ⟨rfl, rfl⟩, rfl⟩, DVee.bytes l⟩
theorem grown_bytes (w : World) (e : TypeId) (str : ByteArray) : w.grownBy (Go.Lib.bytesWorld w e str) none :=
  ⟨rfl, rfl, rfl, by rw [Go.Lib.bytesWorld_size]; exact Nat.le_succ _, fun k hk _ => Go.Lib.bytesWorld_at_old w e str k hk⟩
theorem ok_convert {t t' : TypeId} {x : Operand} (ho : o.op = .convert t t' x) (hT : ∀ t i, T t = some i → TOk P t i) (h : Rel W0 M G s a w) (hd : ∀ d, o.dst = some d → d < s.n)
    (hq : ((tq T t).bind fun i => (tq T t').bind fun j => (ev x).bind fun x => match i.k, j.k with
    | .int _, .int k => (Q.int x).bind fun n => one o.dst (.c (.d (.v (.int k (k.wrap n)))))
    | .str, .str => match x with
      | .c (.d (.v (.string _))) => one o.dst x
      | _ => .fail
    | .slice e, .str => (tq T e).bind fun ie => match ie.k with
      | .int .u8 => match x with
        | .c x => (toD x).bind fun y => (bytesQ y.1).bind fun l => one o.dst (.c (.d (.v (.string ⟨l.toArray⟩))))
        | _ => .fail
      | _ => .fail
    | .str, .slice e => (tq T e).bind fun ie => match ie.k with
      | .int .u8 => match x with
        | .c (.d (.v (.string str))) => .req (str.size ≤ maxLen) (one o.dst (.c (.d (.sl (str.data.toList.map byteC)))))
        | _ => .fail
      | _ => .fail
    | _, _ => .fail).wp s K) : Does P W0 M s o a w K Q' := by
  simp only [Q.wp_bind] at hq
  obtain ⟨i, hi, hq⟩ := tq_ok hq
  obtain ⟨j, hj, hq⟩ := tq_ok hq
  obtain ⟨u, hq, hu⟩ := ev_ok h hq
  obtain ⟨d1, hu1, hk1⟩ := (hT t i hi).und
  obtain ⟨d2, hu2, hk2⟩ := (hT t' j hj).und
  have fin : ∀ (r : Value) (z : AV), AVr G s w z r → K (oneU o.dst z) → (convert t t' (a.eval x)).run P w = .ok r w → Does P W0 M s o a w K Q' := by
    intro r z hz hK hb
    refine ok_one h hd hz hK ?_
    unfold execOp
    rw [ho]
    simp only [Sem.run_bind, hb, Result.andThen_ok]
    rfl
  split at hq
  · rename_i k0 k e1 e2
    rw [e1] at hk1
    rw [e2] at hk2
    simp only at hk1 hk2
    subst hk1; subst hk2
    rw [Q.wp_bind] at hq
    obtain ⟨k', n, he, hq⟩ := int_ok hu hq
    exact fin _ _ (by simp only [AVr, ACr, DVr]; exact ⟨rfl, rfl⟩) hq (by rw [he]; simp only [convert, Sem.run_bind, run_underlying hu1, run_underlying hu2, Result.andThen_ok]; rfl)
  · rename_i e1 e2
    rw [e1] at hk1
    rw [e2] at hk2
    simp only at hk1 hk2
    subst hk1; subst hk2
    split at hq
    · have h1 := cell_one hu
      simp only [ACr, DVr] at h1
      exact fin _ _ hu hq (by rw [h1.1]; simp only [convert, Sem.run_bind, run_underlying hu1, run_underlying hu2, Result.andThen_ok]; rfl)
    · exact hq.elim
  · rename_i e e1 e2
    rw [e1] at hk1
    rw [e2] at hk2
    simp only at hk1 hk2
    subst hk1; subst hk2
    rw [Q.wp_bind] at hq
    obtain ⟨ie, hie, hq1⟩ := tq_ok hq
    clear hq
    obtain ⟨d3, hu3, hk3⟩ := (hT e ie hie).und
    split at hq1
    · rename_i e3
      rw [e3] at hk3
      simp only at hk3
      subst hk3
      split at hq1
      · rename_i xc
        rw [Q.wp_bind] at hq1
        obtain ⟨y, hq2, hE, hy⟩ := toD_ok (cell_one hu) hq1
        clear hq1
        rw [Q.wp_bind] at hq2
        have hdv := hy (fun _ _ => True) (fun _ _ _ => trivial) (fun id hm R hR => row_dv (h.mem.rw id R hR) ((hE id hm).2 R hR))
        unfold bytesQ at hq2
        split at hq2
        · rename_i es hes
          obtain ⟨hby, hq3⟩ := hq2
          rw [hes] at hdv
          refine fin (.string ⟨(es.map unByte).toArray⟩) _ (by simp only [AVr, ACr, DVr]; exact ⟨trivial, rfl⟩) hq3 ?_
          rw [hby] at hdv
          exact run_bytes_str hu1 hu3 hu2 hdv
        · exact hq2.elim
      · exact hq1.elim
    · exact hq1.elim
  · rename_i e e1 e2
    rw [e1] at hk1
    rw [e2] at hk2
    simp only at hk1 hk2
    subst hk1; subst hk2
    rw [Q.wp_bind] at hq
    obtain ⟨ie, hie, hq1⟩ := tq_ok hq
    clear hq
    obtain ⟨d3, hu3, hk3⟩ := (hT e ie hie).und
    split at hq1
    · rename_i e3
      rw [e3] at hk3
      simp only at hk3
      subst hk3
      split at hq1
      · rename_i str
        obtain ⟨hsz, hq2⟩ := hq1
        simp only [AVr, ACr, DVr] at hu
        obtain ⟨m1, E1⟩ := h.mem.newI (grown_bytes w e str) str.size (by rw [Go.Lib.bytesWorld_size]; exact Nat.lt_succ_self _)
        have hR := h.mem' E1 m1 rfl rfl
        have hrun := Go.Lib.run_convert_string_bytes w t t' e str hu1 hu2 hu3
        have hln : (str.data.toList.map byteC).length = str.size := by simp
        refine wp_value (w' := Go.Lib.bytesWorld w e str) (v := .slice (some ⟨w.heap.size, 0, none⟩) str.size (grownCap w str.size 0 e)) ?_ ⟨_, hq2, ?_⟩
        · unfold execOp
          rw [ho]
          simp only [hu.1, Sem.run_bind, hrun, Result.andThen_ok]
          rfl
        · unfold oneU
          cases hod : o.dst with
          | none => exact ⟨_, hR⟩
          | some d =>
            refine ⟨_, hR.put (hd d hod) ⟨fun _ => ?_, fun e => by cases e⟩⟩
            simp only [AVr, ACr, DVr]
            refine ⟨some ⟨w.heap.size, 0, none⟩, grownCap w str.size 0 e, 1, str.data.toList.map fun b => Value.int .u8 b.toNat, by rw [hln], by rw [hln]; exact grownCap_ge _ _ _ _, grownCap_le_maxLen _ _ _ _ hsz, Nat.one_pos, fun e he => ?_, fun _ => ⟨_, rfl, fun j u hj => ?_⟩, DVee.bytes _⟩
            · obtain ⟨b, _, rfl⟩ := List.mem_map.1 he
              rfl
            · have hj' : j < str.size := by
                rcases Nat.lt_or_ge j str.size with h | h
                · exact h
                · rw [List.getElem?_eq_none (by simpa using h)] at hj; cases hj
              refine ⟨?_, .inr ⟨rfl, show 0 + j < str.size by omega⟩⟩
              rw [addr_add_off _ _ rfl, Nat.zero_add, Go.Lib.bytesWorld_cell w e str j hj']
              simp only [List.getElem?_map, Option.map_eq_some_iff] at hj
              obtain ⟨b, hb, rfl⟩ := hj
              simp [List.getD, hb]
      · exact hq1.elim
    · exact hq1.elim
  · exact hq.elim
/-- 'x[l:h]' of data. -/
theorem DVr.slice {I : Nat → Nat → Prop} {es : List (List DV)} {A : Option Addr} {n c z l h : Nat} (hx : DVr I w (.sl es) (.slice A n c)) (hz : ∀ e ∈ es, e.length = z) (hlh : l ≤ h) (hh : h ≤ es.length) :
    n = es.length ∧ n ≤ c ∧ DVr I w (.sl ((es.take h).drop l)) (.slice (if c = l then A else A.map (·.add (l * z))) (h - l) (c - l)) := by
  simp only [DVr] at hx
  obtain ⟨A', c', z', xs, hv, h1, h2, h3, h4, h5, h6⟩ := hx
  injection hv with e1 e2 e3
  subst e1; subst e2; subst e3
  refine ⟨rfl, h1, ?_⟩
  simp only [DVr]
  have hlen : ((es.take h).drop l).length = h - l := by rw [List.length_drop, List.length_take]; omega
  by_cases h0 : l < h
  · obtain ⟨ad, hA, hc⟩ := h5 (by omega)
    subst hA
    obtain ⟨e0, he0⟩ : ∃ e, e ∈ es := by
      cases es with
      | nil => simp at hh; omega
      | cons e es => exact ⟨e, by simp⟩
    have hzz : z' = z := (h4 e0 he0).symm.trans (hz e0 he0)
    subst hzz
    have hx2 := DVee.drop (DVee.take h6 h4 h) (fun e he => h4 e (List.mem_of_mem_take he)) l
    rw [if_neg (by omega)]
    refine ⟨some (ad.add (l * z')), c - l, z', _, by rw [hlen]; rfl, by omega, by omega, h3, fun e he => h4 e (List.mem_of_mem_take (List.mem_of_mem_drop he)), fun _ => ⟨_, rfl, fun j u hu => ?_⟩, hx2⟩
    rw [List.getElem?_drop, List.getElem?_take] at hu
    split at hu
    · obtain ⟨k1, k2⟩ := hc _ _ hu
      rw [add_add, add_block, add_off, Nat.add_assoc]
      exact ⟨k1, k2⟩
    · cases hu
  · have hnil : (es.take h).drop l = [] := by
      apply List.eq_nil_of_length_eq_zero; rw [hlen]; omega
    rw [hnil]
    exact ⟨(if c = l then A else A.map (·.add (l * z))), c - l, 1, [], by rw [show h - l = 0 from by omega]; rfl, Nat.zero_le _, by omega, by omega, by simp, by simp, by simp [DVee]⟩
theorem run_sliceB {t e : TypeId} {i : TI} (hT : TOk P e i) (hu : P.underlying t = some (.slice e)) (A : Option Addr) (n c : Nat) (lo hi : Option Value) (l h : Nat)
    (hlo : (lo = none ∧ l = 0) ∨ ∃ k, lo = some (.int k (l : Int))) (hhi : (hi = none ∧ h = n) ∨ ∃ k, hi = some (.int k (h : Int))) (hlh : l ≤ h) (hhc : h ≤ c) :
    (Instr.sliceAt t (.slice A n c) lo hi none).run P w = .ok (.slice (if c = l then A else A.map (·.add (l * i.size))) (h - l) (c - l)) w := by
  have hsz := hT.sizeOf w
  have b1 : ∀ (k : IntKind) (code : BoundsCode), (Instr.sliceBound (.int k (h : Int)) c code).run P w = .ok h w := fun k code => by
    have := run_sliceBound (P := P) (w := w) k (h : Int) c code (by omega) (by omega)
    simpa using this
  have b2 : ∀ (k : IntKind) (code : BoundsCode), (Instr.sliceBound (.int k (l : Int)) h code).run P w = .ok l w := fun k code => by
    have := run_sliceBound (P := P) (w := w) k (l : Int) h code (by omega) (by omega)
    simpa using this
  rcases hlo with ⟨rfl, rfl⟩ | ⟨k1, rfl⟩ <;> rcases hhi with ⟨rfl, rfl⟩ | ⟨k2, rfl⟩ <;>
    simp [Instr.sliceAt, Instr.slice, run_underlying hu, Instr.sliceBounds, b1, b2, hsz]
theorem freeze_rel (h : Rel W0 M G s a w) {ids : List Nat} {K : List Upd → Prop} (hq : (freeze ids).wp s K) :
    ∃ us G', K us ∧ Rel W0 M G' (s.app us) a w ∧ Ext G s w G' (s.app us) w ∧ (∀ id ∈ ids, ∀ R, (s.r id).c = some R → DVr G'.I w (.sl R.es) (G.rw id)) ∧ Frz s (s.app us) ∧ G'.bx = G.bx ∧ G'.rw = G.rw ∧
      (∀ id R, ((s.app us).r id).c = some R → R.fr = true → (∃ R', (s.r id).c = some R' ∧ R'.fr = true) ∨ id ∈ ids) := by
  obtain ⟨us, G', k1, k2, k3, k4, k5, k6, k7, k8⟩ := freeze_ok s hq h.mem (Frz.refl s)
  exact ⟨us, G', k1, h.mem' k3 k2 k5.1 k5.2.1, k3, k4, k5, k6, k7, k8⟩
theorem sliceS_ok {l h : Option Int} {x : AV} {K : AV → Prop} (hq : (sliceSQ l h x).wp s K) : ∃ str, x = .c (.d (.v (.string str))) ∧ 0 ≤ l.getD 0 ∧ l.getD 0 ≤ h.getD str.size ∧ h.getD str.size ≤ str.size ∧ K (.c (.d (.v (.string (str.extract (l.getD 0).toNat (h.getD str.size).toNat))))) := by
  unfold sliceSQ at hq
  split at hq
  · rename_i str
    exact ⟨str, rfl, hq.1.1, hq.1.2.1, hq.1.2.2, hq.2⟩
  · exact hq.elim
theorem ok_slice {t : TypeId} {x : Operand} {lo hi : Option Operand} (ho : o.op = .slice t x lo hi none) (hT : ∀ t i, T t = some i → TOk P t i) (h : Rel W0 M G s a w) (hd : ∀ d, o.dst = some d → d < s.n)
    (hq : ((tq T t).bind fun i => (ev x).bind fun x => (evo lo).bind fun l => (evo hi).bind fun h => match i.k with
      | .slice e => (tq T e).bind fun ie => match x with
        | .c x => (Q.ofOpt o.dst).bind fun d => sliceQ d ie.size l h x
        | _ => .fail
      | .str => (sliceSQ l h x).bind (one o.dst)
      | _ => .fail).wp s K) : Does P W0 M s o a w K Q' := by
  simp only [Q.wp_bind] at hq
  obtain ⟨i, hi', hq⟩ := tq_ok hq
  obtain ⟨u, hq, hu⟩ := ev_ok h hq
  have hrun0 : ∀ r, (Instr.sliceAt t (a.eval x) (lo.map a.eval) (hi.map a.eval) none).run P w = .ok r w → (execOp a.eval o).run P w = .ok (.value r) w := by
    intro r hr
    unfold execOp
    rw [ho]
    simp only [Option.map_none, Sem.run_bind, hr, Result.andThen_ok]
    rfl
  obtain ⟨l, hl, hq⟩ : ∃ l : Option Int, ((lo = none ∧ l = none) ∨ ∃ k n, lo.map a.eval = some (.int k n) ∧ l = some n) ∧ ((evo hi).wp s fun h => (match i.k with
      | .slice e => (tq T e).bind fun ie => match u with
        | .c x => (Q.ofOpt o.dst).bind fun d => sliceQ d ie.size l h x
        | _ => .fail
      | .str => (sliceSQ l h u).bind (one o.dst)
      | _ => .fail).wp s K) := by
    rcases evo_ok h hq with ⟨e, hq⟩ | ⟨y, k, n, e, hq, hy⟩
    · exact ⟨none, .inl ⟨e, rfl⟩, hq⟩
    · exact ⟨some n, .inr ⟨k, n, by rw [e]; simp [hy], rfl⟩, hq⟩
  obtain ⟨hh, hhl, hq⟩ : ∃ hh : Option Int, ((hi = none ∧ hh = none) ∨ ∃ k n, hi.map a.eval = some (.int k n) ∧ hh = some n) ∧ ((match i.k with
      | .slice e => (tq T e).bind fun ie => match u with
        | .c x => (Q.ofOpt o.dst).bind fun d => sliceQ d ie.size l hh x
        | _ => .fail
      | .str => (sliceSQ l hh u).bind (one o.dst)
      | _ => .fail).wp s K) := by
    rcases evo_ok h hq with ⟨e, hq⟩ | ⟨y, k, n, e, hq, hy⟩
    · exact ⟨none, .inl ⟨e, rfl⟩, hq⟩
    · exact ⟨some n, .inr ⟨k, n, by rw [e]; simp [hy], rfl⟩, hq⟩
  obtain ⟨d1, hu1, hk1⟩ := (hT t i hi').und
  split at hq
  · rename_i e hk
    rw [hk] at hk1
    simp only at hk1
    subst hk1
    rw [Q.wp_bind] at hq
    obtain ⟨ie, hie, hq⟩ := tq_ok hq
    split at hq
    · rename_i c
      rw [Q.wp_bind] at hq
      obtain ⟨d, hdd, hq⟩ := ofOpt_ok hq
      unfold sliceQ at hq
      rw [Q.wp_bind] at hq
      obtain ⟨y, hq, _, hy⟩ := toD_ok (cell_one hu) hq
      rw [Q.wp_bind] at hq
      obtain ⟨us, G', hq, hR, hE, hf, hfrz, hb', hr', _⟩ := freeze_rel h hq
      have hdv := hy G'.I hE.I hf
      split at hq
      · rename_i es hes
        rw [hes] at hdv
        obtain ⟨⟨hal, b0, b1, b2⟩, hq⟩ := hq
        obtain ⟨A, n, cp, hv⟩ : ∃ A n cp, a.eval x = .slice A n cp := by
          simp only [DVr] at hdv
          obtain ⟨A, cp, _, _, hv, _⟩ := hdv
          exact ⟨A, _, cp, hv⟩
        rw [hv] at hdv
        have hn := hdv
        obtain ⟨e1, e2, e3⟩ := DVr.slice (l := (l.getD 0).toNat) (h := (hh.getD es.length).toNat) hdv hal (by omega) (by omega)
        have hrun := run_sliceB (P := P) (w := w) (hT e ie hie) hu1 A n cp (lo.map a.eval) (hi.map a.eval) (l.getD 0).toNat (hh.getD es.length).toNat (by
          rcases hl with ⟨rfl, rfl⟩ | ⟨k, m, hm, rfl⟩
          · exact .inl ⟨rfl, rfl⟩
          · refine .inr ⟨k, ?_⟩
            rw [hm]
            simp only [Option.getD_some] at b0 ⊢
            rw [Int.toNat_of_nonneg b0]) (by
          rcases hhl with ⟨rfl, rfl⟩ | ⟨k, m, hm, rfl⟩
          · exact .inl ⟨rfl, by simp [e1]⟩
          · refine .inr ⟨k, ?_⟩
            rw [hm]
            simp only [Option.getD_some] at b1 b2 ⊢
            rw [Int.toNat_of_nonneg (by omega)]) (by omega) (by omega)
        refine wp_value (hrun0 _ (by rw [hv]; exact hrun)) ⟨_, hq, G', ?_⟩
        rw [St.app_append, hdd]
        refine hR.put (by rw [hfrz.1]; exact hd d hdd) ⟨fun _ => ?_, fun e => by cases e⟩
        simp only [AVr, ACr]
        exact e3
      · exact hq.elim
    · exact hq.elim
  · rename_i hk
    rw [hk] at hk1
    simp only at hk1
    subst hk1
    rw [Q.wp_bind] at hq
    obtain ⟨str, rfl, b0, b1, b2, hq⟩ := sliceS_ok hq
    · have h1 := cell_one hu
      simp only [ACr, DVr] at h1
      refine ok_one h hd (by simp only [AVr, ACr, DVr]; exact ⟨rfl, rfl⟩) hq (hrun0 _ ?_)
      rw [h1.1]
      have c1 : ∀ (k : IntKind) (n : Int) (y : Nat) (code : BoundsCode), 0 ≤ n → n ≤ y → (Instr.sliceBound (.int k n) y code).run P w = .ok n.toNat w := fun k n y code p q => run_sliceBound (P := P) (w := w) k n y code p q
      rcases hl with ⟨rfl, rfl⟩ | ⟨k1, m1, hm1, rfl⟩ <;> rcases hhl with ⟨rfl, rfl⟩ | ⟨k2, m2, hm2, rfl⟩
      · simp [Instr.sliceAt, Instr.slice, run_underlying hu1, Instr.sliceBounds]
      · simp only [Option.getD_some, Option.getD_none] at b1 b2 ⊢
        rw [hm2]
        simp [Instr.sliceAt, Instr.slice, run_underlying hu1, Instr.sliceBounds, c1 k2 m2 str.size _ (by omega) (by omega)]
      · simp only [Option.getD_some, Option.getD_none] at b0 b1 b2 ⊢
        rw [hm1]
        simp [Instr.sliceAt, Instr.slice, run_underlying hu1, Instr.sliceBounds, c1 k1 m1 str.size _ (by omega) (by omega)]
      · simp only [Option.getD_some] at b0 b1 b2 ⊢
        rw [hm1, hm2]
        have e2 : ((m2.toNat : Nat) : Int) = m2 := Int.toNat_of_nonneg (by omega)
        simp [Instr.sliceAt, Instr.slice, run_underlying hu1, Instr.sliceBounds, c1 k2 m2 str.size _ (by omega) (by omega), c1 k1 m1 m2.toNat _ (by omega) (by omega)]
  · exact hq.elim
end
end Go.Proofs.YtgfmnpbcbpobbaaDoor.Am
/- An abstract machine over plain data: its operations are sound (5). No conditions. -/
namespace Go.Proofs.YtgfmnpbcbpobbaaDoor.Am
open Go

section
variable {P : Program} {T : TypeId → Option TI} {W0 : World} {M : Own} {G : Gh} {s : St} {a : Act} {w : World} {o : Oper} {K : List Upd → Prop} {Q' : Exit → Act → World → Prop}
theorem index_ok {t e : TypeId} {i : TI} (hT : TOk P e i) (hu : P.underlying t = some (.slice e)) (h : Rel W0 M G s a w) {x : AV} {v : Value} {k : IntKind} {n : Int} {K : AV → Prop} (hx : AVr G s w x v) (hq : (indexQ i.size n x).wp s K) :
    ∃ y r, K y ∧ AVr G s w y r ∧ (Instr.indexAt t v (.int k n)).run P w = .ok r w := by
  have hsz := hT.sizeOf w
  have hrun : ∀ (ad : Addr) (m c : Nat), 0 ≤ n → n < m → (Instr.indexAt t (.slice (some ad) m c) (.int k n)).run P w = .ok (.pointer (some (ad.add (n.toNat * i.size)))) w := fun ad m c h1 h2 => by
    simp [Instr.indexAt, asIntOf, run_underlying hu, h1, h2, hsz]
  unfold indexQ at hq
  split at hq
  · rename_i es
    obtain ⟨⟨h0, h1, h2⟩, hq⟩ := hq
    have hx' := cell_one hx
    simp only [ACr, DVr] at hx'
    obtain ⟨A, c, z, xs, rfl, a1, a2, a3, a4, a5, a6⟩ := hx'
    obtain ⟨ad, rfl, hc⟩ := a5 (by omega)
    refine ⟨_, _, hq, ?_, hrun ad _ c h0 h1⟩
    have hi : n.toNat < es.length := by omega
    have he : es[n.toNat]? = some (es.getD n.toNat []) := by rw [List.getD_eq_getElem?_getD, List.getElem?_eq_getElem hi]; rfl
    have hget := DVee.get a6 a4 he
    have hzz : z = i.size := (a4 _ (List.mem_of_getElem? he)).symm.trans h2
    subst hzz
    simp only [AVr, ACr]
    refine ⟨_, _, rfl, hget, fun j u hj => ?_⟩
    have := take_drop_get hj
    obtain ⟨k1, k2⟩ := hc _ _ this
    rw [add_add, add_block, add_off, Nat.add_assoc]
    exact ⟨k1, k2⟩
  · rename_i id ver
    simp only [Q.wp] at hq
    split at hq
    · rename_i R hR
      obtain ⟨⟨h1, h2, h3, h4, hE⟩, hq⟩ := hq
      have hx' := cell_one hx
      simp only [ACr] at hx'
      obtain rfl := hx'.2.2 h1 (by rw [hR]; rfl)
      obtain ⟨g, m, c, hv, hm⟩ := h.mem.rowAddr hR (by omega) hE
      refine ⟨_, _, hq, ?_, by rw [hv]; exact hrun _ m c h2 (by omega)⟩
      simp only [AVr, ACr]
      exact ⟨rfl, hx'.2.1, fun _ _ => ⟨_, m, c, hv, by simp⟩⟩
    · exact hq.elim
  · exact hq.elim
theorem indexA_ok {t e : TypeId} {m : Nat} {i : TI} (hT : TOk P e i) (hu : P.underlying t = some (.array m e)) (h : Rel W0 M G s a w) {x : AV} {v : Value} {k : IntKind} {n : Int} {K : AV → Prop} (hx : AVr G s w x v) (hq : (indexAQ m i.size n x).wp s K) :
    ∃ y r, K y ∧ AVr G s w y r ∧ (Instr.indexAt t v (.int k n)).run P w = .ok r w := by
  have hsz := hT.sizeOf w
  have hrun : ∀ (ad : Addr), 0 ≤ n → n < m → (Instr.indexAt t (.pointer (some ad)) (.int k n)).run P w = .ok (.pointer (some (ad.add (n.toNat * i.size)))) w := fun ad h1 h2 => by
    simp [Instr.indexAt, asIntOf, run_underlying hu, h1, h2, hsz, Instr.sureAddr]
  unfold indexAQ at hq
  split at hq
  · rename_i id ver off
    obtain ⟨⟨h0, h1, h2, h3⟩, hq⟩ := hq
    obtain rfl := addr_live_b h hx h2 h3
    refine ⟨_, _, hq, ?_, hrun _ h0 h1⟩
    rw [addr_add_off _ _ rfl]
    have hx' := cell_one hx
    simp only [ACr] at hx'
    simp only [AVr, ACr]
    exact ⟨rfl, hx'.2.1, fun _ _ => trivial⟩
  · rename_i cs
    obtain ⟨⟨h0, h1⟩, hq⟩ := hq
    obtain ⟨ad, rfl, h3⟩ := eptr_drop (n.toNat * i.size) (cell_one hx)
    exact ⟨_, _, hq, by simp only [AVr]; exact h3, hrun ad h0 h1⟩
  · rename_i id ver j off sz
    obtain ⟨⟨h0, h1, h2, h3⟩, hq⟩ := hq
    obtain ⟨ad, m', c, h4, rfl⟩ := addr_live_r h hx h2 h3
    refine ⟨_, _, hq, ?_, hrun _ h0 h1⟩
    have hx' := cell_one hx
    simp only [ACr] at hx'
    simp only [AVr, ACr]
    refine ⟨rfl, hx'.2.1, fun _ _ => ⟨ad, m', c, h4, ?_⟩⟩
    rw [add_add, Nat.add_assoc]
  · exact hq.elim
theorem ok_index {t : TypeId} {x y : Operand} (ho : o.op = .indexAddr t x y) (hT : ∀ t i, T t = some i → TOk P t i) (h : Rel W0 M G s a w) (hd : ∀ d, o.dst = some d → d < s.n)
    (hq : ((tq T t).bind fun i => (ev x).bind fun x => (ev y).bind fun k => (Q.int k).bind fun k => match i.k with
    | .slice e => (tq T e).bind fun ie => (indexQ ie.size k x).bind (one o.dst)
    | .arr n e => (tq T e).bind fun ie => (indexAQ n ie.size k x).bind (one o.dst)
    | _ => .fail).wp s K) : Does P W0 M s o a w K Q' := by
  simp only [Q.wp_bind] at hq
  obtain ⟨i, hi, hq⟩ := tq_ok hq
  obtain ⟨u, hq, hu⟩ := ev_ok h hq
  obtain ⟨v, hq, hv⟩ := ev_ok h hq
  obtain ⟨k, n, hkn, hq⟩ := int_ok hv hq
  obtain ⟨d1, hu1, hk1⟩ := (hT t i hi).und
  have hrun0 : ∀ r, (Instr.indexAt t (a.eval x) (.int k n)).run P w = .ok r w → (execOp a.eval o).run P w = .ok (.value r) w := by
    intro r hr
    unfold execOp
    rw [ho]
    simp only [hkn, Sem.run_bind, hr, Result.andThen_ok]
    rfl
  split at hq
  · rename_i e hk
    rw [hk] at hk1
    simp only at hk1
    subst hk1
    simp only [Q.wp_bind] at hq
    obtain ⟨ie, hie, hq⟩ := tq_ok hq
    obtain ⟨y', r, hq, hr, hrun⟩ := index_ok (k := k) (hT e ie hie) hu1 h hu hq
    exact ok_one h hd hr hq (hrun0 _ hrun)
  · rename_i m e hk
    rw [hk] at hk1
    simp only at hk1
    subst hk1
    simp only [Q.wp_bind] at hq
    obtain ⟨ie, hie, hq⟩ := tq_ok hq
    obtain ⟨y', r, hq, hr, hrun⟩ := indexA_ok (k := k) (hT e ie hie) hu1 h hu hq
    exact ok_one h hd hr hq (hrun0 _ hrun)
  · exact hq.elim
theorem indexS_ok {n : Int} {x : AV} {K : AV → Prop} (hq : (indexSQ n x).wp s K) : ∃ str, x = .c (.d (.v (.string str))) ∧ 0 ≤ n ∧ n < str.size ∧ K (.c (.d (.v (.int .u8 ((str.data.toList.getD n.toNat 0).toNat : Int))))) := by
  unfold indexSQ at hq
  split at hq
  · rename_i str
    exact ⟨str, rfl, hq.1.1, hq.1.2, hq.2⟩
  · exact hq.elim
theorem ok_indexS {t : TypeId} {x y : Operand} (ho : o.op = .index t x y) (hT : ∀ t i, T t = some i → TOk P t i) (h : Rel W0 M G s a w) (hd : ∀ d, o.dst = some d → d < s.n)
    (hq : ((tq T t).bind fun i => (ev x).bind fun x => (ev y).bind fun k => (Q.int k).bind fun k => match i.k with
    | .str => (indexSQ k x).bind (one o.dst)
    | _ => .fail).wp s K) : Does P W0 M s o a w K Q' := by
  simp only [Q.wp_bind] at hq
  obtain ⟨i, hi, hq⟩ := tq_ok hq
  obtain ⟨u, hq, hu⟩ := ev_ok h hq
  obtain ⟨v, hq, hv⟩ := ev_ok h hq
  obtain ⟨k, n, hkn, hq⟩ := int_ok hv hq
  obtain ⟨d1, hu1, hk1⟩ := (hT t i hi).und
  split at hq
  · rename_i hk
    rw [hk] at hk1
    simp only at hk1
    subst hk1
    rw [Q.wp_bind] at hq
    obtain ⟨str, rfl, h0, h1, hq⟩ := indexS_ok hq
    · have h2 := cell_one hu
      simp only [ACr, DVr] at h2
      refine ok_one h hd (by simp only [AVr, ACr, DVr]; exact ⟨rfl, rfl⟩) hq ?_
      unfold execOp
      rw [ho]
      simp only [hkn, h2.1]
      have hlt : n.toNat < str.size := by omega
      have hl2 : n.toNat < str.data.toList.length := by simpa using hlt
      have hg : str[n.toNat]? = some (str.data.toList.getD n.toNat 0) := by
        rw [List.getD_eq_getElem?_getD, List.getElem?_eq_getElem hl2]
        simp only [Option.getD_some]
        rw [getElem?_pos str n.toNat hlt]
        rfl
      simp [Instr.index, asIntOf, run_underlying hu1, h0, hg]
  · exact hq.elim
/-- Parts of a literal. -/
def PVs (G : Gh) (s : St) (w : World) : List (Nat × AV) → List (Nat × Value) → Prop
  | [], vs => vs = []
  | p :: ps, vs => ∃ v r, vs = (p.1, v) :: r ∧ AVr G s w p.2 v ∧ PVs G s w ps r
theorem evps_ok (h : Rel W0 M G s a w) : ∀ {xs : List (Nat × Operand)} {K : List (Nat × AV) → Prop}, (evps xs).wp s K → ∃ vs, K vs ∧ PVs G s w vs (xs.map fun p => (p.1, a.eval p.2))
  | [], K, hq => ⟨[], hq, by simp [PVs]⟩
  | x :: xs, K, hq => by
    simp only [evps, Q.wp_bind, Q.wp] at hq
    obtain ⟨v, hq, h1⟩ := ev_ok h hq
    obtain ⟨vs, hq, h2⟩ := evps_ok h hq
    exact ⟨_, hq, by simp only [PVs, List.map_cons]; exact ⟨_, _, rfl, h1, h2⟩⟩
theorem foldl_setAt (off : Nat) : ∀ (l : List Value) (n : Nat) (cs : Array Value), off + n + l.length ≤ cs.size → ((l.zipIdx n).foldl (fun cs p => cs.setIfInBounds (off + p.2) p.1) cs).toList = setAt cs.toList (off + n) l
  | [], n, cs, _ => by simp [setAt]
  | v :: l, n, cs, hl => by
    simp only [List.length_cons] at hl
    rw [List.zipIdx_cons, List.foldl_cons]
    rw [foldl_setAt off l (n + 1) _ (by simp; omega)]
    have hs : cs.toList.length = cs.size := Array.length_toList
    simp only [setAt, Array.toList_setIfInBounds, List.length_cons]
    rw [List.take_set, List.drop_set, if_pos (by omega)]
    have e1 : (cs.toList.take (off + (n + 1))).set (off + n) v = cs.toList.take (off + n) ++ [v] := by
      rw [show off + (n + 1) = off + n + 1 from by omega, List.take_succ_eq_append_getElem (by omega), List.set_append_right _ _ (by simp; omega)]
      simp [List.length_take, Nat.min_eq_left (show off + n ≤ cs.size by omega)]
    rw [e1]
    simp [Nat.add_assoc, Nat.add_comm 1]
theorem fill_step (place : Nat → Option (Nat × Nat)) (cells : Array Value) (i : Nat) (v : Value) (rest : List (Nat × Value)) {off size : Nat} (hp : place i = some (off, size)) (h1 : v.cells.size = size) (h2 : off + size ≤ cells.size) :
    ∃ cells' : Array Value, Instr.fill place cells ((i, v) :: rest) = Instr.fill place cells' rest ∧ cells'.toList = setAt cells.toList off v.cells.toList := by
  refine ⟨_, by simp only [Instr.fill, hp]; rw [if_neg (by simp; omega)], ?_⟩
  have := foldl_setAt off v.cells.toList 0 cells (by simp; omega)
  rw [Nat.add_zero] at this
  rw [← this]
  rw [← Array.foldl_toList, Array.toList_zipIdx]
theorem fillC_ok (place : Nat → Option (Nat × Nat)) : ∀ {ps : List (Nat × AV)} {vs : List (Nat × Value)} {cs : List AC} {cells : Array Value} {K : List AC → Prop}, PVs G s w ps vs → ACs G s w cs cells.toList → (fillC place cs ps).wp s K →
    ∃ cs' cells', K cs' ∧ Instr.fill place cells vs = some cells' ∧ ACs G s w cs' cells'.toList
  | [], vs, cs, cells, K, hp, hc, hq => by
    simp only [PVs] at hp; subst hp
    exact ⟨cs, cells, hq, rfl, hc⟩
  | p :: ps, vs, cs, cells, K, hp, hc, hq => by
    simp only [PVs] at hp
    obtain ⟨v, r, rfl, h1, h2⟩ := hp
    simp only [fillC, Q.wp_bind] at hq
    obtain ⟨vc, hq, hvc⟩ := cells_ok h1 hq
    split at hq
    · rename_i q hpl
      obtain ⟨off, size⟩ := q
      obtain ⟨⟨e1, e2⟩, hq⟩ := hq
      simp only at e1 e2
      have hl := hvc.len
      have hcl := hc.len
      obtain ⟨cells', e3, e4⟩ := fill_step place cells p.1 v r hpl (by rw [← Array.length_toList, hl]; exact e1) (by rw [← Array.length_toList, hcl]; exact e2)
      obtain ⟨cs', cells'', k1, k2, k3⟩ := fillC_ok place h2 (cells := cells') (by rw [e4]; exact hc.setAt hvc) hq
      exact ⟨cs', cells'', k1, by rw [e3]; exact k2, k3⟩
    · exact hq.elim
theorem places_ok (P : Program) : ∀ (fs : List Field), (fs.all fun f => decide (0 < P.cellsOf f.type) && (P.info? f.type).isSome) = true → fs.mapM (fun f => (P.info? f.type).map fun i => (f.offset, i.size)) = some (fs.map fun f => (f.offset, P.cellsOf f.type))
  | [], _ => rfl
  | f :: fs, h => by
    simp only [List.all_cons, Bool.and_eq_true] at h
    obtain ⟨i, hi⟩ := Option.isSome_iff_exists.1 h.1.2
    have := places_ok P fs h.2
    simp [List.mapM_cons, hi, this, Program.cellsOf]
theorem ok_build {t : TypeId} {parts : Array (Nat × Operand)} (ho : o.op = .build t parts) (hT : ∀ t i, T t = some i → TOk P t i) (h : Rel W0 M G s a w) (hd : ∀ d, o.dst = some d → d < s.n)
    (hq : ((tq T t).bind fun i => (evps parts.toList).bind fun ps => match i.k with
    | .struct fs => (fillC (fs[·]?) (i.zero.map constC) ps).bind fun cs => one o.dst (.agg cs)
    | .arr _ e => (tq T e).bind fun ie => (fillC (fun j => some (j * ie.size, ie.size)) (i.zero.map constC) ps).bind fun cs => one o.dst (.agg cs)
    | _ => .fail).wp s K) : Does P W0 M s o a w K Q' := by
  simp only [Q.wp_bind] at hq
  obtain ⟨i, hi, hq⟩ := tq_ok hq
  obtain ⟨ps, hq, hps⟩ := evps_ok h hq
  obtain ⟨d1, hu1, hk1⟩ := (hT t i hi).und
  obtain ⟨inf, z, hinf, hsz, hby, hz, hzl, hzn, hz1⟩ := (hT t i hi).info
  have hpt : (parts.map fun (i, x) => (i, a.eval x)).toList = parts.toList.map fun p => (p.1, a.eval p.2) := by simp
  have hc0 : ACs G s w (i.zero.map constC) z.cells.toList := by rw [hzl]; exact constCs_ok hz1
  have fin : ∀ (cs : List AC) (cells : Array Value), ACs G s w cs cells.toList → K (oneU o.dst (.agg cs)) → P.built t (parts.toList.map fun p => (p.1, a.eval p.2)) = some cells → Does P W0 M s o a w K Q' := by
    intro cs cells hcs hK hb
    refine ok_one h hd (x := .agg cs) (v := .agg cells) (by simp only [AVr]; exact ⟨cells, rfl, hcs⟩) hK ?_
    unfold execOp
    rw [ho]
    simp only [Sem.run_bind, run_build w t _ cells (by rw [hpt]; exact hb), Result.andThen_ok]
    rfl
  split at hq
  · rename_i fs hk
    rw [hk] at hk1
    obtain ⟨fields, rfl, hmap, hall⟩ := hk1
    rw [Q.wp_bind] at hq
    obtain ⟨cs, cells, hq, hf, hcs⟩ := fillC_ok (fs[·]?) hps hc0 hq
    refine fin cs cells hcs hq ?_
    simp only [Program.built, hinf, hu1, hz, places_ok P _ hall, hmap]
    have : (fun j : Nat => fs.toArray[j]?) = (fun j : Nat => fs[j]?) := by funext j; simp
    rw [this]
    exact hf
  · rename_i n e hk
    rw [hk] at hk1
    simp only at hk1
    subst hk1
    simp only [Q.wp_bind] at hq
    obtain ⟨ie, hie, hq⟩ := tq_ok hq
    obtain ⟨cs, cells, hq, hf, hcs⟩ := fillC_ok (fun j => some (j * ie.size, ie.size)) hps hc0 hq
    refine fin cs cells hcs hq ?_
    obtain ⟨inf2, z2, hinf2, hsz2, _⟩ := (hT e ie hie).info
    simp only [Program.built, hinf, hu1, hz, hinf2, hsz2]
    exact hf
  · exact hq.elim
end
end Go.Proofs.YtgfmnpbcbpobbaaDoor.Am
/- An abstract machine over plain data: its operations are sound (6). No conditions. -/
namespace Go.Proofs.YtgfmnpbcbpobbaaDoor.Am
open Go

section
variable {P : Program} {T : TypeId → Option TI} {W0 : World} {M : Own} {G : Gh} {s : St} {a : Act} {w : World} {o : Oper} {K : List Upd → Prop} {Q' : Exit → Act → World → Prop}
/-- Parts of a literal slice, as data. -/
def PDs (I : Nat → Nat → Prop) (w : World) : List (Nat × List DV) → List (Nat × Value) → Prop
  | [], vs => vs = []
  | p :: ps, vs => ∃ v r, vs = (p.1, v) :: r ∧ DVrs I w p.2 v.cells.toList ∧ PDs I w ps r
theorem toDps_ok : ∀ {ps : List (Nat × AV)} {vs : List (Nat × Value)} {K : List (Nat × List DV) × List Nat → Prop}, PVs G s w ps vs → (toDps ps).wp s K →
    ∃ d, K d ∧ (∀ I' : Nat → Nat → Prop, (∀ b o, G.I b o → I' b o) → (∀ id ∈ d.2, ∀ R, (s.r id).c = some R → DVr I' w (.sl R.es) (G.rw id)) → PDs I' w d.1 vs)
  | [], vs, K, hp, hq => by
    simp only [PVs] at hp; subst hp
    exact ⟨_, hq, fun _ _ _ => by simp [PDs]⟩
  | p :: ps, vs, K, hp, hq => by
    simp only [PVs] at hp
    obtain ⟨v, r, rfl, h1, h2⟩ := hp
    simp only [toDps, Q.wp_bind, Q.wp] at hq
    obtain ⟨cs, hq, hcs⟩ := cells_ok h1 hq
    obtain ⟨d, hq, _, hd⟩ := toDs_ok hcs hq
    obtain ⟨ds, hq, hds⟩ := toDps_ok h2 hq
    refine ⟨_, hq, fun I' hi hf => ?_⟩
    simp only [PDs]
    exact ⟨v, r, rfl, hd I' hi (fun id hm => hf id (by simp [hm])), hds I' hi (fun id hm => hf id (by simp [hm]))⟩
theorem zeroD_ok {I : Nat → Nat → Prop} : ∀ {vs : List Value}, (vs.all Value.oneCell') = true → DVrs I w (vs.map zeroD) vs
  | [], _ => by simp [DVrs]
  | v :: vs, h => by
    simp only [List.all_cons, Bool.and_eq_true] at h
    simp only [List.map_cons, DVrs]
    refine ⟨v, vs, rfl, ?_, zeroD_ok h.2⟩
    unfold zeroD
    split
    · simp only [DVr]
      exact ⟨none, 0, 1, [], rfl, Nat.le_refl _, by simp [maxLen], by omega, by simp, by simp, by simp [DVee]⟩
    · simp only [DVr]; exact ⟨trivial, h.1⟩
theorem DVee.replicate {I : Nat → Nat → Prop} {e : List DV} {c : List Value} (h : DVrs I w e c) : ∀ n : Nat, DVee I w (List.replicate n e) (List.replicate n c).flatten
  | 0 => by simp [DVee]
  | n + 1 => by
    rw [List.replicate_succ, List.replicate_succ, List.flatten_cons]
    simp only [DVee]
    exact ⟨c, _, rfl, h, DVee.replicate h n⟩
theorem flatten_replicate_get {α : Type} (l : List α) : ∀ (n j : Nat), j < n * l.length → (List.replicate n l).flatten[j]? = l[j % l.length]?
  | 0, j, h => by simp at h
  | n + 1, j, h => by
    rw [List.replicate_succ, List.flatten_cons]
    by_cases hj : j < l.length
    · rw [List.getElem?_append_left hj, Nat.mod_eq_of_lt hj]
    · have h2 : (n + 1) * l.length = n * l.length + l.length := by rw [Nat.add_mul, Nat.one_mul]
      rw [List.getElem?_append_right (by omega), flatten_replicate_get l n _ (by omega)]
      congr 1
      exact (Nat.mod_eq_sub_mod (by omega)).symm
theorem made_flatten (zero : Array Value) (n k : Nat) (hk : zero.size = k) (h0 : 0 < k) : ((Array.range (n * k)).map (zero[· % zero.size]!)).toList = (List.replicate n zero.toList).flatten := by
  have hl : zero.toList.length = k := by rw [Array.length_toList, hk]
  apply List.ext_getElem?
  intro j
  by_cases hj : j < n * k
  · rw [flatten_replicate_get _ _ _ (by rw [hl]; exact hj), hl]
    have hm : j % k < zero.size := by rw [hk]; exact Nat.mod_lt _ h0
    have h1 : j % zero.size < zero.size := by rw [hk] at hm ⊢; exact hm
    simp [hj, hk, getElem!_pos zero (j % k) hm]
  · rw [List.getElem?_eq_none (by simp; omega), List.getElem?_eq_none (by simp [hl]; omega)]
theorem fillR_ok {I : Nat → Nat → Prop} {z : Nat} : ∀ {ps : List (Nat × List DV)} {vs : List (Nat × Value)} {es : List (List DV)} {cells : Array Value} {K : List (List DV) → Prop}, PDs I w ps vs → DVee I w es cells.toList → (∀ e ∈ es, e.length = z) → (fillR z es ps).wp s K →
    ∃ es' cells', K es' ∧ Instr.fill (fun i => some (i * z, z)) cells vs = some cells' ∧ DVee I w es' cells'.toList ∧ (∀ e ∈ es', e.length = z) ∧ es'.length = es.length
  | [], vs, es, cells, K, hp, he, hu, hq => by
    simp only [PDs] at hp; subst hp
    exact ⟨es, cells, hq, rfl, he, hu, rfl⟩
  | p :: ps, vs, es, cells, K, hp, he, hu, hq => by
    simp only [PDs] at hp
    obtain ⟨v, r, rfl, h1, h2⟩ := hp
    obtain ⟨⟨e1, e2⟩, hq⟩ := hq
    have hl := h1.len
    have hcl := he.len hu
    have hle : (p.1 + 1) * z ≤ es.length * z := Nat.mul_le_mul_right _ e2
    rw [Nat.succ_mul] at hle
    obtain ⟨cells', k3, k4⟩ := fill_step (fun i => some (i * z, z)) cells p.1 v r rfl (by rw [← Array.length_toList, hl]; exact e1) (by rw [← Array.length_toList, hcl]; exact hle)
    have hset := DVee.set he hu p.1 e2 h1
    have e4 : cells'.toList = cells.toList.take (p.1 * z) ++ v.cells.toList ++ cells.toList.drop ((p.1 + 1) * z) := by
      rw [k4]; unfold setAt; rw [hl, e1, Nat.succ_mul]
    obtain ⟨es', cells'', j1, j2, j3, j4, j5⟩ := fillR_ok (cells := cells') h2 (by rw [e4]; exact hset) (fun e hm => by
      rcases List.mem_or_eq_of_mem_set hm with hm | rfl
      · exact hu e hm
      · exact e1) hq
    exact ⟨es', cells'', j1, by rw [k3]; exact j2, j3, j4, by rw [j5, List.length_set]⟩
theorem ok_buildSlice {t : TypeId} {len : Nat} {parts : Array (Nat × Operand)} (ho : o.op = .buildSlice t len parts) (hT : ∀ t i, T t = some i → TOk P t i) (h : Rel W0 M G s a w) (hd : ∀ d, o.dst = some d → d < s.n)
    (hq : ((tq T t).bind fun i => (Q.ofOpt o.dst).bind fun d => match i.k with
    | .slice e => (tq T e).bind fun ie => .req (len * ie.size ≤ 16777216 ∧ 0 < ie.size ∧ (len = 0 → parts.size = 0) ∧ e < mapF) ((evps parts.toList).bind fun ps => (toDps ps).bind fun y => (freeze y.2).bind fun us => (fillR ie.size (List.replicate len (ie.zero.map zeroD)) y.1).bind fun es =>
      .rdR d fun r => .ret (us ++ [.r d ⟨r.ver + 1, some ⟨es, ie.size, e, false⟩⟩, .t d ⟨true, .c (.row d (r.ver + 1))⟩]))
    | _ => .fail).wp s K) : Does P W0 M s o a w K Q' := by
  simp only [Q.wp_bind] at hq
  obtain ⟨i, hi, hq⟩ := tq_ok hq
  obtain ⟨d, hdd, hq⟩ := ofOpt_ok hq
  obtain ⟨d1, hu1, hk1⟩ := (hT t i hi).und
  split at hq
  · rename_i e hk
    rw [hk] at hk1
    simp only at hk1
    subst hk1
    rw [Q.wp_bind] at hq
    obtain ⟨ie, hie, hq⟩ := tq_ok hq
    obtain ⟨⟨hsm, hz0, hp0, heF⟩, hq⟩ := hq
    rw [Q.wp_bind] at hq
    obtain ⟨ps, hq, hps⟩ := evps_ok h hq
    rw [Q.wp_bind] at hq
    obtain ⟨y, hq, hy⟩ := toDps_ok hps hq
    rw [Q.wp_bind] at hq
    obtain ⟨us, G', hq, hR, hE, hf, hfrz, hb', hr', _⟩ := freeze_rel h hq
    have hpd := hy G'.I hE.I hf
    rw [Q.wp_bind] at hq
    obtain ⟨inf, z, hinf, hsz, hby, hz, hzl, hzn, hz1⟩ := (hT e ie hie).info
    have hzs : z.cells.size = ie.size := by rw [← Array.length_toList, hzl]; exact hzn
    have hinit : DVee G'.I w (List.replicate len (ie.zero.map zeroD)) ((Array.range (len * ie.size)).map (z.cells[· % z.cells.size]!)).toList := by
      rw [made_flatten z.cells len ie.size hzs hz0, hzl]
      exact DVee.replicate (zeroD_ok hz1) len
    obtain ⟨es, cells, hq, hfill, hes, hu, hlen⟩ := fillR_ok hpd hinit (fun e' hm => by rw [List.eq_of_mem_replicate hm]; simpa using hzn) hq
    rw [List.length_replicate] at hlen
    simp only [Q.wp] at hq
    have hver : (s.r d).ver = ((s.app us).r d).ver := ((hfrz.2.2.2 d).1).symm
    rw [hver] at hq
    have hcl := hes.len hu
    refine new_row (s0 := s) (us := us) hR hdd (by rw [hfrz.1]; exact hd d hdd) (R := ⟨es, ie.size, e, false⟩) (v := .slice (some ⟨w.heap.size, 0, none⟩) len len) (grown_alloc w (.cells cells e)) ?_ (fun b hb => by simp [obk] at hb; omega) rfl hq ?_
    · have hk : Keep G'.I w (w.alloc (.cells cells e)) := Keep.alloc _ hR.mem.In _
      refine ⟨hz0, hu, .inl ⟨heF, cells.toList, ⟨hcl, .inr ⟨w.heap.size, len, cells, by simp only [hlen], Nat.zero_le _, heap_alloc_new w _, by simp only [hlen]; exact Nat.le_refl _, ?_, ?_, ?_⟩⟩, DVee.mono (fun _ _ h => h) hk _ hes⟩⟩
      · have : len ≤ len * ie.size := Nat.le_mul_of_pos_right _ hz0
        simp only [maxLen]; omega
      · rw [← Array.length_toList, hcl, hlen]
      · rw [hcl.symm]; exact List.take_length
    · unfold execOp
      rw [ho]
      have hpt : (parts.map fun (i, x) => (i, a.eval x)).toList = parts.toList.map fun p => (p.1, a.eval p.2) := by simp
      by_cases h0 : len * ie.size = 0
      · have hl0 : len = 0 := by rcases Nat.mul_eq_zero.1 h0 with h | h <;> omega
        subst hl0
        have hc0 : cells = #[] := by
          have : cells.toList.length = 0 := by rw [hcl, hlen]; simp
          exact Array.toList_inj.1 (List.eq_nil_of_length_eq_zero this)
        subst hc0
        have hparts : parts = #[] := Array.eq_empty_of_size_eq_zero (hp0 rfl)
        have hn0 : es.length = 0 := hlen
        have hr0 : Array.range 0 = #[] := Array.eq_empty_of_size_eq_zero (by simp)
        simp [Instr.buildSlice, run_underlying hu1, Go.sizeOf, typeInfo, hinf, hparts, Instr.fill, newRow, hr0]
      · have hrun := run_buildSlice (P := P) w t e len (parts.map fun (i, x) => (i, a.eval x)) cells inf z hu1 hinf hz (by rw [hsz]; omega) (by rw [hsz]; exact h0) (by rw [hpt, hsz]; exact hfill)
        simp only [Sem.run_bind, hrun, Result.andThen_ok]
        rfl
  · exact hq.elim
theorem ok_makeSlice {t : TypeId} {x y : Operand} (ho : o.op = .makeSlice t x y) (hT : ∀ t i, T t = some i → TOk P t i) (h : Rel W0 M G s a w) (hd : ∀ d, o.dst = some d → d < s.n)
    (hq : ((tq T t).bind fun i => (Q.ofOpt o.dst).bind fun d => (ev x).bind fun l => (Q.int l).bind fun l => (ev y).bind fun c => (Q.int c).bind fun c => match i.k with
    | .slice e => (tq T e).bind fun ie => .req (0 < ie.size ∧ 0 ≤ l ∧ l ≤ c ∧ (ie.bytes : Int) * c ≤ 281474976710656 ∧ c ≤ 4611686018427387904 ∧ e < mapF) (.rdR d fun r =>
      .ret [.r d ⟨r.ver + 1, some ⟨List.replicate l.toNat (ie.zero.map zeroD), ie.size, e, false⟩⟩, .t d ⟨true, .c (.row d (r.ver + 1))⟩])
    | _ => .fail).wp s K) : Does P W0 M s o a w K Q' := by
  simp only [Q.wp_bind] at hq
  obtain ⟨i, hi, hq⟩ := tq_ok hq
  obtain ⟨d, hdd, hq⟩ := ofOpt_ok hq
  obtain ⟨d1, hu1, hk1⟩ := (hT t i hi).und
  obtain ⟨u, hq, hu⟩ := ev_ok h hq
  obtain ⟨k1, l, e1, hq⟩ := int_ok hu hq
  obtain ⟨v, hq, hv⟩ := ev_ok h hq
  obtain ⟨k2, c, e2, hq⟩ := int_ok hv hq
  split at hq
  · rename_i e hk
    rw [hk] at hk1
    simp only at hk1
    subst hk1
    rw [Q.wp_bind] at hq
    obtain ⟨ie, hie, hq1⟩ := tq_ok hq
    clear hq
    obtain ⟨⟨hz0, hl0, hlc, hb, hc, heF⟩, hq⟩ := hq1
    simp only [Q.wp] at hq
    obtain ⟨inf, z, hinf, hsz, hby, hz, hzl, hzn, hz1⟩ := (hT e ie hie).info
    have hzs : z.cells.size = ie.size := by rw [← Array.length_toList, hzl]; exact hzn
    have hr := run_make (P := P) w t e inf z hu1 hinf hz k1 k2 l c hl0 hlc (by rw [hby]; exact hb) (by omega)
    rw [hsz] at hr
    have hcells : (madeCells z.cells (c.toNat * ie.size)).toList = (List.replicate c.toNat ie.zero).flatten := by
      unfold madeCells
      rw [made_flatten z.cells c.toNat ie.size hzs hz0, hzl]
    have hlen : (madeCells z.cells (c.toNat * ie.size)).size = c.toNat * ie.size := size_madeCells _ _
    have hde : DVee G.I w (List.replicate c.toNat (ie.zero.map zeroD)) (madeCells z.cells (c.toNat * ie.size)).toList := by
      rw [hcells]; exact DVee.replicate (zeroD_ok hz1) c.toNat
    have hlen2 : ∀ e' ∈ List.replicate c.toNat (ie.zero.map zeroD), e'.length = ie.size := fun e' hm => by rw [List.eq_of_mem_replicate hm]; simpa using hzn
    have htake := DVee.take hde hlen2 l.toNat
    have hle : l.toNat ≤ c.toNat := by omega
    rw [List.take_replicate, Nat.min_eq_left hle] at htake
    refine new_row (s0 := s) (us := []) h hdd (hd d hdd) (R := ⟨List.replicate l.toNat (ie.zero.map zeroD), ie.size, e, false⟩) (v := .slice (some ⟨w.heap.size, 0, none⟩) l.toNat c.toNat) (grown_alloc w (.cells (madeCells z.cells (c.toNat * ie.size)) e)) ?_ (fun b hb => by simp [obk] at hb; omega) rfl hq ?_
    · have hk : Keep G.I w (w.alloc (.cells (madeCells z.cells (c.toNat * ie.size)) e)) := Keep.alloc _ h.mem.In _
      refine ⟨hz0, fun e' hm => by rw [List.eq_of_mem_replicate hm]; simpa using hzn, .inl ⟨heF, _, ⟨?_, .inr ⟨w.heap.size, c.toNat, _, by simp only [List.length_replicate], Nat.zero_le _, heap_alloc_new w _, by simp only [List.length_replicate]; exact hle, ?_, ?_, rfl⟩⟩, ?_⟩⟩
      · simp only [List.length_replicate, List.length_take, Array.length_toList, hlen]
        exact Nat.min_eq_left (Nat.mul_le_mul_right _ hle)
      · simp only [maxLen]; omega
      · exact hlen
      · simp only [List.length_replicate]
        exact DVee.mono (fun _ _ h => h) hk _ htake
    · unfold execOp
      rw [ho]
      simp only [e1, e2, Sem.run_bind, hr, Result.andThen_ok]
      rfl
  · exact hq.elim
end
end Go.Proofs.YtgfmnpbcbpobbaaDoor.Am
/- An abstract machine over plain data: strings walked over, interface values. No conditions. -/
namespace Go.Proofs.YtgfmnpbcbpobbaaDoor.Am
open Go

section
variable {P : Program} {T : TypeId → Option TI} {W0 : World} {M : Own} {G : Gh} {s : St} {a : Act} {w : World} {o : Oper} {K : List Upd → Prop} {Q' : Exit → Act → World → Prop}
theorem run_getObj_any {w : World} {r : Nat} {s : ByteArray} {p : Nat} (hb : w.heap[r]? = some (.stringIter s p)) : (getObj r).run P w = .ok (.stringIter s p) w := by
  simp [getObj, Sem.run, hb]
theorem run_setObj_any {w : World} {r : Nat} {s : ByteArray} {p : Nat} (ob' : Obj) (hb : w.heap[r]? = some (.stringIter s p)) : (setObj r ob').run P w = .ok () { w with heap := w.heap.setIfInBounds r ob' } := by
  simp [setObj, Sem.run, hb]
theorem set_grown {w : World} {g : Nat} {ob ob' : Obj} (hh : w.heap[g]? = some ob) : w.grownBy { w with heap := w.heap.setIfInBounds g ob' } (some g) ∧ ({ w with heap := w.heap.setIfInBounds g ob' } : World).heap[g]? = some ob' := by
  have hlt := (Array.getElem?_eq_some_iff.1 hh).1
  refine ⟨⟨rfl, rfl, rfl, by simp, fun k hk hne => ?_⟩, by simp [hlt]⟩
  have : g ≠ k := fun e => hne (by rw [e])
  simp [this]
theorem TK.conc_und {t : TypeId} {i : TI} (hT : TOk P t i) (hc : i.k.conc = true) : ∃ d, P.underlying t = some d ∧ (∀ ms, d ≠ .interface ms) ∧ d ≠ .tuple #[] := by
  obtain ⟨d, hu, hk⟩ := hT.und
  refine ⟨d, hu, ?_, ?_⟩
  · intro ms e
    subst e
    cases hik : i.k <;> rw [hik] at hk hc <;> simp [TK.conc] at hk hc
  · intro e
    subst e
    cases hik : i.k <;> rw [hik] at hk hc <;> simp [TK.conc] at hk hc
theorem ok_rangeOp {t : TypeId} {x : Operand} (ho : o.op = .range t x) (hT : ∀ t i, T t = some i → TOk P t i) (h : Rel W0 M G s a w) (hd : ∀ d, o.dst = some d → d < s.n)
    (hq : ((tq T t).bind fun i => (Q.ofOpt o.dst).bind fun d => (ev x).bind fun x => rangeQ i.k d x).wp s K) : Does P W0 M s o a w K Q' := by
  simp only [Q.wp_bind] at hq
  obtain ⟨i, hi, hq⟩ := tq_ok hq
  obtain ⟨d, hdd, hq⟩ := ofOpt_ok hq
  obtain ⟨v, hq, hv⟩ := ev_ok h hq
  obtain ⟨d1, hu1, hk1⟩ := (hT t i hi).und
  unfold rangeQ at hq
  split at hq
  · rename_i str hk
    have hk1' : d1 = .string := by rw [hk] at hk1; exact hk1
    subst hk1'
    simp only [AVr, ACr, DVr] at hv
    simp only [Q.wp] at hq
    refine new_row (s0 := s) (us := []) h hdd (hd d hdd) (R := ⟨[[.v (.string str), .v (.int .i64 0)]], 2, iterF, false⟩) (v := .pointer (some ⟨w.heap.size, 0, none⟩)) (grown_alloc w (.stringIter str 0)) ⟨Nat.zero_lt_two, by simp, .inr (.inr ⟨rfl, w.heap.size, str, 0, rfl, heap_alloc_new w _, rfl⟩)⟩ (fun b hb => by simp [obk] at hb; omega) rfl hq ?_
    unfold execOp
    rw [ho]
    simp [Instr.range, hv.1, run_underlying hu1]
  · exact hq.elim
theorem ok_next {x : Operand} (ho : o.op = .next x true) (h : Rel W0 M G s a w) (hd : ∀ d, o.dst = some d → d < s.n)
    (hq : ((Q.ofOpt o.dst).bind fun d => (ev x).bind fun x => nextQ d x).wp s K) : Does P W0 M s o a w K Q' := by
  simp only [Q.wp_bind] at hq
  obtain ⟨d, hdd, hq⟩ := ofOpt_ok hq
  obtain ⟨v, hq, hv⟩ := ev_ok h hq
  unfold nextQ at hq
  split at hq
  · rename_i id ver
    simp only [Q.wp] at hq
    split at hq
    · rename_i R hR
      obtain ⟨⟨e1, e2, e3⟩, hq⟩ := hq
      have hx' := cell_one hv
      simp only [ACr] at hx'
      have hval := hx'.2.2 e1 (by rw [hR]; rfl)
      obtain ⟨hz, hl, ⟨h3, _⟩ | ⟨hm, _⟩ | ⟨_, g, str, pos, hg, hh, hes⟩⟩ := h.mem.rw id R hR
      · rw [e2] at h3; exact absurd h3 (by decide)
      · exact absurd e2 hm.2
      · rw [hg] at hval
        have hS : iterS R.es = str := by rw [hes]; rfl
        have hP : iterP R.es = (pos : Int) := by rw [hes]; rfl
        rw [hS, hP, Int.toNat_natCast] at hq
        have hobk : obk (G.rw id) = some g := by rw [hg]; rfl
        have hone : ∀ p : Int, ∀ e ∈ [[DV.v (.string str), DV.v (.int .i64 p)]], e.length = R.sz := fun p e he => by
          have h1 := hl [.v (.string str), .v (.int .i64 (pos : Int))] (by rw [hes]; simp)
          simp only [List.length_cons, List.length_nil] at h1
          rw [List.mem_singleton.1 he]
          simp [← h1]
        have hgrow : ∀ pos' : Nat, RelE W0 M (s.app [.r id ⟨(s.r id).ver, some ⟨[[.v (.string str), .v (.int .i64 (pos' : Int))]], R.sz, R.e, false⟩⟩]) a { w with heap := w.heap.setIfInBounds g (.stringIter str pos') } := fun pos' => by
          obtain ⟨hgr, hnew⟩ := set_grown (ob' := .stringIter str pos') hh
          obtain ⟨m2, e5⟩ := h.mem.setRow hR e3 (g := g) hobk hgr (es' := [[.v (.string str), .v (.int .i64 (pos' : Int))]]) (fun _ => ⟨hz, hone _, .inr (.inr ⟨e2, g, str, pos', hg, hnew, rfl⟩)⟩)
          exact ⟨G, h.mem' e5 m2 rfl rfl⟩
        by_cases hlt : pos < str.size
        · have hnp : nextP str (pos : Int) = ((pos + (Utf8.decode str pos).2 : Nat) : Int) := by
            unfold nextP; rw [Int.toNat_natCast, if_pos hlt]
          rw [hnp, decide_eq_true hlt] at hq
          obtain ⟨G2, hR2⟩ := hgrow (pos + (Utf8.decode str pos).2)
          refine wp_value (w' := { w with heap := w.heap.setIfInBounds g (.stringIter str (pos + (Utf8.decode str pos).2)) }) (v := .tuple #[.bool true, .int .i64 pos, .int .i32 (Utf8.decode str pos).1]) ?_ ⟨_, hq, ?_⟩
          · unfold execOp
            rw [ho]
            simp [Instr.next, hval, run_getObj_any hh, run_setObj_any _ hh, hlt, goInt]
          · rw [show ([Upd.r id _, Upd.t d _] : List Upd) = [Upd.r id _] ++ [Upd.t d _] from rfl, St.app_append, hdd]
            refine ⟨G2, hR2.put (d := d) (show d < s.n from hd d hdd) ⟨fun _ => ?_, fun e => by cases e⟩⟩
            simp only [AVr, ACr, DVr]
            exact ⟨fun _ => ⟨_, _, rfl, ⟨rfl, rfl⟩, ⟨rfl, rfl⟩⟩, fun e => by cases e⟩
        · have hnp : nextP str (pos : Int) = (pos : Int) := by
            unfold nextP; rw [Int.toNat_natCast, if_neg hlt]
          rw [hnp, decide_eq_false hlt] at hq
          have hsame : ({ w with heap := w.heap.setIfInBounds g (.stringIter str pos) } : World) = w := by
            have : w.heap.setIfInBounds g (.stringIter str pos) = w.heap := by
              apply Array.ext_getElem?
              intro j
              rw [Array.getElem?_setIfInBounds]
              split
              · rename_i e; subst e
                split
                · exact hh.symm
                · rw [Array.getElem?_eq_none (by omega)]
              · rfl
            rw [this]
          obtain ⟨G2, hR2⟩ := hgrow pos
          rw [hsame] at hR2
          refine wp_value (w' := w) (v := .tuple #[.bool false]) ?_ ⟨_, hq, ?_⟩
          · unfold execOp
            rw [ho]
            simp [Instr.next, hval, run_getObj_any hh, hlt]
          · rw [show ([Upd.r id _, Upd.t d _] : List Upd) = [Upd.r id _] ++ [Upd.t d _] from rfl, St.app_append, hdd]
            refine ⟨G2, hR2.put (d := d) (show d < s.n from hd d hdd) ⟨fun _ => ?_, fun e => by cases e⟩⟩
            simp only [AVr]
            exact ⟨(fun e => by cases e), fun _ => trivial⟩
    · exact hq.elim
  · exact hq.elim
theorem ok_makeInterface {t : TypeId} {x : Operand} (ho : o.op = .makeInterface t x) (hT : ∀ t i, T t = some i → TOk P t i) (h : Rel W0 M G s a w) (hd : ∀ d, o.dst = some d → d < s.n)
    (hq : ((tq T t).bind fun i => (Q.ofOpt o.dst).bind fun d => (ev x).bind fun x => match x with
    | .c x => .req (i.k.conc = true) ((toD x).bind fun y => (freeze y.2).bind fun us => .ret (us ++ [.t d ⟨true, .c (.d (.it t y.1))⟩]))
    | _ => .fail).wp s K) : Does P W0 M s o a w K Q' := by
  simp only [Q.wp_bind] at hq
  obtain ⟨i, hi, hq⟩ := tq_ok hq
  obtain ⟨d, hdd, hq⟩ := ofOpt_ok hq
  obtain ⟨v, hq, hv⟩ := ev_ok h hq
  split at hq
  · rename_i c
    obtain ⟨hc, hq⟩ := hq
    obtain ⟨d1, hu, hni, _⟩ := TK.conc_und (hT t i hi) hc
    rw [Q.wp_bind] at hq
    obtain ⟨y, hq, _, hy⟩ := toD_ok (cell_one hv) hq
    rw [Q.wp_bind] at hq
    obtain ⟨us, G', hq, hR', hE, hf, hfrz, _⟩ := freeze_rel h hq
    have hyd := hy G'.I hE.I hf
    refine wp_value (w' := w) (v := .iface t (a.eval x)) ?_ ⟨_, hq, ?_⟩
    · unfold execOp
      rw [ho]
      simp only [Instr.makeInterface, Sem.run_bind, run_underlying hu, Result.andThen_ok]
      cases d1 <;> first | rfl | exact (hni _ rfl).elim
    · rw [St.app_append, hdd]
      refine ⟨G', hR'.put (show d < (s.app us).n by rw [hfrz.1]; exact hd d hdd) ⟨fun _ => ?_, fun e => by cases e⟩⟩
      simp only [AVr, ACr, DVr]
      exact ⟨_, rfl, hyd⟩
  · exact hq.elim
theorem zeroA_ok {t : TypeId} {i : TI} (hT : TOk P t i) (hag : i.agg = false) {K : AV → Prop} (hq : (zeroA i).wp s K) : ∃ y z, K y ∧ (zeroValue t).run P w = .ok z w ∧ AVr G s w y z := by
  unfold zeroA at hq
  rw [hag] at hq
  simp only at hq
  split at hq
  · rename_i z0 hz0
    obtain ⟨inf, z, h1, h2, h3, h4, h5, h6, h7⟩ := hT.info
    have hz : (zeroValue t).run P w = .ok z w := by simp [zeroValue, typeInfo, h1, h4]
    have hna := hT.agg inf z h1 h4
    rw [hag] at hna
    have hzz : z = z0 := by
      rw [hz0] at h5
      cases z <;> simp [isAggV, Value.cells] at hna h5 <;> exact h5
    subst hzz
    rw [hz0] at h7
    simp only [List.all_cons, List.all_nil, Bool.and_true] at h7
    exact ⟨_, z, hq, hz, by simp only [AVr]; exact constC_ok h7⟩
  · exact hq.elim
theorem ok_typeAssert {x : Operand} {xt t : TypeId} (ho : o.op = .typeAssert x xt t true) (hT : ∀ t i, T t = some i → TOk P t i) (h : Rel W0 M G s a w) (hd : ∀ d, o.dst = some d → d < s.n)
    (hq : ((tq T t).bind fun i => (ev x).bind fun x => (assertQ i t x).bind (one o.dst)).wp s K) : Does P W0 M s o a w K Q' := by
  simp only [Q.wp_bind] at hq
  obtain ⟨i, hi, hq⟩ := tq_ok hq
  obtain ⟨v, hq, hv⟩ := ev_ok h hq
  unfold assertQ at hq
  split at hq
  · rename_i t' x'
    obtain ⟨⟨hc, hag⟩, hq⟩ := hq
    obtain ⟨d1, hu, hni, _⟩ := TK.conc_und (hT t i hi) hc
    simp only [AVr, ACr, DVr] at hv
    obtain ⟨y, hy, hyd⟩ := hv
    have hrun : ∀ r, (if t' = t then Sem.run P (pure (.tuple #[y, .bool true])) w else Sem.run P (do pure (.tuple #[← zeroValue t, .bool false])) w) = .ok r w → (execOp a.eval o).run P w = .ok (.value r) w := fun r hr => by
      unfold execOp
      rw [ho]
      simp only [hy, Instr.typeAssert, Sem.run_bind, run_underlying hu, Result.andThen_ok]
      split at hr
      · rename_i he
        rw [if_pos he, if_pos trivial, hr]; rfl
      · rename_i he
        rw [if_neg he, if_pos trivial, hr]; rfl
    split at hq
    · rename_i he _
      refine ok_one h hd (v := .tuple #[y, .bool true]) ?_ hq (hrun _ (by rw [if_pos he]; rfl))
      simp only [AVr, AVs, ACr, DVr]
      exact ⟨_, rfl, y, [.bool true], rfl, hyd, .bool true, [], rfl, ⟨rfl, rfl⟩, rfl⟩
    · rename_i he _
      rw [Q.wp_bind] at hq
      obtain ⟨z, zv, hq, hz, hzr⟩ := zeroA_ok (w := w) (G := G) (hT t i hi) hag hq
      refine ok_one h hd (v := .tuple #[zv, .bool false]) ?_ hq (hrun _ (by rw [if_neg he]; simp [hz]))
      simp only [AVr, AVs, ACr, DVr]
      exact ⟨_, rfl, zv, [.bool false], rfl, hzr, .bool false, [], rfl, ⟨rfl, rfl⟩, rfl⟩
  · exact hq.elim
end
end Go.Proofs.YtgfmnpbcbpobbaaDoor.Am
/- An abstract machine over plain data: maps whose keys are numbers or strings. No conditions. -/
namespace Go.Proofs.YtgfmnpbcbpobbaaDoor.Am
open Go Go.MapKept

theorem mE_facts (b : Bool) : mKs (mE b) = 1 ∧ mKa (mE b) = false ∧ mVa (mE b) = b ∧ mapF ≤ mE b ∧ mE b ≠ iterF := by cases b <;> decide
section
variable {P : Program} {T : TypeId → Option TI} {W0 : World} {M : Own} {G : Gh} {s : St} {a : Act} {w : World} {o : Oper} {K : List Upd → Prop} {Q' : Exit → Act → World → Prop}
theorem keyQ_ok {x : AV} {v : Value} {K : Value → Prop} (hx : AVr G s w x v) (hq : (keyQ x).wp s K) : K v := by
  unfold keyQ at hq
  split at hq
  · have h1 := cell_one hx
    unfold keyV at hq
    split at hq
    · simp only [ACr, DVr] at h1; rw [h1.1]; exact hq
    · simp only [ACr, DVr] at h1; rw [h1.1]; exact hq
    · exact hq.elim
  · exact hq.elim
theorem KK.isKey {k : TypeId} {ik : TI} {v : Value} (hT : TOk P k ik) (h : KK ik.k v) : ∃ d, P.underlying k = some d ∧ IsKey d v ∧ ((∃ q, d = .int q) ∨ d = .string) ∧ ∀ u, KK ik.k u → IsKey d u := by
  obtain ⟨d, h1, h2⟩ := hT.und
  unfold KK at h
  split at h
  · rename_i q q' n hk
    rw [hk] at h2
    simp only at h2
    subst h2
    refine ⟨_, h1, h, .inl ⟨q, rfl⟩, fun u hu => ?_⟩
    rw [hk] at hu
    cases u <;> simp only [KK] at hu
    exact hu
  · rename_i b hk
    rw [hk] at h2
    simp only at h2
    subst h2
    refine ⟨_, h1, trivial, .inr rfl, fun u hu => ?_⟩
    rw [hk] at hu
    cases u <;> simp only [KK] at hu
    trivial
  · exact h.elim
theorem sameKV_iff {d : TypeDesc} {x y : Value} (hd : (∃ q, d = .int q) ∨ d = .string) (hx : IsKey d x) (hy : IsKey d y) : sameKV x y = true ↔ x = y := by
  rcases hd with ⟨q, rfl⟩ | rfl
  · cases x <;> simp only [IsKey] at hx
    cases y <;> simp only [IsKey] at hy
    subst hx; subst hy
    simp [sameKV]
  · cases x <;> simp only [IsKey] at hx
    cases y <;> simp only [IsKey] at hy
    rename_i p q
    obtain ⟨⟨p⟩⟩ := p
    obtain ⟨⟨q⟩⟩ := q
    simp [sameKV]
theorem sameNow_V {d : TypeDesc} {x y : Value} (hd : (∃ q, d = .int q) ∨ d = .string) (hx : IsKey d x) (hy : IsKey d y) : Instr.sameNow d x y = some (sameKV x y) := by
  obtain ⟨r, h1, h2⟩ := sameNow_of_keys hx hy
  rw [h1]
  congr 1
  exact Bool.eq_iff_iff.2 (h2.trans (sameKV_iff hd hx hy).symm)
theorem MEs.len {I : Nat → Nat → Prop} {e : Nat} : ∀ {es : List (List DV)} {ms : List MapEntry}, MEs I w e es ms → ms.length = es.length
  | [], _, h => by simp only [MEs] at h; subst h; rfl
  | c :: es, ms, h => by
    simp only [MEs] at h
    obtain ⟨m, r, rfl, _, h3⟩ := h
    simp [MEs.len h3]
theorem MEs.get {I : Nat → Nat → Prop} {e : Nat} : ∀ {es : List (List DV)} {ms : List MapEntry}, MEs I w e es ms → ∀ {j : Nat}, j < es.length → ∃ m, ms[j]? = some m ∧ ME I w e (es.getD j []) m
  | [], _, _, j, hj => by simp at hj
  | c :: es, ms, h, j, hj => by
    simp only [MEs] at h
    obtain ⟨m, r, rfl, h2, h3⟩ := h
    cases j with
    | zero => exact ⟨m, rfl, h2⟩
    | succ j => exact MEs.get h3 (by simpa using hj)
theorem MEs.app {I : Nat → Nat → Prop} {e : Nat} {c : List DV} {m : MapEntry} (hc : ME I w e c m) : ∀ {es : List (List DV)} {ms : List MapEntry}, MEs I w e es ms → MEs I w e (es ++ [c]) (ms ++ [m])
  | [], _, h => by
    simp only [MEs] at h; subst h
    simp only [List.nil_append, MEs]
    exact ⟨m, [], rfl, hc, rfl⟩
  | x :: es, ms, h => by
    simp only [MEs] at h
    obtain ⟨y, r, rfl, h2, h3⟩ := h
    simp only [List.cons_append, MEs]
    exact ⟨y, r ++ [m], rfl, h2, MEs.app hc h3⟩
theorem MEs.set {I : Nat → Nat → Prop} {e : Nat} {c : List DV} {m : MapEntry} (hc : ME I w e c m) : ∀ {es : List (List DV)} {ms : List MapEntry} (i : Nat), MEs I w e es ms → MEs I w e (es.set i c) (ms.set i m)
  | [], _, i, h => by
    simp only [MEs] at h; subst h
    simp [MEs]
  | x :: es, ms, i, h => by
    simp only [MEs] at h
    obtain ⟨y, r, rfl, h2, h3⟩ := h
    cases i with
    | zero => simp only [List.set_cons_zero, MEs]; exact ⟨m, r, rfl, hc, h3⟩
    | succ i => simp only [List.set_cons_succ, MEs]; exact ⟨y, r.set i m, rfl, h2, MEs.set hc i h3⟩
theorem MEs.erase {I : Nat → Nat → Prop} {e : Nat} : ∀ {es : List (List DV)} {ms : List MapEntry} (i : Nat), MEs I w e es ms → MEs I w e (es.eraseIdx i) (ms.eraseIdx i)
  | [], _, i, h => by
    simp only [MEs] at h; subst h
    simp [MEs]
  | x :: es, ms, i, h => by
    simp only [MEs] at h
    obtain ⟨y, r, rfl, h2, h3⟩ := h
    cases i with
    | zero => simpa using h3
    | succ i => simp only [List.eraseIdx_cons_succ, MEs]; exact ⟨y, r.eraseIdx i, rfl, h2, MEs.erase i h3⟩
theorem idxM_lt {k : Value} : ∀ {es : List (List DV)} {j : Nat}, idxM k es = some j → j < es.length ∧ sameKV k (kOf (es.getD j [])) = true
  | [], j, h => by cases h
  | e :: es, j, h => by
    unfold idxM at h
    split at h
    · injection h with h; subst h; rename_i hs; exact ⟨by simp, hs⟩
    · obtain ⟨i, h1, rfl⟩ := Option.map_eq_some_iff.1 h
      obtain ⟨h2, h3⟩ := idxM_lt h1
      exact ⟨by simpa using h2, h3⟩
theorem key_of {I : Nat → Nat → Prop} {k : TK} {e : Nat} (h1 : mKs e = 1) (h2 : mKa e = false) {c : List DV} {m : MapEntry} (hm : ME I w e c m) (hk : ∃ v r, c = .v v :: r ∧ KK k v) : m.key = kOf c ∧ KK k m.key := by
  obtain ⟨v, r, rfl, hv⟩ := hk
  have h3 := hm.1
  rw [h1, h2] at h3
  obtain ⟨d, h4, h5⟩ := h3
  simp only [List.take_succ_cons, List.take_zero, List.cons.injEq, and_true] at h4
  subst h4
  simp only [DVr] at h5
  exact ⟨h5.1, by rw [h5.1]; exact hv⟩
theorem findNow_idx {I : Nat → Nat → Prop} {d : TypeDesc} {kv : Value} {k : TK} {e : Nat} (h1 : mKs e = 1) (h2 : mKa e = false) (hd : (∃ q, d = .int q) ∨ d = .string) (hkv : IsKey d kv) (hK : ∀ u, KK k u → IsKey d u) :
    ∀ {es : List (List DV)} {ms : List MapEntry} (i : Nat), MEs I w e es ms → allKey k es → Instr.findNow d kv ms i = some ((idxM kv es).map fun j => (i + j, (ms.getD j default).val))
  | [], ms, i, h, _ => by simp only [MEs] at h; subst h; rfl
  | c :: es, ms, i, h, hall => by
    simp only [MEs] at h
    obtain ⟨m, r, rfl, h3, h4⟩ := h
    obtain ⟨e1, e2⟩ := key_of h1 h2 h3 (hall c (by simp))
    have ih := findNow_idx h1 h2 hd hkv hK (i + 1) h4 (fun x hx => hall x (by simp [hx]))
    unfold Instr.findNow idxM
    rw [sameNow_V hd hkv (hK _ e2), e1]
    cases hs : sameKV kv (kOf c) with
    | true => simp
    | false =>
      simp only [Bool.false_eq_true, if_false]
      rw [ih, Option.map_map]
      congr 1
      cases idxM kv es with
      | none => rfl
      | some j => simp [Nat.add_assoc, Nat.add_comm 1]
theorem asCV {iv : TI} {ds : List DV} {x : Value} {K : AV → Prop} (hq : (asV iv (ds.map .d)).wp s K) (hc : CV G.I w iv.agg ds x) : ∃ y, K y ∧ AVr G s w y x := by
  unfold asV at hq
  split at hq
  · rename_i ha
    rw [ha] at hc
    obtain ⟨vs, rfl, h1⟩ := hc
    exact ⟨_, hq, by simp only [AVr]; exact ⟨vs, rfl, ACs.of_dv h1⟩⟩
  · rename_i ha
    rw [ha] at hc
    obtain ⟨d, rfl, h1⟩ := hc
    exact ⟨_, hq, by simp only [AVr, ACr]; exact h1⟩
theorem zeroCV {vt : TypeId} {iv : TI} (hT : TOk P vt iv) {I : Nat → Nat → Prop} (w : World) : ∃ z, (zeroValue vt).run P w = .ok z w ∧ CV I w iv.agg (iv.zero.map zeroD) z := by
  obtain ⟨inf, z, h1, _, _, h4, h5, _, h7⟩ := hT.info
  have ha := hT.agg inf z h1 h4
  refine ⟨z, by simp [zeroValue, typeInfo, h1, h4], ?_⟩
  cases hg : iv.agg with
  | true =>
    rw [hg] at ha
    cases z <;> simp only [isAggV] at ha <;> (try exact Bool.noConfusion ha)
    rename_i vs
    exact ⟨vs, rfl, by rw [← h5]; exact zeroD_ok (by rw [h5]; exact h7)⟩
  | false =>
    rw [hg] at ha
    have hc : z.cells.toList = [z] := by cases z <;> first | rfl | (simp [isAggV] at ha)
    rw [hc] at h5
    rw [← h5] at h7 ⊢
    have := zeroD_ok (I := I) (w := w) h7
    simp only [List.map_cons, List.map_nil, DVrs] at this
    obtain ⟨x, r, e, h8, rfl⟩ := this
    injection e with e _
    subst e
    exact ⟨_, rfl, h8⟩
/-- The map behind a row. -/
theorem Mem.map_at (h : Mem W0 M G s w) {id : Nat} {R : Row} (hR : (s.r id).c = some R) (hE : mapF ≤ R.e) (hne : R.e ≠ iterF) : ∃ g entries clock, G.rw id = .map (some g) ∧ w.heap[g]? = some (.map entries clock) ∧ MEs G.I w R.e R.es entries.toList ∧ Born entries.toList clock ∧ 0 < R.sz ∧ ∀ e ∈ R.es, e.length = R.sz := by
  obtain ⟨h1, h2, ⟨h3, _⟩ | ⟨_, g, es, c, k1, k2, k3, k4⟩ | ⟨h3, _⟩⟩ := h.rw id R hR
  · exact absurd h3 (Nat.not_lt.2 hE)
  · exact ⟨g, es, c, k1, k2, k3, k4, h1, h2⟩
  · exact (hne h3).elim
end
end Go.Proofs.YtgfmnpbcbpobbaaDoor.Am
/- An abstract machine over plain data: the operations on maps. No conditions. -/
namespace Go.Proofs.YtgfmnpbcbpobbaaDoor.Am
open Go Go.MapKept

section
variable {P : Program} {T : TypeId → Option TI} {W0 : World} {M : Own} {G : Gh} {s : St} {a : Act} {w : World} {o : Oper} {K : List Upd → Prop} {Q' : Exit → Act → World → Prop}
theorem ok_makeMap {t : TypeId} {r : Option Operand} (ho : o.op = .makeMap t r) (hT : ∀ t i, T t = some i → TOk P t i) (h : Rel W0 M G s a w) (hd : ∀ d, o.dst = some d → d < s.n)
    (hq : ((tq T t).bind fun i => (Q.ofOpt o.dst).bind fun d => (evo r).bind fun _ => match i.k with
    | .map _ vt => (tq T vt).bind fun iv => .rdR d fun r => .ret [.r d ⟨r.ver + 1, some ⟨[], 1 + iv.size, mE iv.agg, false⟩⟩, .t d ⟨true, .c (.row d (r.ver + 1))⟩]
    | _ => .fail).wp s K) : Does P W0 M s o a w K Q' := by
  simp only [Q.wp_bind] at hq
  obtain ⟨i, hi, hq⟩ := tq_ok hq
  obtain ⟨d, hdd, hq⟩ := ofOpt_ok hq
  obtain ⟨d1, hu1, hk1⟩ := (hT t i hi).und
  obtain ⟨hr, hq⟩ : (r = none ∨ ∃ y k n, r = some y ∧ a.eval y = .int k n) ∧ Q.wp (α := List Upd) (match i.k with
    | .map _ vt => (tq T vt).bind fun iv => .rdR d fun r => .ret [.r d ⟨r.ver + 1, some ⟨[], 1 + iv.size, mE iv.agg, false⟩⟩, .t d ⟨true, .c (.row d (r.ver + 1))⟩]
    | _ => .fail) s K := by
    rcases evo_ok h hq with ⟨e, hq⟩ | ⟨y, k, n, e, hq, hy⟩
    · exact ⟨.inl e, hq⟩
    · exact ⟨.inr ⟨y, k, n, e, hy⟩, hq⟩
  split at hq
  · rename_i kt vt hk
    rw [hk] at hk1
    simp only at hk1
    subst hk1
    rw [Q.wp_bind] at hq
    obtain ⟨iv, hiv, hq⟩ := tq_ok hq
    simp only [Q.wp] at hq
    refine new_row (s0 := s) (us := []) h hdd (hd d hdd) (R := ⟨[], 1 + iv.size, mE iv.agg, false⟩) (v := .map (some w.heap.size)) (grown_alloc w (.map #[] 0)) ⟨by simp only; omega, by simp, .inr (.inl ⟨(mE_facts _).2.2.2, w.heap.size, #[], 0, rfl, heap_alloc_new w _, by simp [MEs], by simp [Born]⟩)⟩ (fun b hb => by simp [obk] at hb; omega) rfl hq ?_
    unfold execOp
    rw [ho]
    rcases hr with rfl | ⟨y, k, n, rfl, hy⟩
    · simp [Instr.makeMap]
    · simp [Instr.makeMap, hy, run_underlying hu1, asInt, asIntOf]
  · exact hq.elim
theorem look_ok {t kt vt : TypeId} {ik iv : TI} (hm : P.underlying t = some (.map kt vt)) (hTk : TOk P kt ik) (hTv : TOk P vt iv) (h : Rel W0 M G s a w) {x : AV} {v kv : Value} {K : List DV × Bool → Prop} (hx : AVr G s w x v) (hq : (lookQ ik iv kv x).wp s K) :
    ∃ p u, K p ∧ CV G.I w iv.agg p.1 u ∧ ∀ ok, (Instr.lookup t v kv ok).run P w = .ok (if ok then .tuple #[u, .bool p.2] else u) w := by
  unfold lookQ at hq
  split at hq
  · rename_i id ver
    simp only [Q.wp] at hq
    split at hq
    · rename_i R hR
      obtain ⟨⟨e1, e2, hkk, hall⟩, hq⟩ := hq
      have hx' := cell_one hx
      simp only [ACr] at hx'
      obtain rfl := hx'.2.2 e1 (by rw [hR]; rfl)
      obtain ⟨f1, f2, f3, f4, f5⟩ := mE_facts iv.agg
      rw [← e2] at f1 f2 f3 f4 f5
      obtain ⟨g, entries, clock, hg, hh, hme, _⟩ := h.mem.map_at hR f4 f5
      obtain ⟨d, hd, hkd, hdd, hKd⟩ := hkk.isKey hTk
      have hf := findNow_idx f1 f2 hdd hkd hKd 0 hme hall
      obtain ⟨z, hz, hzc⟩ := zeroCV hTv (I := G.I) w
      rw [hg]
      cases hidx : idxM kv R.es with
      | none =>
        rw [hidx] at hf hq
        simp only [lookM, hidx, Option.map_none, Option.getD_none] at hq hf
        refine ⟨_, z, hq, hzc, fun ok => ?_⟩
        cases ok <;> simp [Instr.lookup, run_underlying hm, MapKept.run_getObj_map hh, run_checkKey hd hkd, run_findKey hd hf, hz]
      | some j =>
        rw [hidx] at hf hq
        simp only [lookM, hidx, Option.map_some, Option.getD_some] at hq hf
        obtain ⟨m, hmj, hM⟩ := hme.get (idxM_lt hidx).1
        have hmd : entries.toList.getD j default = m := by rw [List.getD_eq_getElem?_getD, hmj]; rfl
        rw [hmd] at hf
        have hcv := hM.2
        rw [f1, f3] at hcv
        refine ⟨_, m.val, hq, hcv, fun ok => ?_⟩
        cases ok <;> simp [Instr.lookup, run_underlying hm, MapKept.run_getObj_map hh, run_checkKey hd hkd, run_findKey hd hf]
    · exact hq.elim
  · exact hq.elim
end
end Go.Proofs.YtgfmnpbcbpobbaaDoor.Am
/- An abstract machine over plain data: the operations on maps. No conditions. -/
namespace Go.Proofs.YtgfmnpbcbpobbaaDoor.Am
open Go Go.MapKept

section
variable {P : Program} {T : TypeId → Option TI} {W0 : World} {M : Own} {G : Gh} {s : St} {a : Act} {w : World} {o : Oper} {K : List Upd → Prop} {Q' : Exit → Act → World → Prop}
theorem ok_lookup {t : TypeId} {x y : Operand} {ok : Bool} (ho : o.op = .lookup t x y ok) (hT : ∀ t i, T t = some i → TOk P t i) (h : Rel W0 M G s a w) (hd : ∀ d, o.dst = some d → d < s.n)
    (hq : ((tq T t).bind fun i => (ev x).bind fun m => (ev y).bind fun k => match i.k with
    | .map kt vt => (tq T kt).bind fun ik => (tq T vt).bind fun iv => (keyQ k).bind fun kv => (lookQ ik iv kv m).bind fun p => (asV iv (p.1.map .d)).bind fun x => one o.dst (okV ok x p.2)
    | _ => .fail).wp s K) : Does P W0 M s o a w K Q' := by
  simp only [Q.wp_bind] at hq
  obtain ⟨i, hi, hq⟩ := tq_ok hq
  obtain ⟨d1, hu1, hk1⟩ := (hT t i hi).und
  obtain ⟨m, hq, hm⟩ := ev_ok h hq
  obtain ⟨k, hq, hk⟩ := ev_ok h hq
  split at hq
  · rename_i kt vt hkk
    rw [hkk] at hk1
    simp only at hk1
    subst hk1
    simp only [Q.wp_bind] at hq
    obtain ⟨ik, hik, hq⟩ := tq_ok hq
    obtain ⟨iv, hiv, hq⟩ := tq_ok hq
    have hq := keyQ_ok hk hq
    obtain ⟨p, u, hq, hcv, hrun⟩ := look_ok hu1 (hT kt ik hik) (hT vt iv hiv) h hm hq
    obtain ⟨z, hq, hz⟩ := asCV hq hcv
    refine ok_one h hd (v := if ok then .tuple #[u, .bool p.2] else u) ?_ hq ?_
    · cases ok with
      | false => exact hz
      | true =>
        simp only [if_true, okV, AVr]
        refine ⟨_, rfl, ?_⟩
        simp only [AVs]
        exact ⟨u, [.bool p.2], rfl, hz, _, [], rfl, by simp only [AVr, ACr, DVr]; exact ⟨trivial, rfl⟩, rfl⟩
    · unfold execOp
      rw [ho]
      simp only [Sem.run_bind, hrun ok, Result.andThen_ok]
      rfl
  · exact hq.elim
theorem cellsA_ok {ag : Bool} {x : AV} {v : Value} {K : List AC → Prop} (hx : AVr G s w x v) (hq : (cellsA ag x).wp s K) : ∃ cs, K cs ∧ ACs G s w cs v.cells.toList ∧ ∀ (I : Nat → Nat → Prop) (ds : List DV), DVrs I w ds v.cells.toList → CV I w ag ds v := by
  unfold cellsA at hq
  split at hq
  · obtain ⟨rfl, hq⟩ := hq
    have h0 := cell_one hx
    have h1 := h0.one
    have hc : v.cells = #[v] := by cases v <;> first | rfl | (simp [Value.oneCell'] at h1)
    refine ⟨_, hq, ?_, fun I ds hds => ?_⟩
    · rw [hc]
      simp only [ACs]
      exact ⟨v, [], rfl, h0, rfl⟩
    · rw [hc] at hds
      match ds, hds with
      | [], hds => simp [DVrs] at hds
      | [d], hds =>
        simp only [DVrs] at hds
        obtain ⟨x, r, e, h2, rfl⟩ := hds
        injection e with e _
        subst e
        exact ⟨d, rfl, h2⟩
      | d :: e :: ds, hds =>
        simp only [DVrs] at hds
        obtain ⟨x, r, e, h2, x', r', rfl, _⟩ := hds
        simp at e
  · obtain ⟨rfl, hq⟩ := hq
    simp only [AVr] at hx
    obtain ⟨vs, rfl, h2⟩ := hx
    exact ⟨_, hq, h2, fun I ds hds => ⟨vs, rfl, hds⟩⟩
  · exact hq.elim
theorem allLen_set {z : Nat} {es : List (List DV)} {x : List DV} (hu : ∀ e ∈ es, e.length = z) (hx : x.length = z) (i : Nat) : ∀ e ∈ es.set i x, e.length = z := fun e hm => by
  rcases List.mem_or_eq_of_mem_set hm with hm | rfl
  · exact hu e hm
  · exact hx
theorem upd_len {z : Nat} {kv : Value} {x : List DV} {es : List (List DV)} (hu : ∀ e ∈ es, e.length = z) (hx : 1 + x.length = z) : ∀ e ∈ updM kv x es, e.length = z := by
  unfold updM
  split
  · exact allLen_set hu (by simp; omega) _
  · intro e hm
    rcases List.mem_append.1 hm with hm | hm
    · exact hu e hm
    · simp only [List.mem_singleton] at hm; subst hm; simp; omega
theorem setBlock_grown {w : World} {g : Nat} {o o' : Obj} (hh : w.heap[g]? = some o) : w.grownBy { w with heap := w.heap.setIfInBounds g o' } (some g) :=
  ⟨rfl, rfl, rfl, by simp, fun k _ hk => (heap_set hh).2 k (fun e => hk (by rw [e]))⟩
end
end Go.Proofs.YtgfmnpbcbpobbaaDoor.Am
/- An abstract machine over plain data: writing to maps. No conditions. -/
namespace Go.Proofs.YtgfmnpbcbpobbaaDoor.Am
open Go Go.MapKept

section
variable {P : Program} {T : TypeId → Option TI} {W0 : World} {M : Own} {G : Gh} {s : St} {a : Act} {w : World} {o : Oper} {K : List Upd → Prop} {Q' : Exit → Act → World → Prop}
theorem me_mk {I : Nat → Nat → Prop} {e : Nat} {b : Bool} (f1 : mKs e = 1) (f2 : mKa e = false) (f3 : mVa e = b) {kv v : Value} {x : List DV} (hk : kv.oneCell' = true) (hcv : CV I w b x v) (n : Nat) : ME I w e (.v kv :: x) ⟨kv, v, n⟩ := by
  unfold ME
  rw [f1, f2, f3]
  exact ⟨⟨.v kv, rfl, by simp only [DVr]; exact ⟨trivial, hk⟩⟩, hcv⟩
theorem modify_list (es : Array MapEntry) (j : Nat) (f : MapEntry → MapEntry) {m : MapEntry} (hm : es.toList[j]? = some m) : (es.modify j f).toList = es.toList.set j (f m) := by
  have hj : j < es.toList.length := by
    rcases Nat.lt_or_ge j es.toList.length with h | h
    · exact h
    · rw [List.getElem?_eq_none h] at hm; cases hm
  apply List.ext_getElem?
  intro i
  rw [List.getElem?_set]
  have h1 : (es.modify j f).toList[i]? = (es.modify j f)[i]? := Array.getElem?_toList
  rw [h1, Array.getElem?_modify]
  have h2 : es[i]? = es.toList[i]? := by simp
  rw [h2]
  by_cases e : j = i
  · subst e
    simp [hm]
    have h3 : j < es.size := by simpa using hj
    simp [h3]
  · simp [e]
theorem born_set {ms : List MapEntry} {c j : Nat} {m m' : MapEntry} (h : Born ms c) (hm : ms[j]? = some m) (hb : m'.born = m.born) : Born (ms.set j m') c := by
  have hmap : (ms.set j m').map (·.born) = ms.map (·.born) := by
    apply List.ext_getElem?
    intro i
    rw [List.getElem?_map, List.getElem?_map, List.getElem?_set]
    by_cases e : j = i
    · subst e
      rw [hm]
      have hj : j < ms.length := by
        rcases Nat.lt_or_ge j ms.length with h | h
        · exact h
        · rw [List.getElem?_eq_none h] at hm; cases hm
      simp [hj, hb]
    · simp [e]
  obtain ⟨h1, h2⟩ := h
  have h1' : (ms.map (·.born)).Pairwise (· < ·) := List.pairwise_map.2 h1
  refine ⟨?_, fun x hx => ?_⟩
  · rw [← hmap] at h1'
    exact List.pairwise_map.1 h1'
  · have : x.born ∈ ms.map (·.born) := by rw [← hmap]; exact List.mem_map_of_mem hx
    obtain ⟨y, hy, e⟩ := List.mem_map.1 this
    rw [← e]; exact h2 y hy
theorem upd_run {t kt vt : TypeId} {ik : TI} (hm : P.underlying t = some (.map kt vt)) (hTk : TOk P kt ik) {g : Nat} {entries : Array MapEntry} {clock : Nat} (hh : w.heap[g]? = some (.map entries clock)) {I : Nat → Nat → Prop} {e : Nat} {b : Bool} {es : List (List DV)} (f1 : mKs e = 1) (f2 : mKa e = false) (f3 : mVa e = b)
    (hme : MEs I w e es entries.toList) (hb : Born entries.toList clock) {kv v : Value} (hkk : KK ik.k kv) (hall : allKey ik.k es) {x : List DV} (hcv : CV I w b x v) :
    ∃ entries' clock', (Instr.mapUpdate t (.map (some g)) kv v).run P w = .ok () { w with heap := w.heap.setIfInBounds g (.map entries' clock') } ∧ MEs I w e (updM kv x es) entries'.toList ∧ Born entries'.toList clock' := by
  obtain ⟨d, hd, hkd, hdd, hKd⟩ := hkk.isKey hTk
  have hf := findNow_idx f1 f2 hdd hkd hKd 0 hme hall
  have hone : kv.oneCell' = true := by
    unfold KK at hkk
    split at hkk
    · rfl
    · rfl
    · exact hkk.elim
  cases hidx : idxM kv es with
  | none =>
    rw [hidx] at hf
    simp only [Option.map_none] at hf
    refine ⟨entries.push ⟨kv, v, clock⟩, clock + 1, ?_, ?_, ?_⟩
    · simp [Instr.mapUpdate, run_underlying hm, MapKept.run_getObj_map hh, run_checkKey hd hkd, run_findKey hd hf, MapKept.run_setObj_map _ hh]
    · simp only [updM, hidx, Array.toList_push]
      exact MEs.app (me_mk f1 f2 f3 hone hcv clock) hme
    · rw [Array.toList_push]
      refine ⟨List.pairwise_append.2 ⟨hb.1, by simp, fun x hx y hy => ?_⟩, fun x hx => ?_⟩
      · simp only [List.mem_singleton] at hy; subst hy; exact hb.2 x hx
      · rcases List.mem_append.1 hx with hx | hx
        · have := hb.2 x hx; omega
        · simp only [List.mem_singleton] at hx; subst hx; exact Nat.lt_succ_self _
  | some j =>
    rw [hidx] at hf
    simp only [Option.map_some] at hf
    obtain ⟨hj, hsv⟩ := idxM_lt hidx
    obtain ⟨m, hmj, hM⟩ := hme.get hj
    have hmem : es.getD j [] ∈ es := by rw [List.getD_eq_getElem?_getD, List.getElem?_eq_getElem hj]; exact List.getElem_mem hj
    obtain ⟨k1, k2⟩ := key_of f1 f2 hM (hall _ hmem)
    have hkey : m.key = kv := by
      rw [k1]
      rw [← k1] at hsv
      rw [← k1]
      exact ((sameKV_iff hdd hkd (hKd _ k2)).1 hsv).symm
    have hold : ((entries[0 + j]?).map (·.key)).getD kv = kv := by
      have h2 : entries[0 + j]? = entries.toList[j]? := by simp
      rw [h2, hmj]; simp [hkey]
    refine ⟨entries.modify (0 + j) fun e => { e with key := kv, val := v }, clock, ?_, ?_, ?_⟩
    · simp only [Instr.mapUpdate, run_underlying hm, MapKept.run_getObj_map hh, run_checkKey hd hkd, run_findKey hd hf, MapKept.run_setObj_map _ hh, Sem.run_bind, Result.andThen_ok, hold, run_keyThatStays hkd]
    · rw [Nat.zero_add, modify_list entries j _ hmj]
      simp only [updM, hidx]
      exact MEs.set (me_mk f1 f2 f3 hone hcv m.born) j hme
    · rw [Nat.zero_add, modify_list entries j _ hmj]
      exact born_set hb hmj rfl
theorem setObj_grown {g : Nat} {o o' : Obj} (hh : w.heap[g]? = some o) : w.grownBy { w with heap := w.heap.setIfInBounds g o' } (some g) ∧ ({ w with heap := w.heap.setIfInBounds g o' } : World).heap[g]? = some o' :=
  ⟨setBlock_grown hh, (heap_set hh).1⟩
theorem upd_ok {t kt vt : TypeId} {ik iv : TI} {x y z : Operand} (ho : o.op = .mapUpdate t x y z) (hdst : o.dst = none) (hu1 : P.underlying t = some (.map kt vt)) (hTk : TOk P kt ik) (h : Rel W0 M G s a w) {m : AV} {cs : List AC} (hm : AVr G s w m (a.eval x)) (hcs : ACs G s w cs (a.eval z).cells.toList)
    (hcv0 : ∀ (I : Nat → Nat → Prop) (ds : List DV), DVrs I w ds (a.eval z).cells.toList → CV I w iv.agg ds (a.eval z)) (hq : (updQ ik iv (a.eval y) cs m).wp s K) : Does P W0 M s o a w K Q' := by
  have hput : a.put o.dst undef = a := by rw [hdst]; rfl
  unfold updQ at hq
  split at hq
  · rename_i id ver
    rw [Q.wp_bind] at hq
    obtain ⟨d, hq1, hdl, hds⟩ := toDs_ok hcs hq
    rw [Q.wp_bind] at hq1
    obtain ⟨us, G', hq2, hR', hE, hf, hfrz, hb', hr', hfr⟩ := freeze_rel h hq1
    simp only [Q.wp] at hq2
    split at hq2
    · rename_i R hR
      obtain ⟨⟨e1, e2, e3, e4, hnot, hdi, hkq, hall⟩, hq3⟩ := hq2
      have hm' := cell_one hm
      simp only [ACr] at hm'
      have hv := hm'.2.2 e1 (by rw [hR]; rfl)
      have hcv := hcv0 G'.I d.1 (hds G'.I hE.I hf)
      obtain ⟨fr, hR1, _⟩ := (hfrz.2.2.2 id).2.2 R hR
      have hfr0 : fr = false := by
        cases fr with
        | false => rfl
        | true =>
          rcases hfr id _ hR1 rfl with ⟨R', h1, h2⟩ | h1
          · rw [hR] at h1; injection h1 with h1; subst h1; rw [e4] at h2; cases h2
          · exact (hnot h1).elim
      subst hfr0
      have hver := (hfrz.2.2.2 id).1
      obtain ⟨f1, f2, f3, f4, f5⟩ := mE_facts iv.agg
      rw [← e2] at f1 f2 f3 f4 f5
      obtain ⟨g, entries, clock, hg, hh, hme, hbn, hz, hlen⟩ := hR'.mem.map_at hR1 f4 f5
      obtain ⟨en', cl', hrun, hme', hbn'⟩ := upd_run hu1 hTk hh f1 f2 f3 hme hbn hkq hall hcv
      obtain ⟨hgr, hnew⟩ := setObj_grown (o' := .map en' cl') hh
      obtain ⟨m2, e5⟩ := hR'.mem.setRow hR1 rfl (g := g) (by rw [hg]; rfl) hgr (es' := updM (a.eval y) d.1 R.es) (fun hkp => ⟨hz, upd_len hlen (by simp only; omega), .inr (.inl ⟨⟨f4, f5⟩, g, en', cl', hg, hnew, hme'.mono (fun _ _ h => h) hkp, hbn'⟩)⟩)
      rw [hver] at m2 e5
      have hex : (execOp a.eval o).run P w = .ok .skip { w with heap := w.heap.setIfInBounds g (.map en' cl') } := by
        unfold execOp
        rw [ho]
        have hv' : a.eval x = .map (some g) := by rw [hv, ← hr', hg]
        simp only [Sem.run_bind, hv', hrun, Result.andThen_ok]
        rfl
      refine wp_skip' hex ⟨_, hq3, G', ?_⟩
      rw [hput, St.app_append]
      exact hR'.mem' e5 m2 rfl rfl
    · exact hq2.elim
  · exact hq.elim
theorem ok_mapUpdate {t : TypeId} {x y z : Operand} (ho : o.op = .mapUpdate t x y z) (hdst : o.dst = none) (hT : ∀ t i, T t = some i → TOk P t i) (h : Rel W0 M G s a w)
    (hq : ((tq T t).bind fun i => (ev x).bind fun m => (ev y).bind fun k => (ev z).bind fun x => match i.k with
      | .map kt vt => (tq T kt).bind fun ik => (tq T vt).bind fun iv => (keyQ k).bind fun kv => (cellsA iv.agg x).bind fun cs => updQ ik iv kv cs m
      | _ => .fail).wp s K) : Does P W0 M s o a w K Q' := by
  simp only [Q.wp_bind] at hq
  obtain ⟨i, hi, hq⟩ := tq_ok hq
  obtain ⟨d1, hu1, hk1⟩ := (hT t i hi).und
  obtain ⟨m, hq, hm⟩ := ev_ok h hq
  obtain ⟨k, hq, hk⟩ := ev_ok h hq
  obtain ⟨u, hq, hu⟩ := ev_ok h hq
  split at hq
  · rename_i kt vt hkk
    rw [hkk] at hk1
    simp only at hk1
    subst hk1
    simp only [Q.wp_bind] at hq
    obtain ⟨ik, hik, hq⟩ := tq_ok hq
    obtain ⟨iv, hiv, hq⟩ := tq_ok hq
    have hq := keyQ_ok hk hq
    obtain ⟨cs, hq, hcs, hcv0⟩ := cellsA_ok hu hq
    exact upd_ok ho hdst hu1 (hT kt ik hik) h hm hcs hcv0 hq
  · exact hq.elim
end
end Go.Proofs.YtgfmnpbcbpobbaaDoor.Am
/- An abstract machine over plain data: deleting from maps; their length. No conditions. -/
namespace Go.Proofs.YtgfmnpbcbpobbaaDoor.Am
open Go Go.MapKept

section
variable {P : Program} {T : TypeId → Option TI} {W0 : World} {M : Own} {G : Gh} {s : St} {a : Act} {w : World} {o : Oper}
theorem mapLen_ok (h : Rel W0 M G s a w) {x : AV} {v : Value} {K : Nat → Prop} (hx : AVr G s w x v) (hq : (mapLenQ x).wp s K) : ∃ g entries clock, v = .map (some g) ∧ w.heap[g]? = some (.map entries clock) ∧ K entries.size := by
  unfold mapLenQ at hq
  split at hq
  · rename_i id ver
    simp only [Q.wp] at hq
    split at hq
    · rename_i R hR
      obtain ⟨⟨e1, e2, e3⟩, hq⟩ := hq
      have hx' := cell_one hx
      simp only [ACr] at hx'
      obtain rfl := hx'.2.2 e1 (by rw [hR]; rfl)
      obtain ⟨g, entries, clock, hg, hh, hme, _⟩ := h.mem.map_at hR e2 e3
      refine ⟨g, entries, clock, hg, hh, ?_⟩
      rw [← Array.length_toList, hme.len]
      exact hq
    · exact hq.elim
  · exact hq.elim
theorem mapLen_run {t kt vt : TypeId} {d : TypeDesc} (hd : d = .map kt vt) (hu : P.underlying t = some d) (ty : TypeId) {g : Nat} {entries : Array MapEntry} {clock : Nat} (hh : w.heap[g]? = some (.map entries clock)) :
    (Builtin.len_ #[t] ty #[.map (some g)]).run P w = .ok (.int .i64 (entries.size : Int)) w := by
  subst hd
  simp [Builtin.len_, run_underlying hu, MapKept.run_getObj_map hh, goInt]
theorem born_erase {ms : List MapEntry} {c j : Nat} (h : Born ms c) : Born (ms.eraseIdx j) c :=
  ⟨h.1.sublist (List.eraseIdx_sublist ms j), fun x hx => h.2 x ((List.eraseIdx_sublist ms j).mem hx)⟩
theorem del_ok {t kt vt : TypeId} {ik iv : TI} (hm : P.underlying t = some (.map kt vt)) (hTk : TOk P kt ik) (h : Rel W0 M G s a w) {x : AV} {v kv : Value} {K : List Upd → Prop} (hx : AVr G s w x v) (hq : (delQ ik iv kv x).wp s K) :
    ∃ us w', K us ∧ (∀ (ts : Array TypeId) ty, ts[0]? = some t → (Builtin.delete_ ts ty #[v, kv]).run P w = .ok (.tuple #[]) w') ∧ (s.app us).n = s.n ∧ RelE W0 M (s.app us) a w' := by
  unfold delQ at hq
  split at hq
  · rename_i id ver
    simp only [Q.wp] at hq
    split at hq
    · rename_i R hR
      obtain ⟨⟨e1, e2, e4, hkk, hall⟩, hq⟩ := hq
      have hx' := cell_one hx
      simp only [ACr] at hx'
      obtain rfl := hx'.2.2 e1 (by rw [hR]; rfl)
      obtain ⟨f1, f2, f3, f4, f5⟩ := mE_facts iv.agg
      rw [← e2] at f1 f2 f3 f4 f5
      obtain ⟨g, entries, clock, hg, hh, hme, hbn, hz, hlen⟩ := h.mem.map_at hR f4 f5
      obtain ⟨d, hd, hkd, hdd, hKd⟩ := hkk.isKey hTk
      have hf := findNow_idx f1 f2 hdd hkd hKd 0 hme hall
      have key : ∃ en', (∀ (ts : Array TypeId) ty, ts[0]? = some t → (Builtin.delete_ ts ty #[.map (some g), kv]).run P w = .ok (.tuple #[]) { w with heap := w.heap.setIfInBounds g (.map en' clock) }) ∧ MEs G.I w R.e (delM kv R.es) en'.toList ∧ Born en'.toList clock ∧ ∀ e ∈ delM kv R.es, e.length = R.sz := by
        cases hidx : idxM kv R.es with
        | none =>
          rw [hidx] at hf
          simp only [Option.map_none] at hf
          refine ⟨entries, fun ts ty ht => ?_, by simp only [delM, hidx]; exact hme, hbn, by simp only [delM, hidx]; exact hlen⟩
          simp [Builtin.delete_, ht, run_underlying hm, MapKept.run_getObj_map hh, run_checkKey hd hkd, run_findKey hd hf, MapKept.run_setObj_map _ hh]
        | some j =>
          rw [hidx] at hf
          simp only [Option.map_some] at hf
          have hj := (idxM_lt hidx).1
          have hj2 : j < entries.size := by rw [← Array.length_toList, hme.len]; exact hj
          have hl : (entries.eraseIdxIfInBounds (0 + j)).toList = entries.toList.eraseIdx j := by simp [Array.eraseIdxIfInBounds, hj2]
          refine ⟨entries.eraseIdxIfInBounds (0 + j), fun ts ty ht => ?_, ?_, ?_, ?_⟩
          · simp [Builtin.delete_, ht, run_underlying hm, MapKept.run_getObj_map hh, run_checkKey hd hkd, run_findKey hd hf, MapKept.run_setObj_map _ hh]
          · rw [hl]; simp only [delM, hidx]; exact hme.erase j
          · rw [hl]; exact born_erase hbn
          · simp only [delM, hidx]
            exact fun e he => hlen e ((List.eraseIdx_sublist _ _).mem he)
      obtain ⟨en', hrun, hme', hbn', hlen'⟩ := key
      obtain ⟨hgr, hnew⟩ := setObj_grown (o' := .map en' clock) hh
      obtain ⟨m2, e5⟩ := h.mem.setRow hR e4 (g := g) (by rw [hg]; rfl) hgr (es' := delM kv R.es) (fun hkp => ⟨hz, hlen', .inr (.inl ⟨⟨f4, f5⟩, g, en', clock, hg, hnew, hme'.mono (fun _ _ h => h) hkp, hbn'⟩)⟩)
      exact ⟨_, _, hq, by rw [hg]; exact hrun, rfl, G, h.mem' e5 m2 rfl rfl⟩
    · exact hq.elim
  · exact hq.elim
end
end Go.Proofs.YtgfmnpbcbpobbaaDoor.Am
/- An abstract machine over plain data: append, len. No conditions. -/
namespace Go.Proofs.YtgfmnpbcbpobbaaDoor.Am
open Go

section
variable {P : Program} {T : TypeId → Option TI} {W0 : World} {M : Own} {G : Gh} {s : St} {a : Act} {w : World} {o : Oper} {K : List Upd → Prop} {Q' : Exit → Act → World → Prop}
theorem app_nil {t e : TypeId} {i : TI} (hT : TOk P e i) (hu : P.underlying t = some (.slice e)) (ty : TypeId) {v : Value} {n z : Nat} {xs : List Value} (how : w.ownsRow 0 e z v n xs) (c : Nat) :
    (Builtin.append_ #[t, t] ty #[v, .slice none 0 c]).run P w = .ok v w := by
  obtain ⟨inf, zv, hinf, _⟩ := hT.info
  rcases how.2 with ⟨rfl, rfl⟩ | ⟨g, cap, cur, rfl, _, _, hnc, _⟩
  · simp [Builtin.append_, run_underlying hu, Go.sizeOf, typeInfo, hinf, Builtin.lenOf, Builtin.firstCells]
  · simp [Builtin.append_, run_underlying hu, Go.sizeOf, typeInfo, hinf, Builtin.lenOf, Builtin.firstCells, hnc, storeCells]
theorem app_run {t e : TypeId} {i : TI} (hT : TOk P e i) (hz0 : 0 < i.size) (hu : P.underlying t = some (.slice e)) (ty : TypeId) {v u : Value} {n : Nat} {xs : List Value} (how : w.ownsRow 0 e i.size v n xs) {ys : List (List DV)} {I : Nat → Nat → Prop}
    (hd : DVr I w (.sl ys) u) (hal : allLen i.size ys) (hb : (n + ys.length) * i.bytes ≤ 140737488355328) (hm : n + ys.length ≤ 4611686018427387904) :
    ∃ v' w' yc, (Builtin.append_ #[t, t] ty #[v, u]).run P w = .ok v' w' ∧ w'.ownsRow 0 e i.size v' (n + ys.length) (xs ++ yc) ∧ DVee I w ys yc ∧
      ((v'.ownBlock = v.ownBlock ∧ w.grownBy w' v.ownBlock) ∨ (w.grownBy w' none ∧ v'.ownBlock = some w.heap.size)) := by
  simp only [DVr] at hd
  obtain ⟨A, c, z, yc, rfl, h1, h2, h3, h4, h5, h6⟩ := hd
  cases A with
  | none =>
    have h0 : ys = [] := by
      rcases Nat.eq_zero_or_pos ys.length with h | h
      · exact List.eq_nil_of_length_eq_zero h
      · obtain ⟨_, h, _⟩ := h5 h; cases h
    subst h0
    exact ⟨v, w, [], app_nil hT hu ty how c, by simpa using how, by simp [DVee], .inl ⟨rfl, rfl, rfl, rfl, Nat.le_refl _, fun _ _ _ => rfl⟩⟩
  | some ad =>
    obtain ⟨inf, zv, hinf, hsz, hby, hz, hzl, hzn, hz1⟩ := hT.info
    have hyl := h6.len hal
    have hcells : ∀ j x, yc[j]? = some x → w.cell? (ad.add j) = some x := by
      intro j x hj
      have h0 : 0 < ys.length := by
        rcases Nat.eq_zero_or_pos ys.length with h | h
        · rw [h] at hyl
          have : yc = [] := List.eq_nil_of_length_eq_zero (by omega)
          subst this; simp at hj
        · exact h
      obtain ⟨ad', e1, hc⟩ := h5 h0
      injection e1 with e1; subst e1
      exact (hc j x hj).1
    obtain ⟨v', w', hr, k1, k2, _, k4⟩ := run_append_own_at (P := P) w 0 t ty e inf zv i.size i.bytes hu hinf hz hsz hby (by rw [← Array.length_toList, hzl]; exact hzn) hz0 v n xs how ad ys.length c yc hyl hcells (h6.one) (by simp only [maxLen]; omega) hb (Nat.zero_le _)
    refine ⟨v', w', yc, hr, k1, h6, ?_⟩
    rcases how.2 with ⟨rfl, rfl⟩ | ⟨g, cap, cur, rfl, _, hg, hnc, hcm, hcs, htk⟩
    · by_cases hy0 : ys.length = 0
      · have h0 : ys = [] := List.eq_nil_of_length_eq_zero hy0
        subst h0
        rcases k4 with k4 | k4
        · exact .inl ⟨k4, k2⟩
        · exact .inr ⟨k2, k4⟩
      · have hr2 := run_append_nil (P := P) w t ty e inf zv hu hinf hz ad ys.length c yc (by rw [hyl, hsz]) hcells (by omega) (by omega) (by rw [hby]; simp only [Nat.zero_add] at hb; omega)
        rw [hr2] at hr
        injection hr with e1 e2
        subst e1; subst e2
        exact .inr ⟨grown_drew_alloc w _, rfl⟩
    · by_cases hroom : n + ys.length ≤ cap
      · have hfit : n * inf.size + yc.length ≤ cur.size := by rw [hyl, hcs, hsz, ← Nat.add_mul]; exact Nat.mul_le_mul_right _ hroom
        have hr2 := run_append_room (P := P) w t ty e inf hu hinf g n cap cur hg ad ys.length c yc (by rw [hyl, hsz]) hcells (h6.one) hroom hfit
        rw [hr2] at hr
        injection hr with e1 e2
        subst e1
        exact .inl ⟨rfl, k2⟩
      · have holds : ∀ j x, xs[j]? = some x → w.cell? ((⟨g, 0, none⟩ : Addr).add j) = some x := how.cells (g := g) rfl
        have hr2 := run_append_grow (P := P) w t ty e inf zv hu hinf hz ⟨g, 0, none⟩ n cap xs (by rw [how.1, hsz]) holds ad ys.length c yc (by rw [hyl, hsz]) hcells (by omega) (by omega) (growslice_fits (by omega) (by rw [hby]; exact hb))
        rw [hr2] at hr
        injection hr with e1 e2
        subst e1; subst e2
        exact .inr ⟨grown_drew_alloc w _, rfl⟩
/-- What is fixed in a slice's block stays as it is when it grows. -/
theorem keep_app {I : Nat → Nat → Prop} {e : TypeId} {z n m : Nat} {v v' : Value} {w' : World} {xs yc : List Value} (how : w.ownsRow 0 e z v n xs) (how' : w'.ownsRow 0 e z v' m (xs ++ yc)) (hIn : ∀ b o, I b o → b < w.heap.size)
    (hI : ∀ g, v.ownBlock = some g → ∀ o, I g o → o < n * z) (h : (v'.ownBlock = v.ownBlock ∧ w.grownBy w' v.ownBlock) ∨ (w.grownBy w' none ∧ v'.ownBlock = some w.heap.size)) : Keep I w w' := by
  intro b o hi
  have hlt := hIn b o hi
  rcases h with ⟨h1, h2⟩ | ⟨h1, _⟩
  · by_cases hb : v.ownBlock = some b
    · have ho := hI b hb o hi
      have hl : o < xs.length := by rw [how.1]; exact ho
      have c1 := how.cells hb o xs[o] (List.getElem?_eq_getElem hl)
      have c2 := how'.cells (h1.trans hb) o xs[o] (by rw [List.getElem?_append_left hl]; exact List.getElem?_eq_getElem hl)
      have hadd : (⟨b, 0, none⟩ : Addr).add o = ⟨b, o, none⟩ := by rw [addr_add_off _ _ rfl]; simp
      rw [hadd] at c1 c2
      rw [c1, c2]
    · exact World.cell?_of_block (a := ⟨b, o, none⟩) (h2.block b hlt (fun e => hb e.symm))
  · exact World.cell?_of_block (a := ⟨b, o, none⟩) (h1.block b hlt (by simp))
theorem len_ok (h : Rel W0 M G s a w) {x : AV} {v : Value} {K : Nat → Prop} (hx : AVr G s w x v) (hq : (lenQ x).wp s K) : ∃ A n c, v = .slice A n c ∧ K n := by
  unfold lenQ at hq
  split at hq
  · have h1 := cell_one hx
    simp only [ACr, DVr] at h1
    obtain ⟨A, c, z, xs, h1, _⟩ := h1
    exact ⟨A, _, c, h1, hq⟩
  · have h1 := cell_one hx
    simp only [ACr] at h1
    exact ⟨none, 0, 0, h1, hq⟩
  · rename_i id ver
    simp only [Q.wp] at hq
    split at hq
    · rename_i R hR
      obtain ⟨⟨e, hE⟩, hq⟩ := hq
      have h1 := cell_one hx
      simp only [ACr] at h1
      obtain rfl := h1.2.2 e (by rw [hR]; rfl)
      obtain ⟨_, _, xs, ho, _⟩ := (h.mem.rw id R hR).sl hE
      rcases ho.2 with ⟨hv, h0⟩ | ⟨g, cap, cur, hv, _⟩
      · exact ⟨none, 0, 0, hv, by rw [h0] at hq; exact hq⟩
      · exact ⟨_, _, cap, hv, hq⟩
    · exact hq.elim
  · exact hq.elim
theorem app_ok {d : Nat} {t e : TypeId} {i : TI} (hT : TOk P e i) (hz0 : 0 < i.size) (hu : P.underlying t = some (.slice e)) (h : Rel W0 M G s a w) (hdd : o.dst = some d) (hd : d < s.n) {x y : AC} {u v : Value} (hx : ACr G s w x u) (hy : ACr G s w y v) (hq : (appendQ d e i.size i.bytes x y).wp s K)
    (hrun : ∀ r w', (Builtin.append_ #[t, t] o.type #[u, v]).run P w = .ok r w' → (execOp a.eval o).run P w = .ok (.value r) w') : Does P W0 M s o a w K Q' := by
  unfold appendQ at hq
  rw [Q.wp_bind] at hq
  obtain ⟨yd, hq1, _, hyd⟩ := toD_ok hy hq
  clear hq
  split at hq1
  · rename_i ys hys
    obtain ⟨⟨hal, heF⟩, hq2⟩ := hq1
    rw [Q.wp_bind] at hq2
    obtain ⟨us, G', hq3, hR, hE, hf, hfrz, hb', hr', hfr⟩ := freeze_rel h hq2
    clear hq2
    have hdv := hyd G'.I hE.I hf
    rw [hys] at hdv
    simp only [Q.wp] at hq3
    have hver : (s.r d).ver = ((s.app us).r d).ver := ((hfrz.2.2.2 d).1).symm
    split at hq3
    · obtain ⟨⟨hb, hm⟩, hq4⟩ := hq3
      simp only [ACr] at hx
      subst hx
      obtain ⟨v', w', yc, hr, how', hde, halt⟩ := app_run (n := 0) (xs := []) hT hz0 hu o.type (World.ownsRow_nil w 0 e i.size) hdv hal (by simpa using hb) (by simpa using hm)
      have hgn : w.grownBy w' none := by
        rcases halt with ⟨_, h2⟩ | ⟨h1, _⟩
        · exact h2
        · exact h1
      have hk := keep_app (World.ownsRow_nil w 0 e i.size) how' hR.mem.In (fun g hg => by cases hg) halt
      rw [hver] at hq4
      rw [Nat.zero_add, List.nil_append] at how'
      refine new_row (s0 := s) (us := us) hR hdd (by rw [hfrz.1]; exact hd) (R := ⟨ys, i.size, e, false⟩) (v := v') hgn ⟨hz0, hal, .inl ⟨heF, yc, how', DVee.mono (fun _ _ h => h) hk _ hde⟩⟩ (fun b hb => ?_) rfl hq4 (hrun _ _ hr)
      rw [ownsRow_ob how'] at hb
      rcases halt with ⟨h1, _⟩ | ⟨_, h1⟩
      · rw [h1] at hb; cases hb
      · rw [h1] at hb; injection hb with hb; omega
    · rename_i id ver
      simp only [Q.wp] at hq3
      split at hq3
      · rename_i R hRr
        obtain ⟨⟨e1, e2, e3, hb, hm⟩, hq4⟩ := hq3
        simp only [ACr] at hx
        have hu' := hx.2.2 e1 (by rw [hRr]; rfl)
        obtain ⟨fr, hR1, hfrf⟩ := (hfrz.2.2.2 id).2.2 R hRr
        obtain ⟨hz, huni, xs, how, hde0⟩ := (hR.mem.rw id _ hR1).sl (by simp only; rw [e3]; exact heF)
        simp only at hz huni how hde0
        rw [e2, e3] at how
        rw [hr', ← hu'] at how
        obtain ⟨v', w', yc, hr, how', hde, halt⟩ := app_run hT hz0 hu o.type how hdv hal hb hm
        have hobu := ownsRow_ob how
        have hobv := ownsRow_ob how'
        have hrI : ∀ g, u.ownBlock = some g → ∀ o', G'.I g o' → fr = true ∧ o' < R.es.length * i.size := fun g hg o' hi => by
          have := hR.mem.rI id _ g hR1 (by rw [hr', ← hu', hobu]; exact hg) o' hi
          rw [e2] at this
          exact this
        have hk := keep_app how how' hR.mem.In (fun g hg o' hi => (hrI g hg o' hi).2) halt
        obtain ⟨m1, x1⟩ := hR.mem.dropRow id
        have hownu : ∀ g, u.ownBlock = some g → own G' (s.app us) (.inr id) = some g := fun g hg => by simp only [own, hR1]; rw [hr', ← hu', hobu]; exact hg
        have hout : ∀ x g, u.ownBlock = some g → own G' ((s.app us).setR id ⟨((s.app us).r id).ver, none⟩) x ≠ some g := fun x g hg hx' => by
          have h1 : own G' (s.app us) x = some g := by
            rcases x with k | k
            · exact hx'
            · by_cases e : k = id
              · subst e; simp [own, St.setR, upd] at hx'
              · simpa [own, St.setR, upd, e] using hx'
          have := hR.mem.dj x (.inr id) g h1 (hownu g hg)
          subst this
          simp [own, St.setR, upd] at hx'
        have hMu : ∀ g, u.ownBlock = some g → W0.heap.size ≤ g ∨ M g := fun g hg => hR.mem.oM _ g (hownu g hg)
        have hgu : w.grownBy w' u.ownBlock ∧ (v'.ownBlock = u.ownBlock ∨ v'.ownBlock = some w.heap.size) := by
          rcases halt with ⟨h1, h2⟩ | ⟨h1, h2⟩
          · exact ⟨h2, .inl h1⟩
          · exact ⟨⟨h1.os, h1.tape, h1.output, h1.size, fun k hk' _ => h1.block k hk' (by simp)⟩, .inr h2⟩
        have m2 := m1.world hgu.1 hk (fun x b hx' e => hout x b e hx') (fun b hb' hlt => by rcases hMu b hb' with h | h; omega; exact h)
        have x2 : Ext G' ((s.app us).setR id ⟨((s.app us).r id).ver, none⟩) w G' ((s.app us).setR id ⟨((s.app us).r id).ver, none⟩) w' := ⟨fun _ _ h => h, hk, fun _ => ⟨Nat.le_refl _, fun _ h => ⟨h, rfl⟩⟩, fun _ => ⟨Nat.le_refl _, fun _ h => ⟨h, rfl⟩⟩⟩
        have hvd : (((s.app us).setR id ⟨((s.app us).r id).ver, none⟩).r d).ver = (s.r d).ver := by
          rw [hver]
          simp only [St.setR, upd]
          by_cases e : d = id
          · subst e; simp
          · simp [e]
        have hidv : ((s.app us).r id).ver = (s.r id).ver := (hfrz.2.2.2 id).1
        have hrow : RowOk G'.I w' v' ⟨R.es ++ ys, i.size, e, R.fr || yd.2.contains id⟩ := by
          refine ⟨hz0, fun f hf' => ?_, .inl ⟨heF, xs ++ yc, by simp only [List.length_append]; exact how', DVee.mono (fun _ _ h => h) hk _ (DVee.app hde0 hde)⟩⟩
          rcases List.mem_append.1 hf' with h | h
          · rw [← e2]; exact huni f h
          · exact hal f h
        obtain ⟨m3, x3⟩ := m2.addRow d ((s.r d).ver + 1) v' ⟨R.es ++ ys, i.size, e, R.fr || yd.2.contains id⟩ (by rw [hvd]; omega) hrow (fun x b hv' hx' => by
          rw [hobv] at hv'
          rcases hgu.2 with h | h
          · rw [h] at hv'; exact hout x b hv' hx'
          · rw [h] at hv'; injection hv' with hv'; subst hv'; have := m1.ownlt hx'; omega) (fun g hg o' hi => by
          rw [hobv] at hg
          rcases hgu.2 with h | h
          · rw [h] at hg
            obtain ⟨q1, q2⟩ := hrI g hg o' hi
            refine ⟨?_, by simp only [List.length_append, Nat.add_mul]; omega⟩
            simp only [Bool.or_eq_true]
            rcases hfr id _ hR1 q1 with ⟨R', r1, r2⟩ | r1
            · rw [hRr] at r1; injection r1 with r1; subst r1; exact .inl r2
            · exact .inr (by simpa using r1)
          · rw [h] at hg; injection hg with hg; subst hg; have := hR.mem.In _ _ hi; omega) (fun g hg => by
          rw [hobv] at hg
          rcases hgu.2 with h | h
          · rw [h] at hg; exact hMu g hg
          · rw [h] at hg; injection hg with hg; subst hg; exact .inl hR.mem.fr.size)
        refine wp_value (hrun _ _ hr) ⟨_, hq4, ?_⟩
        have hR3 := hR.mem' ((x1.trans x2).trans x3) m3 rfl rfl
        rw [St.app_append, hdd]
        rw [hidv] at hR3
        refine ⟨_, hR3.put (show d < _ from by show d < (s.app us).n; rw [hfrz.1]; exact hd) ⟨fun _ => ?_, fun e => by cases e⟩⟩
        have hone : v'.oneCell' = true := by
          rcases how'.2 with ⟨rfl, _⟩ | ⟨g, cap, cur, rfl, _⟩ <;> rfl
        simp only [AVr, ACr, St.setR, upd, if_true]
        exact ⟨hone, Nat.le_refl _, fun _ _ => trivial⟩
      · exact hq3.elim
    · exact hq3.elim
  · exact hq1.elim
end
end Go.Proofs.YtgfmnpbcbpobbaaDoor.Am
