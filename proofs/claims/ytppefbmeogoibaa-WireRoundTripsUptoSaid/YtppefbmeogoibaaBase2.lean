/- More words for memory. No conditions. -/
import Derived.Test.YtppefbmeogoibaaBase
namespace Go.Proofs.Ytppefbmeogoibaa
open Go.RowKit
section
variable {P : Program} {α : Type} {R : Rep α} {t e : TypeId} {by_ : Nat}
/-- 'make([]T, 0, c)': the equation to lay ahead of a walk, and the row. -/
theorem run_made (T : Elt P R t e by_) (c : Nat) (hc : by_ * c ≤ 281474976710656) (h63 : c ≤ 9223372036854775807) :
    ∃ C : Array Value, C.size = c * R.sz ∧ ∀ W : World, (Instr.makeSlice t (.int .i64 0) (.int .i64 (c : Int))).run P W = .ok (.slice (some ⟨W.heap.size, 0, none⟩) 0 c) (W.alloc (.cells C e)) := by
  obtain ⟨ht, ⟨i, z, hi, hz, h1, h2, h3⟩, hp, _⟩ := T
  refine ⟨madeCells z.cells (c * R.sz), size_madeCells _ _, fun W => ?_⟩
  have hb : (i.bytes : Int) * (c : Int) ≤ 281474976710656 := by
    rw [h2]
    have h : ((by_ * c : Nat) : Int) ≤ 281474976710656 := by omega
    rwa [Int.natCast_mul] at h
  have hr := run_make (P := P) W t e i z ht hi hz .i64 .i64 0 c (by omega) (by omega) hb (by omega)
  rw [h1] at hr
  simpa using hr
theorem Own.made {w : World} {C : Array Value} {c : Nat} (hC : C.size = c * R.sz) (hm : c ≤ maxLen) {base : Nat} (hb : base ≤ w.heap.size) {S : Nat → Prop} (hS : ¬ S w.heap.size) {b : Nat} (hbb : b = w.heap.size) :
    Own R e (w.alloc (.cells C e)) base S (.slice (some ⟨b, 0, none⟩) 0 c) 0 [] := by
  subst hbb
  exact ⟨rfl, fun k hk => by simp [Value.ownBlock] at hk; subst hk; exact hS, [], World.ownsRow_made w C c hb hm hC, rfl⟩
end
/-- A row of the call's own; what its elements lead to may lie anywhere but in the row itself. -/
def OwnG {α : Type} (R : Rep α) (e : TypeId) (w : World) (base : Nat) (v : Value) (n : Nat) (l : List α) : Prop :=
  ∃ S : Nat → Prop, (∀ b, S b → b < w.heap.size) ∧ Own R e w base S v n l
section
variable {α : Type} {R : Rep α} {e : TypeId} {w w' : World} {base : Nat} {v : Value} {n : Nat} {l : List α}
theorem OwnG.nil_ (R : Rep α) (e : TypeId) (w : World) (base : Nat) : OwnG R e w base (.slice none 0 0) 0 [] := ⟨No, fun _ h => h.elim, Own.nil_ R e w base No⟩
theorem OwnG.len (h : OwnG R e w base v n l) : n = l.length := by obtain ⟨S, _, h⟩ := h; exact h.len
theorem OwnG.lt (h : OwnG R e w base v n l) : ∀ k, v.ownBlock = some k → base ≤ k ∧ k < w.heap.size := by obtain ⟨S, _, h⟩ := h; exact h.lt
theorem OwnG.below (h : OwnG R e w base v n l) (hb : Below w.heap.size w w') : OwnG R e w' base v n l := by
  obtain ⟨S, hs, h⟩ := h
  exact ⟨S, fun b hb' => by have := hs b hb'; have := hb.size; omega, h.below hb⟩
theorem OwnG.sla {A : Option Addr} {c : Nat} (h : OwnG R e w base (.slice A n c) n l) : Sl R w All A n c l := by
  obtain ⟨S, hs, h⟩ := h
  exact h.sla
theorem OwnG.alloc (h : OwnG R e w base v n l) (o : Obj) : OwnG R e (w.alloc o) base v n l := h.below ((Below.refl _ _).alloc (Nat.le_refl _) _)
theorem OwnG.not (h : OwnG R e w base v n l) {b : Nat} (hb : w.heap.size ≤ b) : v.ownBlock ≠ some b := fun e => by have := (h.lt b e).2; omega
end
section
variable {P : Program} {α : Type} {R : Rep α} {t e : TypeId} {by_ : Nat}
theorem wpList_appG {ops : Array Oper} {rest : List Oper} {o : Oper} {a : Act} {w : World} {Q : Exit → Act → World → Prop} (T : Elt P R t e by_) (hgd : o.guard = none) {s x : Operand}
    (ho : o.op = .call { callee := .builtin .append, args := #[s, x], argTypes := #[t, t] })
    {base : Nat} {v : Value} {n : Nat} {l : List α} (hown : OwnG R e w base v n l) (hs : a.eval s = v)
    {A : Option Addr} {m c : Nat} {k : List α} {Sx : Nat → Prop} (hr : Sl R w Sx A m c k) (hx : a.eval x = .slice A m c) (hsub : ∀ b, Sx b → v.ownBlock ≠ some b) (h63 : (n + m) * by_ ≤ 140737488355328) (h64 : n + m ≤ maxLen) (hbase : base ≤ w.heap.size)
    (h : ∀ A' n' c' w', Hid (n' = n + m) → OwnG R e w' base (.slice A' n' c') n' (l ++ k) → Below base w w' → w.grownBy w' v.ownBlock → wpList P ops Q rest (a.put o.dst (.slice A' n' c')) w') : wpList P ops Q (o :: rest) a w := by
  obtain ⟨S, hS, ho1⟩ := hown
  have ho2 : Own R e w base (fun b => S b ∨ (b < w.heap.size ∧ v.ownBlock ≠ some b)) v n l := by
    refine ho1.mono (Nat.le_refl _) (fun b hb _ => .inl hb) ?_
    rintro q hq (hb | ⟨_, h3⟩)
    · exact hb
    · exact absurd hq h3
  refine wpList_app T hgd ho ho2 hs hr hx (fun hc => R.mono hc (fun b hb hlt => .inr ⟨hlt, hsub b hb⟩)) h63 h64 hbase ?_ ?_
  · rintro (hb | ⟨h2, _⟩)
    · have := hS _ hb; omega
    · omega
  · intro A' n' c' w' hn h2 h3 h4 _
    refine h A' n' c' w' hn ⟨_, ?_, h2⟩ h3 h4
    rintro b (hb | ⟨hb, _⟩)
    · have := hS b hb; have := h3.size; omega
    · have := h3.size; omega
end
end Go.Proofs.Ytppefbmeogoibaa
