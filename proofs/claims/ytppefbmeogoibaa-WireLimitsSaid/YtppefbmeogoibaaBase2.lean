/- More words for memory. No conditions. -/
import Derived.Test.YtppefbmeogoibaaBase
namespace Go.Proofs.Ytppefbmeogoibaa
open Go.RowKit
section
variable {P : Program} {α : Type} {R : Rep α} {t e : TypeId} {by_ : Nat}
/-- 'make([]T, 0, c)': the equation to lay ahead of a walk, and the row. -/
theorem run_made (T : Elt P R t e by_) (c : Nat) (hc : by_ * c ≤ 281474976710656) (h63 : c ≤ 9223372036854775807) :
    ∃ C : Array Value, C.size = c * R.sz ∧ ∀ W : World, (Instr.makeSlice t (.int .i64 0) (.int .i64 (c : Int))).run P W = .ok (.slice (some ⟨W.heap.size, 0, none⟩) 0 c) (W.alloc (.cells C e)) := by
  obtain ⟨ht, ⟨i, z, hi, hz, h1, h2, h3⟩, hp, _⟩ := T
  refine ⟨madeCells z.cells (c * R.sz), size_madeCells _ _, fun W => ?_⟩
  have hb : (i.bytes : Int) * (c : Int) ≤ 281474976710656 := by
    rw [h2]
    have h : ((by_ * c : Nat) : Int) ≤ 281474976710656 := by omega
    rwa [Int.natCast_mul] at h
  have hr := run_make (P := P) W t e i z ht hi hz .i64 .i64 0 c (by omega) (by omega) hb (by omega)
  rw [h1] at hr
  simpa using hr
theorem Own.made {w : World} {C : Array Value} {c : Nat} (hC : C.size = c * R.sz) (hm : c ≤ maxLen) {base : Nat} (hb : base ≤ w.heap.size) {S : Nat → Prop} (hS : ¬ S w.heap.size) {b : Nat} (hbb : b = w.heap.size) :
    Own R e (w.alloc (.cells C e)) base S (.slice (some ⟨b, 0, none⟩) 0 c) 0 [] := by
  subst hbb
  exact ⟨rfl, fun k hk => by simp [Value.ownBlock] at hk; subst hk; exact hS, [], World.ownsRow_made w C c hb hm hC, rfl⟩
end
end Go.Proofs.Ytppefbmeogoibaa
