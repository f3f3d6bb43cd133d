/- The walk of 'near' of the statements about wire. -/
import Derived.Test.YtppefbmeogoibaaWireFields
namespace Go.Proofs.Ytppefbmeogoibaa
open Go.RowKit

theorem sizeF : (Try.prog.info? 41).map (·.size) = some 4 := by kernel_rfl
set_option maxHeartbeats 2000000 in
set_option maxRecDepth 100000 in
theorem near_any {S : Nat → Prop} {A : Option Addr} {n c : Nat} {f : Fld} (w : World) (h : FldIs w S A n c f) (m : Int) :
    Calls Try.prog 23 #[.agg #[.int .i64 f.num, .int .i64 f.kind, .int .u64 f.val, .slice A n c], .int .u8 m] w fun e w' => ∃ A' n' c' g, e = .returned (.agg #[.int .i64 g.num, .int .i64 g.kind, .int .u64 g.val, .slice A' n' c']) ∧ FldIs w' S A' n' c' g ∧ g.byt.length ≤ f.byt.length ∧ Below w.heap.size w w' := by
  obtain ⟨fn, fk, fv, fb⟩ := f
  obtain ⟨Hs0, Hv0, Hn0, Hk0⟩ := h
  simp only at Hs0 Hv0 Hn0 Hk0 ⊢
  obtain ⟨x, hx, hxb⟩ := wrap64_range fn
  obtain ⟨y, hy, hyb⟩ := wrap64_range fk
  have h1 : (x : Int) % 40 < 40 := by omega
  have h2 : (y : Int) % 2 < 2 := by omega
  have h1' : 0 ≤ (x : Int) % 40 := by omega
  have h2' : 0 ≤ (y : Int) % 2 := by omega
  have hu : (0 : Nat) < U64 := by unfold U64; omega
  have Hx := Lib.hid hxb; have Hy := Lib.hid hyb; have Hu := Lib.hid hu
  have Hnil := Lib.hid (fun (W : World) => Sl.nil_ Rep.u8 W S)
  have Hval := Lib.hid Hv0; have Hnum := Lib.hid Hn0; have Hkind := Lib.hid Hk0
  have Hsl := Lib.hid Hs0
  have Hn2 := Lib.hid (show -9223372036854775808 ≤ 1 + (x : Int) % 40 ∧ 1 + (x : Int) % 40 ≤ 9223372036854775807 by omega)
  have Hk2 := Lib.hid (show -9223372036854775808 ≤ (y : Int) % 2 * 2 ∧ (y : Int) % 2 * 2 ≤ 9223372036854775807 by omega)
  clear hxb hyb hu Hs0 Hv0 Hn0 Hk0
  go_enter Try.func23, Try.ntmps23
  go_wp2
  all_goals first
    | (refine bodyPost_ret (results_cell_row (P := Try.prog) Try.results23 _ _ (w.heap.size + 1) 41 _ (0, 0) _ rfl (heap_alloc2_new w _ _) Try.underlying41 rfl sizeF) rfl ⟨A, n, c, ⟨_, _, fv, fb⟩, rfl, ⟨(Hsl.out.keep (Same.alloc _ _ _)).keep (Same.alloc _ _ _), Hval.out, ?_, ?_⟩, Nat.le_refl _, Grw.alloc (Grw.alloc (Below.refl _ _) _) _⟩ <;> first | exact Hnum.out | exact Hkind.out | exact Hn2.out | exact Hk2.out)
    | (refine bodyPost_ret (results_cell_row (P := Try.prog) Try.results23 _ _ (w.heap.size + 1) 41 _ (0, 0) _ rfl (heap_alloc2_new w _ _) Try.underlying41 rfl sizeF) rfl ⟨none, 0, 0, ⟨_, _, fv, []⟩, rfl, ⟨Hnil.out _, Hval.out, ?_, ?_⟩, Nat.zero_le _, Grw.alloc (Grw.alloc (Below.refl _ _) _) _⟩ <;> first | exact Hnum.out | exact Hkind.out | exact Hn2.out | exact Hk2.out)
    | (refine bodyPost_ret (results_cell_row (P := Try.prog) Try.results23 _ _ (w.heap.size + 1) 41 _ (0, 0) _ rfl (heap_alloc2_new w _ _) Try.underlying41 rfl sizeF) rfl ⟨A, n, c, ⟨_, _, 0, fb⟩, rfl, ⟨(Hsl.out.keep (Same.alloc _ _ _)).keep (Same.alloc _ _ _), Hu.out, ?_, ?_⟩, Nat.le_refl _, Grw.alloc (Grw.alloc (Below.refl _ _) _) _⟩ <;> first | exact Hnum.out | exact Hkind.out | exact Hn2.out | exact Hk2.out)
    | (refine bodyPost_ret (results_cell_row (P := Try.prog) Try.results23 _ _ (w.heap.size + 1) 41 _ (0, 0) _ rfl (heap_alloc2_new w _ _) Try.underlying41 rfl sizeF) rfl ⟨none, 0, 0, ⟨_, _, 0, []⟩, rfl, ⟨Hnil.out _, Hu.out, ?_, ?_⟩, Nat.zero_le _, Grw.alloc (Grw.alloc (Below.refl _ _) _) _⟩ <;> first | exact Hnum.out | exact Hkind.out | exact Hn2.out | exact Hk2.out)
set_option maxHeartbeats 2000000 in
set_option maxRecDepth 100000 in
/-- At 0 the field is valid. -/
theorem near_zero {S : Nat → Prop} {A : Option Addr} {n c : Nat} {f : Fld} (w : World) (h : FldIs w S A n c f) :
    Calls Try.prog 23 #[.agg #[.int .i64 f.num, .int .i64 f.kind, .int .u64 f.val, .slice A n c], .int .u8 0] w fun e w' => ∃ A' n' c' g, e = .returned (.agg #[.int .i64 g.num, .int .i64 g.kind, .int .u64 g.val, .slice A' n' c']) ∧ FldIs w' S A' n' c' g ∧ g.byt.length ≤ f.byt.length ∧ g.ok = true ∧ Below w.heap.size w w' := by
  obtain ⟨fn, fk, fv, fb⟩ := f
  obtain ⟨Hs0, Hv0, Hn0, Hk0⟩ := h
  simp only at Hs0 Hv0 Hn0 Hk0 ⊢
  obtain ⟨x, hx, hxb⟩ := wrap64_range fn
  obtain ⟨y, hy, hyb⟩ := wrap64_range fk
  have h1 : (x : Int) % 40 < 40 := by omega
  have h1' : 0 ≤ (x : Int) % 40 := by omega
  have hu : (0 : Nat) < U64 := by unfold U64; omega
  have Hu := Lib.hid hu
  have Hnil := Lib.hid (fun (W : World) => Sl.nil_ Rep.u8 W S)
  have Hval := Lib.hid Hv0
  have Hsl := Lib.hid Hs0
  have hb1 : bits .and .u8 0 1 = 0 := by decide
  have hb2 : bits .and .u8 0 2 = 0 := by decide
  have hb4 : bits .and .u8 0 4 = 0 := by decide
  have hb8 : bits .and .u8 0 8 = 0 := by decide
  clear hxb hyb hu Hs0 Hv0 Hn0 Hk0
  rcases (show (y : Int) % 2 = 0 ∨ (y : Int) % 2 = 1 by omega) with h2 | h2
  · go_enter Try.func23, Try.ntmps23
    go_wp2
    refine bodyPost_ret (results_cell_row (P := Try.prog) Try.results23 _ _ (w.heap.size + 1) 41 _ (0, 0) _ rfl (heap_alloc2_new w _ _) Try.underlying41 rfl sizeF) rfl ⟨none, 0, 0, ⟨_, 0, fv, []⟩, rfl, ⟨Hnil.out _, Hval.out, by simp only; omega, by simp⟩, Nat.zero_le _, ?_, Grw.alloc (Grw.alloc (Below.refl _ _) _) _⟩
    simp [Fld.ok]; omega
  · go_enter Try.func23, Try.ntmps23
    go_wp2
    refine bodyPost_ret (results_cell_row (P := Try.prog) Try.results23 _ _ (w.heap.size + 1) 41 _ (0, 0) _ rfl (heap_alloc2_new w _ _) Try.underlying41 rfl sizeF) rfl ⟨A, n, c, ⟨_, 2, 0, fb⟩, rfl, ⟨(Hsl.out.keep (Same.alloc _ _ _)).keep (Same.alloc _ _ _), Hu.out, by simp only; omega, by simp⟩, Nat.le_refl _, ?_, Grw.alloc (Grw.alloc (Below.refl _ _) _) _⟩
    simp [Fld.ok]; omega
theorem Fld.cons {w : World} {S : Nat → Prop} {A : Option Addr} {n c : Nat} {f : Fld} {xs : List Value} {l : List Fld} (h : FldIs w S A n c f) (hr : Rep.fld.all w S xs l) :
    Rep.fld.all w S (.int .i64 f.num :: .int .i64 f.kind :: .int .u64 f.val :: .slice A n c :: xs) (f :: l) := ⟨_, xs, rfl, h.shut, hr⟩
end Go.Proofs.Ytppefbmeogoibaa
