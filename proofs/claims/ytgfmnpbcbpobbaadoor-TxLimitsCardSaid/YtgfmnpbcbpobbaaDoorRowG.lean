/- From the row's listed package-level variables to the tables that the machine leans on. No conditions. -/
import Derived.Test.YtgfmnpbcbpobbaaDoorTmRow
import Derived.Test.YtgfmnpbcbpobbaaDoorDecode
import Derived.Test.YtgfmnpbcbpobbaaDoorCards
import Derived.Lib.LaidU8
import Derived.Lay
import Derived.SevenTiedAt
import Derived.KernelRfl
namespace Go.Proofs.YtgfmnpbcbpobbaaDoor.Am
open Go Go.Proofs Go.Lib

noncomputable def laidL : List (String × DataW Unit) := [("unicode/utf8.acceptRanges", Rows.laid_unicode_utf8_acceptRanges), ("unicode/utf8.first", Rows.laid_unicode_utf8_first)]
theorem first_eq : (Rows.laid_unicode_utf8_first : DataW Unit) = Lib.firstData := by kernel_rfl
theorem accept_eq : (Rows.laid_unicode_utf8_acceptRanges : DataW Unit) = Lib.acceptData := by kernel_rfl
theorem extra : U8Extra Tryd.prog Tryd.decode_ren := ⟨by kernel_rfl, by kernel_rfl, by kernel_rfl, by kernel_rfl, by kernel_rfl, by kernel_rfl, by kernel_rfl⟩
theorem utf8_of_laid {W : World} (h : laidMetH Tryd.prog laidL W) : Lib.Utf8Tabs 0 1 W := by
  rw [MakeChecks.laidMetH_plain _ _ _ (by kernel_rfl)] at h
  have h4 := Lib.laidMet.reads h (.head _)
  have h3 := Lib.laidMet.reads h (.tail _ (.head _))
  rw [first_eq] at h3
  rw [accept_eq] at h4
  exact utf8Tabs_of_reads (ρ := Tryd.decode_ren) { Tryd.decode with } extra h3 h4
theorem lt_of_cell' {w : World} {b o : Nat} {v : Value} (h : w.cell? ⟨b, o, none⟩ = some v) : b < w.heap.size := by
  rcases Nat.lt_or_ge b w.heap.size with h1 | h1
  · exact h1
  · have : w.heap[b]? = none := Array.getElem?_eq_none h1
    simp [World.cell?, this] at h
theorem glob_of_laid {W : World} (h : laidMetH Tryd.prog laidL W) : Glob (Old W) W := by
  obtain ⟨h1, h2⟩ := utf8_of_laid h
  have key : ∀ g j v, GT g j = some v → W.cell? ⟨g, j, none⟩ = some v := by
    intro g j v e
    match g with
    | 0 =>
      by_cases hj : j < 256
      · simp [GT, hj] at e
        rw [h1 j hj, ← e]
      · simp [GT, hj] at e
    | 1 =>
      by_cases hj : j < 32
      · simp [GT, hj] at e
        by_cases hm : j % 2 = 0
        · have := (h2 (j / 2) (by omega)).1
          rw [show 2 * (j / 2) = j by omega] at this
          rw [if_pos hm] at e
          rw [this, ← e]
        · have := (h2 (j / 2) (by omega)).2
          rw [show 2 * (j / 2) + 1 = j by omega] at this
          rw [if_neg hm] at e
          rw [this, ← e]
      · simp [GT, hj] at e
    | g + 2 => simp [GT] at e
  exact fun g j v e => ⟨key g j v e, lt_of_cell' (key g j v e)⟩
end Go.Proofs.YtgfmnpbcbpobbaaDoor.Am
