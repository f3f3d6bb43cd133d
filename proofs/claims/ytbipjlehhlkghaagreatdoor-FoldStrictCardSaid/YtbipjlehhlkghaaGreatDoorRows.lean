/-
  NARROWER THAN 'FOR EVERY INPUT', by the rows' own cells (each row's printed sentence says how): ApplyTx: laid · ApplyErrors: laid · ApplyTotals: laid · ApplyOnce: laid · FoldAll: laid · FoldStrict: laid · FoldJoins: laid · FoldDigests: laid.
  DERIVED. THE GIVEN ROWS OF THIS SEAT. 8 by the template 'for every input the law returns true; each argument reads behind the call as it read before'; 0 by the template 'total and deterministic' (their statements: YtbipjlehhlkghaaGreatDoorTotals.lean).
  GIVEN WITH THE SEED: the statements are not yours to turn. If you find one false, say at which input.
  Laid BY PROGRAM, IN A SANDBOX (cutbox-rows.mjs): the forced cells as the released guide's own fill.sh prints them over the translation 21b09ce3b78a7538… (all of the seat's roots in one cut). By AI agents, Wed Nov 11 2026. No macro, syntax, notation, axiom, sorry.
-/
import Derived.Test.YtbipjlehhlkghaaGreatDoorChecked
import GoSem.PinnedTables
import GoSem.Claim
import GoSem.ClaimJoined
import GoSem.ClaimMapViews
import Derived.JoinedTies
import Derived.KernelRfl
namespace Go.Proofs.YtbipjlehhlkghaaGreatDoor
/- THE CELL 'sum', in the pinned program and in every row, IS THE sha256 OF THE DUMP (.gsa) THAT YtbipjlehhlkghaaGreatDoorProg.lean LOADS. Nothing in Lean hashes anything: it is a label: what it is worth is what the hold of that sum in a sandbox is worth. -/
noncomputable def Tryz.pinned : Pinned := { name := "ytbipjlehhlkghaagreatdoor", sum := "21b09ce3b78a753896bb1bd74cd33d9504efd9b9be817e8cc1450c299bc954e1", checked := Tryz.checked }
namespace Rows
def none {H : Type} : Left H := { results := [], args := [] }

/- WHAT THE LISTED PACKAGE-LEVEL VARIABLES READ AS WHEN THE CALL BEGINS. Each datum BY PROGRAM (the guide's laid-datum.mjs) off the statement by which the dump's own 'gosem.cut.vars' lays the variable. In a bare row this is a premise. The card (YtbipjlehhlkghaaGreatDoorCards.lean) ties it to the program's text. -/
def laid_unicode_utf8_acceptRanges {H : Type} : DataW H := .agg [.agg [.lit (.int .u8 128), .lit (.int .u8 191)], .agg [.lit (.int .u8 160), .lit (.int .u8 191)], .agg [.lit (.int .u8 128), .lit (.int .u8 159)], .agg [.lit (.int .u8 144), .lit (.int .u8 191)], .agg [.lit (.int .u8 128), .lit (.int .u8 143)], .agg [.lit (.int .u8 0), .lit (.int .u8 0)], .agg [.lit (.int .u8 0), .lit (.int .u8 0)], .agg [.lit (.int .u8 0), .lit (.int .u8 0)], .agg [.lit (.int .u8 0), .lit (.int .u8 0)], .agg [.lit (.int .u8 0), .lit (.int .u8 0)], .agg [.lit (.int .u8 0), .lit (.int .u8 0)], .agg [.lit (.int .u8 0), .lit (.int .u8 0)], .agg [.lit (.int .u8 0), .lit (.int .u8 0)], .agg [.lit (.int .u8 0), .lit (.int .u8 0)], .agg [.lit (.int .u8 0), .lit (.int .u8 0)], .agg [.lit (.int .u8 0), .lit (.int .u8 0)]]
/-- One of Go's own tables, pinned by name: the form's constant. -/
def laid_unicode_utf8_first : DataW Unit := Go.Pinned.utf8First

/-- 'mempoollaw13.ApplyTx': WHATEVER THE INPUT: true; the input reads as it did. -/
def applyTxSpec : ChangeSpec := { name := "applyTx", fn := fun _ => fun
  | [d1, d2, d3, d4] => { results := [.lit (.bool true)], args := [d1, d2, d3, d4] }
  | _ => none }
def applyTxRow : OpenClaim := { program := "ytbipjlehhlkghaagreatdoor", sum := "21b09ce3b78a753896bb1bd74cd33d9504efd9b9be817e8cc1450c299bc954e1", func := "mempool/mempoollaw13.ApplyTx", spec := "applyTx", inPlace := ["math/bits.Add64", "slices.overlaps[mempool/api.Account]"], unfollowed := true, recurses := true, named := ["unicode/utf8.first", "unicode/utf8.acceptRanges", "math/bits.divideError", "math/bits.overflowError"], apart := false, laid := [("unicode/utf8.acceptRanges", laid_unicode_utf8_acceptRanges), ("unicode/utf8.first", laid_unicode_utf8_first)] }
def ApplyTxSaid : Prop := applyTxRow.holds Tryz.pinned (OpenSpec.ofChange applyTxSpec)

/-- ITS FALSE NEIGHBOUR: 'it returns false'. Refute it at one input. -/
def applyTxWrong : ChangeSpec := { name := "applyTx", fn := fun _ => fun
  | [d1, d2, d3, d4] => { results := [.lit (.bool false)], args := [d1, d2, d3, d4] }
  | _ => none }
def ApplyTxWrongFalsely : Prop := applyTxRow.holds Tryz.pinned (OpenSpec.ofChange applyTxWrong)

/-- 'mempoollaw13.ApplyErrors': WHATEVER THE INPUT: true; the input reads as it did. -/
def applyErrorsSpec : ChangeSpec := { name := "applyErrors", fn := fun _ => fun
  | [d1, d2, d3, d4, d5, d6] => { results := [.lit (.bool true)], args := [d1, d2, d3, d4, d5, d6] }
  | _ => none }
def applyErrorsRow : OpenClaim := { program := "ytbipjlehhlkghaagreatdoor", sum := "21b09ce3b78a753896bb1bd74cd33d9504efd9b9be817e8cc1450c299bc954e1", func := "mempool/mempoollaw13.ApplyErrors", spec := "applyErrors", inPlace := ["math/bits.Add64", "slices.overlaps[mempool/api.Account]"], unfollowed := true, recurses := true, named := ["unicode/utf8.first", "unicode/utf8.acceptRanges", "math/bits.divideError", "math/bits.overflowError"], apart := false, laid := [("unicode/utf8.acceptRanges", laid_unicode_utf8_acceptRanges), ("unicode/utf8.first", laid_unicode_utf8_first)] }
def ApplyErrorsSaid : Prop := applyErrorsRow.holds Tryz.pinned (OpenSpec.ofChange applyErrorsSpec)

/-- ITS FALSE NEIGHBOUR: 'it returns false'. Refute it at one input. -/
def applyErrorsWrong : ChangeSpec := { name := "applyErrors", fn := fun _ => fun
  | [d1, d2, d3, d4, d5, d6] => { results := [.lit (.bool false)], args := [d1, d2, d3, d4, d5, d6] }
  | _ => none }
def ApplyErrorsWrongFalsely : Prop := applyErrorsRow.holds Tryz.pinned (OpenSpec.ofChange applyErrorsWrong)

/-- 'mempoollaw13.ApplyTotals': WHATEVER THE INPUT: true; the input reads as it did. -/
def applyTotalsSpec : ChangeSpec := { name := "applyTotals", fn := fun _ => fun
  | [d] => { results := [.lit (.bool true)], args := [d] }
  | _ => none }
def applyTotalsRow : OpenClaim := { program := "ytbipjlehhlkghaagreatdoor", sum := "21b09ce3b78a753896bb1bd74cd33d9504efd9b9be817e8cc1450c299bc954e1", func := "mempool/mempoollaw13.ApplyTotals", spec := "applyTotals", inPlace := ["math/bits.Add64", "slices.overlaps[mempool/api.Account]"], unfollowed := true, recurses := true, named := ["unicode/utf8.first", "unicode/utf8.acceptRanges", "math/bits.divideError", "math/bits.overflowError"], apart := false, laid := [("unicode/utf8.acceptRanges", laid_unicode_utf8_acceptRanges), ("unicode/utf8.first", laid_unicode_utf8_first)] }
def ApplyTotalsSaid : Prop := applyTotalsRow.holds Tryz.pinned (OpenSpec.ofChange applyTotalsSpec)

/-- ITS FALSE NEIGHBOUR: 'it returns false'. Refute it at one input. -/
def applyTotalsWrong : ChangeSpec := { name := "applyTotals", fn := fun _ => fun
  | [d] => { results := [.lit (.bool false)], args := [d] }
  | _ => none }
def ApplyTotalsWrongFalsely : Prop := applyTotalsRow.holds Tryz.pinned (OpenSpec.ofChange applyTotalsWrong)

/-- 'mempoollaw13.ApplyOnce': WHATEVER THE INPUT: true; the input reads as it did. -/
def applyOnceSpec : ChangeSpec := { name := "applyOnce", fn := fun _ => fun
  | [d] => { results := [.lit (.bool true)], args := [d] }
  | _ => none }
def applyOnceRow : OpenClaim := { program := "ytbipjlehhlkghaagreatdoor", sum := "21b09ce3b78a753896bb1bd74cd33d9504efd9b9be817e8cc1450c299bc954e1", func := "mempool/mempoollaw13.ApplyOnce", spec := "applyOnce", inPlace := ["math/bits.Add64", "slices.overlaps[mempool/api.Account]"], unfollowed := true, recurses := true, named := ["unicode/utf8.first", "unicode/utf8.acceptRanges", "math/bits.divideError", "math/bits.overflowError"], apart := false, laid := [("unicode/utf8.acceptRanges", laid_unicode_utf8_acceptRanges), ("unicode/utf8.first", laid_unicode_utf8_first)] }
def ApplyOnceSaid : Prop := applyOnceRow.holds Tryz.pinned (OpenSpec.ofChange applyOnceSpec)

/-- ITS FALSE NEIGHBOUR: 'it returns false'. Refute it at one input. -/
def applyOnceWrong : ChangeSpec := { name := "applyOnce", fn := fun _ => fun
  | [d] => { results := [.lit (.bool false)], args := [d] }
  | _ => none }
def ApplyOnceWrongFalsely : Prop := applyOnceRow.holds Tryz.pinned (OpenSpec.ofChange applyOnceWrong)

/-- 'mempoollaw14.FoldAll': WHATEVER THE INPUT: true; the input reads as it did. -/
def foldAllSpec : ChangeSpec := { name := "foldAll", fn := fun _ => fun
  | [d1, d2, d3] => { results := [.lit (.bool true)], args := [d1, d2, d3] }
  | _ => none }
def foldAllRow : OpenClaim := { program := "ytbipjlehhlkghaagreatdoor", sum := "21b09ce3b78a753896bb1bd74cd33d9504efd9b9be817e8cc1450c299bc954e1", func := "mempool/mempoollaw14.FoldAll", spec := "foldAll", inPlace := ["math/bits.Add64", "slices.overlaps[mempool/api.Account]"], unfollowed := true, recurses := true, named := ["unicode/utf8.first", "unicode/utf8.acceptRanges", "math/bits.divideError", "math/bits.overflowError"], apart := false, laid := [("unicode/utf8.acceptRanges", laid_unicode_utf8_acceptRanges), ("unicode/utf8.first", laid_unicode_utf8_first)] }
def FoldAllSaid : Prop := foldAllRow.holds Tryz.pinned (OpenSpec.ofChange foldAllSpec)

/-- ITS FALSE NEIGHBOUR: 'it returns false'. Refute it at one input. -/
def foldAllWrong : ChangeSpec := { name := "foldAll", fn := fun _ => fun
  | [d1, d2, d3] => { results := [.lit (.bool false)], args := [d1, d2, d3] }
  | _ => none }
def FoldAllWrongFalsely : Prop := foldAllRow.holds Tryz.pinned (OpenSpec.ofChange foldAllWrong)

/-- 'mempoollaw14.FoldStrict': WHATEVER THE INPUT: true; the input reads as it did. -/
def foldStrictSpec : ChangeSpec := { name := "foldStrict", fn := fun _ => fun
  | [d1, d2, d3] => { results := [.lit (.bool true)], args := [d1, d2, d3] }
  | _ => none }
def foldStrictRow : OpenClaim := { program := "ytbipjlehhlkghaagreatdoor", sum := "21b09ce3b78a753896bb1bd74cd33d9504efd9b9be817e8cc1450c299bc954e1", func := "mempool/mempoollaw14.FoldStrict", spec := "foldStrict", inPlace := ["math/bits.Add64", "slices.overlaps[mempool/api.Account]"], unfollowed := true, recurses := true, named := ["unicode/utf8.first", "unicode/utf8.acceptRanges", "math/bits.divideError", "math/bits.overflowError"], apart := false, laid := [("unicode/utf8.acceptRanges", laid_unicode_utf8_acceptRanges), ("unicode/utf8.first", laid_unicode_utf8_first)] }
def FoldStrictSaid : Prop := foldStrictRow.holds Tryz.pinned (OpenSpec.ofChange foldStrictSpec)

/-- ITS FALSE NEIGHBOUR: 'it returns false'. Refute it at one input. -/
def foldStrictWrong : ChangeSpec := { name := "foldStrict", fn := fun _ => fun
  | [d1, d2, d3] => { results := [.lit (.bool false)], args := [d1, d2, d3] }
  | _ => none }
def FoldStrictWrongFalsely : Prop := foldStrictRow.holds Tryz.pinned (OpenSpec.ofChange foldStrictWrong)

/-- 'mempoollaw14.FoldJoins': WHATEVER THE INPUT: true; the input reads as it did. -/
def foldJoinsSpec : ChangeSpec := { name := "foldJoins", fn := fun _ => fun
  | [d1, d2] => { results := [.lit (.bool true)], args := [d1, d2] }
  | _ => none }
def foldJoinsRow : OpenClaim := { program := "ytbipjlehhlkghaagreatdoor", sum := "21b09ce3b78a753896bb1bd74cd33d9504efd9b9be817e8cc1450c299bc954e1", func := "mempool/mempoollaw14.FoldJoins", spec := "foldJoins", inPlace := ["math/bits.Add64", "slices.overlaps[mempool/api.Account]"], unfollowed := true, recurses := true, named := ["unicode/utf8.first", "unicode/utf8.acceptRanges", "math/bits.divideError", "math/bits.overflowError"], apart := false, laid := [("unicode/utf8.acceptRanges", laid_unicode_utf8_acceptRanges), ("unicode/utf8.first", laid_unicode_utf8_first)] }
def FoldJoinsSaid : Prop := foldJoinsRow.holds Tryz.pinned (OpenSpec.ofChange foldJoinsSpec)

/-- ITS FALSE NEIGHBOUR: 'it returns false'. Refute it at one input. -/
def foldJoinsWrong : ChangeSpec := { name := "foldJoins", fn := fun _ => fun
  | [d1, d2] => { results := [.lit (.bool false)], args := [d1, d2] }
  | _ => none }
def FoldJoinsWrongFalsely : Prop := foldJoinsRow.holds Tryz.pinned (OpenSpec.ofChange foldJoinsWrong)

/-- 'mempoollaw14.FoldDigests': WHATEVER THE INPUT: true; the input reads as it did. -/
def foldDigestsSpec : ChangeSpec := { name := "foldDigests", fn := fun _ => fun
  | [d1, d2] => { results := [.lit (.bool true)], args := [d1, d2] }
  | _ => none }
def foldDigestsRow : OpenClaim := { program := "ytbipjlehhlkghaagreatdoor", sum := "21b09ce3b78a753896bb1bd74cd33d9504efd9b9be817e8cc1450c299bc954e1", func := "mempool/mempoollaw14.FoldDigests", spec := "foldDigests", inPlace := ["math/bits.Add64", "slices.overlaps[mempool/api.Account]"], unfollowed := true, recurses := true, named := ["unicode/utf8.first", "unicode/utf8.acceptRanges", "math/bits.divideError", "math/bits.overflowError"], apart := false, laid := [("unicode/utf8.acceptRanges", laid_unicode_utf8_acceptRanges), ("unicode/utf8.first", laid_unicode_utf8_first)] }
def FoldDigestsSaid : Prop := foldDigestsRow.holds Tryz.pinned (OpenSpec.ofChange foldDigestsSpec)

/-- ITS FALSE NEIGHBOUR: 'it returns false'. Refute it at one input. -/
def foldDigestsWrong : ChangeSpec := { name := "foldDigests", fn := fun _ => fun
  | [d1, d2] => { results := [.lit (.bool false)], args := [d1, d2] }
  | _ => none }
def FoldDigestsWrongFalsely : Prop := foldDigestsRow.holds Tryz.pinned (OpenSpec.ofChange foldDigestsWrong)

/- THE SECOND FORM. 'bulk': how many values and letters a reading holds, each counted each time it is reached (what is shared counts as often as it is met; a slice's spare places count too). A statement '..UptoSaid' is the law's where the arguments, and the package variables that the reading takes, are together of bulk at most 1048576: NARROWER than '..Said'. Prove '..Said' where nothing that the law and all that it calls make is longer than what came in: it says more and counts as full. Else prove '..UptoSaid'. A law counts once. -/
mutual
def uptoBulk {H : Type} : DataW H → Nat
  | .lit (.string bytes) => bytes.length + 1
  | .lit _ => 1
  | .nil => 1
  | .ptr d => uptoBulk d + 1
  | .slice elems spare => uptoBulkAll elems + uptoBulkAll spare + 1
  | .agg parts => uptoBulkAll parts + 1
  | .iface _ d => uptoBulk d + 1
  | .map entries => uptoBulkEntries entries + 1
  | .held _ => 1
def uptoBulkAll {H : Type} : List (DataW H) → Nat
  | [] => 0
  | d :: r => uptoBulk d + uptoBulkAll r
def uptoBulkEntries {H : Type} : List (Lit × DataW H) → Nat
  | [] => 0
  | x :: r => uptoBulkEntry x + uptoBulkEntries r
def uptoBulkEntry {H : Type} : Lit × DataW H → Nat
  | (.string bytes, d) => bytes.length + uptoBulk d + 1
  | (_, d) => uptoBulk d + 1
 end
def uptoSmall : (H : Type) → List (DataW H) → Bool := fun _ ds => decide (uptoBulkAll ds ≤ 1048576)
def OpenSpec.upto (s : _root_.Go.ChangeSpec) : _root_.Go.OpenSpec := { _root_.Go.OpenSpec.ofChange s with cond := some uptoSmall }

/-- 'mempoollaw13.ApplyTx', WHERE WHAT IT READS IS OF BULK AT MOST 1048576: true; the input reads as it did. -/
def applyTxUptoRow : OpenClaim := { program := "ytbipjlehhlkghaagreatdoor", sum := "21b09ce3b78a753896bb1bd74cd33d9504efd9b9be817e8cc1450c299bc954e1", func := "mempool/mempoollaw13.ApplyTx", spec := "applyTx", inPlace := ["math/bits.Add64", "slices.overlaps[mempool/api.Account]"], unfollowed := true, recurses := true, named := ["unicode/utf8.first", "unicode/utf8.acceptRanges", "math/bits.divideError", "math/bits.overflowError"], apart := false, laid := [("unicode/utf8.acceptRanges", laid_unicode_utf8_acceptRanges), ("unicode/utf8.first", laid_unicode_utf8_first)], narrowed := true }
def ApplyTxUptoSaid : Prop := applyTxUptoRow.holds Tryz.pinned (OpenSpec.upto applyTxSpec)

/-- 'mempoollaw13.ApplyErrors', WHERE WHAT IT READS IS OF BULK AT MOST 1048576: true; the input reads as it did. -/
def applyErrorsUptoRow : OpenClaim := { program := "ytbipjlehhlkghaagreatdoor", sum := "21b09ce3b78a753896bb1bd74cd33d9504efd9b9be817e8cc1450c299bc954e1", func := "mempool/mempoollaw13.ApplyErrors", spec := "applyErrors", inPlace := ["math/bits.Add64", "slices.overlaps[mempool/api.Account]"], unfollowed := true, recurses := true, named := ["unicode/utf8.first", "unicode/utf8.acceptRanges", "math/bits.divideError", "math/bits.overflowError"], apart := false, laid := [("unicode/utf8.acceptRanges", laid_unicode_utf8_acceptRanges), ("unicode/utf8.first", laid_unicode_utf8_first)], narrowed := true }
def ApplyErrorsUptoSaid : Prop := applyErrorsUptoRow.holds Tryz.pinned (OpenSpec.upto applyErrorsSpec)

/-- 'mempoollaw13.ApplyTotals', WHERE WHAT IT READS IS OF BULK AT MOST 1048576: true; the input reads as it did. -/
def applyTotalsUptoRow : OpenClaim := { program := "ytbipjlehhlkghaagreatdoor", sum := "21b09ce3b78a753896bb1bd74cd33d9504efd9b9be817e8cc1450c299bc954e1", func := "mempool/mempoollaw13.ApplyTotals", spec := "applyTotals", inPlace := ["math/bits.Add64", "slices.overlaps[mempool/api.Account]"], unfollowed := true, recurses := true, named := ["unicode/utf8.first", "unicode/utf8.acceptRanges", "math/bits.divideError", "math/bits.overflowError"], apart := false, laid := [("unicode/utf8.acceptRanges", laid_unicode_utf8_acceptRanges), ("unicode/utf8.first", laid_unicode_utf8_first)], narrowed := true }
def ApplyTotalsUptoSaid : Prop := applyTotalsUptoRow.holds Tryz.pinned (OpenSpec.upto applyTotalsSpec)

/-- 'mempoollaw13.ApplyOnce', WHERE WHAT IT READS IS OF BULK AT MOST 1048576: true; the input reads as it did. -/
def applyOnceUptoRow : OpenClaim := { program := "ytbipjlehhlkghaagreatdoor", sum := "21b09ce3b78a753896bb1bd74cd33d9504efd9b9be817e8cc1450c299bc954e1", func := "mempool/mempoollaw13.ApplyOnce", spec := "applyOnce", inPlace := ["math/bits.Add64", "slices.overlaps[mempool/api.Account]"], unfollowed := true, recurses := true, named := ["unicode/utf8.first", "unicode/utf8.acceptRanges", "math/bits.divideError", "math/bits.overflowError"], apart := false, laid := [("unicode/utf8.acceptRanges", laid_unicode_utf8_acceptRanges), ("unicode/utf8.first", laid_unicode_utf8_first)], narrowed := true }
def ApplyOnceUptoSaid : Prop := applyOnceUptoRow.holds Tryz.pinned (OpenSpec.upto applyOnceSpec)

/-- 'mempoollaw14.FoldAll', WHERE WHAT IT READS IS OF BULK AT MOST 1048576: true; the input reads as it did. -/
def foldAllUptoRow : OpenClaim := { program := "ytbipjlehhlkghaagreatdoor", sum := "21b09ce3b78a753896bb1bd74cd33d9504efd9b9be817e8cc1450c299bc954e1", func := "mempool/mempoollaw14.FoldAll", spec := "foldAll", inPlace := ["math/bits.Add64", "slices.overlaps[mempool/api.Account]"], unfollowed := true, recurses := true, named := ["unicode/utf8.first", "unicode/utf8.acceptRanges", "math/bits.divideError", "math/bits.overflowError"], apart := false, laid := [("unicode/utf8.acceptRanges", laid_unicode_utf8_acceptRanges), ("unicode/utf8.first", laid_unicode_utf8_first)], narrowed := true }
def FoldAllUptoSaid : Prop := foldAllUptoRow.holds Tryz.pinned (OpenSpec.upto foldAllSpec)

/-- 'mempoollaw14.FoldStrict', WHERE WHAT IT READS IS OF BULK AT MOST 1048576: true; the input reads as it did. -/
def foldStrictUptoRow : OpenClaim := { program := "ytbipjlehhlkghaagreatdoor", sum := "21b09ce3b78a753896bb1bd74cd33d9504efd9b9be817e8cc1450c299bc954e1", func := "mempool/mempoollaw14.FoldStrict", spec := "foldStrict", inPlace := ["math/bits.Add64", "slices.overlaps[mempool/api.Account]"], unfollowed := true, recurses := true, named := ["unicode/utf8.first", "unicode/utf8.acceptRanges", "math/bits.divideError", "math/bits.overflowError"], apart := false, laid := [("unicode/utf8.acceptRanges", laid_unicode_utf8_acceptRanges), ("unicode/utf8.first", laid_unicode_utf8_first)], narrowed := true }
def FoldStrictUptoSaid : Prop := foldStrictUptoRow.holds Tryz.pinned (OpenSpec.upto foldStrictSpec)

/-- 'mempoollaw14.FoldJoins', WHERE WHAT IT READS IS OF BULK AT MOST 1048576: true; the input reads as it did. -/
def foldJoinsUptoRow : OpenClaim := { program := "ytbipjlehhlkghaagreatdoor", sum := "21b09ce3b78a753896bb1bd74cd33d9504efd9b9be817e8cc1450c299bc954e1", func := "mempool/mempoollaw14.FoldJoins", spec := "foldJoins", inPlace := ["math/bits.Add64", "slices.overlaps[mempool/api.Account]"], unfollowed := true, recurses := true, named := ["unicode/utf8.first", "unicode/utf8.acceptRanges", "math/bits.divideError", "math/bits.overflowError"], apart := false, laid := [("unicode/utf8.acceptRanges", laid_unicode_utf8_acceptRanges), ("unicode/utf8.first", laid_unicode_utf8_first)], narrowed := true }
def FoldJoinsUptoSaid : Prop := foldJoinsUptoRow.holds Tryz.pinned (OpenSpec.upto foldJoinsSpec)

/-- 'mempoollaw14.FoldDigests', WHERE WHAT IT READS IS OF BULK AT MOST 1048576: true; the input reads as it did. -/
def foldDigestsUptoRow : OpenClaim := { program := "ytbipjlehhlkghaagreatdoor", sum := "21b09ce3b78a753896bb1bd74cd33d9504efd9b9be817e8cc1450c299bc954e1", func := "mempool/mempoollaw14.FoldDigests", spec := "foldDigests", inPlace := ["math/bits.Add64", "slices.overlaps[mempool/api.Account]"], unfollowed := true, recurses := true, named := ["unicode/utf8.first", "unicode/utf8.acceptRanges", "math/bits.divideError", "math/bits.overflowError"], apart := false, laid := [("unicode/utf8.acceptRanges", laid_unicode_utf8_acceptRanges), ("unicode/utf8.first", laid_unicode_utf8_first)], narrowed := true }
def FoldDigestsUptoSaid : Prop := foldDigestsUptoRow.holds Tryz.pinned (OpenSpec.upto foldDigestsSpec)

end Rows
end Go.Proofs.YtbipjlehhlkghaaGreatDoor
