/-
  NARROWER THAN 'FOR EVERY INPUT', by the rows' own cells (each row's printed sentence says how): TxWords: laid · TxValidates: laid · TxEncodes: laid · TxDecodes: laid · TxFields: laid · TxLimits: laid.
  DERIVED. THE GIVEN ROWS OF THIS SEAT. 6 by the template 'for every input the law returns true; each argument reads behind the call as it read before'; 0 by the template 'total and deterministic' (their statements: YtgfmnpbcbpobbaaDoorTotals.lean).
  GIVEN WITH THE SEED: the statements are not yours to turn. If you find one false, say at which input.
  Laid BY PROGRAM, IN A SANDBOX (cutbox-rows.mjs): the forced cells as the released guide's own fill.sh prints them over the translation bd5264710baaf49c… (all of the seat's roots in one cut). By AI agents, Wed Nov 11 2026. No macro, syntax, notation, axiom, sorry.
-/
import Derived.Test.YtgfmnpbcbpobbaaDoorChecked
import GoSem.PinnedTables
import GoSem.Claim
import GoSem.ClaimJoined
import GoSem.ClaimMapViews
import Derived.JoinedTies
import Derived.KernelRfl
namespace Go.Proofs.YtgfmnpbcbpobbaaDoor
/- THE CELL 'sum', in the pinned program and in every row, IS THE sha256 OF THE DUMP (.gsa) THAT YtgfmnpbcbpobbaaDoorProg.lean LOADS. Nothing in Lean hashes anything: it is a label: what it is worth is what the hold of that sum in a sandbox is worth. -/
noncomputable def Tryd.pinned : Pinned := { name := "ytgfmnpbcbpobbaadoor", sum := "bd5264710baaf49cab10b8014363116e7bc618dde6b691f636c3915d80e7dccf", checked := Tryd.checked }
namespace Rows
def none {H : Type} : Left H := { results := [], args := [] }

/- WHAT THE LISTED PACKAGE-LEVEL VARIABLES READ AS WHEN THE CALL BEGINS. Each datum BY PROGRAM (the guide's laid-datum.mjs) off the statement by which the dump's own 'gosem.cut.vars' lays the variable. In a bare row this is a premise. The card (YtgfmnpbcbpobbaaDoorCards.lean) ties it to the program's text. -/
def laid_unicode_utf8_acceptRanges {H : Type} : DataW H := .agg [.agg [.lit (.int .u8 128), .lit (.int .u8 191)], .agg [.lit (.int .u8 160), .lit (.int .u8 191)], .agg [.lit (.int .u8 128), .lit (.int .u8 159)], .agg [.lit (.int .u8 144), .lit (.int .u8 191)], .agg [.lit (.int .u8 128), .lit (.int .u8 143)], .agg [.lit (.int .u8 0), .lit (.int .u8 0)], .agg [.lit (.int .u8 0), .lit (.int .u8 0)], .agg [.lit (.int .u8 0), .lit (.int .u8 0)], .agg [.lit (.int .u8 0), .lit (.int .u8 0)], .agg [.lit (.int .u8 0), .lit (.int .u8 0)], .agg [.lit (.int .u8 0), .lit (.int .u8 0)], .agg [.lit (.int .u8 0), .lit (.int .u8 0)], .agg [.lit (.int .u8 0), .lit (.int .u8 0)], .agg [.lit (.int .u8 0), .lit (.int .u8 0)], .agg [.lit (.int .u8 0), .lit (.int .u8 0)], .agg [.lit (.int .u8 0), .lit (.int .u8 0)]]
/-- One of Go's own tables, pinned by name: the form's constant. -/
def laid_unicode_utf8_first : DataW Unit := Go.Pinned.utf8First

/-- 'mempoollaw10.TxWords': WHATEVER THE INPUT: true; the input reads as it did. -/
def txWordsSpec : ChangeSpec := { name := "txWords", fn := fun _ => fun
  | [d1, d2, d3] => { results := [.lit (.bool true)], args := [d1, d2, d3] }
  | _ => none }
def txWordsRow : OpenClaim := { program := "ytgfmnpbcbpobbaadoor", sum := "bd5264710baaf49cab10b8014363116e7bc618dde6b691f636c3915d80e7dccf", func := "mempool/mempoollaw10.TxWords", spec := "txWords", named := ["unicode/utf8.first", "unicode/utf8.acceptRanges"], apart := false, laid := [("unicode/utf8.acceptRanges", laid_unicode_utf8_acceptRanges), ("unicode/utf8.first", laid_unicode_utf8_first)] }
def TxWordsSaid : Prop := txWordsRow.holds Tryd.pinned (OpenSpec.ofChange txWordsSpec)

/-- ITS FALSE NEIGHBOUR: 'it returns false'. Refute it at one input. -/
def txWordsWrong : ChangeSpec := { name := "txWords", fn := fun _ => fun
  | [d1, d2, d3] => { results := [.lit (.bool false)], args := [d1, d2, d3] }
  | _ => none }
def TxWordsWrongFalsely : Prop := txWordsRow.holds Tryd.pinned (OpenSpec.ofChange txWordsWrong)

/-- 'mempoollaw10.TxValidates': WHATEVER THE INPUT: true; the input reads as it did. -/
def txValidatesSpec : ChangeSpec := { name := "txValidates", fn := fun _ => fun
  | [d1, d2] => { results := [.lit (.bool true)], args := [d1, d2] }
  | _ => none }
def txValidatesRow : OpenClaim := { program := "ytgfmnpbcbpobbaadoor", sum := "bd5264710baaf49cab10b8014363116e7bc618dde6b691f636c3915d80e7dccf", func := "mempool/mempoollaw10.TxValidates", spec := "txValidates", named := ["unicode/utf8.first", "unicode/utf8.acceptRanges"], apart := false, laid := [("unicode/utf8.acceptRanges", laid_unicode_utf8_acceptRanges), ("unicode/utf8.first", laid_unicode_utf8_first)] }
def TxValidatesSaid : Prop := txValidatesRow.holds Tryd.pinned (OpenSpec.ofChange txValidatesSpec)

/-- ITS FALSE NEIGHBOUR: 'it returns false'. Refute it at one input. -/
def txValidatesWrong : ChangeSpec := { name := "txValidates", fn := fun _ => fun
  | [d1, d2] => { results := [.lit (.bool false)], args := [d1, d2] }
  | _ => none }
def TxValidatesWrongFalsely : Prop := txValidatesRow.holds Tryd.pinned (OpenSpec.ofChange txValidatesWrong)

/-- 'mempoollaw10.TxEncodes': WHATEVER THE INPUT: true; the input reads as it did. -/
def txEncodesSpec : ChangeSpec := { name := "txEncodes", fn := fun _ => fun
  | [d1, d2] => { results := [.lit (.bool true)], args := [d1, d2] }
  | _ => none }
def txEncodesRow : OpenClaim := { program := "ytgfmnpbcbpobbaadoor", sum := "bd5264710baaf49cab10b8014363116e7bc618dde6b691f636c3915d80e7dccf", func := "mempool/mempoollaw10.TxEncodes", spec := "txEncodes", named := ["unicode/utf8.first", "unicode/utf8.acceptRanges"], apart := false, laid := [("unicode/utf8.acceptRanges", laid_unicode_utf8_acceptRanges), ("unicode/utf8.first", laid_unicode_utf8_first)] }
def TxEncodesSaid : Prop := txEncodesRow.holds Tryd.pinned (OpenSpec.ofChange txEncodesSpec)

/-- ITS FALSE NEIGHBOUR: 'it returns false'. Refute it at one input. -/
def txEncodesWrong : ChangeSpec := { name := "txEncodes", fn := fun _ => fun
  | [d1, d2] => { results := [.lit (.bool false)], args := [d1, d2] }
  | _ => none }
def TxEncodesWrongFalsely : Prop := txEncodesRow.holds Tryd.pinned (OpenSpec.ofChange txEncodesWrong)

/-- 'mempoollaw10.TxDecodes': WHATEVER THE INPUT: true; the input reads as it did. -/
def txDecodesSpec : ChangeSpec := { name := "txDecodes", fn := fun _ => fun
  | [d1, d2, d3, d4, d5] => { results := [.lit (.bool true)], args := [d1, d2, d3, d4, d5] }
  | _ => none }
def txDecodesRow : OpenClaim := { program := "ytgfmnpbcbpobbaadoor", sum := "bd5264710baaf49cab10b8014363116e7bc618dde6b691f636c3915d80e7dccf", func := "mempool/mempoollaw10.TxDecodes", spec := "txDecodes", named := ["unicode/utf8.first", "unicode/utf8.acceptRanges"], apart := false, laid := [("unicode/utf8.acceptRanges", laid_unicode_utf8_acceptRanges), ("unicode/utf8.first", laid_unicode_utf8_first)] }
def TxDecodesSaid : Prop := txDecodesRow.holds Tryd.pinned (OpenSpec.ofChange txDecodesSpec)

/-- ITS FALSE NEIGHBOUR: 'it returns false'. Refute it at one input. -/
def txDecodesWrong : ChangeSpec := { name := "txDecodes", fn := fun _ => fun
  | [d1, d2, d3, d4, d5] => { results := [.lit (.bool false)], args := [d1, d2, d3, d4, d5] }
  | _ => none }
def TxDecodesWrongFalsely : Prop := txDecodesRow.holds Tryd.pinned (OpenSpec.ofChange txDecodesWrong)

/-- 'mempoollaw10.TxFields': WHATEVER THE INPUT: true; the input reads as it did. -/
def txFieldsSpec : ChangeSpec := { name := "txFields", fn := fun _ => fun
  | [d1, d2, d3, d4] => { results := [.lit (.bool true)], args := [d1, d2, d3, d4] }
  | _ => none }
def txFieldsRow : OpenClaim := { program := "ytgfmnpbcbpobbaadoor", sum := "bd5264710baaf49cab10b8014363116e7bc618dde6b691f636c3915d80e7dccf", func := "mempool/mempoollaw10.TxFields", spec := "txFields", named := ["unicode/utf8.first", "unicode/utf8.acceptRanges"], apart := false, laid := [("unicode/utf8.acceptRanges", laid_unicode_utf8_acceptRanges), ("unicode/utf8.first", laid_unicode_utf8_first)] }
def TxFieldsSaid : Prop := txFieldsRow.holds Tryd.pinned (OpenSpec.ofChange txFieldsSpec)

/-- ITS FALSE NEIGHBOUR: 'it returns false'. Refute it at one input. -/
def txFieldsWrong : ChangeSpec := { name := "txFields", fn := fun _ => fun
  | [d1, d2, d3, d4] => { results := [.lit (.bool false)], args := [d1, d2, d3, d4] }
  | _ => none }
def TxFieldsWrongFalsely : Prop := txFieldsRow.holds Tryd.pinned (OpenSpec.ofChange txFieldsWrong)

/-- 'mempoollaw10.TxLimits': WHATEVER THE INPUT: true; the input reads as it did. -/
def txLimitsSpec : ChangeSpec := { name := "txLimits", fn := fun _ => fun
  | [d1, d2, d3] => { results := [.lit (.bool true)], args := [d1, d2, d3] }
  | _ => none }
def txLimitsRow : OpenClaim := { program := "ytgfmnpbcbpobbaadoor", sum := "bd5264710baaf49cab10b8014363116e7bc618dde6b691f636c3915d80e7dccf", func := "mempool/mempoollaw10.TxLimits", spec := "txLimits", named := ["unicode/utf8.first", "unicode/utf8.acceptRanges"], apart := false, laid := [("unicode/utf8.acceptRanges", laid_unicode_utf8_acceptRanges), ("unicode/utf8.first", laid_unicode_utf8_first)] }
def TxLimitsSaid : Prop := txLimitsRow.holds Tryd.pinned (OpenSpec.ofChange txLimitsSpec)

/-- ITS FALSE NEIGHBOUR: 'it returns false'. Refute it at one input. -/
def txLimitsWrong : ChangeSpec := { name := "txLimits", fn := fun _ => fun
  | [d1, d2, d3] => { results := [.lit (.bool false)], args := [d1, d2, d3] }
  | _ => none }
def TxLimitsWrongFalsely : Prop := txLimitsRow.holds Tryd.pinned (OpenSpec.ofChange txLimitsWrong)

/- THE SECOND FORM. 'bulk': how many values and letters a reading holds, each counted each time it is reached (what is shared counts as often as it is met; a slice's spare places count too). A statement '..UptoSaid' is the law's where the arguments, and the package variables that the reading takes, are together of bulk at most 1048576: NARROWER than '..Said'. Prove '..Said' where nothing that the law and all that it calls make is longer than what came in: it says more and counts as full. Else prove '..UptoSaid'. A law counts once. -/
mutual
def uptoBulk {H : Type} : DataW H → Nat
  | .lit (.string bytes) => bytes.length + 1
  | .lit _ => 1
  | .nil => 1
  | .ptr d => uptoBulk d + 1
  | .slice elems spare => uptoBulkAll elems + uptoBulkAll spare + 1
  | .agg parts => uptoBulkAll parts + 1
  | .iface _ d => uptoBulk d + 1
  | .map entries => uptoBulkEntries entries + 1
  | .held _ => 1
def uptoBulkAll {H : Type} : List (DataW H) → Nat
  | [] => 0
  | d :: r => uptoBulk d + uptoBulkAll r
def uptoBulkEntries {H : Type} : List (Lit × DataW H) → Nat
  | [] => 0
  | x :: r => uptoBulkEntry x + uptoBulkEntries r
def uptoBulkEntry {H : Type} : Lit × DataW H → Nat
  | (.string bytes, d) => bytes.length + uptoBulk d + 1
  | (_, d) => uptoBulk d + 1
 end
def uptoSmall : (H : Type) → List (DataW H) → Bool := fun _ ds => decide (uptoBulkAll ds ≤ 1048576)
def OpenSpec.upto (s : _root_.Go.ChangeSpec) : _root_.Go.OpenSpec := { _root_.Go.OpenSpec.ofChange s with cond := some uptoSmall }

/-- 'mempoollaw10.TxWords', WHERE WHAT IT READS IS OF BULK AT MOST 1048576: true; the input reads as it did. -/
def txWordsUptoRow : OpenClaim := { program := "ytgfmnpbcbpobbaadoor", sum := "bd5264710baaf49cab10b8014363116e7bc618dde6b691f636c3915d80e7dccf", func := "mempool/mempoollaw10.TxWords", spec := "txWords", named := ["unicode/utf8.first", "unicode/utf8.acceptRanges"], apart := false, laid := [("unicode/utf8.acceptRanges", laid_unicode_utf8_acceptRanges), ("unicode/utf8.first", laid_unicode_utf8_first)], narrowed := true }
def TxWordsUptoSaid : Prop := txWordsUptoRow.holds Tryd.pinned (OpenSpec.upto txWordsSpec)

/-- 'mempoollaw10.TxValidates', WHERE WHAT IT READS IS OF BULK AT MOST 1048576: true; the input reads as it did. -/
def txValidatesUptoRow : OpenClaim := { program := "ytgfmnpbcbpobbaadoor", sum := "bd5264710baaf49cab10b8014363116e7bc618dde6b691f636c3915d80e7dccf", func := "mempool/mempoollaw10.TxValidates", spec := "txValidates", named := ["unicode/utf8.first", "unicode/utf8.acceptRanges"], apart := false, laid := [("unicode/utf8.acceptRanges", laid_unicode_utf8_acceptRanges), ("unicode/utf8.first", laid_unicode_utf8_first)], narrowed := true }
def TxValidatesUptoSaid : Prop := txValidatesUptoRow.holds Tryd.pinned (OpenSpec.upto txValidatesSpec)

/-- 'mempoollaw10.TxEncodes', WHERE WHAT IT READS IS OF BULK AT MOST 1048576: true; the input reads as it did. -/
def txEncodesUptoRow : OpenClaim := { program := "ytgfmnpbcbpobbaadoor", sum := "bd5264710baaf49cab10b8014363116e7bc618dde6b691f636c3915d80e7dccf", func := "mempool/mempoollaw10.TxEncodes", spec := "txEncodes", named := ["unicode/utf8.first", "unicode/utf8.acceptRanges"], apart := false, laid := [("unicode/utf8.acceptRanges", laid_unicode_utf8_acceptRanges), ("unicode/utf8.first", laid_unicode_utf8_first)], narrowed := true }
def TxEncodesUptoSaid : Prop := txEncodesUptoRow.holds Tryd.pinned (OpenSpec.upto txEncodesSpec)

/-- 'mempoollaw10.TxDecodes', WHERE WHAT IT READS IS OF BULK AT MOST 1048576: true; the input reads as it did. -/
def txDecodesUptoRow : OpenClaim := { program := "ytgfmnpbcbpobbaadoor", sum := "bd5264710baaf49cab10b8014363116e7bc618dde6b691f636c3915d80e7dccf", func := "mempool/mempoollaw10.TxDecodes", spec := "txDecodes", named := ["unicode/utf8.first", "unicode/utf8.acceptRanges"], apart := false, laid := [("unicode/utf8.acceptRanges", laid_unicode_utf8_acceptRanges), ("unicode/utf8.first", laid_unicode_utf8_first)], narrowed := true }
def TxDecodesUptoSaid : Prop := txDecodesUptoRow.holds Tryd.pinned (OpenSpec.upto txDecodesSpec)

/-- 'mempoollaw10.TxFields', WHERE WHAT IT READS IS OF BULK AT MOST 1048576: true; the input reads as it did. -/
def txFieldsUptoRow : OpenClaim := { program := "ytgfmnpbcbpobbaadoor", sum := "bd5264710baaf49cab10b8014363116e7bc618dde6b691f636c3915d80e7dccf", func := "mempool/mempoollaw10.TxFields", spec := "txFields", named := ["unicode/utf8.first", "unicode/utf8.acceptRanges"], apart := false, laid := [("unicode/utf8.acceptRanges", laid_unicode_utf8_acceptRanges), ("unicode/utf8.first", laid_unicode_utf8_first)], narrowed := true }
def TxFieldsUptoSaid : Prop := txFieldsUptoRow.holds Tryd.pinned (OpenSpec.upto txFieldsSpec)

/-- 'mempoollaw10.TxLimits', WHERE WHAT IT READS IS OF BULK AT MOST 1048576: true; the input reads as it did. -/
def txLimitsUptoRow : OpenClaim := { program := "ytgfmnpbcbpobbaadoor", sum := "bd5264710baaf49cab10b8014363116e7bc618dde6b691f636c3915d80e7dccf", func := "mempool/mempoollaw10.TxLimits", spec := "txLimits", named := ["unicode/utf8.first", "unicode/utf8.acceptRanges"], apart := false, laid := [("unicode/utf8.acceptRanges", laid_unicode_utf8_acceptRanges), ("unicode/utf8.first", laid_unicode_utf8_first)], narrowed := true }
def TxLimitsUptoSaid : Prop := txLimitsUptoRow.holds Tryd.pinned (OpenSpec.upto txLimitsSpec)

end Rows
end Go.Proofs.YtgfmnpbcbpobbaaDoor
