/-
  NARROWER THAN 'FOR EVERY INPUT', by the rows' own cells (each row's printed sentence says how): ProposalBuilds: laid · ProposalJudges: laid · ProposalAccepted: laid · ProposalMaximal: laid · ProposalSome: laid · UpdateRemoves: laid · UpdatePurges: laid · UpdateRechecks: laid · UpdateUpdates: laid · UpdateLeaves: laid · UpdateCounts: laid.
  DERIVED. THE GIVEN ROWS OF THIS SEAT. 11 by the template 'for every input the law returns true; each argument reads behind the call as it read before'; 0 by the template 'total and deterministic' (their statements: YtjbgdpjgfjnkbaaGreatDoorTotals.lean).
  GIVEN WITH THE SEED: the statements are not yours to turn. If you find one false, say at which input.
  Laid BY PROGRAM, IN A SANDBOX (cutbox-rows.mjs): the forced cells as the released guide's own fill.sh prints them over the translation 7a4c2f3752d67e76… (all of the seat's roots in one cut). By AI agents, Wed Nov 11 2026. No macro, syntax, notation, axiom, sorry.
-/
import Derived.Test.YtjbgdpjgfjnkbaaGreatDoorChecked
import GoSem.PinnedTables
import GoSem.Claim
import GoSem.ClaimJoined
import GoSem.ClaimMapViews
import Derived.JoinedTies
import Derived.KernelRfl
namespace Go.Proofs.YtjbgdpjgfjnkbaaGreatDoor
/- THE CELL 'sum', in the pinned program and in every row, IS THE sha256 OF THE DUMP (.gsa) THAT YtjbgdpjgfjnkbaaGreatDoorProg.lean LOADS. Nothing in Lean hashes anything: it is a label: what it is worth is what the hold of that sum in a sandbox is worth. -/
noncomputable def Tryz.pinned : Pinned := { name := "ytjbgdpjgfjnkbaagreatdoor", sum := "7a4c2f3752d67e76dd0b67085b39042ff5e679a4dfff26e8b4684ffb66fd1cc3", checked := Tryz.checked }
namespace Rows
def none {H : Type} : Left H := { results := [], args := [] }

/- WHAT THE LISTED PACKAGE-LEVEL VARIABLES READ AS WHEN THE CALL BEGINS. Each datum BY PROGRAM (the guide's laid-datum.mjs) off the statement by which the dump's own 'gosem.cut.vars' lays the variable. In a bare row this is a premise. The card (YtjbgdpjgfjnkbaaGreatDoorCards.lean) ties it to the program's text. -/
def laid_unicode_utf8_acceptRanges {H : Type} : DataW H := .agg [.agg [.lit (.int .u8 128), .lit (.int .u8 191)], .agg [.lit (.int .u8 160), .lit (.int .u8 191)], .agg [.lit (.int .u8 128), .lit (.int .u8 159)], .agg [.lit (.int .u8 144), .lit (.int .u8 191)], .agg [.lit (.int .u8 128), .lit (.int .u8 143)], .agg [.lit (.int .u8 0), .lit (.int .u8 0)], .agg [.lit (.int .u8 0), .lit (.int .u8 0)], .agg [.lit (.int .u8 0), .lit (.int .u8 0)], .agg [.lit (.int .u8 0), .lit (.int .u8 0)], .agg [.lit (.int .u8 0), .lit (.int .u8 0)], .agg [.lit (.int .u8 0), .lit (.int .u8 0)], .agg [.lit (.int .u8 0), .lit (.int .u8 0)], .agg [.lit (.int .u8 0), .lit (.int .u8 0)], .agg [.lit (.int .u8 0), .lit (.int .u8 0)], .agg [.lit (.int .u8 0), .lit (.int .u8 0)], .agg [.lit (.int .u8 0), .lit (.int .u8 0)]]
/-- One of Go's own tables, pinned by name: the form's constant. -/
def laid_unicode_utf8_first : DataW Unit := Go.Pinned.utf8First

/-- 'mempoollaw26.ProposalBuilds': WHATEVER THE INPUT: true; the input reads as it did. -/
def proposalBuildsSpec : ChangeSpec := { name := "proposalBuilds", fn := fun _ => fun
  | [d1, d2, d3] => { results := [.lit (.bool true)], args := [d1, d2, d3] }
  | _ => none }
def proposalBuildsRow : OpenClaim := { program := "ytjbgdpjgfjnkbaagreatdoor", sum := "7a4c2f3752d67e76dd0b67085b39042ff5e679a4dfff26e8b4684ffb66fd1cc3", func := "mempool/mempoollaw26.ProposalBuilds", spec := "proposalBuilds", inPlace := ["math/bits.Add64", "slices.overlaps[mempool/api.Account]"], unfollowed := true, recurses := true, named := ["unicode/utf8.first", "unicode/utf8.acceptRanges", "math/bits.divideError", "math/bits.overflowError"], apart := false, laid := [("unicode/utf8.acceptRanges", laid_unicode_utf8_acceptRanges), ("unicode/utf8.first", laid_unicode_utf8_first)] }
def ProposalBuildsSaid : Prop := proposalBuildsRow.holds Tryz.pinned (OpenSpec.ofChange proposalBuildsSpec)

/-- ITS FALSE NEIGHBOUR: 'it returns false'. Refute it at one input. -/
def proposalBuildsWrong : ChangeSpec := { name := "proposalBuilds", fn := fun _ => fun
  | [d1, d2, d3] => { results := [.lit (.bool false)], args := [d1, d2, d3] }
  | _ => none }
def ProposalBuildsWrongFalsely : Prop := proposalBuildsRow.holds Tryz.pinned (OpenSpec.ofChange proposalBuildsWrong)

/-- 'mempoollaw26.ProposalJudges': WHATEVER THE INPUT: true; the input reads as it did. -/
def proposalJudgesSpec : ChangeSpec := { name := "proposalJudges", fn := fun _ => fun
  | [d1, d2, d3, d4] => { results := [.lit (.bool true)], args := [d1, d2, d3, d4] }
  | _ => none }
def proposalJudgesRow : OpenClaim := { program := "ytjbgdpjgfjnkbaagreatdoor", sum := "7a4c2f3752d67e76dd0b67085b39042ff5e679a4dfff26e8b4684ffb66fd1cc3", func := "mempool/mempoollaw26.ProposalJudges", spec := "proposalJudges", inPlace := ["math/bits.Add64", "slices.overlaps[mempool/api.Account]"], unfollowed := true, recurses := true, named := ["unicode/utf8.first", "unicode/utf8.acceptRanges", "math/bits.divideError", "math/bits.overflowError"], apart := false, laid := [("unicode/utf8.acceptRanges", laid_unicode_utf8_acceptRanges), ("unicode/utf8.first", laid_unicode_utf8_first)] }
def ProposalJudgesSaid : Prop := proposalJudgesRow.holds Tryz.pinned (OpenSpec.ofChange proposalJudgesSpec)

/-- ITS FALSE NEIGHBOUR: 'it returns false'. Refute it at one input. -/
def proposalJudgesWrong : ChangeSpec := { name := "proposalJudges", fn := fun _ => fun
  | [d1, d2, d3, d4] => { results := [.lit (.bool false)], args := [d1, d2, d3, d4] }
  | _ => none }
def ProposalJudgesWrongFalsely : Prop := proposalJudgesRow.holds Tryz.pinned (OpenSpec.ofChange proposalJudgesWrong)

/-- 'mempoollaw26.ProposalAccepted': WHATEVER THE INPUT: true; the input reads as it did. -/
def proposalAcceptedSpec : ChangeSpec := { name := "proposalAccepted", fn := fun _ => fun
  | [d] => { results := [.lit (.bool true)], args := [d] }
  | _ => none }
def proposalAcceptedRow : OpenClaim := { program := "ytjbgdpjgfjnkbaagreatdoor", sum := "7a4c2f3752d67e76dd0b67085b39042ff5e679a4dfff26e8b4684ffb66fd1cc3", func := "mempool/mempoollaw26.ProposalAccepted", spec := "proposalAccepted", inPlace := ["math/bits.Add64", "slices.overlaps[mempool/api.Account]"], unfollowed := true, recurses := true, named := ["unicode/utf8.first", "unicode/utf8.acceptRanges", "math/bits.divideError", "math/bits.overflowError"], apart := false, laid := [("unicode/utf8.acceptRanges", laid_unicode_utf8_acceptRanges), ("unicode/utf8.first", laid_unicode_utf8_first)] }
def ProposalAcceptedSaid : Prop := proposalAcceptedRow.holds Tryz.pinned (OpenSpec.ofChange proposalAcceptedSpec)

/-- ITS FALSE NEIGHBOUR: 'it returns false'. Refute it at one input. -/
def proposalAcceptedWrong : ChangeSpec := { name := "proposalAccepted", fn := fun _ => fun
  | [d] => { results := [.lit (.bool false)], args := [d] }
  | _ => none }
def ProposalAcceptedWrongFalsely : Prop := proposalAcceptedRow.holds Tryz.pinned (OpenSpec.ofChange proposalAcceptedWrong)

/-- 'mempoollaw26.ProposalMaximal': WHATEVER THE INPUT: true; the input reads as it did. -/
def proposalMaximalSpec : ChangeSpec := { name := "proposalMaximal", fn := fun _ => fun
  | [d] => { results := [.lit (.bool true)], args := [d] }
  | _ => none }
def proposalMaximalRow : OpenClaim := { program := "ytjbgdpjgfjnkbaagreatdoor", sum := "7a4c2f3752d67e76dd0b67085b39042ff5e679a4dfff26e8b4684ffb66fd1cc3", func := "mempool/mempoollaw26.ProposalMaximal", spec := "proposalMaximal", inPlace := ["math/bits.Add64", "slices.overlaps[mempool/api.Account]"], unfollowed := true, recurses := true, named := ["unicode/utf8.first", "unicode/utf8.acceptRanges", "math/bits.divideError", "math/bits.overflowError"], apart := false, laid := [("unicode/utf8.acceptRanges", laid_unicode_utf8_acceptRanges), ("unicode/utf8.first", laid_unicode_utf8_first)] }
def ProposalMaximalSaid : Prop := proposalMaximalRow.holds Tryz.pinned (OpenSpec.ofChange proposalMaximalSpec)

/-- ITS FALSE NEIGHBOUR: 'it returns false'. Refute it at one input. -/
def proposalMaximalWrong : ChangeSpec := { name := "proposalMaximal", fn := fun _ => fun
  | [d] => { results := [.lit (.bool false)], args := [d] }
  | _ => none }
def ProposalMaximalWrongFalsely : Prop := proposalMaximalRow.holds Tryz.pinned (OpenSpec.ofChange proposalMaximalWrong)

/-- 'mempoollaw26.ProposalSome': WHATEVER THE INPUT: true; the input reads as it did. -/
def proposalSomeSpec : ChangeSpec := { name := "proposalSome", fn := fun _ => fun
  | [d] => { results := [.lit (.bool true)], args := [d] }
  | _ => none }
def proposalSomeRow : OpenClaim := { program := "ytjbgdpjgfjnkbaagreatdoor", sum := "7a4c2f3752d67e76dd0b67085b39042ff5e679a4dfff26e8b4684ffb66fd1cc3", func := "mempool/mempoollaw26.ProposalSome", spec := "proposalSome", inPlace := ["math/bits.Add64", "slices.overlaps[mempool/api.Account]"], unfollowed := true, recurses := true, named := ["unicode/utf8.first", "unicode/utf8.acceptRanges", "math/bits.divideError", "math/bits.overflowError"], apart := false, laid := [("unicode/utf8.acceptRanges", laid_unicode_utf8_acceptRanges), ("unicode/utf8.first", laid_unicode_utf8_first)] }
def ProposalSomeSaid : Prop := proposalSomeRow.holds Tryz.pinned (OpenSpec.ofChange proposalSomeSpec)

/-- ITS FALSE NEIGHBOUR: 'it returns false'. Refute it at one input. -/
def proposalSomeWrong : ChangeSpec := { name := "proposalSome", fn := fun _ => fun
  | [d] => { results := [.lit (.bool false)], args := [d] }
  | _ => none }
def ProposalSomeWrongFalsely : Prop := proposalSomeRow.holds Tryz.pinned (OpenSpec.ofChange proposalSomeWrong)

/-- 'mempoollaw23.UpdateRemoves': WHATEVER THE INPUT: true; the input reads as it did. -/
def updateRemovesSpec : ChangeSpec := { name := "updateRemoves", fn := fun _ => fun
  | [d1, d2, d3] => { results := [.lit (.bool true)], args := [d1, d2, d3] }
  | _ => none }
def updateRemovesRow : OpenClaim := { program := "ytjbgdpjgfjnkbaagreatdoor", sum := "7a4c2f3752d67e76dd0b67085b39042ff5e679a4dfff26e8b4684ffb66fd1cc3", func := "mempool/mempoollaw23.UpdateRemoves", spec := "updateRemoves", inPlace := ["math/bits.Add64", "slices.overlaps[mempool/api.Account]"], unfollowed := true, recurses := true, named := ["unicode/utf8.first", "unicode/utf8.acceptRanges", "math/bits.divideError", "math/bits.overflowError"], apart := false, laid := [("unicode/utf8.acceptRanges", laid_unicode_utf8_acceptRanges), ("unicode/utf8.first", laid_unicode_utf8_first)] }
def UpdateRemovesSaid : Prop := updateRemovesRow.holds Tryz.pinned (OpenSpec.ofChange updateRemovesSpec)

/-- ITS FALSE NEIGHBOUR: 'it returns false'. Refute it at one input. -/
def updateRemovesWrong : ChangeSpec := { name := "updateRemoves", fn := fun _ => fun
  | [d1, d2, d3] => { results := [.lit (.bool false)], args := [d1, d2, d3] }
  | _ => none }
def UpdateRemovesWrongFalsely : Prop := updateRemovesRow.holds Tryz.pinned (OpenSpec.ofChange updateRemovesWrong)

/-- 'mempoollaw23.UpdatePurges': WHATEVER THE INPUT: true; the input reads as it did. -/
def updatePurgesSpec : ChangeSpec := { name := "updatePurges", fn := fun _ => fun
  | [d1, d2, d3] => { results := [.lit (.bool true)], args := [d1, d2, d3] }
  | _ => none }
def updatePurgesRow : OpenClaim := { program := "ytjbgdpjgfjnkbaagreatdoor", sum := "7a4c2f3752d67e76dd0b67085b39042ff5e679a4dfff26e8b4684ffb66fd1cc3", func := "mempool/mempoollaw23.UpdatePurges", spec := "updatePurges", inPlace := ["math/bits.Add64", "slices.overlaps[mempool/api.Account]"], unfollowed := true, recurses := true, named := ["unicode/utf8.first", "unicode/utf8.acceptRanges", "math/bits.divideError", "math/bits.overflowError"], apart := false, laid := [("unicode/utf8.acceptRanges", laid_unicode_utf8_acceptRanges), ("unicode/utf8.first", laid_unicode_utf8_first)] }
def UpdatePurgesSaid : Prop := updatePurgesRow.holds Tryz.pinned (OpenSpec.ofChange updatePurgesSpec)

/-- ITS FALSE NEIGHBOUR: 'it returns false'. Refute it at one input. -/
def updatePurgesWrong : ChangeSpec := { name := "updatePurges", fn := fun _ => fun
  | [d1, d2, d3] => { results := [.lit (.bool false)], args := [d1, d2, d3] }
  | _ => none }
def UpdatePurgesWrongFalsely : Prop := updatePurgesRow.holds Tryz.pinned (OpenSpec.ofChange updatePurgesWrong)

/-- 'mempoollaw23.UpdateRechecks': WHATEVER THE INPUT: true; the input reads as it did. -/
def updateRechecksSpec : ChangeSpec := { name := "updateRechecks", fn := fun _ => fun
  | [d] => { results := [.lit (.bool true)], args := [d] }
  | _ => none }
def updateRechecksRow : OpenClaim := { program := "ytjbgdpjgfjnkbaagreatdoor", sum := "7a4c2f3752d67e76dd0b67085b39042ff5e679a4dfff26e8b4684ffb66fd1cc3", func := "mempool/mempoollaw23.UpdateRechecks", spec := "updateRechecks", inPlace := ["math/bits.Add64", "slices.overlaps[mempool/api.Account]"], unfollowed := true, recurses := true, named := ["unicode/utf8.first", "unicode/utf8.acceptRanges", "math/bits.divideError", "math/bits.overflowError"], apart := false, laid := [("unicode/utf8.acceptRanges", laid_unicode_utf8_acceptRanges), ("unicode/utf8.first", laid_unicode_utf8_first)] }
def UpdateRechecksSaid : Prop := updateRechecksRow.holds Tryz.pinned (OpenSpec.ofChange updateRechecksSpec)

/-- ITS FALSE NEIGHBOUR: 'it returns false'. Refute it at one input. -/
def updateRechecksWrong : ChangeSpec := { name := "updateRechecks", fn := fun _ => fun
  | [d] => { results := [.lit (.bool false)], args := [d] }
  | _ => none }
def UpdateRechecksWrongFalsely : Prop := updateRechecksRow.holds Tryz.pinned (OpenSpec.ofChange updateRechecksWrong)

/-- 'mempoollaw23.UpdateUpdates': WHATEVER THE INPUT: true; the input reads as it did. -/
def updateUpdatesSpec : ChangeSpec := { name := "updateUpdates", fn := fun _ => fun
  | [d1, d2, d3] => { results := [.lit (.bool true)], args := [d1, d2, d3] }
  | _ => none }
def updateUpdatesRow : OpenClaim := { program := "ytjbgdpjgfjnkbaagreatdoor", sum := "7a4c2f3752d67e76dd0b67085b39042ff5e679a4dfff26e8b4684ffb66fd1cc3", func := "mempool/mempoollaw23.UpdateUpdates", spec := "updateUpdates", inPlace := ["math/bits.Add64", "slices.overlaps[mempool/api.Account]"], unfollowed := true, recurses := true, named := ["unicode/utf8.first", "unicode/utf8.acceptRanges", "math/bits.divideError", "math/bits.overflowError"], apart := false, laid := [("unicode/utf8.acceptRanges", laid_unicode_utf8_acceptRanges), ("unicode/utf8.first", laid_unicode_utf8_first)] }
def UpdateUpdatesSaid : Prop := updateUpdatesRow.holds Tryz.pinned (OpenSpec.ofChange updateUpdatesSpec)

/-- ITS FALSE NEIGHBOUR: 'it returns false'. Refute it at one input. -/
def updateUpdatesWrong : ChangeSpec := { name := "updateUpdates", fn := fun _ => fun
  | [d1, d2, d3] => { results := [.lit (.bool false)], args := [d1, d2, d3] }
  | _ => none }
def UpdateUpdatesWrongFalsely : Prop := updateUpdatesRow.holds Tryz.pinned (OpenSpec.ofChange updateUpdatesWrong)

/-- 'mempoollaw23.UpdateLeaves': WHATEVER THE INPUT: true; the input reads as it did. -/
def updateLeavesSpec : ChangeSpec := { name := "updateLeaves", fn := fun _ => fun
  | [d1, d2] => { results := [.lit (.bool true)], args := [d1, d2] }
  | _ => none }
def updateLeavesRow : OpenClaim := { program := "ytjbgdpjgfjnkbaagreatdoor", sum := "7a4c2f3752d67e76dd0b67085b39042ff5e679a4dfff26e8b4684ffb66fd1cc3", func := "mempool/mempoollaw23.UpdateLeaves", spec := "updateLeaves", inPlace := ["math/bits.Add64", "slices.overlaps[mempool/api.Account]"], unfollowed := true, recurses := true, named := ["unicode/utf8.first", "unicode/utf8.acceptRanges", "math/bits.divideError", "math/bits.overflowError"], apart := false, laid := [("unicode/utf8.acceptRanges", laid_unicode_utf8_acceptRanges), ("unicode/utf8.first", laid_unicode_utf8_first)] }
def UpdateLeavesSaid : Prop := updateLeavesRow.holds Tryz.pinned (OpenSpec.ofChange updateLeavesSpec)

/-- ITS FALSE NEIGHBOUR: 'it returns false'. Refute it at one input. -/
def updateLeavesWrong : ChangeSpec := { name := "updateLeaves", fn := fun _ => fun
  | [d1, d2] => { results := [.lit (.bool false)], args := [d1, d2] }
  | _ => none }
def UpdateLeavesWrongFalsely : Prop := updateLeavesRow.holds Tryz.pinned (OpenSpec.ofChange updateLeavesWrong)

/-- 'mempoollaw23.UpdateCounts': WHATEVER THE INPUT: true; the input reads as it did. -/
def updateCountsSpec : ChangeSpec := { name := "updateCounts", fn := fun _ => fun
  | [d1, d2] => { results := [.lit (.bool true)], args := [d1, d2] }
  | _ => none }
def updateCountsRow : OpenClaim := { program := "ytjbgdpjgfjnkbaagreatdoor", sum := "7a4c2f3752d67e76dd0b67085b39042ff5e679a4dfff26e8b4684ffb66fd1cc3", func := "mempool/mempoollaw23.UpdateCounts", spec := "updateCounts", inPlace := ["math/bits.Add64", "slices.overlaps[mempool/api.Account]"], unfollowed := true, recurses := true, named := ["unicode/utf8.first", "unicode/utf8.acceptRanges", "math/bits.divideError", "math/bits.overflowError"], apart := false, laid := [("unicode/utf8.acceptRanges", laid_unicode_utf8_acceptRanges), ("unicode/utf8.first", laid_unicode_utf8_first)] }
def UpdateCountsSaid : Prop := updateCountsRow.holds Tryz.pinned (OpenSpec.ofChange updateCountsSpec)

/-- ITS FALSE NEIGHBOUR: 'it returns false'. Refute it at one input. -/
def updateCountsWrong : ChangeSpec := { name := "updateCounts", fn := fun _ => fun
  | [d1, d2] => { results := [.lit (.bool false)], args := [d1, d2] }
  | _ => none }
def UpdateCountsWrongFalsely : Prop := updateCountsRow.holds Tryz.pinned (OpenSpec.ofChange updateCountsWrong)

/- THE SECOND FORM. 'bulk': how many values and letters a reading holds, each counted each time it is reached (what is shared counts as often as it is met; a slice's spare places count too). A statement '..UptoSaid' is the law's where the arguments, and the package variables that the reading takes, are together of bulk at most 1048576: NARROWER than '..Said'. Prove '..Said' where nothing that the law and all that it calls make is longer than what came in: it says more and counts as full. Else prove '..UptoSaid'. A law counts once. -/
mutual
def uptoBulk {H : Type} : DataW H → Nat
  | .lit (.string bytes) => bytes.length + 1
  | .lit _ => 1
  | .nil => 1
  | .ptr d => uptoBulk d + 1
  | .slice elems spare => uptoBulkAll elems + uptoBulkAll spare + 1
  | .agg parts => uptoBulkAll parts + 1
  | .iface _ d => uptoBulk d + 1
  | .map entries => uptoBulkEntries entries + 1
  | .held _ => 1
def uptoBulkAll {H : Type} : List (DataW H) → Nat
  | [] => 0
  | d :: r => uptoBulk d + uptoBulkAll r
def uptoBulkEntries {H : Type} : List (Lit × DataW H) → Nat
  | [] => 0
  | x :: r => uptoBulkEntry x + uptoBulkEntries r
def uptoBulkEntry {H : Type} : Lit × DataW H → Nat
  | (.string bytes, d) => bytes.length + uptoBulk d + 1
  | (_, d) => uptoBulk d + 1
 end
def uptoSmall : (H : Type) → List (DataW H) → Bool := fun _ ds => decide (uptoBulkAll ds ≤ 1048576)
def OpenSpec.upto (s : _root_.Go.ChangeSpec) : _root_.Go.OpenSpec := { _root_.Go.OpenSpec.ofChange s with cond := some uptoSmall }

/-- 'mempoollaw26.ProposalBuilds', WHERE WHAT IT READS IS OF BULK AT MOST 1048576: true; the input reads as it did. -/
def proposalBuildsUptoRow : OpenClaim := { program := "ytjbgdpjgfjnkbaagreatdoor", sum := "7a4c2f3752d67e76dd0b67085b39042ff5e679a4dfff26e8b4684ffb66fd1cc3", func := "mempool/mempoollaw26.ProposalBuilds", spec := "proposalBuilds", inPlace := ["math/bits.Add64", "slices.overlaps[mempool/api.Account]"], unfollowed := true, recurses := true, named := ["unicode/utf8.first", "unicode/utf8.acceptRanges", "math/bits.divideError", "math/bits.overflowError"], apart := false, laid := [("unicode/utf8.acceptRanges", laid_unicode_utf8_acceptRanges), ("unicode/utf8.first", laid_unicode_utf8_first)], narrowed := true }
def ProposalBuildsUptoSaid : Prop := proposalBuildsUptoRow.holds Tryz.pinned (OpenSpec.upto proposalBuildsSpec)

/-- 'mempoollaw26.ProposalJudges', WHERE WHAT IT READS IS OF BULK AT MOST 1048576: true; the input reads as it did. -/
def proposalJudgesUptoRow : OpenClaim := { program := "ytjbgdpjgfjnkbaagreatdoor", sum := "7a4c2f3752d67e76dd0b67085b39042ff5e679a4dfff26e8b4684ffb66fd1cc3", func := "mempool/mempoollaw26.ProposalJudges", spec := "proposalJudges", inPlace := ["math/bits.Add64", "slices.overlaps[mempool/api.Account]"], unfollowed := true, recurses := true, named := ["unicode/utf8.first", "unicode/utf8.acceptRanges", "math/bits.divideError", "math/bits.overflowError"], apart := false, laid := [("unicode/utf8.acceptRanges", laid_unicode_utf8_acceptRanges), ("unicode/utf8.first", laid_unicode_utf8_first)], narrowed := true }
def ProposalJudgesUptoSaid : Prop := proposalJudgesUptoRow.holds Tryz.pinned (OpenSpec.upto proposalJudgesSpec)

/-- 'mempoollaw26.ProposalAccepted', WHERE WHAT IT READS IS OF BULK AT MOST 1048576: true; the input reads as it did. -/
def proposalAcceptedUptoRow : OpenClaim := { program := "ytjbgdpjgfjnkbaagreatdoor", sum := "7a4c2f3752d67e76dd0b67085b39042ff5e679a4dfff26e8b4684ffb66fd1cc3", func := "mempool/mempoollaw26.ProposalAccepted", spec := "proposalAccepted", inPlace := ["math/bits.Add64", "slices.overlaps[mempool/api.Account]"], unfollowed := true, recurses := true, named := ["unicode/utf8.first", "unicode/utf8.acceptRanges", "math/bits.divideError", "math/bits.overflowError"], apart := false, laid := [("unicode/utf8.acceptRanges", laid_unicode_utf8_acceptRanges), ("unicode/utf8.first", laid_unicode_utf8_first)], narrowed := true }
def ProposalAcceptedUptoSaid : Prop := proposalAcceptedUptoRow.holds Tryz.pinned (OpenSpec.upto proposalAcceptedSpec)

/-- 'mempoollaw26.ProposalMaximal', WHERE WHAT IT READS IS OF BULK AT MOST 1048576: true; the input reads as it did. -/
def proposalMaximalUptoRow : OpenClaim := { program := "ytjbgdpjgfjnkbaagreatdoor", sum := "7a4c2f3752d67e76dd0b67085b39042ff5e679a4dfff26e8b4684ffb66fd1cc3", func := "mempool/mempoollaw26.ProposalMaximal", spec := "proposalMaximal", inPlace := ["math/bits.Add64", "slices.overlaps[mempool/api.Account]"], unfollowed := true, recurses := true, named := ["unicode/utf8.first", "unicode/utf8.acceptRanges", "math/bits.divideError", "math/bits.overflowError"], apart := false, laid := [("unicode/utf8.acceptRanges", laid_unicode_utf8_acceptRanges), ("unicode/utf8.first", laid_unicode_utf8_first)], narrowed := true }
def ProposalMaximalUptoSaid : Prop := proposalMaximalUptoRow.holds Tryz.pinned (OpenSpec.upto proposalMaximalSpec)

/-- 'mempoollaw26.ProposalSome', WHERE WHAT IT READS IS OF BULK AT MOST 1048576: true; the input reads as it did. -/
def proposalSomeUptoRow : OpenClaim := { program := "ytjbgdpjgfjnkbaagreatdoor", sum := "7a4c2f3752d67e76dd0b67085b39042ff5e679a4dfff26e8b4684ffb66fd1cc3", func := "mempool/mempoollaw26.ProposalSome", spec := "proposalSome", inPlace := ["math/bits.Add64", "slices.overlaps[mempool/api.Account]"], unfollowed := true, recurses := true, named := ["unicode/utf8.first", "unicode/utf8.acceptRanges", "math/bits.divideError", "math/bits.overflowError"], apart := false, laid := [("unicode/utf8.acceptRanges", laid_unicode_utf8_acceptRanges), ("unicode/utf8.first", laid_unicode_utf8_first)], narrowed := true }
def ProposalSomeUptoSaid : Prop := proposalSomeUptoRow.holds Tryz.pinned (OpenSpec.upto proposalSomeSpec)

/-- 'mempoollaw23.UpdateRemoves', WHERE WHAT IT READS IS OF BULK AT MOST 1048576: true; the input reads as it did. -/
def updateRemovesUptoRow : OpenClaim := { program := "ytjbgdpjgfjnkbaagreatdoor", sum := "7a4c2f3752d67e76dd0b67085b39042ff5e679a4dfff26e8b4684ffb66fd1cc3", func := "mempool/mempoollaw23.UpdateRemoves", spec := "updateRemoves", inPlace := ["math/bits.Add64", "slices.overlaps[mempool/api.Account]"], unfollowed := true, recurses := true, named := ["unicode/utf8.first", "unicode/utf8.acceptRanges", "math/bits.divideError", "math/bits.overflowError"], apart := false, laid := [("unicode/utf8.acceptRanges", laid_unicode_utf8_acceptRanges), ("unicode/utf8.first", laid_unicode_utf8_first)], narrowed := true }
def UpdateRemovesUptoSaid : Prop := updateRemovesUptoRow.holds Tryz.pinned (OpenSpec.upto updateRemovesSpec)

/-- 'mempoollaw23.UpdatePurges', WHERE WHAT IT READS IS OF BULK AT MOST 1048576: true; the input reads as it did. -/
def updatePurgesUptoRow : OpenClaim := { program := "ytjbgdpjgfjnkbaagreatdoor", sum := "7a4c2f3752d67e76dd0b67085b39042ff5e679a4dfff26e8b4684ffb66fd1cc3", func := "mempool/mempoollaw23.UpdatePurges", spec := "updatePurges", inPlace := ["math/bits.Add64", "slices.overlaps[mempool/api.Account]"], unfollowed := true, recurses := true, named := ["unicode/utf8.first", "unicode/utf8.acceptRanges", "math/bits.divideError", "math/bits.overflowError"], apart := false, laid := [("unicode/utf8.acceptRanges", laid_unicode_utf8_acceptRanges), ("unicode/utf8.first", laid_unicode_utf8_first)], narrowed := true }
def UpdatePurgesUptoSaid : Prop := updatePurgesUptoRow.holds Tryz.pinned (OpenSpec.upto updatePurgesSpec)

/-- 'mempoollaw23.UpdateRechecks', WHERE WHAT IT READS IS OF BULK AT MOST 1048576: true; the input reads as it did. -/
def updateRechecksUptoRow : OpenClaim := { program := "ytjbgdpjgfjnkbaagreatdoor", sum := "7a4c2f3752d67e76dd0b67085b39042ff5e679a4dfff26e8b4684ffb66fd1cc3", func := "mempool/mempoollaw23.UpdateRechecks", spec := "updateRechecks", inPlace := ["math/bits.Add64", "slices.overlaps[mempool/api.Account]"], unfollowed := true, recurses := true, named := ["unicode/utf8.first", "unicode/utf8.acceptRanges", "math/bits.divideError", "math/bits.overflowError"], apart := false, laid := [("unicode/utf8.acceptRanges", laid_unicode_utf8_acceptRanges), ("unicode/utf8.first", laid_unicode_utf8_first)], narrowed := true }
def UpdateRechecksUptoSaid : Prop := updateRechecksUptoRow.holds Tryz.pinned (OpenSpec.upto updateRechecksSpec)

/-- 'mempoollaw23.UpdateUpdates', WHERE WHAT IT READS IS OF BULK AT MOST 1048576: true; the input reads as it did. -/
def updateUpdatesUptoRow : OpenClaim := { program := "ytjbgdpjgfjnkbaagreatdoor", sum := "7a4c2f3752d67e76dd0b67085b39042ff5e679a4dfff26e8b4684ffb66fd1cc3", func := "mempool/mempoollaw23.UpdateUpdates", spec := "updateUpdates", inPlace := ["math/bits.Add64", "slices.overlaps[mempool/api.Account]"], unfollowed := true, recurses := true, named := ["unicode/utf8.first", "unicode/utf8.acceptRanges", "math/bits.divideError", "math/bits.overflowError"], apart := false, laid := [("unicode/utf8.acceptRanges", laid_unicode_utf8_acceptRanges), ("unicode/utf8.first", laid_unicode_utf8_first)], narrowed := true }
def UpdateUpdatesUptoSaid : Prop := updateUpdatesUptoRow.holds Tryz.pinned (OpenSpec.upto updateUpdatesSpec)

/-- 'mempoollaw23.UpdateLeaves', WHERE WHAT IT READS IS OF BULK AT MOST 1048576: true; the input reads as it did. -/
def updateLeavesUptoRow : OpenClaim := { program := "ytjbgdpjgfjnkbaagreatdoor", sum := "7a4c2f3752d67e76dd0b67085b39042ff5e679a4dfff26e8b4684ffb66fd1cc3", func := "mempool/mempoollaw23.UpdateLeaves", spec := "updateLeaves", inPlace := ["math/bits.Add64", "slices.overlaps[mempool/api.Account]"], unfollowed := true, recurses := true, named := ["unicode/utf8.first", "unicode/utf8.acceptRanges", "math/bits.divideError", "math/bits.overflowError"], apart := false, laid := [("unicode/utf8.acceptRanges", laid_unicode_utf8_acceptRanges), ("unicode/utf8.first", laid_unicode_utf8_first)], narrowed := true }
def UpdateLeavesUptoSaid : Prop := updateLeavesUptoRow.holds Tryz.pinned (OpenSpec.upto updateLeavesSpec)

/-- 'mempoollaw23.UpdateCounts', WHERE WHAT IT READS IS OF BULK AT MOST 1048576: true; the input reads as it did. -/
def updateCountsUptoRow : OpenClaim := { program := "ytjbgdpjgfjnkbaagreatdoor", sum := "7a4c2f3752d67e76dd0b67085b39042ff5e679a4dfff26e8b4684ffb66fd1cc3", func := "mempool/mempoollaw23.UpdateCounts", spec := "updateCounts", inPlace := ["math/bits.Add64", "slices.overlaps[mempool/api.Account]"], unfollowed := true, recurses := true, named := ["unicode/utf8.first", "unicode/utf8.acceptRanges", "math/bits.divideError", "math/bits.overflowError"], apart := false, laid := [("unicode/utf8.acceptRanges", laid_unicode_utf8_acceptRanges), ("unicode/utf8.first", laid_unicode_utf8_first)], narrowed := true }
def UpdateCountsUptoSaid : Prop := updateCountsUptoRow.holds Tryz.pinned (OpenSpec.upto updateCountsSpec)

end Rows
end Go.Proofs.YtjbgdpjgfjnkbaaGreatDoor
