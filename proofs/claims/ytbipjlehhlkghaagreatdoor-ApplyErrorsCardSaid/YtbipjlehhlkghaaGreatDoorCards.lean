/-
  DERIVED. GIVEN WITH THE SEED: THE CARDS: each row of YtbipjlehhlkghaaGreatDoorRows.lean that lists a variable, with what it lists TIED to the program's text (the seventh form; the later family's looks); each row that meets fmt, with fmt's text TOLD by the authors' own Lean function (tested against real Go, not proved from fmt's source: count such statements apart). THE CARD IS WHAT COUNTS. Prove the row's statement (the work); the ties are given (YtbipjlehhlkghaaGreatDoorTie.lean); close each card by the builder's one call (the guide's Derived/Test/ToyasCard.lean, 'card_holds'). Laid BY PROGRAM, IN A SANDBOX (cutbox-door.mjs). By AI agents, Wed Nov 11 2026. No macro, syntax, notation, axiom, sorry.
-/
import Derived.Test.YtbipjlehhlkghaaGreatDoorRows
import GoSem.ClaimSeven
namespace Go.Proofs.YtbipjlehhlkghaaGreatDoor
namespace Rows

/-- THE TIED CARD OF 'mempoollaw13.ApplyTx'. -/
def applyTxCard : Claim7 := { stood := { row := applyTxRow, standIns := [], harness := (true, "80568119d3076cc3c2d087ef305f1130f749e684dbb5c74fa150da2e63f82e19"), looks := true }, kinds := [], alts := [], laidByText := true, laidKinds := [.data, .pinned], laidTests := true, laidLooks := .later }
def ApplyTxCardSaid : Prop := Claim7.holds Tryz.pinned (.plain (OpenSpec.ofChange applyTxSpec)) applyTxCard

/-- THE TIED CARD OF 'mempoollaw13.ApplyErrors'. -/
def applyErrorsCard : Claim7 := { stood := { row := applyErrorsRow, standIns := [], harness := (true, "80568119d3076cc3c2d087ef305f1130f749e684dbb5c74fa150da2e63f82e19"), looks := true }, kinds := [], alts := [], laidByText := true, laidKinds := [.data, .pinned], laidTests := true, laidLooks := .later }
def ApplyErrorsCardSaid : Prop := Claim7.holds Tryz.pinned (.plain (OpenSpec.ofChange applyErrorsSpec)) applyErrorsCard

/-- THE TIED CARD OF 'mempoollaw13.ApplyTotals'. -/
def applyTotalsCard : Claim7 := { stood := { row := applyTotalsRow, standIns := [], harness := (true, "80568119d3076cc3c2d087ef305f1130f749e684dbb5c74fa150da2e63f82e19"), looks := true }, kinds := [], alts := [], laidByText := true, laidKinds := [.data, .pinned], laidTests := true, laidLooks := .later }
def ApplyTotalsCardSaid : Prop := Claim7.holds Tryz.pinned (.plain (OpenSpec.ofChange applyTotalsSpec)) applyTotalsCard

/-- THE TIED CARD OF 'mempoollaw13.ApplyOnce'. -/
def applyOnceCard : Claim7 := { stood := { row := applyOnceRow, standIns := [], harness := (true, "80568119d3076cc3c2d087ef305f1130f749e684dbb5c74fa150da2e63f82e19"), looks := true }, kinds := [], alts := [], laidByText := true, laidKinds := [.data, .pinned], laidTests := true, laidLooks := .later }
def ApplyOnceCardSaid : Prop := Claim7.holds Tryz.pinned (.plain (OpenSpec.ofChange applyOnceSpec)) applyOnceCard

/-- THE TIED CARD OF 'mempoollaw14.FoldAll'. -/
def foldAllCard : Claim7 := { stood := { row := foldAllRow, standIns := [], harness := (true, "80568119d3076cc3c2d087ef305f1130f749e684dbb5c74fa150da2e63f82e19"), looks := true }, kinds := [], alts := [], laidByText := true, laidKinds := [.data, .pinned], laidTests := true, laidLooks := .later }
def FoldAllCardSaid : Prop := Claim7.holds Tryz.pinned (.plain (OpenSpec.ofChange foldAllSpec)) foldAllCard

/-- THE TIED CARD OF 'mempoollaw14.FoldStrict'. -/
def foldStrictCard : Claim7 := { stood := { row := foldStrictRow, standIns := [], harness := (true, "80568119d3076cc3c2d087ef305f1130f749e684dbb5c74fa150da2e63f82e19"), looks := true }, kinds := [], alts := [], laidByText := true, laidKinds := [.data, .pinned], laidTests := true, laidLooks := .later }
def FoldStrictCardSaid : Prop := Claim7.holds Tryz.pinned (.plain (OpenSpec.ofChange foldStrictSpec)) foldStrictCard

/-- THE TIED CARD OF 'mempoollaw14.FoldJoins'. -/
def foldJoinsCard : Claim7 := { stood := { row := foldJoinsRow, standIns := [], harness := (true, "80568119d3076cc3c2d087ef305f1130f749e684dbb5c74fa150da2e63f82e19"), looks := true }, kinds := [], alts := [], laidByText := true, laidKinds := [.data, .pinned], laidTests := true, laidLooks := .later }
def FoldJoinsCardSaid : Prop := Claim7.holds Tryz.pinned (.plain (OpenSpec.ofChange foldJoinsSpec)) foldJoinsCard

/-- THE TIED CARD OF 'mempoollaw14.FoldDigests'. -/
def foldDigestsCard : Claim7 := { stood := { row := foldDigestsRow, standIns := [], harness := (true, "80568119d3076cc3c2d087ef305f1130f749e684dbb5c74fa150da2e63f82e19"), looks := true }, kinds := [], alts := [], laidByText := true, laidKinds := [.data, .pinned], laidTests := true, laidLooks := .later }
def FoldDigestsCardSaid : Prop := Claim7.holds Tryz.pinned (.plain (OpenSpec.ofChange foldDigestsSpec)) foldDigestsCard

/-- THE SECOND FORM's CARD OF 'mempoollaw13.ApplyTx'. -/
def applyTxUptoCard : Claim7 := { stood := { row := applyTxUptoRow, standIns := [], harness := (true, "80568119d3076cc3c2d087ef305f1130f749e684dbb5c74fa150da2e63f82e19"), looks := true }, kinds := [], alts := [], laidByText := true, laidKinds := [.data, .pinned], laidTests := true, laidLooks := .later }
def ApplyTxUptoCardSaid : Prop := Claim7.holds Tryz.pinned (.plain (OpenSpec.upto applyTxSpec)) applyTxUptoCard

/-- THE SECOND FORM's CARD OF 'mempoollaw13.ApplyErrors'. -/
def applyErrorsUptoCard : Claim7 := { stood := { row := applyErrorsUptoRow, standIns := [], harness := (true, "80568119d3076cc3c2d087ef305f1130f749e684dbb5c74fa150da2e63f82e19"), looks := true }, kinds := [], alts := [], laidByText := true, laidKinds := [.data, .pinned], laidTests := true, laidLooks := .later }
def ApplyErrorsUptoCardSaid : Prop := Claim7.holds Tryz.pinned (.plain (OpenSpec.upto applyErrorsSpec)) applyErrorsUptoCard

/-- THE SECOND FORM's CARD OF 'mempoollaw13.ApplyTotals'. -/
def applyTotalsUptoCard : Claim7 := { stood := { row := applyTotalsUptoRow, standIns := [], harness := (true, "80568119d3076cc3c2d087ef305f1130f749e684dbb5c74fa150da2e63f82e19"), looks := true }, kinds := [], alts := [], laidByText := true, laidKinds := [.data, .pinned], laidTests := true, laidLooks := .later }
def ApplyTotalsUptoCardSaid : Prop := Claim7.holds Tryz.pinned (.plain (OpenSpec.upto applyTotalsSpec)) applyTotalsUptoCard

/-- THE SECOND FORM's CARD OF 'mempoollaw13.ApplyOnce'. -/
def applyOnceUptoCard : Claim7 := { stood := { row := applyOnceUptoRow, standIns := [], harness := (true, "80568119d3076cc3c2d087ef305f1130f749e684dbb5c74fa150da2e63f82e19"), looks := true }, kinds := [], alts := [], laidByText := true, laidKinds := [.data, .pinned], laidTests := true, laidLooks := .later }
def ApplyOnceUptoCardSaid : Prop := Claim7.holds Tryz.pinned (.plain (OpenSpec.upto applyOnceSpec)) applyOnceUptoCard

/-- THE SECOND FORM's CARD OF 'mempoollaw14.FoldAll'. -/
def foldAllUptoCard : Claim7 := { stood := { row := foldAllUptoRow, standIns := [], harness := (true, "80568119d3076cc3c2d087ef305f1130f749e684dbb5c74fa150da2e63f82e19"), looks := true }, kinds := [], alts := [], laidByText := true, laidKinds := [.data, .pinned], laidTests := true, laidLooks := .later }
def FoldAllUptoCardSaid : Prop := Claim7.holds Tryz.pinned (.plain (OpenSpec.upto foldAllSpec)) foldAllUptoCard

/-- THE SECOND FORM's CARD OF 'mempoollaw14.FoldStrict'. -/
def foldStrictUptoCard : Claim7 := { stood := { row := foldStrictUptoRow, standIns := [], harness := (true, "80568119d3076cc3c2d087ef305f1130f749e684dbb5c74fa150da2e63f82e19"), looks := true }, kinds := [], alts := [], laidByText := true, laidKinds := [.data, .pinned], laidTests := true, laidLooks := .later }
def FoldStrictUptoCardSaid : Prop := Claim7.holds Tryz.pinned (.plain (OpenSpec.upto foldStrictSpec)) foldStrictUptoCard

/-- THE SECOND FORM's CARD OF 'mempoollaw14.FoldJoins'. -/
def foldJoinsUptoCard : Claim7 := { stood := { row := foldJoinsUptoRow, standIns := [], harness := (true, "80568119d3076cc3c2d087ef305f1130f749e684dbb5c74fa150da2e63f82e19"), looks := true }, kinds := [], alts := [], laidByText := true, laidKinds := [.data, .pinned], laidTests := true, laidLooks := .later }
def FoldJoinsUptoCardSaid : Prop := Claim7.holds Tryz.pinned (.plain (OpenSpec.upto foldJoinsSpec)) foldJoinsUptoCard

/-- THE SECOND FORM's CARD OF 'mempoollaw14.FoldDigests'. -/
def foldDigestsUptoCard : Claim7 := { stood := { row := foldDigestsUptoRow, standIns := [], harness := (true, "80568119d3076cc3c2d087ef305f1130f749e684dbb5c74fa150da2e63f82e19"), looks := true }, kinds := [], alts := [], laidByText := true, laidKinds := [.data, .pinned], laidTests := true, laidLooks := .later }
def FoldDigestsUptoCardSaid : Prop := Claim7.holds Tryz.pinned (.plain (OpenSpec.upto foldDigestsSpec)) foldDigestsUptoCard
end Rows
end Go.Proofs.YtbipjlehhlkghaaGreatDoor
