/-
  DERIVED. GIVEN WITH THE SEED: THE CARDS: each row of YtjbgdpjgfjnkbaaGreatDoorRows.lean that lists a variable, with what it lists TIED to the program's text (the seventh form; the later family's looks); each row that meets fmt, with fmt's text TOLD by the authors' own Lean function (tested against real Go, not proved from fmt's source: count such statements apart). THE CARD IS WHAT COUNTS. Prove the row's statement (the work); the ties are given (YtjbgdpjgfjnkbaaGreatDoorTie.lean); close each card by the builder's one call (the guide's Derived/Test/ToyasCard.lean, 'card_holds'). Laid BY PROGRAM, IN A SANDBOX (cutbox-door.mjs). By AI agents, Wed Nov 11 2026. No macro, syntax, notation, axiom, sorry.
-/
import Derived.Test.YtjbgdpjgfjnkbaaGreatDoorRows
import GoSem.ClaimSeven
namespace Go.Proofs.YtjbgdpjgfjnkbaaGreatDoor
namespace Rows

/-- THE TIED CARD OF 'mempoollaw26.ProposalBuilds'. -/
def proposalBuildsCard : Claim7 := { stood := { row := proposalBuildsRow, standIns := [], harness := (true, "aa3c1a8e21b9f8e6a4deaa7d1bac081fe929833dc37037da1a2112ea9affb220"), looks := true }, kinds := [], alts := [], laidByText := true, laidKinds := [.data, .pinned], laidTests := true, laidLooks := .later }
def ProposalBuildsCardSaid : Prop := Claim7.holds Tryz.pinned (.plain (OpenSpec.ofChange proposalBuildsSpec)) proposalBuildsCard

/-- THE TIED CARD OF 'mempoollaw26.ProposalJudges'. -/
def proposalJudgesCard : Claim7 := { stood := { row := proposalJudgesRow, standIns := [], harness := (true, "aa3c1a8e21b9f8e6a4deaa7d1bac081fe929833dc37037da1a2112ea9affb220"), looks := true }, kinds := [], alts := [], laidByText := true, laidKinds := [.data, .pinned], laidTests := true, laidLooks := .later }
def ProposalJudgesCardSaid : Prop := Claim7.holds Tryz.pinned (.plain (OpenSpec.ofChange proposalJudgesSpec)) proposalJudgesCard

/-- THE TIED CARD OF 'mempoollaw26.ProposalAccepted'. -/
def proposalAcceptedCard : Claim7 := { stood := { row := proposalAcceptedRow, standIns := [], harness := (true, "aa3c1a8e21b9f8e6a4deaa7d1bac081fe929833dc37037da1a2112ea9affb220"), looks := true }, kinds := [], alts := [], laidByText := true, laidKinds := [.data, .pinned], laidTests := true, laidLooks := .later }
def ProposalAcceptedCardSaid : Prop := Claim7.holds Tryz.pinned (.plain (OpenSpec.ofChange proposalAcceptedSpec)) proposalAcceptedCard

/-- THE TIED CARD OF 'mempoollaw26.ProposalMaximal'. -/
def proposalMaximalCard : Claim7 := { stood := { row := proposalMaximalRow, standIns := [], harness := (true, "aa3c1a8e21b9f8e6a4deaa7d1bac081fe929833dc37037da1a2112ea9affb220"), looks := true }, kinds := [], alts := [], laidByText := true, laidKinds := [.data, .pinned], laidTests := true, laidLooks := .later }
def ProposalMaximalCardSaid : Prop := Claim7.holds Tryz.pinned (.plain (OpenSpec.ofChange proposalMaximalSpec)) proposalMaximalCard

/-- THE TIED CARD OF 'mempoollaw26.ProposalSome'. -/
def proposalSomeCard : Claim7 := { stood := { row := proposalSomeRow, standIns := [], harness := (true, "aa3c1a8e21b9f8e6a4deaa7d1bac081fe929833dc37037da1a2112ea9affb220"), looks := true }, kinds := [], alts := [], laidByText := true, laidKinds := [.data, .pinned], laidTests := true, laidLooks := .later }
def ProposalSomeCardSaid : Prop := Claim7.holds Tryz.pinned (.plain (OpenSpec.ofChange proposalSomeSpec)) proposalSomeCard

/-- THE TIED CARD OF 'mempoollaw23.UpdateRemoves'. -/
def updateRemovesCard : Claim7 := { stood := { row := updateRemovesRow, standIns := [], harness := (true, "aa3c1a8e21b9f8e6a4deaa7d1bac081fe929833dc37037da1a2112ea9affb220"), looks := true }, kinds := [], alts := [], laidByText := true, laidKinds := [.data, .pinned], laidTests := true, laidLooks := .later }
def UpdateRemovesCardSaid : Prop := Claim7.holds Tryz.pinned (.plain (OpenSpec.ofChange updateRemovesSpec)) updateRemovesCard

/-- THE TIED CARD OF 'mempoollaw23.UpdatePurges'. -/
def updatePurgesCard : Claim7 := { stood := { row := updatePurgesRow, standIns := [], harness := (true, "aa3c1a8e21b9f8e6a4deaa7d1bac081fe929833dc37037da1a2112ea9affb220"), looks := true }, kinds := [], alts := [], laidByText := true, laidKinds := [.data, .pinned], laidTests := true, laidLooks := .later }
def UpdatePurgesCardSaid : Prop := Claim7.holds Tryz.pinned (.plain (OpenSpec.ofChange updatePurgesSpec)) updatePurgesCard

/-- THE TIED CARD OF 'mempoollaw23.UpdateRechecks'. -/
def updateRechecksCard : Claim7 := { stood := { row := updateRechecksRow, standIns := [], harness := (true, "aa3c1a8e21b9f8e6a4deaa7d1bac081fe929833dc37037da1a2112ea9affb220"), looks := true }, kinds := [], alts := [], laidByText := true, laidKinds := [.data, .pinned], laidTests := true, laidLooks := .later }
def UpdateRechecksCardSaid : Prop := Claim7.holds Tryz.pinned (.plain (OpenSpec.ofChange updateRechecksSpec)) updateRechecksCard

/-- THE TIED CARD OF 'mempoollaw23.UpdateUpdates'. -/
def updateUpdatesCard : Claim7 := { stood := { row := updateUpdatesRow, standIns := [], harness := (true, "aa3c1a8e21b9f8e6a4deaa7d1bac081fe929833dc37037da1a2112ea9affb220"), looks := true }, kinds := [], alts := [], laidByText := true, laidKinds := [.data, .pinned], laidTests := true, laidLooks := .later }
def UpdateUpdatesCardSaid : Prop := Claim7.holds Tryz.pinned (.plain (OpenSpec.ofChange updateUpdatesSpec)) updateUpdatesCard

/-- THE TIED CARD OF 'mempoollaw23.UpdateLeaves'. -/
def updateLeavesCard : Claim7 := { stood := { row := updateLeavesRow, standIns := [], harness := (true, "aa3c1a8e21b9f8e6a4deaa7d1bac081fe929833dc37037da1a2112ea9affb220"), looks := true }, kinds := [], alts := [], laidByText := true, laidKinds := [.data, .pinned], laidTests := true, laidLooks := .later }
def UpdateLeavesCardSaid : Prop := Claim7.holds Tryz.pinned (.plain (OpenSpec.ofChange updateLeavesSpec)) updateLeavesCard

/-- THE TIED CARD OF 'mempoollaw23.UpdateCounts'. -/
def updateCountsCard : Claim7 := { stood := { row := updateCountsRow, standIns := [], harness := (true, "aa3c1a8e21b9f8e6a4deaa7d1bac081fe929833dc37037da1a2112ea9affb220"), looks := true }, kinds := [], alts := [], laidByText := true, laidKinds := [.data, .pinned], laidTests := true, laidLooks := .later }
def UpdateCountsCardSaid : Prop := Claim7.holds Tryz.pinned (.plain (OpenSpec.ofChange updateCountsSpec)) updateCountsCard

/-- THE SECOND FORM's CARD OF 'mempoollaw26.ProposalBuilds'. -/
def proposalBuildsUptoCard : Claim7 := { stood := { row := proposalBuildsUptoRow, standIns := [], harness := (true, "aa3c1a8e21b9f8e6a4deaa7d1bac081fe929833dc37037da1a2112ea9affb220"), looks := true }, kinds := [], alts := [], laidByText := true, laidKinds := [.data, .pinned], laidTests := true, laidLooks := .later }
def ProposalBuildsUptoCardSaid : Prop := Claim7.holds Tryz.pinned (.plain (OpenSpec.upto proposalBuildsSpec)) proposalBuildsUptoCard

/-- THE SECOND FORM's CARD OF 'mempoollaw26.ProposalJudges'. -/
def proposalJudgesUptoCard : Claim7 := { stood := { row := proposalJudgesUptoRow, standIns := [], harness := (true, "aa3c1a8e21b9f8e6a4deaa7d1bac081fe929833dc37037da1a2112ea9affb220"), looks := true }, kinds := [], alts := [], laidByText := true, laidKinds := [.data, .pinned], laidTests := true, laidLooks := .later }
def ProposalJudgesUptoCardSaid : Prop := Claim7.holds Tryz.pinned (.plain (OpenSpec.upto proposalJudgesSpec)) proposalJudgesUptoCard

/-- THE SECOND FORM's CARD OF 'mempoollaw26.ProposalAccepted'. -/
def proposalAcceptedUptoCard : Claim7 := { stood := { row := proposalAcceptedUptoRow, standIns := [], harness := (true, "aa3c1a8e21b9f8e6a4deaa7d1bac081fe929833dc37037da1a2112ea9affb220"), looks := true }, kinds := [], alts := [], laidByText := true, laidKinds := [.data, .pinned], laidTests := true, laidLooks := .later }
def ProposalAcceptedUptoCardSaid : Prop := Claim7.holds Tryz.pinned (.plain (OpenSpec.upto proposalAcceptedSpec)) proposalAcceptedUptoCard

/-- THE SECOND FORM's CARD OF 'mempoollaw26.ProposalMaximal'. -/
def proposalMaximalUptoCard : Claim7 := { stood := { row := proposalMaximalUptoRow, standIns := [], harness := (true, "aa3c1a8e21b9f8e6a4deaa7d1bac081fe929833dc37037da1a2112ea9affb220"), looks := true }, kinds := [], alts := [], laidByText := true, laidKinds := [.data, .pinned], laidTests := true, laidLooks := .later }
def ProposalMaximalUptoCardSaid : Prop := Claim7.holds Tryz.pinned (.plain (OpenSpec.upto proposalMaximalSpec)) proposalMaximalUptoCard

/-- THE SECOND FORM's CARD OF 'mempoollaw26.ProposalSome'. -/
def proposalSomeUptoCard : Claim7 := { stood := { row := proposalSomeUptoRow, standIns := [], harness := (true, "aa3c1a8e21b9f8e6a4deaa7d1bac081fe929833dc37037da1a2112ea9affb220"), looks := true }, kinds := [], alts := [], laidByText := true, laidKinds := [.data, .pinned], laidTests := true, laidLooks := .later }
def ProposalSomeUptoCardSaid : Prop := Claim7.holds Tryz.pinned (.plain (OpenSpec.upto proposalSomeSpec)) proposalSomeUptoCard

/-- THE SECOND FORM's CARD OF 'mempoollaw23.UpdateRemoves'. -/
def updateRemovesUptoCard : Claim7 := { stood := { row := updateRemovesUptoRow, standIns := [], harness := (true, "aa3c1a8e21b9f8e6a4deaa7d1bac081fe929833dc37037da1a2112ea9affb220"), looks := true }, kinds := [], alts := [], laidByText := true, laidKinds := [.data, .pinned], laidTests := true, laidLooks := .later }
def UpdateRemovesUptoCardSaid : Prop := Claim7.holds Tryz.pinned (.plain (OpenSpec.upto updateRemovesSpec)) updateRemovesUptoCard

/-- THE SECOND FORM's CARD OF 'mempoollaw23.UpdatePurges'. -/
def updatePurgesUptoCard : Claim7 := { stood := { row := updatePurgesUptoRow, standIns := [], harness := (true, "aa3c1a8e21b9f8e6a4deaa7d1bac081fe929833dc37037da1a2112ea9affb220"), looks := true }, kinds := [], alts := [], laidByText := true, laidKinds := [.data, .pinned], laidTests := true, laidLooks := .later }
def UpdatePurgesUptoCardSaid : Prop := Claim7.holds Tryz.pinned (.plain (OpenSpec.upto updatePurgesSpec)) updatePurgesUptoCard

/-- THE SECOND FORM's CARD OF 'mempoollaw23.UpdateRechecks'. -/
def updateRechecksUptoCard : Claim7 := { stood := { row := updateRechecksUptoRow, standIns := [], harness := (true, "aa3c1a8e21b9f8e6a4deaa7d1bac081fe929833dc37037da1a2112ea9affb220"), looks := true }, kinds := [], alts := [], laidByText := true, laidKinds := [.data, .pinned], laidTests := true, laidLooks := .later }
def UpdateRechecksUptoCardSaid : Prop := Claim7.holds Tryz.pinned (.plain (OpenSpec.upto updateRechecksSpec)) updateRechecksUptoCard

/-- THE SECOND FORM's CARD OF 'mempoollaw23.UpdateUpdates'. -/
def updateUpdatesUptoCard : Claim7 := { stood := { row := updateUpdatesUptoRow, standIns := [], harness := (true, "aa3c1a8e21b9f8e6a4deaa7d1bac081fe929833dc37037da1a2112ea9affb220"), looks := true }, kinds := [], alts := [], laidByText := true, laidKinds := [.data, .pinned], laidTests := true, laidLooks := .later }
def UpdateUpdatesUptoCardSaid : Prop := Claim7.holds Tryz.pinned (.plain (OpenSpec.upto updateUpdatesSpec)) updateUpdatesUptoCard

/-- THE SECOND FORM's CARD OF 'mempoollaw23.UpdateLeaves'. -/
def updateLeavesUptoCard : Claim7 := { stood := { row := updateLeavesUptoRow, standIns := [], harness := (true, "aa3c1a8e21b9f8e6a4deaa7d1bac081fe929833dc37037da1a2112ea9affb220"), looks := true }, kinds := [], alts := [], laidByText := true, laidKinds := [.data, .pinned], laidTests := true, laidLooks := .later }
def UpdateLeavesUptoCardSaid : Prop := Claim7.holds Tryz.pinned (.plain (OpenSpec.upto updateLeavesSpec)) updateLeavesUptoCard

/-- THE SECOND FORM's CARD OF 'mempoollaw23.UpdateCounts'. -/
def updateCountsUptoCard : Claim7 := { stood := { row := updateCountsUptoRow, standIns := [], harness := (true, "aa3c1a8e21b9f8e6a4deaa7d1bac081fe929833dc37037da1a2112ea9affb220"), looks := true }, kinds := [], alts := [], laidByText := true, laidKinds := [.data, .pinned], laidTests := true, laidLooks := .later }
def UpdateCountsUptoCardSaid : Prop := Claim7.holds Tryz.pinned (.plain (OpenSpec.upto updateCountsSpec)) updateCountsUptoCard
end Rows
end Go.Proofs.YtjbgdpjgfjnkbaaGreatDoor
