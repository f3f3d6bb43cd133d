/-
  DERIVED. GIVEN WITH THE SEED: THE CARDS: each row of YtgfmnpbcbpobbaaDoorRows.lean that lists a variable, with what it lists TIED to the program's text (the seventh form; the later family's looks); each row that meets fmt, with fmt's text TOLD by the authors' own Lean function (tested against real Go, not proved from fmt's source: count such statements apart). THE CARD IS WHAT COUNTS. Prove the row's statement (the work); the ties are given (YtgfmnpbcbpobbaaDoorTie.lean); close each card by the builder's one call (the guide's Derived/Test/ToyasCard.lean, 'card_holds'). Laid BY PROGRAM, IN A SANDBOX (cutbox-door.mjs). By AI agents, Wed Nov 11 2026. No macro, syntax, notation, axiom, sorry.
-/
import Derived.Test.YtgfmnpbcbpobbaaDoorRows
import GoSem.ClaimSeven
namespace Go.Proofs.YtgfmnpbcbpobbaaDoor
namespace Rows

/-- THE TIED CARD OF 'mempoollaw10.TxWords'. -/
def txWordsCard : Claim7 := { stood := { row := txWordsRow, standIns := [], harness := (true, "f0cd2a0f428475e7251b030c822e6f021905954e10b1ef2cbd62b18c11073932"), looks := true }, kinds := [], alts := [], laidByText := true, laidKinds := [.data, .pinned], laidTests := true, laidLooks := .later }
def TxWordsCardSaid : Prop := Claim7.holds Tryd.pinned (.plain (OpenSpec.ofChange txWordsSpec)) txWordsCard

/-- THE TIED CARD OF 'mempoollaw10.TxValidates'. -/
def txValidatesCard : Claim7 := { stood := { row := txValidatesRow, standIns := [], harness := (true, "f0cd2a0f428475e7251b030c822e6f021905954e10b1ef2cbd62b18c11073932"), looks := true }, kinds := [], alts := [], laidByText := true, laidKinds := [.data, .pinned], laidTests := true, laidLooks := .later }
def TxValidatesCardSaid : Prop := Claim7.holds Tryd.pinned (.plain (OpenSpec.ofChange txValidatesSpec)) txValidatesCard

/-- THE TIED CARD OF 'mempoollaw10.TxEncodes'. -/
def txEncodesCard : Claim7 := { stood := { row := txEncodesRow, standIns := [], harness := (true, "f0cd2a0f428475e7251b030c822e6f021905954e10b1ef2cbd62b18c11073932"), looks := true }, kinds := [], alts := [], laidByText := true, laidKinds := [.data, .pinned], laidTests := true, laidLooks := .later }
def TxEncodesCardSaid : Prop := Claim7.holds Tryd.pinned (.plain (OpenSpec.ofChange txEncodesSpec)) txEncodesCard

/-- THE TIED CARD OF 'mempoollaw10.TxDecodes'. -/
def txDecodesCard : Claim7 := { stood := { row := txDecodesRow, standIns := [], harness := (true, "f0cd2a0f428475e7251b030c822e6f021905954e10b1ef2cbd62b18c11073932"), looks := true }, kinds := [], alts := [], laidByText := true, laidKinds := [.data, .pinned], laidTests := true, laidLooks := .later }
def TxDecodesCardSaid : Prop := Claim7.holds Tryd.pinned (.plain (OpenSpec.ofChange txDecodesSpec)) txDecodesCard

/-- THE TIED CARD OF 'mempoollaw10.TxFields'. -/
def txFieldsCard : Claim7 := { stood := { row := txFieldsRow, standIns := [], harness := (true, "f0cd2a0f428475e7251b030c822e6f021905954e10b1ef2cbd62b18c11073932"), looks := true }, kinds := [], alts := [], laidByText := true, laidKinds := [.data, .pinned], laidTests := true, laidLooks := .later }
def TxFieldsCardSaid : Prop := Claim7.holds Tryd.pinned (.plain (OpenSpec.ofChange txFieldsSpec)) txFieldsCard

/-- THE TIED CARD OF 'mempoollaw10.TxLimits'. -/
def txLimitsCard : Claim7 := { stood := { row := txLimitsRow, standIns := [], harness := (true, "f0cd2a0f428475e7251b030c822e6f021905954e10b1ef2cbd62b18c11073932"), looks := true }, kinds := [], alts := [], laidByText := true, laidKinds := [.data, .pinned], laidTests := true, laidLooks := .later }
def TxLimitsCardSaid : Prop := Claim7.holds Tryd.pinned (.plain (OpenSpec.ofChange txLimitsSpec)) txLimitsCard

/-- THE SECOND FORM's CARD OF 'mempoollaw10.TxWords'. -/
def txWordsUptoCard : Claim7 := { stood := { row := txWordsUptoRow, standIns := [], harness := (true, "f0cd2a0f428475e7251b030c822e6f021905954e10b1ef2cbd62b18c11073932"), looks := true }, kinds := [], alts := [], laidByText := true, laidKinds := [.data, .pinned], laidTests := true, laidLooks := .later }
def TxWordsUptoCardSaid : Prop := Claim7.holds Tryd.pinned (.plain (OpenSpec.upto txWordsSpec)) txWordsUptoCard

/-- THE SECOND FORM's CARD OF 'mempoollaw10.TxValidates'. -/
def txValidatesUptoCard : Claim7 := { stood := { row := txValidatesUptoRow, standIns := [], harness := (true, "f0cd2a0f428475e7251b030c822e6f021905954e10b1ef2cbd62b18c11073932"), looks := true }, kinds := [], alts := [], laidByText := true, laidKinds := [.data, .pinned], laidTests := true, laidLooks := .later }
def TxValidatesUptoCardSaid : Prop := Claim7.holds Tryd.pinned (.plain (OpenSpec.upto txValidatesSpec)) txValidatesUptoCard

/-- THE SECOND FORM's CARD OF 'mempoollaw10.TxEncodes'. -/
def txEncodesUptoCard : Claim7 := { stood := { row := txEncodesUptoRow, standIns := [], harness := (true, "f0cd2a0f428475e7251b030c822e6f021905954e10b1ef2cbd62b18c11073932"), looks := true }, kinds := [], alts := [], laidByText := true, laidKinds := [.data, .pinned], laidTests := true, laidLooks := .later }
def TxEncodesUptoCardSaid : Prop := Claim7.holds Tryd.pinned (.plain (OpenSpec.upto txEncodesSpec)) txEncodesUptoCard

/-- THE SECOND FORM's CARD OF 'mempoollaw10.TxDecodes'. -/
def txDecodesUptoCard : Claim7 := { stood := { row := txDecodesUptoRow, standIns := [], harness := (true, "f0cd2a0f428475e7251b030c822e6f021905954e10b1ef2cbd62b18c11073932"), looks := true }, kinds := [], alts := [], laidByText := true, laidKinds := [.data, .pinned], laidTests := true, laidLooks := .later }
def TxDecodesUptoCardSaid : Prop := Claim7.holds Tryd.pinned (.plain (OpenSpec.upto txDecodesSpec)) txDecodesUptoCard

/-- THE SECOND FORM's CARD OF 'mempoollaw10.TxFields'. -/
def txFieldsUptoCard : Claim7 := { stood := { row := txFieldsUptoRow, standIns := [], harness := (true, "f0cd2a0f428475e7251b030c822e6f021905954e10b1ef2cbd62b18c11073932"), looks := true }, kinds := [], alts := [], laidByText := true, laidKinds := [.data, .pinned], laidTests := true, laidLooks := .later }
def TxFieldsUptoCardSaid : Prop := Claim7.holds Tryd.pinned (.plain (OpenSpec.upto txFieldsSpec)) txFieldsUptoCard

/-- THE SECOND FORM's CARD OF 'mempoollaw10.TxLimits'. -/
def txLimitsUptoCard : Claim7 := { stood := { row := txLimitsUptoRow, standIns := [], harness := (true, "f0cd2a0f428475e7251b030c822e6f021905954e10b1ef2cbd62b18c11073932"), looks := true }, kinds := [], alts := [], laidByText := true, laidKinds := [.data, .pinned], laidTests := true, laidLooks := .later }
def TxLimitsUptoCardSaid : Prop := Claim7.holds Tryd.pinned (.plain (OpenSpec.upto txLimitsSpec)) txLimitsUptoCard
end Rows
end Go.Proofs.YtgfmnpbcbpobbaaDoor
