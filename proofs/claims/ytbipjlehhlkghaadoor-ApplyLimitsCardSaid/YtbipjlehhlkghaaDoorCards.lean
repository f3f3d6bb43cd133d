/-
  DERIVED. GIVEN WITH THE SEED: THE CARDS: each row of YtbipjlehhlkghaaDoorRows.lean that lists a variable, with what it lists TIED to the program's text (the seventh form; the later family's looks); each row that meets fmt, with fmt's text TOLD by the authors' own Lean function (tested against real Go, not proved from fmt's source: count such statements apart). THE CARD IS WHAT COUNTS. Prove the row's statement (the work); the ties are given (YtbipjlehhlkghaaDoorTie.lean); close each card by the builder's one call (the guide's Derived/Test/ToyasCard.lean, 'card_holds'). Laid BY PROGRAM, IN A SANDBOX (cutbox-door.mjs). By AI agents, Wed Nov 11 2026. No macro, syntax, notation, axiom, sorry.
-/
import Derived.Test.YtbipjlehhlkghaaDoorRows
import GoSem.ClaimSeven
namespace Go.Proofs.YtbipjlehhlkghaaDoor
namespace Rows

/-- THE TIED CARD OF 'mempoollaw13.ApplyLimits'. -/
def applyLimitsCard : Claim7 := { stood := { row := applyLimitsRow, standIns := [], harness := (true, "bcda636ed3fcbc0021899a378df985654aecfef5af7072343b7004a4408eb372"), looks := true }, kinds := [], alts := [], laidByText := true, laidKinds := [.data, .pinned], laidTests := true, laidLooks := .later }
def ApplyLimitsCardSaid : Prop := Claim7.holds Tryd.pinned (.plain (OpenSpec.ofChange applyLimitsSpec)) applyLimitsCard

/-- THE SECOND FORM's CARD OF 'mempoollaw13.ApplyLimits'. -/
def applyLimitsUptoCard : Claim7 := { stood := { row := applyLimitsUptoRow, standIns := [], harness := (true, "bcda636ed3fcbc0021899a378df985654aecfef5af7072343b7004a4408eb372"), looks := true }, kinds := [], alts := [], laidByText := true, laidKinds := [.data, .pinned], laidTests := true, laidLooks := .later }
def ApplyLimitsUptoCardSaid : Prop := Claim7.holds Tryd.pinned (.plain (OpenSpec.upto applyLimitsSpec)) applyLimitsUptoCard
end Rows
end Go.Proofs.YtbipjlehhlkghaaDoor
