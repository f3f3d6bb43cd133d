/-
  No cell of these rows narrows 'for every input' (looked for: loops, veiled, ifaces, maps, wideKeys, modest, calm, conditions, laid).
  DERIVED. THE GIVEN ROWS OF THIS SEAT. 9 by the template 'for every input the law returns true; each argument reads behind the call as it read before'; 0 by the template 'total and deterministic' (their statements: YtppefbmeogoibaaTotals.lean).
  GIVEN WITH THE SEED: the statements are not yours to turn. If you find one false, say at which input.
  Laid BY PROGRAM, IN A SANDBOX (cutbox-rows.mjs): the forced cells as the released guide's own fill.sh prints them over the translation ca532e44876e8d73… (all of the seat's roots in one cut). By AI agents, Wed Nov 11 2026. No macro, syntax, notation, axiom, sorry.
-/
import Derived.Test.YtppefbmeogoibaaChecked
import GoSem.Claim
import GoSem.ClaimJoined
import GoSem.ClaimMapViews
import Derived.JoinedTies
import Derived.KernelRfl
namespace Go.Proofs.Ytppefbmeogoibaa
/- THE CELL 'sum', in the pinned program and in every row, IS THE sha256 OF THE DUMP (.gsa) THAT YtppefbmeogoibaaProg.lean LOADS. Nothing in Lean hashes anything: it is a label: what it is worth is what the hold of that sum in a sandbox is worth. -/
noncomputable def Try.pinned : Pinned := { name := "ytppefbmeogoibaa", sum := "ca532e44876e8d736da59ebc4acf4d756d45c01b9bb9efabe8d671ad12490751", checked := Try.checked }
namespace Rows
def none {H : Type} : Left H := { results := [], args := [] }

/-- 'mempoollaw2.VarintAppends': WHATEVER THE INPUT: true; the input reads as it did. -/
def varintAppendsSpec : ChangeSpec := { name := "varintAppends", fn := fun _ => fun
  | [d1, d2, d3] => { results := [.lit (.bool true)], args := [d1, d2, d3] }
  | _ => none }
def varintAppendsRow : OpenClaim := { program := "ytppefbmeogoibaa", sum := "ca532e44876e8d736da59ebc4acf4d756d45c01b9bb9efabe8d671ad12490751", func := "mempool/mempoollaw2.VarintAppends", spec := "varintAppends", apart := false }
def VarintAppendsSaid : Prop := varintAppendsRow.holds Try.pinned (OpenSpec.ofChange varintAppendsSpec)

/-- ITS FALSE NEIGHBOUR: 'it returns false'. Refute it at one input. -/
def varintAppendsWrong : ChangeSpec := { name := "varintAppends", fn := fun _ => fun
  | [d1, d2, d3] => { results := [.lit (.bool false)], args := [d1, d2, d3] }
  | _ => none }
def VarintAppendsWrongFalsely : Prop := varintAppendsRow.holds Try.pinned (OpenSpec.ofChange varintAppendsWrong)

/-- 'mempoollaw2.VarintReads': WHATEVER THE INPUT: true; the input reads as it did. -/
def varintReadsSpec : ChangeSpec := { name := "varintReads", fn := fun _ => fun
  | [d1, d2, d3] => { results := [.lit (.bool true)], args := [d1, d2, d3] }
  | _ => none }
def varintReadsRow : OpenClaim := { program := "ytppefbmeogoibaa", sum := "ca532e44876e8d736da59ebc4acf4d756d45c01b9bb9efabe8d671ad12490751", func := "mempool/mempoollaw2.VarintReads", spec := "varintReads", apart := false }
def VarintReadsSaid : Prop := varintReadsRow.holds Try.pinned (OpenSpec.ofChange varintReadsSpec)

/-- ITS FALSE NEIGHBOUR: 'it returns false'. Refute it at one input. -/
def varintReadsWrong : ChangeSpec := { name := "varintReads", fn := fun _ => fun
  | [d1, d2, d3] => { results := [.lit (.bool false)], args := [d1, d2, d3] }
  | _ => none }
def VarintReadsWrongFalsely : Prop := varintReadsRow.holds Try.pinned (OpenSpec.ofChange varintReadsWrong)

/-- 'mempoollaw2.VarintRoundTrips': WHATEVER THE INPUT: true; the input reads as it did. -/
def varintRoundTripsSpec : ChangeSpec := { name := "varintRoundTrips", fn := fun _ => fun
  | [d1, d2, d3] => { results := [.lit (.bool true)], args := [d1, d2, d3] }
  | _ => none }
def varintRoundTripsRow : OpenClaim := { program := "ytppefbmeogoibaa", sum := "ca532e44876e8d736da59ebc4acf4d756d45c01b9bb9efabe8d671ad12490751", func := "mempool/mempoollaw2.VarintRoundTrips", spec := "varintRoundTrips", apart := false }
def VarintRoundTripsSaid : Prop := varintRoundTripsRow.holds Try.pinned (OpenSpec.ofChange varintRoundTripsSpec)

/-- ITS FALSE NEIGHBOUR: 'it returns false'. Refute it at one input. -/
def varintRoundTripsWrong : ChangeSpec := { name := "varintRoundTrips", fn := fun _ => fun
  | [d1, d2, d3] => { results := [.lit (.bool false)], args := [d1, d2, d3] }
  | _ => none }
def VarintRoundTripsWrongFalsely : Prop := varintRoundTripsRow.holds Try.pinned (OpenSpec.ofChange varintRoundTripsWrong)

/-- 'mempoollaw2.VarintUnique': WHATEVER THE INPUT: true; the input reads as it did. -/
def varintUniqueSpec : ChangeSpec := { name := "varintUnique", fn := fun _ => fun
  | [d1, d2] => { results := [.lit (.bool true)], args := [d1, d2] }
  | _ => none }
def varintUniqueRow : OpenClaim := { program := "ytppefbmeogoibaa", sum := "ca532e44876e8d736da59ebc4acf4d756d45c01b9bb9efabe8d671ad12490751", func := "mempool/mempoollaw2.VarintUnique", spec := "varintUnique", apart := false }
def VarintUniqueSaid : Prop := varintUniqueRow.holds Try.pinned (OpenSpec.ofChange varintUniqueSpec)

/-- ITS FALSE NEIGHBOUR: 'it returns false'. Refute it at one input. -/
def varintUniqueWrong : ChangeSpec := { name := "varintUnique", fn := fun _ => fun
  | [d1, d2] => { results := [.lit (.bool false)], args := [d1, d2] }
  | _ => none }
def VarintUniqueWrongFalsely : Prop := varintUniqueRow.holds Try.pinned (OpenSpec.ofChange varintUniqueWrong)

/-- 'mempoollaw3.WireReads': WHATEVER THE INPUT: true; the input reads as it did. -/
def wireReadsSpec : ChangeSpec := { name := "wireReads", fn := fun _ => fun
  | [d1, d2, d3, d4, d5] => { results := [.lit (.bool true)], args := [d1, d2, d3, d4, d5] }
  | _ => none }
def wireReadsRow : OpenClaim := { program := "ytppefbmeogoibaa", sum := "ca532e44876e8d736da59ebc4acf4d756d45c01b9bb9efabe8d671ad12490751", func := "mempool/mempoollaw3.WireReads", spec := "wireReads", apart := false }
def WireReadsSaid : Prop := wireReadsRow.holds Try.pinned (OpenSpec.ofChange wireReadsSpec)

/-- ITS FALSE NEIGHBOUR: 'it returns false'. Refute it at one input. -/
def wireReadsWrong : ChangeSpec := { name := "wireReads", fn := fun _ => fun
  | [d1, d2, d3, d4, d5] => { results := [.lit (.bool false)], args := [d1, d2, d3, d4, d5] }
  | _ => none }
def WireReadsWrongFalsely : Prop := wireReadsRow.holds Try.pinned (OpenSpec.ofChange wireReadsWrong)

/-- 'mempoollaw3.WireUnique': WHATEVER THE INPUT: true; the input reads as it did. -/
def wireUniqueSpec : ChangeSpec := { name := "wireUnique", fn := fun _ => fun
  | [d1, d2] => { results := [.lit (.bool true)], args := [d1, d2] }
  | _ => none }
def wireUniqueRow : OpenClaim := { program := "ytppefbmeogoibaa", sum := "ca532e44876e8d736da59ebc4acf4d756d45c01b9bb9efabe8d671ad12490751", func := "mempool/mempoollaw3.WireUnique", spec := "wireUnique", apart := false }
def WireUniqueSaid : Prop := wireUniqueRow.holds Try.pinned (OpenSpec.ofChange wireUniqueSpec)

/-- ITS FALSE NEIGHBOUR: 'it returns false'. Refute it at one input. -/
def wireUniqueWrong : ChangeSpec := { name := "wireUnique", fn := fun _ => fun
  | [d1, d2] => { results := [.lit (.bool false)], args := [d1, d2] }
  | _ => none }
def WireUniqueWrongFalsely : Prop := wireUniqueRow.holds Try.pinned (OpenSpec.ofChange wireUniqueWrong)

/-- 'mempoollaw3.WireLimits': WHATEVER THE INPUT: true; the input reads as it did. -/
def wireLimitsSpec : ChangeSpec := { name := "wireLimits", fn := fun _ => fun
  | [d1, d2] => { results := [.lit (.bool true)], args := [d1, d2] }
  | _ => none }
def wireLimitsRow : OpenClaim := { program := "ytppefbmeogoibaa", sum := "ca532e44876e8d736da59ebc4acf4d756d45c01b9bb9efabe8d671ad12490751", func := "mempool/mempoollaw3.WireLimits", spec := "wireLimits", apart := false }
def WireLimitsSaid : Prop := wireLimitsRow.holds Try.pinned (OpenSpec.ofChange wireLimitsSpec)

/-- ITS FALSE NEIGHBOUR: 'it returns false'. Refute it at one input. -/
def wireLimitsWrong : ChangeSpec := { name := "wireLimits", fn := fun _ => fun
  | [d1, d2] => { results := [.lit (.bool false)], args := [d1, d2] }
  | _ => none }
def WireLimitsWrongFalsely : Prop := wireLimitsRow.holds Try.pinned (OpenSpec.ofChange wireLimitsWrong)

/-- 'mempoollaw3.WireAppends': WHATEVER THE INPUT: true; the input reads as it did. -/
def wireAppendsSpec : ChangeSpec := { name := "wireAppends", fn := fun _ => fun
  | [d1, d2, d3] => { results := [.lit (.bool true)], args := [d1, d2, d3] }
  | _ => none }
def wireAppendsRow : OpenClaim := { program := "ytppefbmeogoibaa", sum := "ca532e44876e8d736da59ebc4acf4d756d45c01b9bb9efabe8d671ad12490751", func := "mempool/mempoollaw3.WireAppends", spec := "wireAppends", apart := false }
def WireAppendsSaid : Prop := wireAppendsRow.holds Try.pinned (OpenSpec.ofChange wireAppendsSpec)

/-- ITS FALSE NEIGHBOUR: 'it returns false'. Refute it at one input. -/
def wireAppendsWrong : ChangeSpec := { name := "wireAppends", fn := fun _ => fun
  | [d1, d2, d3] => { results := [.lit (.bool false)], args := [d1, d2, d3] }
  | _ => none }
def WireAppendsWrongFalsely : Prop := wireAppendsRow.holds Try.pinned (OpenSpec.ofChange wireAppendsWrong)

/-- 'mempoollaw3.WireRoundTrips': WHATEVER THE INPUT: true; the input reads as it did. -/
def wireRoundTripsSpec : ChangeSpec := { name := "wireRoundTrips", fn := fun _ => fun
  | [d] => { results := [.lit (.bool true)], args := [d] }
  | _ => none }
def wireRoundTripsRow : OpenClaim := { program := "ytppefbmeogoibaa", sum := "ca532e44876e8d736da59ebc4acf4d756d45c01b9bb9efabe8d671ad12490751", func := "mempool/mempoollaw3.WireRoundTrips", spec := "wireRoundTrips", apart := false }
def WireRoundTripsSaid : Prop := wireRoundTripsRow.holds Try.pinned (OpenSpec.ofChange wireRoundTripsSpec)

/-- ITS FALSE NEIGHBOUR: 'it returns false'. Refute it at one input. -/
def wireRoundTripsWrong : ChangeSpec := { name := "wireRoundTrips", fn := fun _ => fun
  | [d] => { results := [.lit (.bool false)], args := [d] }
  | _ => none }
def WireRoundTripsWrongFalsely : Prop := wireRoundTripsRow.holds Try.pinned (OpenSpec.ofChange wireRoundTripsWrong)

/- THE SECOND FORM. 'bulk': how many values and letters a reading holds, each counted each time it is reached (what is shared counts as often as it is met; a slice's spare places count too). A statement '..UptoSaid' is the law's where the arguments, and the package variables that the reading takes, are together of bulk at most 1048576: NARROWER than '..Said'. Prove '..Said' where nothing that the law and all that it calls make is longer than what came in: it says more and counts as full. Else prove '..UptoSaid'. A law counts once. -/
mutual
def uptoBulk {H : Type} : DataW H → Nat
  | .lit (.string bytes) => bytes.length + 1
  | .lit _ => 1
  | .nil => 1
  | .ptr d => uptoBulk d + 1
  | .slice elems spare => uptoBulkAll elems + uptoBulkAll spare + 1
  | .agg parts => uptoBulkAll parts + 1
  | .iface _ d => uptoBulk d + 1
  | .map entries => uptoBulkEntries entries + 1
  | .held _ => 1
def uptoBulkAll {H : Type} : List (DataW H) → Nat
  | [] => 0
  | d :: r => uptoBulk d + uptoBulkAll r
def uptoBulkEntries {H : Type} : List (Lit × DataW H) → Nat
  | [] => 0
  | x :: r => uptoBulkEntry x + uptoBulkEntries r
def uptoBulkEntry {H : Type} : Lit × DataW H → Nat
  | (.string bytes, d) => bytes.length + uptoBulk d + 1
  | (_, d) => uptoBulk d + 1
 end
def uptoSmall : (H : Type) → List (DataW H) → Bool := fun _ ds => decide (uptoBulkAll ds ≤ 1048576)
def OpenSpec.upto (s : _root_.Go.ChangeSpec) : _root_.Go.OpenSpec := { _root_.Go.OpenSpec.ofChange s with cond := some uptoSmall }

/-- 'mempoollaw2.VarintAppends', WHERE WHAT IT READS IS OF BULK AT MOST 1048576: true; the input reads as it did. -/
def varintAppendsUptoRow : OpenClaim := { program := "ytppefbmeogoibaa", sum := "ca532e44876e8d736da59ebc4acf4d756d45c01b9bb9efabe8d671ad12490751", func := "mempool/mempoollaw2.VarintAppends", spec := "varintAppends", apart := false, narrowed := true }
def VarintAppendsUptoSaid : Prop := varintAppendsUptoRow.holds Try.pinned (OpenSpec.upto varintAppendsSpec)

/-- 'mempoollaw2.VarintReads', WHERE WHAT IT READS IS OF BULK AT MOST 1048576: true; the input reads as it did. -/
def varintReadsUptoRow : OpenClaim := { program := "ytppefbmeogoibaa", sum := "ca532e44876e8d736da59ebc4acf4d756d45c01b9bb9efabe8d671ad12490751", func := "mempool/mempoollaw2.VarintReads", spec := "varintReads", apart := false, narrowed := true }
def VarintReadsUptoSaid : Prop := varintReadsUptoRow.holds Try.pinned (OpenSpec.upto varintReadsSpec)

/-- 'mempoollaw2.VarintRoundTrips', WHERE WHAT IT READS IS OF BULK AT MOST 1048576: true; the input reads as it did. -/
def varintRoundTripsUptoRow : OpenClaim := { program := "ytppefbmeogoibaa", sum := "ca532e44876e8d736da59ebc4acf4d756d45c01b9bb9efabe8d671ad12490751", func := "mempool/mempoollaw2.VarintRoundTrips", spec := "varintRoundTrips", apart := false, narrowed := true }
def VarintRoundTripsUptoSaid : Prop := varintRoundTripsUptoRow.holds Try.pinned (OpenSpec.upto varintRoundTripsSpec)

/-- 'mempoollaw2.VarintUnique', WHERE WHAT IT READS IS OF BULK AT MOST 1048576: true; the input reads as it did. -/
def varintUniqueUptoRow : OpenClaim := { program := "ytppefbmeogoibaa", sum := "ca532e44876e8d736da59ebc4acf4d756d45c01b9bb9efabe8d671ad12490751", func := "mempool/mempoollaw2.VarintUnique", spec := "varintUnique", apart := false, narrowed := true }
def VarintUniqueUptoSaid : Prop := varintUniqueUptoRow.holds Try.pinned (OpenSpec.upto varintUniqueSpec)

/-- 'mempoollaw3.WireReads', WHERE WHAT IT READS IS OF BULK AT MOST 1048576: true; the input reads as it did. -/
def wireReadsUptoRow : OpenClaim := { program := "ytppefbmeogoibaa", sum := "ca532e44876e8d736da59ebc4acf4d756d45c01b9bb9efabe8d671ad12490751", func := "mempool/mempoollaw3.WireReads", spec := "wireReads", apart := false, narrowed := true }
def WireReadsUptoSaid : Prop := wireReadsUptoRow.holds Try.pinned (OpenSpec.upto wireReadsSpec)

/-- 'mempoollaw3.WireUnique', WHERE WHAT IT READS IS OF BULK AT MOST 1048576: true; the input reads as it did. -/
def wireUniqueUptoRow : OpenClaim := { program := "ytppefbmeogoibaa", sum := "ca532e44876e8d736da59ebc4acf4d756d45c01b9bb9efabe8d671ad12490751", func := "mempool/mempoollaw3.WireUnique", spec := "wireUnique", apart := false, narrowed := true }
def WireUniqueUptoSaid : Prop := wireUniqueUptoRow.holds Try.pinned (OpenSpec.upto wireUniqueSpec)

/-- 'mempoollaw3.WireLimits', WHERE WHAT IT READS IS OF BULK AT MOST 1048576: true; the input reads as it did. -/
def wireLimitsUptoRow : OpenClaim := { program := "ytppefbmeogoibaa", sum := "ca532e44876e8d736da59ebc4acf4d756d45c01b9bb9efabe8d671ad12490751", func := "mempool/mempoollaw3.WireLimits", spec := "wireLimits", apart := false, narrowed := true }
def WireLimitsUptoSaid : Prop := wireLimitsUptoRow.holds Try.pinned (OpenSpec.upto wireLimitsSpec)

/-- 'mempoollaw3.WireAppends', WHERE WHAT IT READS IS OF BULK AT MOST 1048576: true; the input reads as it did. -/
def wireAppendsUptoRow : OpenClaim := { program := "ytppefbmeogoibaa", sum := "ca532e44876e8d736da59ebc4acf4d756d45c01b9bb9efabe8d671ad12490751", func := "mempool/mempoollaw3.WireAppends", spec := "wireAppends", apart := false, narrowed := true }
def WireAppendsUptoSaid : Prop := wireAppendsUptoRow.holds Try.pinned (OpenSpec.upto wireAppendsSpec)

/-- 'mempoollaw3.WireRoundTrips', WHERE WHAT IT READS IS OF BULK AT MOST 1048576: true; the input reads as it did. -/
def wireRoundTripsUptoRow : OpenClaim := { program := "ytppefbmeogoibaa", sum := "ca532e44876e8d736da59ebc4acf4d756d45c01b9bb9efabe8d671ad12490751", func := "mempool/mempoollaw3.WireRoundTrips", spec := "wireRoundTrips", apart := false, narrowed := true }
def WireRoundTripsUptoSaid : Prop := wireRoundTripsUptoRow.holds Try.pinned (OpenSpec.upto wireRoundTripsSpec)

end Rows
end Go.Proofs.Ytppefbmeogoibaa
