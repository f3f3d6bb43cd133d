/-
  No cell of these rows narrows 'for every input' (looked for: loops, veiled, ifaces, maps, wideKeys, modest, calm, conditions, laid).
  DERIVED. THE GIVEN ROWS OF THIS SEAT. 11 by the template 'for every input the law returns true; each argument reads behind the call as it read before'; 0 by the template 'total and deterministic' (their statements: YtaminglbenglfaaTotals.lean).
  GIVEN WITH THE SEED: the statements are not yours to turn. If you find one false, say at which input.
  Laid BY PROGRAM, IN A SANDBOX (cutbox-rows.mjs): the forced cells as the released guide's own fill.sh prints them over the translation 31aae47e0e757418… (all of the seat's roots in one cut). By AI agents, Wed Nov 11 2026. No macro, syntax, notation, axiom, sorry.
-/
import Derived.Test.YtaminglbenglfaaChecked
import GoSem.Claim
import GoSem.ClaimJoined
import GoSem.ClaimMapViews
import Derived.JoinedTies
import Derived.KernelRfl
namespace Go.Proofs.Ytaminglbenglfaa
/- THE CELL 'sum', in the pinned program and in every row, IS THE sha256 OF THE DUMP (.gsa) THAT YtaminglbenglfaaProg.lean LOADS. Nothing in Lean hashes anything: it is a label: what it is worth is what the hold of that sum in a sandbox is worth. -/
noncomputable def Try.pinned : Pinned := { name := "ytaminglbenglfaa", sum := "31aae47e0e7574189cc510bceb09044db325a9ebe2f145720073cd28f6d211c6", checked := Try.checked }
namespace Rows
def none {H : Type} : Left H := { results := [], args := [] }

/-- 'mempoollaw18.ExpiryStays': WHATEVER THE INPUT: true; the input reads as it did. -/
def expiryStaysSpec : ChangeSpec := { name := "expiryStays", fn := fun _ => fun
  | [d1, d2, d3, d4, d5] => { results := [.lit (.bool true)], args := [d1, d2, d3, d4, d5] }
  | _ => none }
def expiryStaysRow : OpenClaim := { program := "ytaminglbenglfaa", sum := "31aae47e0e7574189cc510bceb09044db325a9ebe2f145720073cd28f6d211c6", func := "mempool/mempoollaw18.ExpiryStays", spec := "expiryStays", unfollowed := true, recurses := true, apart := false }
def ExpiryStaysSaid : Prop := expiryStaysRow.holds Try.pinned (OpenSpec.ofChange expiryStaysSpec)

/-- ITS FALSE NEIGHBOUR: 'it returns false'. Refute it at one input. -/
def expiryStaysWrong : ChangeSpec := { name := "expiryStays", fn := fun _ => fun
  | [d1, d2, d3, d4, d5] => { results := [.lit (.bool false)], args := [d1, d2, d3, d4, d5] }
  | _ => none }
def ExpiryStaysWrongFalsely : Prop := expiryStaysRow.holds Try.pinned (OpenSpec.ofChange expiryStaysWrong)

/-- 'mempoollaw18.ExpiryPlays': WHATEVER THE INPUT: true; the input reads as it did. -/
def expiryPlaysSpec : ChangeSpec := { name := "expiryPlays", fn := fun _ => fun
  | [d1, d2, d3] => { results := [.lit (.bool true)], args := [d1, d2, d3] }
  | _ => none }
def expiryPlaysRow : OpenClaim := { program := "ytaminglbenglfaa", sum := "31aae47e0e7574189cc510bceb09044db325a9ebe2f145720073cd28f6d211c6", func := "mempool/mempoollaw18.ExpiryPlays", spec := "expiryPlays", unfollowed := true, recurses := true, apart := false }
def ExpiryPlaysSaid : Prop := expiryPlaysRow.holds Try.pinned (OpenSpec.ofChange expiryPlaysSpec)

/-- ITS FALSE NEIGHBOUR: 'it returns false'. Refute it at one input. -/
def expiryPlaysWrong : ChangeSpec := { name := "expiryPlays", fn := fun _ => fun
  | [d1, d2, d3] => { results := [.lit (.bool false)], args := [d1, d2, d3] }
  | _ => none }
def ExpiryPlaysWrongFalsely : Prop := expiryPlaysRow.holds Try.pinned (OpenSpec.ofChange expiryPlaysWrong)

/-- 'mempoollaw18.ExpiryEdges': WHATEVER THE INPUT: true; the input reads as it did. -/
def expiryEdgesSpec : ChangeSpec := { name := "expiryEdges", fn := fun _ => fun
  | [d1, d2] => { results := [.lit (.bool true)], args := [d1, d2] }
  | _ => none }
def expiryEdgesRow : OpenClaim := { program := "ytaminglbenglfaa", sum := "31aae47e0e7574189cc510bceb09044db325a9ebe2f145720073cd28f6d211c6", func := "mempool/mempoollaw18.ExpiryEdges", spec := "expiryEdges", unfollowed := true, recurses := true, apart := false }
def ExpiryEdgesSaid : Prop := expiryEdgesRow.holds Try.pinned (OpenSpec.ofChange expiryEdgesSpec)

/-- ITS FALSE NEIGHBOUR: 'it returns false'. Refute it at one input. -/
def expiryEdgesWrong : ChangeSpec := { name := "expiryEdges", fn := fun _ => fun
  | [d1, d2] => { results := [.lit (.bool false)], args := [d1, d2] }
  | _ => none }
def ExpiryEdgesWrongFalsely : Prop := expiryEdgesRow.holds Try.pinned (OpenSpec.ofChange expiryEdgesWrong)

/-- 'mempoollaw9.HeapOrders': WHATEVER THE INPUT: true; the input reads as it did. -/
def heapOrdersSpec : ChangeSpec := { name := "heapOrders", fn := fun _ => fun
  | [d1, d2, d3, d4] => { results := [.lit (.bool true)], args := [d1, d2, d3, d4] }
  | _ => none }
def heapOrdersRow : OpenClaim := { program := "ytaminglbenglfaa", sum := "31aae47e0e7574189cc510bceb09044db325a9ebe2f145720073cd28f6d211c6", func := "mempool/mempoollaw9.HeapOrders", spec := "heapOrders", unfollowed := true, recurses := true, apart := false }
def HeapOrdersSaid : Prop := heapOrdersRow.holds Try.pinned (OpenSpec.ofChange heapOrdersSpec)

/-- ITS FALSE NEIGHBOUR: 'it returns false'. Refute it at one input. -/
def heapOrdersWrong : ChangeSpec := { name := "heapOrders", fn := fun _ => fun
  | [d1, d2, d3, d4] => { results := [.lit (.bool false)], args := [d1, d2, d3, d4] }
  | _ => none }
def HeapOrdersWrongFalsely : Prop := heapOrdersRow.holds Try.pinned (OpenSpec.ofChange heapOrdersWrong)

/-- 'mempoollaw9.HeapPlays': WHATEVER THE INPUT: true; the input reads as it did. -/
def heapPlaysSpec : ChangeSpec := { name := "heapPlays", fn := fun _ => fun
  | [d1, d2] => { results := [.lit (.bool true)], args := [d1, d2] }
  | _ => none }
def heapPlaysRow : OpenClaim := { program := "ytaminglbenglfaa", sum := "31aae47e0e7574189cc510bceb09044db325a9ebe2f145720073cd28f6d211c6", func := "mempool/mempoollaw9.HeapPlays", spec := "heapPlays", unfollowed := true, recurses := true, apart := false }
def HeapPlaysSaid : Prop := heapPlaysRow.holds Try.pinned (OpenSpec.ofChange heapPlaysSpec)

/-- ITS FALSE NEIGHBOUR: 'it returns false'. Refute it at one input. -/
def heapPlaysWrong : ChangeSpec := { name := "heapPlays", fn := fun _ => fun
  | [d1, d2] => { results := [.lit (.bool false)], args := [d1, d2] }
  | _ => none }
def HeapPlaysWrongFalsely : Prop := heapPlaysRow.holds Try.pinned (OpenSpec.ofChange heapPlaysWrong)

/-- 'mempoollaw9.HeapSorts': WHATEVER THE INPUT: true; the input reads as it did. -/
def heapSortsSpec : ChangeSpec := { name := "heapSorts", fn := fun _ => fun
  | [d1, d2] => { results := [.lit (.bool true)], args := [d1, d2] }
  | _ => none }
def heapSortsRow : OpenClaim := { program := "ytaminglbenglfaa", sum := "31aae47e0e7574189cc510bceb09044db325a9ebe2f145720073cd28f6d211c6", func := "mempool/mempoollaw9.HeapSorts", spec := "heapSorts", unfollowed := true, recurses := true, apart := false }
def HeapSortsSaid : Prop := heapSortsRow.holds Try.pinned (OpenSpec.ofChange heapSortsSpec)

/-- ITS FALSE NEIGHBOUR: 'it returns false'. Refute it at one input. -/
def heapSortsWrong : ChangeSpec := { name := "heapSorts", fn := fun _ => fun
  | [d1, d2] => { results := [.lit (.bool false)], args := [d1, d2] }
  | _ => none }
def HeapSortsWrongFalsely : Prop := heapSortsRow.holds Try.pinned (OpenSpec.ofChange heapSortsWrong)

/-- 'mempoollaw9.HeapNil': WHATEVER THE INPUT: true; the input reads as it did. -/
def heapNilSpec : ChangeSpec := { name := "heapNil", fn := fun _ => fun
  | [d] => { results := [.lit (.bool true)], args := [d] }
  | _ => none }
def heapNilRow : OpenClaim := { program := "ytaminglbenglfaa", sum := "31aae47e0e7574189cc510bceb09044db325a9ebe2f145720073cd28f6d211c6", func := "mempool/mempoollaw9.HeapNil", spec := "heapNil", unfollowed := true, recurses := true, apart := false }
def HeapNilSaid : Prop := heapNilRow.holds Try.pinned (OpenSpec.ofChange heapNilSpec)

/-- ITS FALSE NEIGHBOUR: 'it returns false'. Refute it at one input. -/
def heapNilWrong : ChangeSpec := { name := "heapNil", fn := fun _ => fun
  | [d] => { results := [.lit (.bool false)], args := [d] }
  | _ => none }
def HeapNilWrongFalsely : Prop := heapNilRow.holds Try.pinned (OpenSpec.ofChange heapNilWrong)

/-- 'mempoollaw17.SenderPlays': WHATEVER THE INPUT: true; the input reads as it did. -/
def senderPlaysSpec : ChangeSpec := { name := "senderPlays", fn := fun _ => fun
  | [d1, d2] => { results := [.lit (.bool true)], args := [d1, d2] }
  | _ => none }
def senderPlaysRow : OpenClaim := { program := "ytaminglbenglfaa", sum := "31aae47e0e7574189cc510bceb09044db325a9ebe2f145720073cd28f6d211c6", func := "mempool/mempoollaw17.SenderPlays", spec := "senderPlays", inPlace := ["slices.overlaps[mempool/sender.place]"], unfollowed := true, recurses := true, apart := false }
def SenderPlaysSaid : Prop := senderPlaysRow.holds Try.pinned (OpenSpec.ofChange senderPlaysSpec)

/-- ITS FALSE NEIGHBOUR: 'it returns false'. Refute it at one input. -/
def senderPlaysWrong : ChangeSpec := { name := "senderPlays", fn := fun _ => fun
  | [d1, d2] => { results := [.lit (.bool false)], args := [d1, d2] }
  | _ => none }
def SenderPlaysWrongFalsely : Prop := senderPlaysRow.holds Try.pinned (OpenSpec.ofChange senderPlaysWrong)

/-- 'mempoollaw17.SenderLists': WHATEVER THE INPUT: true; the input reads as it did. -/
def senderListsSpec : ChangeSpec := { name := "senderLists", fn := fun _ => fun
  | [d1, d2] => { results := [.lit (.bool true)], args := [d1, d2] }
  | _ => none }
def senderListsRow : OpenClaim := { program := "ytaminglbenglfaa", sum := "31aae47e0e7574189cc510bceb09044db325a9ebe2f145720073cd28f6d211c6", func := "mempool/mempoollaw17.SenderLists", spec := "senderLists", inPlace := ["slices.overlaps[mempool/sender.place]"], unfollowed := true, recurses := true, apart := false }
def SenderListsSaid : Prop := senderListsRow.holds Try.pinned (OpenSpec.ofChange senderListsSpec)

/-- ITS FALSE NEIGHBOUR: 'it returns false'. Refute it at one input. -/
def senderListsWrong : ChangeSpec := { name := "senderLists", fn := fun _ => fun
  | [d1, d2] => { results := [.lit (.bool false)], args := [d1, d2] }
  | _ => none }
def SenderListsWrongFalsely : Prop := senderListsRow.holds Try.pinned (OpenSpec.ofChange senderListsWrong)

/-- 'mempoollaw17.SenderRuns': WHATEVER THE INPUT: true; the input reads as it did. -/
def senderRunsSpec : ChangeSpec := { name := "senderRuns", fn := fun _ => fun
  | [d1, d2] => { results := [.lit (.bool true)], args := [d1, d2] }
  | _ => none }
def senderRunsRow : OpenClaim := { program := "ytaminglbenglfaa", sum := "31aae47e0e7574189cc510bceb09044db325a9ebe2f145720073cd28f6d211c6", func := "mempool/mempoollaw17.SenderRuns", spec := "senderRuns", inPlace := ["slices.overlaps[mempool/sender.place]"], unfollowed := true, recurses := true, apart := false }
def SenderRunsSaid : Prop := senderRunsRow.holds Try.pinned (OpenSpec.ofChange senderRunsSpec)

/-- ITS FALSE NEIGHBOUR: 'it returns false'. Refute it at one input. -/
def senderRunsWrong : ChangeSpec := { name := "senderRuns", fn := fun _ => fun
  | [d1, d2] => { results := [.lit (.bool false)], args := [d1, d2] }
  | _ => none }
def SenderRunsWrongFalsely : Prop := senderRunsRow.holds Try.pinned (OpenSpec.ofChange senderRunsWrong)

/-- 'mempoollaw17.SenderForgets': WHATEVER THE INPUT: true; the input reads as it did. -/
def senderForgetsSpec : ChangeSpec := { name := "senderForgets", fn := fun _ => fun
  | [d1, d2, d3] => { results := [.lit (.bool true)], args := [d1, d2, d3] }
  | _ => none }
def senderForgetsRow : OpenClaim := { program := "ytaminglbenglfaa", sum := "31aae47e0e7574189cc510bceb09044db325a9ebe2f145720073cd28f6d211c6", func := "mempool/mempoollaw17.SenderForgets", spec := "senderForgets", inPlace := ["slices.overlaps[mempool/sender.place]"], unfollowed := true, recurses := true, apart := false }
def SenderForgetsSaid : Prop := senderForgetsRow.holds Try.pinned (OpenSpec.ofChange senderForgetsSpec)

/-- ITS FALSE NEIGHBOUR: 'it returns false'. Refute it at one input. -/
def senderForgetsWrong : ChangeSpec := { name := "senderForgets", fn := fun _ => fun
  | [d1, d2, d3] => { results := [.lit (.bool false)], args := [d1, d2, d3] }
  | _ => none }
def SenderForgetsWrongFalsely : Prop := senderForgetsRow.holds Try.pinned (OpenSpec.ofChange senderForgetsWrong)

/- THE SECOND FORM. 'bulk': how many values and letters a reading holds, each counted each time it is reached (what is shared counts as often as it is met; a slice's spare places count too). A statement '..UptoSaid' is the law's where the arguments, and the package variables that the reading takes, are together of bulk at most 1048576: NARROWER than '..Said'. Prove '..Said' where nothing that the law and all that it calls make is longer than what came in: it says more and counts as full. Else prove '..UptoSaid'. A law counts once. -/
mutual
def uptoBulk {H : Type} : DataW H → Nat
  | .lit (.string bytes) => bytes.length + 1
  | .lit _ => 1
  | .nil => 1
  | .ptr d => uptoBulk d + 1
  | .slice elems spare => uptoBulkAll elems + uptoBulkAll spare + 1
  | .agg parts => uptoBulkAll parts + 1
  | .iface _ d => uptoBulk d + 1
  | .map entries => uptoBulkEntries entries + 1
  | .held _ => 1
def uptoBulkAll {H : Type} : List (DataW H) → Nat
  | [] => 0
  | d :: r => uptoBulk d + uptoBulkAll r
def uptoBulkEntries {H : Type} : List (Lit × DataW H) → Nat
  | [] => 0
  | x :: r => uptoBulkEntry x + uptoBulkEntries r
def uptoBulkEntry {H : Type} : Lit × DataW H → Nat
  | (.string bytes, d) => bytes.length + uptoBulk d + 1
  | (_, d) => uptoBulk d + 1
 end
def uptoSmall : (H : Type) → List (DataW H) → Bool := fun _ ds => decide (uptoBulkAll ds ≤ 1048576)
def OpenSpec.upto (s : _root_.Go.ChangeSpec) : _root_.Go.OpenSpec := { _root_.Go.OpenSpec.ofChange s with cond := some uptoSmall }

/-- 'mempoollaw18.ExpiryStays', WHERE WHAT IT READS IS OF BULK AT MOST 1048576: true; the input reads as it did. -/
def expiryStaysUptoRow : OpenClaim := { program := "ytaminglbenglfaa", sum := "31aae47e0e7574189cc510bceb09044db325a9ebe2f145720073cd28f6d211c6", func := "mempool/mempoollaw18.ExpiryStays", spec := "expiryStays", unfollowed := true, recurses := true, apart := false, narrowed := true }
def ExpiryStaysUptoSaid : Prop := expiryStaysUptoRow.holds Try.pinned (OpenSpec.upto expiryStaysSpec)

/-- 'mempoollaw18.ExpiryPlays', WHERE WHAT IT READS IS OF BULK AT MOST 1048576: true; the input reads as it did. -/
def expiryPlaysUptoRow : OpenClaim := { program := "ytaminglbenglfaa", sum := "31aae47e0e7574189cc510bceb09044db325a9ebe2f145720073cd28f6d211c6", func := "mempool/mempoollaw18.ExpiryPlays", spec := "expiryPlays", unfollowed := true, recurses := true, apart := false, narrowed := true }
def ExpiryPlaysUptoSaid : Prop := expiryPlaysUptoRow.holds Try.pinned (OpenSpec.upto expiryPlaysSpec)

/-- 'mempoollaw18.ExpiryEdges', WHERE WHAT IT READS IS OF BULK AT MOST 1048576: true; the input reads as it did. -/
def expiryEdgesUptoRow : OpenClaim := { program := "ytaminglbenglfaa", sum := "31aae47e0e7574189cc510bceb09044db325a9ebe2f145720073cd28f6d211c6", func := "mempool/mempoollaw18.ExpiryEdges", spec := "expiryEdges", unfollowed := true, recurses := true, apart := false, narrowed := true }
def ExpiryEdgesUptoSaid : Prop := expiryEdgesUptoRow.holds Try.pinned (OpenSpec.upto expiryEdgesSpec)

/-- 'mempoollaw9.HeapOrders', WHERE WHAT IT READS IS OF BULK AT MOST 1048576: true; the input reads as it did. -/
def heapOrdersUptoRow : OpenClaim := { program := "ytaminglbenglfaa", sum := "31aae47e0e7574189cc510bceb09044db325a9ebe2f145720073cd28f6d211c6", func := "mempool/mempoollaw9.HeapOrders", spec := "heapOrders", unfollowed := true, recurses := true, apart := false, narrowed := true }
def HeapOrdersUptoSaid : Prop := heapOrdersUptoRow.holds Try.pinned (OpenSpec.upto heapOrdersSpec)

/-- 'mempoollaw9.HeapPlays', WHERE WHAT IT READS IS OF BULK AT MOST 1048576: true; the input reads as it did. -/
def heapPlaysUptoRow : OpenClaim := { program := "ytaminglbenglfaa", sum := "31aae47e0e7574189cc510bceb09044db325a9ebe2f145720073cd28f6d211c6", func := "mempool/mempoollaw9.HeapPlays", spec := "heapPlays", unfollowed := true, recurses := true, apart := false, narrowed := true }
def HeapPlaysUptoSaid : Prop := heapPlaysUptoRow.holds Try.pinned (OpenSpec.upto heapPlaysSpec)

/-- 'mempoollaw9.HeapSorts', WHERE WHAT IT READS IS OF BULK AT MOST 1048576: true; the input reads as it did. -/
def heapSortsUptoRow : OpenClaim := { program := "ytaminglbenglfaa", sum := "31aae47e0e7574189cc510bceb09044db325a9ebe2f145720073cd28f6d211c6", func := "mempool/mempoollaw9.HeapSorts", spec := "heapSorts", unfollowed := true, recurses := true, apart := false, narrowed := true }
def HeapSortsUptoSaid : Prop := heapSortsUptoRow.holds Try.pinned (OpenSpec.upto heapSortsSpec)

/-- 'mempoollaw9.HeapNil', WHERE WHAT IT READS IS OF BULK AT MOST 1048576: true; the input reads as it did. -/
def heapNilUptoRow : OpenClaim := { program := "ytaminglbenglfaa", sum := "31aae47e0e7574189cc510bceb09044db325a9ebe2f145720073cd28f6d211c6", func := "mempool/mempoollaw9.HeapNil", spec := "heapNil", unfollowed := true, recurses := true, apart := false, narrowed := true }
def HeapNilUptoSaid : Prop := heapNilUptoRow.holds Try.pinned (OpenSpec.upto heapNilSpec)

/-- 'mempoollaw17.SenderPlays', WHERE WHAT IT READS IS OF BULK AT MOST 1048576: true; the input reads as it did. -/
def senderPlaysUptoRow : OpenClaim := { program := "ytaminglbenglfaa", sum := "31aae47e0e7574189cc510bceb09044db325a9ebe2f145720073cd28f6d211c6", func := "mempool/mempoollaw17.SenderPlays", spec := "senderPlays", inPlace := ["slices.overlaps[mempool/sender.place]"], unfollowed := true, recurses := true, apart := false, narrowed := true }
def SenderPlaysUptoSaid : Prop := senderPlaysUptoRow.holds Try.pinned (OpenSpec.upto senderPlaysSpec)

/-- 'mempoollaw17.SenderLists', WHERE WHAT IT READS IS OF BULK AT MOST 1048576: true; the input reads as it did. -/
def senderListsUptoRow : OpenClaim := { program := "ytaminglbenglfaa", sum := "31aae47e0e7574189cc510bceb09044db325a9ebe2f145720073cd28f6d211c6", func := "mempool/mempoollaw17.SenderLists", spec := "senderLists", inPlace := ["slices.overlaps[mempool/sender.place]"], unfollowed := true, recurses := true, apart := false, narrowed := true }
def SenderListsUptoSaid : Prop := senderListsUptoRow.holds Try.pinned (OpenSpec.upto senderListsSpec)

/-- 'mempoollaw17.SenderRuns', WHERE WHAT IT READS IS OF BULK AT MOST 1048576: true; the input reads as it did. -/
def senderRunsUptoRow : OpenClaim := { program := "ytaminglbenglfaa", sum := "31aae47e0e7574189cc510bceb09044db325a9ebe2f145720073cd28f6d211c6", func := "mempool/mempoollaw17.SenderRuns", spec := "senderRuns", inPlace := ["slices.overlaps[mempool/sender.place]"], unfollowed := true, recurses := true, apart := false, narrowed := true }
def SenderRunsUptoSaid : Prop := senderRunsUptoRow.holds Try.pinned (OpenSpec.upto senderRunsSpec)

/-- 'mempoollaw17.SenderForgets', WHERE WHAT IT READS IS OF BULK AT MOST 1048576: true; the input reads as it did. -/
def senderForgetsUptoRow : OpenClaim := { program := "ytaminglbenglfaa", sum := "31aae47e0e7574189cc510bceb09044db325a9ebe2f145720073cd28f6d211c6", func := "mempool/mempoollaw17.SenderForgets", spec := "senderForgets", inPlace := ["slices.overlaps[mempool/sender.place]"], unfollowed := true, recurses := true, apart := false, narrowed := true }
def SenderForgetsUptoSaid : Prop := senderForgetsUptoRow.holds Try.pinned (OpenSpec.upto senderForgetsSpec)

end Rows
end Go.Proofs.Ytaminglbenglfaa
