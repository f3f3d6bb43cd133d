/-
  No cell of these rows narrows 'for every input' (looked for: loops, veiled, ifaces, maps, wideKeys, modest, calm, conditions, laid).
  DERIVED. THE GIVEN ROWS OF THIS SEAT. 8 by the template 'for every input the law returns true; each argument reads behind the call as it read before'; 0 by the template 'total and deterministic' (their statements: YthmfeknfiekcmaaTotals.lean).
  GIVEN WITH THE SEED: the statements are not yours to turn. If you find one false, say at which input.
  Laid BY PROGRAM, IN A SANDBOX (cutbox-rows.mjs): the forced cells as the released guide's own fill.sh prints them over the translation d058cefe79f39cc4… (all of the seat's roots in one cut). By AI agents, Wed Nov 11 2026. No macro, syntax, notation, axiom, sorry.
-/
import Derived.Test.YthmfeknfiekcmaaChecked
import GoSem.Claim
import GoSem.ClaimJoined
import GoSem.ClaimMapViews
import Derived.JoinedTies
import Derived.KernelRfl
namespace Go.Proofs.Ythmfeknfiekcmaa
/- THE CELL 'sum', in the pinned program and in every row, IS THE sha256 OF THE DUMP (.gsa) THAT YthmfeknfiekcmaaProg.lean LOADS. Nothing in Lean hashes anything: it is a label: what it is worth is what the hold of that sum in a sandbox is worth. -/
noncomputable def Try.pinned : Pinned := { name := "ythmfeknfiekcmaa", sum := "d058cefe79f39cc4d9f65a012eaf67d5c4d547fb38ccc6d843987632d96f922d", checked := Try.checked }
namespace Rows
def none {H : Type} : Left H := { results := [], args := [] }

/-- 'mempoollaw24.ReapSorts': WHATEVER THE INPUT: true; the input reads as it did. -/
def reapSortsSpec : ChangeSpec := { name := "reapSorts", fn := fun _ => fun
  | [d1, d2, d3] => { results := [.lit (.bool true)], args := [d1, d2, d3] }
  | _ => none }
def reapSortsRow : OpenClaim := { program := "ythmfeknfiekcmaa", sum := "d058cefe79f39cc4d9f65a012eaf67d5c4d547fb38ccc6d843987632d96f922d", func := "mempool/mempoollaw24.ReapSorts", spec := "reapSorts", unfollowed := true, recurses := true, apart := false }
def ReapSortsSaid : Prop := reapSortsRow.holds Try.pinned (OpenSpec.ofChange reapSortsSpec)

/-- ITS FALSE NEIGHBOUR: 'it returns false'. Refute it at one input. -/
def reapSortsWrong : ChangeSpec := { name := "reapSorts", fn := fun _ => fun
  | [d1, d2, d3] => { results := [.lit (.bool false)], args := [d1, d2, d3] }
  | _ => none }
def ReapSortsWrongFalsely : Prop := reapSortsRow.holds Try.pinned (OpenSpec.ofChange reapSortsWrong)

/-- 'mempoollaw24.ReapTakes': WHATEVER THE INPUT: true; the input reads as it did. -/
def reapTakesSpec : ChangeSpec := { name := "reapTakes", fn := fun _ => fun
  | [d1, d2, d3, d4] => { results := [.lit (.bool true)], args := [d1, d2, d3, d4] }
  | _ => none }
def reapTakesRow : OpenClaim := { program := "ythmfeknfiekcmaa", sum := "d058cefe79f39cc4d9f65a012eaf67d5c4d547fb38ccc6d843987632d96f922d", func := "mempool/mempoollaw24.ReapTakes", spec := "reapTakes", unfollowed := true, recurses := true, apart := false }
def ReapTakesSaid : Prop := reapTakesRow.holds Try.pinned (OpenSpec.ofChange reapTakesSpec)

/-- ITS FALSE NEIGHBOUR: 'it returns false'. Refute it at one input. -/
def reapTakesWrong : ChangeSpec := { name := "reapTakes", fn := fun _ => fun
  | [d1, d2, d3, d4] => { results := [.lit (.bool false)], args := [d1, d2, d3, d4] }
  | _ => none }
def ReapTakesWrongFalsely : Prop := reapTakesRow.holds Try.pinned (OpenSpec.ofChange reapTakesWrong)

/-- 'mempoollaw24.ReapSizes': WHATEVER THE INPUT: true; the input reads as it did. -/
def reapSizesSpec : ChangeSpec := { name := "reapSizes", fn := fun _ => fun
  | [d1, d2, d3] => { results := [.lit (.bool true)], args := [d1, d2, d3] }
  | _ => none }
def reapSizesRow : OpenClaim := { program := "ythmfeknfiekcmaa", sum := "d058cefe79f39cc4d9f65a012eaf67d5c4d547fb38ccc6d843987632d96f922d", func := "mempool/mempoollaw24.ReapSizes", spec := "reapSizes", unfollowed := true, recurses := true, apart := false }
def ReapSizesSaid : Prop := reapSizesRow.holds Try.pinned (OpenSpec.ofChange reapSizesSpec)

/-- ITS FALSE NEIGHBOUR: 'it returns false'. Refute it at one input. -/
def reapSizesWrong : ChangeSpec := { name := "reapSizes", fn := fun _ => fun
  | [d1, d2, d3] => { results := [.lit (.bool false)], args := [d1, d2, d3] }
  | _ => none }
def ReapSizesWrongFalsely : Prop := reapSizesRow.holds Try.pinned (OpenSpec.ofChange reapSizesWrong)

/-- 'mempoollaw24.ReapMaximal': WHATEVER THE INPUT: true; the input reads as it did. -/
def reapMaximalSpec : ChangeSpec := { name := "reapMaximal", fn := fun _ => fun
  | [d1, d2, d3] => { results := [.lit (.bool true)], args := [d1, d2, d3] }
  | _ => none }
def reapMaximalRow : OpenClaim := { program := "ythmfeknfiekcmaa", sum := "d058cefe79f39cc4d9f65a012eaf67d5c4d547fb38ccc6d843987632d96f922d", func := "mempool/mempoollaw24.ReapMaximal", spec := "reapMaximal", unfollowed := true, recurses := true, apart := false }
def ReapMaximalSaid : Prop := reapMaximalRow.holds Try.pinned (OpenSpec.ofChange reapMaximalSpec)

/-- ITS FALSE NEIGHBOUR: 'it returns false'. Refute it at one input. -/
def reapMaximalWrong : ChangeSpec := { name := "reapMaximal", fn := fun _ => fun
  | [d1, d2, d3] => { results := [.lit (.bool false)], args := [d1, d2, d3] }
  | _ => none }
def ReapMaximalWrongFalsely : Prop := reapMaximalRow.holds Try.pinned (OpenSpec.ofChange reapMaximalWrong)

/-- 'mempoollaw9.HeapOrders': WHATEVER THE INPUT: true; the input reads as it did. -/
def heapOrdersSpec : ChangeSpec := { name := "heapOrders", fn := fun _ => fun
  | [d1, d2, d3, d4] => { results := [.lit (.bool true)], args := [d1, d2, d3, d4] }
  | _ => none }
def heapOrdersRow : OpenClaim := { program := "ythmfeknfiekcmaa", sum := "d058cefe79f39cc4d9f65a012eaf67d5c4d547fb38ccc6d843987632d96f922d", func := "mempool/mempoollaw9.HeapOrders", spec := "heapOrders", unfollowed := true, recurses := true, apart := false }
def HeapOrdersSaid : Prop := heapOrdersRow.holds Try.pinned (OpenSpec.ofChange heapOrdersSpec)

/-- ITS FALSE NEIGHBOUR: 'it returns false'. Refute it at one input. -/
def heapOrdersWrong : ChangeSpec := { name := "heapOrders", fn := fun _ => fun
  | [d1, d2, d3, d4] => { results := [.lit (.bool false)], args := [d1, d2, d3, d4] }
  | _ => none }
def HeapOrdersWrongFalsely : Prop := heapOrdersRow.holds Try.pinned (OpenSpec.ofChange heapOrdersWrong)

/-- 'mempoollaw9.HeapPlays': WHATEVER THE INPUT: true; the input reads as it did. -/
def heapPlaysSpec : ChangeSpec := { name := "heapPlays", fn := fun _ => fun
  | [d1, d2] => { results := [.lit (.bool true)], args := [d1, d2] }
  | _ => none }
def heapPlaysRow : OpenClaim := { program := "ythmfeknfiekcmaa", sum := "d058cefe79f39cc4d9f65a012eaf67d5c4d547fb38ccc6d843987632d96f922d", func := "mempool/mempoollaw9.HeapPlays", spec := "heapPlays", unfollowed := true, recurses := true, apart := false }
def HeapPlaysSaid : Prop := heapPlaysRow.holds Try.pinned (OpenSpec.ofChange heapPlaysSpec)

/-- ITS FALSE NEIGHBOUR: 'it returns false'. Refute it at one input. -/
def heapPlaysWrong : ChangeSpec := { name := "heapPlays", fn := fun _ => fun
  | [d1, d2] => { results := [.lit (.bool false)], args := [d1, d2] }
  | _ => none }
def HeapPlaysWrongFalsely : Prop := heapPlaysRow.holds Try.pinned (OpenSpec.ofChange heapPlaysWrong)

/-- 'mempoollaw9.HeapSorts': WHATEVER THE INPUT: true; the input reads as it did. -/
def heapSortsSpec : ChangeSpec := { name := "heapSorts", fn := fun _ => fun
  | [d1, d2] => { results := [.lit (.bool true)], args := [d1, d2] }
  | _ => none }
def heapSortsRow : OpenClaim := { program := "ythmfeknfiekcmaa", sum := "d058cefe79f39cc4d9f65a012eaf67d5c4d547fb38ccc6d843987632d96f922d", func := "mempool/mempoollaw9.HeapSorts", spec := "heapSorts", unfollowed := true, recurses := true, apart := false }
def HeapSortsSaid : Prop := heapSortsRow.holds Try.pinned (OpenSpec.ofChange heapSortsSpec)

/-- ITS FALSE NEIGHBOUR: 'it returns false'. Refute it at one input. -/
def heapSortsWrong : ChangeSpec := { name := "heapSorts", fn := fun _ => fun
  | [d1, d2] => { results := [.lit (.bool false)], args := [d1, d2] }
  | _ => none }
def HeapSortsWrongFalsely : Prop := heapSortsRow.holds Try.pinned (OpenSpec.ofChange heapSortsWrong)

/-- 'mempoollaw9.HeapNil': WHATEVER THE INPUT: true; the input reads as it did. -/
def heapNilSpec : ChangeSpec := { name := "heapNil", fn := fun _ => fun
  | [d] => { results := [.lit (.bool true)], args := [d] }
  | _ => none }
def heapNilRow : OpenClaim := { program := "ythmfeknfiekcmaa", sum := "d058cefe79f39cc4d9f65a012eaf67d5c4d547fb38ccc6d843987632d96f922d", func := "mempool/mempoollaw9.HeapNil", spec := "heapNil", unfollowed := true, recurses := true, apart := false }
def HeapNilSaid : Prop := heapNilRow.holds Try.pinned (OpenSpec.ofChange heapNilSpec)

/-- ITS FALSE NEIGHBOUR: 'it returns false'. Refute it at one input. -/
def heapNilWrong : ChangeSpec := { name := "heapNil", fn := fun _ => fun
  | [d] => { results := [.lit (.bool false)], args := [d] }
  | _ => none }
def HeapNilWrongFalsely : Prop := heapNilRow.holds Try.pinned (OpenSpec.ofChange heapNilWrong)

/- THE SECOND FORM. 'bulk': how many values and letters a reading holds, each counted each time it is reached (what is shared counts as often as it is met; a slice's spare places count too). A statement '..UptoSaid' is the law's where the arguments, and the package variables that the reading takes, are together of bulk at most 1048576: NARROWER than '..Said'. Prove '..Said' where nothing that the law and all that it calls make is longer than what came in: it says more and counts as full. Else prove '..UptoSaid'. A law counts once. -/
mutual
def uptoBulk {H : Type} : DataW H → Nat
  | .lit (.string bytes) => bytes.length + 1
  | .lit _ => 1
  | .nil => 1
  | .ptr d => uptoBulk d + 1
  | .slice elems spare => uptoBulkAll elems + uptoBulkAll spare + 1
  | .agg parts => uptoBulkAll parts + 1
  | .iface _ d => uptoBulk d + 1
  | .map entries => uptoBulkEntries entries + 1
  | .held _ => 1
def uptoBulkAll {H : Type} : List (DataW H) → Nat
  | [] => 0
  | d :: r => uptoBulk d + uptoBulkAll r
def uptoBulkEntries {H : Type} : List (Lit × DataW H) → Nat
  | [] => 0
  | x :: r => uptoBulkEntry x + uptoBulkEntries r
def uptoBulkEntry {H : Type} : Lit × DataW H → Nat
  | (.string bytes, d) => bytes.length + uptoBulk d + 1
  | (_, d) => uptoBulk d + 1
 end
def uptoSmall : (H : Type) → List (DataW H) → Bool := fun _ ds => decide (uptoBulkAll ds ≤ 1048576)
def OpenSpec.upto (s : _root_.Go.ChangeSpec) : _root_.Go.OpenSpec := { _root_.Go.OpenSpec.ofChange s with cond := some uptoSmall }

/-- 'mempoollaw24.ReapSorts', WHERE WHAT IT READS IS OF BULK AT MOST 1048576: true; the input reads as it did. -/
def reapSortsUptoRow : OpenClaim := { program := "ythmfeknfiekcmaa", sum := "d058cefe79f39cc4d9f65a012eaf67d5c4d547fb38ccc6d843987632d96f922d", func := "mempool/mempoollaw24.ReapSorts", spec := "reapSorts", unfollowed := true, recurses := true, apart := false, narrowed := true }
def ReapSortsUptoSaid : Prop := reapSortsUptoRow.holds Try.pinned (OpenSpec.upto reapSortsSpec)

/-- 'mempoollaw24.ReapTakes', WHERE WHAT IT READS IS OF BULK AT MOST 1048576: true; the input reads as it did. -/
def reapTakesUptoRow : OpenClaim := { program := "ythmfeknfiekcmaa", sum := "d058cefe79f39cc4d9f65a012eaf67d5c4d547fb38ccc6d843987632d96f922d", func := "mempool/mempoollaw24.ReapTakes", spec := "reapTakes", unfollowed := true, recurses := true, apart := false, narrowed := true }
def ReapTakesUptoSaid : Prop := reapTakesUptoRow.holds Try.pinned (OpenSpec.upto reapTakesSpec)

/-- 'mempoollaw24.ReapSizes', WHERE WHAT IT READS IS OF BULK AT MOST 1048576: true; the input reads as it did. -/
def reapSizesUptoRow : OpenClaim := { program := "ythmfeknfiekcmaa", sum := "d058cefe79f39cc4d9f65a012eaf67d5c4d547fb38ccc6d843987632d96f922d", func := "mempool/mempoollaw24.ReapSizes", spec := "reapSizes", unfollowed := true, recurses := true, apart := false, narrowed := true }
def ReapSizesUptoSaid : Prop := reapSizesUptoRow.holds Try.pinned (OpenSpec.upto reapSizesSpec)

/-- 'mempoollaw24.ReapMaximal', WHERE WHAT IT READS IS OF BULK AT MOST 1048576: true; the input reads as it did. -/
def reapMaximalUptoRow : OpenClaim := { program := "ythmfeknfiekcmaa", sum := "d058cefe79f39cc4d9f65a012eaf67d5c4d547fb38ccc6d843987632d96f922d", func := "mempool/mempoollaw24.ReapMaximal", spec := "reapMaximal", unfollowed := true, recurses := true, apart := false, narrowed := true }
def ReapMaximalUptoSaid : Prop := reapMaximalUptoRow.holds Try.pinned (OpenSpec.upto reapMaximalSpec)

/-- 'mempoollaw9.HeapOrders', WHERE WHAT IT READS IS OF BULK AT MOST 1048576: true; the input reads as it did. -/
def heapOrdersUptoRow : OpenClaim := { program := "ythmfeknfiekcmaa", sum := "d058cefe79f39cc4d9f65a012eaf67d5c4d547fb38ccc6d843987632d96f922d", func := "mempool/mempoollaw9.HeapOrders", spec := "heapOrders", unfollowed := true, recurses := true, apart := false, narrowed := true }
def HeapOrdersUptoSaid : Prop := heapOrdersUptoRow.holds Try.pinned (OpenSpec.upto heapOrdersSpec)

/-- 'mempoollaw9.HeapPlays', WHERE WHAT IT READS IS OF BULK AT MOST 1048576: true; the input reads as it did. -/
def heapPlaysUptoRow : OpenClaim := { program := "ythmfeknfiekcmaa", sum := "d058cefe79f39cc4d9f65a012eaf67d5c4d547fb38ccc6d843987632d96f922d", func := "mempool/mempoollaw9.HeapPlays", spec := "heapPlays", unfollowed := true, recurses := true, apart := false, narrowed := true }
def HeapPlaysUptoSaid : Prop := heapPlaysUptoRow.holds Try.pinned (OpenSpec.upto heapPlaysSpec)

/-- 'mempoollaw9.HeapSorts', WHERE WHAT IT READS IS OF BULK AT MOST 1048576: true; the input reads as it did. -/
def heapSortsUptoRow : OpenClaim := { program := "ythmfeknfiekcmaa", sum := "d058cefe79f39cc4d9f65a012eaf67d5c4d547fb38ccc6d843987632d96f922d", func := "mempool/mempoollaw9.HeapSorts", spec := "heapSorts", unfollowed := true, recurses := true, apart := false, narrowed := true }
def HeapSortsUptoSaid : Prop := heapSortsUptoRow.holds Try.pinned (OpenSpec.upto heapSortsSpec)

/-- 'mempoollaw9.HeapNil', WHERE WHAT IT READS IS OF BULK AT MOST 1048576: true; the input reads as it did. -/
def heapNilUptoRow : OpenClaim := { program := "ythmfeknfiekcmaa", sum := "d058cefe79f39cc4d9f65a012eaf67d5c4d547fb38ccc6d843987632d96f922d", func := "mempool/mempoollaw9.HeapNil", spec := "heapNil", unfollowed := true, recurses := true, apart := false, narrowed := true }
def HeapNilUptoSaid : Prop := heapNilUptoRow.holds Try.pinned (OpenSpec.upto heapNilSpec)

end Rows
end Go.Proofs.Ythmfeknfiekcmaa
