/-
  DERIVED: THE SHELF's CONTRACTS AT THIS DUMP, IN PLAIN WORDS (tools/lay-plain.mjs out of 'YthmfeknfiekcmaaHeapLay.lean', which tools/lay-shelf.mjs wrote): THE SAME DECLARATIONS UNDER THE SAME NAMES: 'import', 'namespace', 'open', 'def', 'theorem' AND NOTHING ELSE: no command of the shelf's: FOR A HAND-IN. Each laying: the table of numbers ('.._ren') and one theorem, a field a fact of the dump's own or the kernel's comparison; each contract: ONE APPLICATION.
-/
import Derived.Shelf.SlGeneric
import Derived.Shelf.SlSortCmp.NoneTotal
import Derived.Ground.SlsfProg
import Derived.Test.YthmfeknfiekcmaaProg
namespace Go.Proofs
open Go.Shelf
def Try.sortItems_ren : Go.Shelf.Ren := ⟨fun | 6 => 61 | 15 => 75 | 14 => 74 | 28 => 89 | 29 => 90 | 20 => 81 | 21 => 82 | 22 => 83 | 23 => 84 | 24 => 85 | 25 => 86 | 26 => 87 | 27 => 88 | 46 => 94 | 47 => 95 | 48 => 96 | 49 => 97 | 50 => 98 | 57 => 100 | n => n, fun | 22 => 61 | 24 => 55 | 25 => 99 | 3 => 3 | 39 => 109 | 0 => 0 | 53 => 110 | 55 => 47 | 4 => 4 | 46 => 120 | 45 => 119 | 50 => 95 | 5 => 5 | 9 => 9 | 66 => 129 | 70 => 133 | 76 => 135 | 77 => 136 | n => n, fun | n => n⟩
theorem Try.sortItems : Go.Proofs.SlLaysF0.n6 Try.prog Try.sortItems_ren := {
  mixed := by kernel_rfl
  f6 := ⟨Try.f61.name, by decide, Try.func61.trans (congrArg some (by kernel_rfl))⟩
  f14 := ⟨Try.f74.name, by decide, Try.func74.trans (congrArg some (by kernel_rfl))⟩
  f15 := Try.func75.trans (congrArg some (by kernel_rfl))
  f20 := ⟨Try.f81.name, by decide, Try.func81.trans (congrArg some (by kernel_rfl))⟩
  f21 := ⟨Try.f82.name, by decide, Try.func82.trans (congrArg some (by kernel_rfl))⟩
  f22 := ⟨Try.f83.name, by decide, Try.func83.trans (congrArg some (by kernel_rfl))⟩
  f23 := ⟨Try.f84.name, by decide, Try.func84.trans (congrArg some (by kernel_rfl))⟩
  f24 := ⟨Try.f85.name, by decide, Try.func85.trans (congrArg some (by kernel_rfl))⟩
  f25 := ⟨Try.f86.name, by decide, Try.func86.trans (congrArg some (by kernel_rfl))⟩
  f26 := ⟨Try.f87.name, by decide, Try.func87.trans (congrArg some (by kernel_rfl))⟩
  f27 := ⟨Try.f88.name, by decide, Try.func88.trans (congrArg some (by kernel_rfl))⟩
  f28 := Try.func89.trans (congrArg some (by kernel_rfl))
  f29 := Try.func90.trans (congrArg some (by kernel_rfl))
  f46 := ⟨Try.f94.name, by decide, Try.func94.trans (congrArg some (by kernel_rfl))⟩
  f47 := Try.func95.trans (congrArg some (by kernel_rfl))
  f48 := Try.func96.trans (congrArg some (by kernel_rfl))
  f49 := ⟨Try.f97.name, by decide, Try.func97.trans (congrArg some (by kernel_rfl))⟩
  f50 := ⟨Try.f98.name, by decide, Try.func98.trans (congrArg some (by kernel_rfl))⟩
  f57 := ⟨Try.f100.name, by decide, Try.func100.trans (congrArg some (by kernel_rfl))⟩
  t0 := Try.underlying0
  a0 := Try.isAgg0
  z0 := Try.sizeOf0
  v0 := Try.zeroValue0
  t3 := Try.underlying3
  a3 := Try.isAgg3
  z3 := Try.sizeOf3
  v3 := Try.zeroValue3
  t4 := Try.underlying4
  a4 := Try.isAgg4
  z4 := Try.sizeOf4
  v4 := Try.zeroValue4
  t5 := Try.underlying5
  a5 := Try.isAgg5
  z5 := Try.sizeOf5
  v5 := Try.zeroValue5
  t9 := Try.underlying9
  a9 := Try.isAgg9
  z9 := Try.sizeOf9
  v9 := Try.zeroValue9
  t22 := Try.underlying61
  a22 := Try.isAgg61
  z22 := Try.sizeOf61
  v22 := Try.zeroValue61
  t25 := Try.underlying99
  a25 := Try.isAgg99
  z25 := Try.sizeOf99
  v25 := Try.zeroValue99
  t39 := Try.underlying109
  a39 := Try.isAgg109
  z39 := Try.sizeOf109
  v39 := Try.zeroValue109
  t45 := Try.underlying119
  a45 := Try.isAgg119
  z45 := Try.sizeOf119
  v45 := Try.zeroValue119
  t46 := Try.underlying120
  a46 := Try.isAgg120
  z46 := Try.sizeOf120
  v46 := Try.zeroValue120
  t50 := Try.underlying95
  a50 := Try.isAgg95
  z50 := Try.sizeOf95
  v50 := Try.zeroValue95
  t53 := Try.underlying110
  a53 := Try.isAgg110
  z53 := Try.sizeOf110
  v53 := Try.zeroValue110
  t55 := Try.underlying47
  a55 := Try.isAgg47
  z55 := Try.sizeOf47
  v55 := Try.zeroValue47
  t66 := Try.underlying129
  a66 := Try.isAgg129
  z66 := Try.sizeOf129
  v66 := Try.zeroValue129
  t70 := Try.underlying133
  a70 := Try.isAgg133
  z70 := Try.sizeOf133
  v70 := Try.zeroValue133
  t76 := Try.underlying135
  a76 := Try.isAgg135
  z76 := Try.sizeOf135
  v76 := Try.zeroValue135
  t77 := Try.underlying136
  a77 := Try.isAgg136
  z77 := Try.sizeOf136
  v77 := Try.zeroValue136 }
end Go.Proofs
