/- The types that the abstract machine reads. No conditions. -/
import Derived.Test.YtfaceeglocjkbaaKD
import Derived.Test.YtfaceeglocjkbaaProg
import Derived.KernelRfl
namespace Go.Proofs.Ytfaceeglocjkbaa.Am
open Go
def ti3 : TI := ⟨.int .i64, 1, 8, [.int .i64 0], [], false, []⟩
def ti4 : TI := ⟨.bool, 1, 1, [.bool false], [], false, []⟩
def ti5 : TI := ⟨.int .u8, 1, 1, [.int .u8 0], [], false, []⟩
def ti9 : TI := ⟨.str, 1, 16, [.string ⟨#[]⟩], [], false, []⟩
def ti22 : TI := ⟨.slice 28, 1, 24, [.slice none 0 0], [], false, []⟩
def ti23 : TI := ⟨.int .u64, 1, 8, [.int .u64 0], [], false, []⟩
def ti25 : TI := ⟨.struct [(0, 1), (1, 1)], 2, 32, [.slice none 0 0, .int .u64 0], [], false, [22, 23]⟩
def ti26 : TI := ⟨.slice 3, 1, 24, [.slice none 0 0], [], false, []⟩
def ti28 : TI := ⟨.struct [(0, 1), (1, 1), (2, 1)], 3, 32, [.string ⟨#[]⟩, .int .u64 0, .int .u64 0], [.s, .i .u64, .i .u64], false, []⟩
def ti34 : TI := ⟨.slice 25, 1, 24, [.slice none 0 0], [], false, []⟩
def ti37 : TI := ⟨.int .i64, 1, 8, [.int .i64 0], [], false, []⟩
def ti40 : TI := ⟨.slice 22, 1, 24, [.slice none 0 0], [], false, []⟩
def ti45 : TI := ⟨.slice 9, 1, 24, [.slice none 0 0], [], false, []⟩
def ti46 : TI := ⟨.int .u64, 1, 8, [.int .u64 0], [], false, []⟩
def ti52 : TI := ⟨.slice 5, 1, 24, [.slice none 0 0], [], false, []⟩
def ti55 : TI := ⟨.arr 32 5, 32, 32, [.int .u8 0, .int .u8 0, .int .u8 0, .int .u8 0, .int .u8 0, .int .u8 0, .int .u8 0, .int .u8 0, .int .u8 0, .int .u8 0, .int .u8 0, .int .u8 0, .int .u8 0, .int .u8 0, .int .u8 0, .int .u8 0, .int .u8 0, .int .u8 0, .int .u8 0, .int .u8 0, .int .u8 0, .int .u8 0, .int .u8 0, .int .u8 0, .int .u8 0, .int .u8 0, .int .u8 0, .int .u8 0, .int .u8 0, .int .u8 0, .int .u8 0, .int .u8 0], [.i .u8, .i .u8, .i .u8, .i .u8, .i .u8, .i .u8, .i .u8, .i .u8, .i .u8, .i .u8, .i .u8, .i .u8, .i .u8, .i .u8, .i .u8, .i .u8, .i .u8, .i .u8, .i .u8, .i .u8, .i .u8, .i .u8, .i .u8, .i .u8, .i .u8, .i .u8, .i .u8, .i .u8, .i .u8, .i .u8, .i .u8, .i .u8], false, []⟩
def ti58 : TI := ⟨.slice 26, 1, 24, [.slice none 0 0], [], false, []⟩
def ti59 : TI := ⟨.ptr 89, 1, 8, [.pointer none], [], false, []⟩
def ti64 : TI := ⟨.slice 23, 1, 24, [.slice none 0 0], [], false, []⟩
def ti68 : TI := ⟨.map 9 69, 1, 8, [.map none], [], false, []⟩
def ti69 : TI := ⟨.struct [], 0, 0, [], [], false, []⟩
def ti74 : TI := ⟨.other, 1, 8, [.nilFunc], [], false, []⟩
def ti79 : TI := ⟨.other, 1, 8, [.nilFunc], [], false, []⟩
def ti81 : TI := ⟨.slice 52, 1, 24, [.slice none 0 0], [], false, []⟩
def ti84 : TI := ⟨.struct [(0, 1), (1, 1), (2, 1), (3, 1)], 4, 48, [.int .i64 0, .int .i64 0, .int .u64 0, .slice none 0 0], [], false, []⟩
def ti87 : TI := ⟨.slice 84, 1, 24, [.slice none 0 0], [], false, []⟩
def ti89 : TI := ⟨.struct [(0, 1), (1, 1)], 2, 32, [.slice none 0 0, .int .i64 0], [], false, []⟩
def ti103 : TI := ⟨.int .i64, 1, 8, [.int .i64 0], [], false, []⟩
def ti110 : TI := ⟨.int .u32, 1, 4, [.int .u32 0], [], false, []⟩
def ti115 : TI := ⟨.ptr 131, 1, 8, [.pointer none], [], false, []⟩
def ti119 : TI := ⟨.arr 8 110, 8, 32, [.int .u32 0, .int .u32 0, .int .u32 0, .int .u32 0, .int .u32 0, .int .u32 0, .int .u32 0, .int .u32 0], [.i .u32, .i .u32, .i .u32, .i .u32, .i .u32, .i .u32, .i .u32, .i .u32], false, []⟩
def ti121 : TI := ⟨.int .u64, 1, 8, [.int .u64 0], [], false, []⟩
def ti125 : TI := ⟨.ptr 3, 1, 8, [.pointer none], [], false, []⟩
def ti128 : TI := ⟨.arr 8 110, 8, 32, [.int .u32 0, .int .u32 0, .int .u32 0, .int .u32 0, .int .u32 0, .int .u32 0, .int .u32 0, .int .u32 0], [.i .u32, .i .u32, .i .u32, .i .u32, .i .u32, .i .u32, .i .u32, .i .u32], false, []⟩
def ti131 : TI := ⟨.struct [(0, 8), (8, 1), (9, 1)], 10, 64, [.int .u32 0, .int .u32 0, .int .u32 0, .int .u32 0, .int .u32 0, .int .u32 0, .int .u32 0, .int .u32 0, .slice none 0 0, .int .i64 0], [], false, []⟩
def ti133 : TI := ⟨.arr 64 110, 64, 256, [.int .u32 0, .int .u32 0, .int .u32 0, .int .u32 0, .int .u32 0, .int .u32 0, .int .u32 0, .int .u32 0, .int .u32 0, .int .u32 0, .int .u32 0, .int .u32 0, .int .u32 0, .int .u32 0, .int .u32 0, .int .u32 0, .int .u32 0, .int .u32 0, .int .u32 0, .int .u32 0, .int .u32 0, .int .u32 0, .int .u32 0, .int .u32 0, .int .u32 0, .int .u32 0, .int .u32 0, .int .u32 0, .int .u32 0, .int .u32 0, .int .u32 0, .int .u32 0, .int .u32 0, .int .u32 0, .int .u32 0, .int .u32 0, .int .u32 0, .int .u32 0, .int .u32 0, .int .u32 0, .int .u32 0, .int .u32 0, .int .u32 0, .int .u32 0, .int .u32 0, .int .u32 0, .int .u32 0, .int .u32 0, .int .u32 0, .int .u32 0, .int .u32 0, .int .u32 0, .int .u32 0, .int .u32 0, .int .u32 0, .int .u32 0, .int .u32 0, .int .u32 0, .int .u32 0, .int .u32 0, .int .u32 0, .int .u32 0, .int .u32 0, .int .u32 0], [.i .u32, .i .u32, .i .u32, .i .u32, .i .u32, .i .u32, .i .u32, .i .u32, .i .u32, .i .u32, .i .u32, .i .u32, .i .u32, .i .u32, .i .u32, .i .u32, .i .u32, .i .u32, .i .u32, .i .u32, .i .u32, .i .u32, .i .u32, .i .u32, .i .u32, .i .u32, .i .u32, .i .u32, .i .u32, .i .u32, .i .u32, .i .u32, .i .u32, .i .u32, .i .u32, .i .u32, .i .u32, .i .u32, .i .u32, .i .u32, .i .u32, .i .u32, .i .u32, .i .u32, .i .u32, .i .u32, .i .u32, .i .u32, .i .u32, .i .u32, .i .u32, .i .u32, .i .u32, .i .u32, .i .u32, .i .u32, .i .u32, .i .u32, .i .u32, .i .u32, .i .u32, .i .u32, .i .u32, .i .u32], false, []⟩
def ti136 : TI := ⟨.ptr 121, 1, 8, [.pointer none], [], false, []⟩
def ti140 : TI := ⟨.ptr 133, 1, 8, [.pointer none], [], false, []⟩
def u3 : U := .int .i64
def u4 : U := .bool
def u5 : U := .byte
def u9 : U := .str
def u23 : U := .int .u64
def u28 : U := .pr u9 (.pr u23 (u23))
def u22 : U := .sl u28
def u25 : U := .pr u22 (u23)
def u26 : U := .sl u3
def u34 : U := .sl u25
def u37 : U := .int .i64
def u40 : U := .sl u22
def u45 : U := .sl u9
def u46 : U := .int .u64
def u52 : U := .sl u5
def u55 : U := .arr 32 u5
def u58 : U := .sl u26
def u64 : U := .sl u23
def u69 : U := .arr 0 .byte
def u81 : U := .sl u52
def u84 : U := .pr u3 (.pr u3 (.pr u23 (u52)))
def u87 : U := .sl u84
def u89 : U := .pr u26 (u3)
def u103 : U := .int .i64
def u110 : U := .int .u32
def u119 : U := .arr 8 u110
def u121 : U := .int .u64
def u128 : U := .arr 8 u110
def u131 : U := .pr u128 (.pr u52 (u3))
def u133 : U := .arr 64 u110
def TU : TypeId → Option U
  | 3 => some u3
  | 4 => some u4
  | 5 => some u5
  | 9 => some u9
  | 22 => some u22
  | 23 => some u23
  | 25 => some u25
  | 26 => some u26
  | 28 => some u28
  | 34 => some u34
  | 37 => some u37
  | 40 => some u40
  | 45 => some u45
  | 46 => some u46
  | 52 => some u52
  | 55 => some u55
  | 58 => some u58
  | 64 => some u64
  | 69 => some u69
  | 81 => some u81
  | 84 => some u84
  | 87 => some u87
  | 89 => some u89
  | 103 => some u103
  | 110 => some u110
  | 119 => some u119
  | 121 => some u121
  | 128 => some u128
  | 131 => some u131
  | 133 => some u133
  | _ => none
def T : TypeId → Option TI
  | 3 => some ti3
  | 4 => some ti4
  | 5 => some ti5
  | 9 => some ti9
  | 22 => some ti22
  | 23 => some ti23
  | 25 => some ti25
  | 26 => some ti26
  | 28 => some ti28
  | 34 => some ti34
  | 37 => some ti37
  | 40 => some ti40
  | 45 => some ti45
  | 46 => some ti46
  | 52 => some ti52
  | 55 => some ti55
  | 58 => some ti58
  | 59 => some ti59
  | 64 => some ti64
  | 68 => some ti68
  | 69 => some ti69
  | 74 => some ti74
  | 79 => some ti79
  | 81 => some ti81
  | 84 => some ti84
  | 87 => some ti87
  | 89 => some ti89
  | 103 => some ti103
  | 110 => some ti110
  | 115 => some ti115
  | 119 => some ti119
  | 121 => some ti121
  | 125 => some ti125
  | 128 => some ti128
  | 131 => some ti131
  | 133 => some ti133
  | 136 => some ti136
  | 140 => some ti140
  | _ => none
theorem tok3 : TOk Try.prog 3 ti3 := TOk.mk' (by kernel_rfl) rfl rfl ⟨_, Try.underlying3, rfl⟩
theorem tok4 : TOk Try.prog 4 ti4 := TOk.mk' (by kernel_rfl) rfl rfl ⟨_, Try.underlying4, rfl⟩
theorem tok5 : TOk Try.prog 5 ti5 := TOk.mk' (by kernel_rfl) rfl rfl ⟨_, Try.underlying5, rfl⟩
theorem tok9 : TOk Try.prog 9 ti9 := TOk.mk' (by kernel_rfl) rfl rfl ⟨_, Try.underlying9, rfl⟩
theorem tok22 : TOk Try.prog 22 ti22 := TOk.mk' (by kernel_rfl) rfl rfl ⟨_, Try.underlying22, rfl⟩
theorem tok23 : TOk Try.prog 23 ti23 := TOk.mk' (by kernel_rfl) rfl rfl ⟨_, Try.underlying23, rfl⟩
theorem tok25 : TOk Try.prog 25 ti25 := TOk.mk' (by kernel_rfl) rfl rfl ⟨_, Try.underlying25, _, rfl, by kernel_rfl, by kernel_rfl⟩ (fts := fun _ => ⟨_, Try.underlying25, by kernel_rfl⟩)
theorem tok26 : TOk Try.prog 26 ti26 := TOk.mk' (by kernel_rfl) rfl rfl ⟨_, Try.underlying26, rfl⟩
theorem tok28 : TOk Try.prog 28 ti28 := TOk.mk' (by kernel_rfl) rfl rfl ⟨_, Try.underlying28, _, rfl, by kernel_rfl, by kernel_rfl⟩ (fun _ => ⟨⟨20, by decide, by kernel_rfl⟩, by kernel_rfl⟩)
theorem tok34 : TOk Try.prog 34 ti34 := TOk.mk' (by kernel_rfl) rfl rfl ⟨_, Try.underlying34, rfl⟩
theorem tok37 : TOk Try.prog 37 ti37 := TOk.mk' (by kernel_rfl) rfl rfl ⟨_, Try.underlying37, rfl⟩
theorem tok40 : TOk Try.prog 40 ti40 := TOk.mk' (by kernel_rfl) rfl rfl ⟨_, Try.underlying40, rfl⟩
theorem tok45 : TOk Try.prog 45 ti45 := TOk.mk' (by kernel_rfl) rfl rfl ⟨_, Try.underlying45, rfl⟩
theorem tok46 : TOk Try.prog 46 ti46 := TOk.mk' (by kernel_rfl) rfl rfl ⟨_, Try.underlying46, rfl⟩
theorem tok52 : TOk Try.prog 52 ti52 := TOk.mk' (by kernel_rfl) rfl rfl ⟨_, Try.underlying52, rfl⟩
theorem tok55 : TOk Try.prog 55 ti55 := TOk.mk' (by kernel_rfl) rfl rfl ⟨_, Try.underlying55, rfl⟩ (fun _ => ⟨⟨20, by decide, by kernel_rfl⟩, by kernel_rfl⟩)
theorem tok58 : TOk Try.prog 58 ti58 := TOk.mk' (by kernel_rfl) rfl rfl ⟨_, Try.underlying58, rfl⟩
theorem tok59 : TOk Try.prog 59 ti59 := TOk.mk' (by kernel_rfl) rfl rfl ⟨_, Try.underlying59, rfl⟩
theorem tok64 : TOk Try.prog 64 ti64 := TOk.mk' (by kernel_rfl) rfl rfl ⟨_, Try.underlying64, rfl⟩
theorem tok68 : TOk Try.prog 68 ti68 := TOk.mk' (by kernel_rfl) rfl rfl ⟨_, Try.underlying68, rfl⟩
theorem tok69 : TOk Try.prog 69 ti69 := TOk.mk' (by kernel_rfl) rfl rfl ⟨_, Try.underlying69, _, rfl, by kernel_rfl, by kernel_rfl⟩
theorem tok74 : TOk Try.prog 74 ti74 := TOk.mk' (by kernel_rfl) rfl rfl ⟨_, Try.underlying74, rfl⟩
theorem tok79 : TOk Try.prog 79 ti79 := TOk.mk' (by kernel_rfl) rfl rfl ⟨_, Try.underlying79, rfl⟩
theorem tok81 : TOk Try.prog 81 ti81 := TOk.mk' (by kernel_rfl) rfl rfl ⟨_, Try.underlying81, rfl⟩
theorem tok84 : TOk Try.prog 84 ti84 := TOk.mk' (by kernel_rfl) rfl rfl ⟨_, Try.underlying84, _, rfl, by kernel_rfl, by kernel_rfl⟩
theorem tok87 : TOk Try.prog 87 ti87 := TOk.mk' (by kernel_rfl) rfl rfl ⟨_, Try.underlying87, rfl⟩
theorem tok89 : TOk Try.prog 89 ti89 := TOk.mk' (by kernel_rfl) rfl rfl ⟨_, Try.underlying89, _, rfl, by kernel_rfl, by kernel_rfl⟩
theorem tok103 : TOk Try.prog 103 ti103 := TOk.mk' (by kernel_rfl) rfl rfl ⟨_, Try.underlying103, rfl⟩
theorem tok110 : TOk Try.prog 110 ti110 := TOk.mk' (by kernel_rfl) rfl rfl ⟨_, Try.underlying110, rfl⟩
theorem tok115 : TOk Try.prog 115 ti115 := TOk.mk' (by kernel_rfl) rfl rfl ⟨_, Try.underlying115, rfl⟩
theorem tok119 : TOk Try.prog 119 ti119 := TOk.mk' (by kernel_rfl) rfl rfl ⟨_, Try.underlying119, rfl⟩ (fun _ => ⟨⟨20, by decide, by kernel_rfl⟩, by kernel_rfl⟩)
theorem tok121 : TOk Try.prog 121 ti121 := TOk.mk' (by kernel_rfl) rfl rfl ⟨_, Try.underlying121, rfl⟩
theorem tok125 : TOk Try.prog 125 ti125 := TOk.mk' (by kernel_rfl) rfl rfl ⟨_, Try.underlying125, rfl⟩
theorem tok128 : TOk Try.prog 128 ti128 := TOk.mk' (by kernel_rfl) rfl rfl ⟨_, Try.underlying128, rfl⟩ (fun _ => ⟨⟨20, by decide, by kernel_rfl⟩, by kernel_rfl⟩)
theorem tok131 : TOk Try.prog 131 ti131 := TOk.mk' (by kernel_rfl) rfl rfl ⟨_, Try.underlying131, _, rfl, by kernel_rfl, by kernel_rfl⟩
theorem tok133 : TOk Try.prog 133 ti133 := TOk.mk' (by kernel_rfl) rfl rfl ⟨_, Try.underlying133, rfl⟩ (fun _ => ⟨⟨20, by decide, by kernel_rfl⟩, by kernel_rfl⟩)
theorem tok136 : TOk Try.prog 136 ti136 := TOk.mk' (by kernel_rfl) rfl rfl ⟨_, Try.underlying136, rfl⟩
theorem tok140 : TOk Try.prog 140 ti140 := TOk.mk' (by kernel_rfl) rfl rfl ⟨_, Try.underlying140, rfl⟩
theorem T_ok : ∀ t i, T t = some i → TOk Try.prog t i := by
  intro t i h
  unfold T at h
  split at h
  · injection h with h; subst h; exact tok3
  · injection h with h; subst h; exact tok4
  · injection h with h; subst h; exact tok5
  · injection h with h; subst h; exact tok9
  · injection h with h; subst h; exact tok22
  · injection h with h; subst h; exact tok23
  · injection h with h; subst h; exact tok25
  · injection h with h; subst h; exact tok26
  · injection h with h; subst h; exact tok28
  · injection h with h; subst h; exact tok34
  · injection h with h; subst h; exact tok37
  · injection h with h; subst h; exact tok40
  · injection h with h; subst h; exact tok45
  · injection h with h; subst h; exact tok46
  · injection h with h; subst h; exact tok52
  · injection h with h; subst h; exact tok55
  · injection h with h; subst h; exact tok58
  · injection h with h; subst h; exact tok59
  · injection h with h; subst h; exact tok64
  · injection h with h; subst h; exact tok68
  · injection h with h; subst h; exact tok69
  · injection h with h; subst h; exact tok74
  · injection h with h; subst h; exact tok79
  · injection h with h; subst h; exact tok81
  · injection h with h; subst h; exact tok84
  · injection h with h; subst h; exact tok87
  · injection h with h; subst h; exact tok89
  · injection h with h; subst h; exact tok103
  · injection h with h; subst h; exact tok110
  · injection h with h; subst h; exact tok115
  · injection h with h; subst h; exact tok119
  · injection h with h; subst h; exact tok121
  · injection h with h; subst h; exact tok125
  · injection h with h; subst h; exact tok128
  · injection h with h; subst h; exact tok131
  · injection h with h; subst h; exact tok133
  · injection h with h; subst h; exact tok136
  · injection h with h; subst h; exact tok140
  · cases h
/-- The same types; a slice that is cut at its end is given away for that. -/
def Tc : TypeId → Option TI := fun t => (T t).map fun i => { i with cut := true }
theorem Tc_ok : ∀ t i, Tc t = some i → TOk Try.prog t i := by
  intro t i h
  unfold Tc at h
  cases e : T t with
  | none => rw [e] at h; cases h
  | some j =>
    rw [e] at h
    injection h with h
    subst h
    have k := T_ok t j e
    exact ⟨k.info, k.und, k.agg, k.cmp, k.fts⟩
end Go.Proofs.Ytfaceeglocjkbaa.Am
