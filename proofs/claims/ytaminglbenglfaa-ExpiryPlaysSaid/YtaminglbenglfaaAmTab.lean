/- The types that the abstract machine reads. No conditions. -/
import Derived.Test.YtaminglbenglfaaKC
import Derived.Test.YtaminglbenglfaaProg
import Derived.KernelRfl
namespace Go.Proofs.Ytaminglbenglfaa.Am
open Go
def ti3 : TI := ⟨.int .i64, 1, 8, [.int .i64 0], []⟩
def ti4 : TI := ⟨.bool, 1, 1, [.bool false], []⟩
def ti5 : TI := ⟨.int .u8, 1, 1, [.int .u8 0], []⟩
def ti9 : TI := ⟨.str, 1, 16, [.string ⟨#[]⟩], []⟩
def ti22 : TI := ⟨.slice 3, 1, 24, [.slice none 0 0], []⟩
def ti25 : TI := ⟨.ptr 31, 1, 8, [.pointer none], []⟩
def ti27 : TI := ⟨.ptr 93, 1, 8, [.pointer none], []⟩
def ti31 : TI := ⟨.struct [(0, 1), (1, 1)], 2, 32, [.slice none 0 0, .int .i64 0], []⟩
def ti39 : TI := ⟨.slice 46, 1, 24, [.slice none 0 0], []⟩
def ti42 : TI := ⟨.other, 1, 8, [.nilFunc], []⟩
def ti46 : TI := ⟨.struct [(0, 1), (1, 1), (2, 1)], 3, 24, [.int .i64 0, .int .i64 0, .int .i64 0], [.i .i64, .i .i64, .i .i64]⟩
def ti50 : TI := ⟨.int .u64, 1, 8, [.int .u64 0], []⟩
def ti52 : TI := ⟨.struct [(0, 1), (1, 1), (2, 1)], 3, 24, [.int .i64 0, .int .u64 0, .int .i64 0], [.i .i64, .i .u64, .i .i64]⟩
def ti53 : TI := ⟨.arr 3 52, 9, 72, [.int .i64 0, .int .u64 0, .int .i64 0, .int .i64 0, .int .u64 0, .int .i64 0, .int .i64 0, .int .u64 0, .int .i64 0], [.i .i64, .i .u64, .i .i64, .i .i64, .i .u64, .i .i64, .i .i64, .i .u64, .i .i64]⟩
def ti55 : TI := ⟨.arr 2 53, 18, 144, [.int .i64 0, .int .u64 0, .int .i64 0, .int .i64 0, .int .u64 0, .int .i64 0, .int .i64 0, .int .u64 0, .int .i64 0, .int .i64 0, .int .u64 0, .int .i64 0, .int .i64 0, .int .u64 0, .int .i64 0, .int .i64 0, .int .u64 0, .int .i64 0], [.i .i64, .i .u64, .i .i64, .i .i64, .i .u64, .i .i64, .i .i64, .i .u64, .i .i64, .i .i64, .i .u64, .i .i64, .i .i64, .i .u64, .i .i64, .i .i64, .i .u64, .i .i64]⟩
def ti58 : TI := ⟨.slice 52, 1, 24, [.slice none 0 0], []⟩
def ti59 : TI := ⟨.ptr 103, 1, 8, [.pointer none], []⟩
def ti70 : TI := ⟨.ptr 119, 1, 8, [.pointer none], []⟩
def ti71 : TI := ⟨.slice 85, 1, 24, [.slice none 0 0], []⟩
def ti76 : TI := ⟨.slice 9, 1, 24, [.slice none 0 0], []⟩
def ti81 : TI := ⟨.slice 50, 1, 24, [.slice none 0 0], []⟩
def ti85 : TI := ⟨.struct [(0, 1), (1, 1), (2, 1)], 3, 32, [.string ⟨#[]⟩, .int .u64 0, .int .i64 0], [.s, .i .u64, .i .i64]⟩
def ti90 : TI := ⟨.slice 22, 1, 24, [.slice none 0 0], []⟩
def ti91 : TI := ⟨.map 3 95, 1, 8, [.map none], []⟩
def ti93 : TI := ⟨.struct [(0, 1), (1, 1), (2, 1)], 3, 24, [.int .i64 0, .int .i64 0, .map none], []⟩
def ti95 : TI := ⟨.struct [(0, 1), (1, 1)], 2, 16, [.int .i64 0, .int .i64 0], [.i .i64, .i .i64]⟩
def ti99 : TI := ⟨.other, 1, 8, [.nilFunc], []⟩
def ti101 : TI := ⟨.map 3 3, 1, 8, [.map none], []⟩
def ti103 : TI := ⟨.struct [(0, 1), (1, 1)], 2, 32, [.slice none 0 0, .map none], []⟩
def ti110 : TI := ⟨.other, 1, 8, [.nilFunc], []⟩
def ti117 : TI := ⟨.map 9 124, 1, 8, [.map none], []⟩
def ti119 : TI := ⟨.struct [(0, 1), (1, 1)], 2, 16, [.map none, .int .i64 0], []⟩
def ti122 : TI := ⟨.other, 1, 8, [.nilFunc], []⟩
def ti124 : TI := ⟨.slice 127, 1, 24, [.slice none 0 0], []⟩
def ti127 : TI := ⟨.struct [(0, 1), (1, 1)], 2, 16, [.int .u64 0, .int .i64 0], [.i .u64, .i .i64]⟩
def ti135 : TI := ⟨.int .u64, 1, 8, [.int .u64 0], []⟩
def ti138 : TI := ⟨.other, 1, 8, [.nilFunc], []⟩
def ti140 : TI := ⟨.other, 1, 8, [.nilFunc], []⟩
def ti145 : TI := ⟨.arr 2 3, 2, 16, [.int .i64 0, .int .i64 0], [.i .i64, .i .i64]⟩
def ti147 : TI := ⟨.int .i64, 1, 8, [.int .i64 0], []⟩
def ti154 : TI := ⟨.int .u32, 1, 4, [.int .u32 0], []⟩
def ti162 : TI := ⟨.int .u64, 1, 8, [.int .u64 0], []⟩
def ti166 : TI := ⟨.ptr 3, 1, 8, [.pointer none], []⟩
def ti177 : TI := ⟨.ptr 162, 1, 8, [.pointer none], []⟩
def u3 : U := .int .i64
def u4 : U := .bool
def u5 : U := .byte
def u9 : U := .str
def u22 : U := .sl u3
def u31 : U := .pr u22 (u3)
def u46 : U := .pr u3 (.pr u3 (u3))
def u39 : U := .sl u46
def u50 : U := .int .u64
def u52 : U := .pr u3 (.pr u50 (u3))
def u53 : U := .arr 3 u52
def u55 : U := .arr 2 u53
def u58 : U := .sl u52
def u85 : U := .pr u9 (.pr u50 (u3))
def u71 : U := .sl u85
def u76 : U := .sl u9
def u81 : U := .sl u50
def u90 : U := .sl u22
def u95 : U := .pr u3 (u3)
def u127 : U := .pr u50 (u3)
def u124 : U := .sl u127
def u135 : U := .int .u64
def u145 : U := .arr 2 u3
def u147 : U := .int .i64
def u154 : U := .int .u32
def u162 : U := .int .u64
def TU : TypeId → Option U
  | 3 => some u3
  | 4 => some u4
  | 5 => some u5
  | 9 => some u9
  | 22 => some u22
  | 31 => some u31
  | 39 => some u39
  | 46 => some u46
  | 50 => some u50
  | 52 => some u52
  | 53 => some u53
  | 55 => some u55
  | 58 => some u58
  | 71 => some u71
  | 76 => some u76
  | 81 => some u81
  | 85 => some u85
  | 90 => some u90
  | 95 => some u95
  | 124 => some u124
  | 127 => some u127
  | 135 => some u135
  | 145 => some u145
  | 147 => some u147
  | 154 => some u154
  | 162 => some u162
  | _ => none
def T : TypeId → Option TI
  | 3 => some ti3
  | 4 => some ti4
  | 5 => some ti5
  | 9 => some ti9
  | 22 => some ti22
  | 25 => some ti25
  | 27 => some ti27
  | 31 => some ti31
  | 39 => some ti39
  | 42 => some ti42
  | 46 => some ti46
  | 50 => some ti50
  | 52 => some ti52
  | 53 => some ti53
  | 55 => some ti55
  | 58 => some ti58
  | 59 => some ti59
  | 70 => some ti70
  | 71 => some ti71
  | 76 => some ti76
  | 81 => some ti81
  | 85 => some ti85
  | 90 => some ti90
  | 91 => some ti91
  | 93 => some ti93
  | 95 => some ti95
  | 99 => some ti99
  | 101 => some ti101
  | 103 => some ti103
  | 110 => some ti110
  | 117 => some ti117
  | 119 => some ti119
  | 122 => some ti122
  | 124 => some ti124
  | 127 => some ti127
  | 135 => some ti135
  | 138 => some ti138
  | 140 => some ti140
  | 145 => some ti145
  | 147 => some ti147
  | 154 => some ti154
  | 162 => some ti162
  | 166 => some ti166
  | 177 => some ti177
  | _ => none
theorem tok3 : TOk Try.prog 3 ti3 := TOk.mk' (by kernel_rfl) rfl rfl ⟨_, Try.underlying3, rfl⟩
theorem tok4 : TOk Try.prog 4 ti4 := TOk.mk' (by kernel_rfl) rfl rfl ⟨_, Try.underlying4, rfl⟩
theorem tok5 : TOk Try.prog 5 ti5 := TOk.mk' (by kernel_rfl) rfl rfl ⟨_, Try.underlying5, rfl⟩
theorem tok9 : TOk Try.prog 9 ti9 := TOk.mk' (by kernel_rfl) rfl rfl ⟨_, Try.underlying9, rfl⟩
theorem tok22 : TOk Try.prog 22 ti22 := TOk.mk' (by kernel_rfl) rfl rfl ⟨_, Try.underlying22, rfl⟩
theorem tok25 : TOk Try.prog 25 ti25 := TOk.mk' (by kernel_rfl) rfl rfl ⟨_, Try.underlying25, rfl⟩
theorem tok27 : TOk Try.prog 27 ti27 := TOk.mk' (by kernel_rfl) rfl rfl ⟨_, Try.underlying27, rfl⟩
theorem tok31 : TOk Try.prog 31 ti31 := TOk.mk' (by kernel_rfl) rfl rfl ⟨_, Try.underlying31, _, rfl, by kernel_rfl, by kernel_rfl⟩
theorem tok39 : TOk Try.prog 39 ti39 := TOk.mk' (by kernel_rfl) rfl rfl ⟨_, Try.underlying39, rfl⟩
theorem tok42 : TOk Try.prog 42 ti42 := TOk.mk' (by kernel_rfl) rfl rfl ⟨_, Try.underlying42, rfl⟩
theorem tok46 : TOk Try.prog 46 ti46 := TOk.mk' (by kernel_rfl) rfl rfl ⟨_, Try.underlying46, _, rfl, by kernel_rfl, by kernel_rfl⟩ (fun _ => ⟨⟨20, by decide, by kernel_rfl⟩, by kernel_rfl⟩)
theorem tok50 : TOk Try.prog 50 ti50 := TOk.mk' (by kernel_rfl) rfl rfl ⟨_, Try.underlying50, rfl⟩
theorem tok52 : TOk Try.prog 52 ti52 := TOk.mk' (by kernel_rfl) rfl rfl ⟨_, Try.underlying52, _, rfl, by kernel_rfl, by kernel_rfl⟩ (fun _ => ⟨⟨20, by decide, by kernel_rfl⟩, by kernel_rfl⟩)
theorem tok53 : TOk Try.prog 53 ti53 := TOk.mk' (by kernel_rfl) rfl rfl ⟨_, Try.underlying53, rfl⟩ (fun _ => ⟨⟨20, by decide, by kernel_rfl⟩, by kernel_rfl⟩)
theorem tok55 : TOk Try.prog 55 ti55 := TOk.mk' (by kernel_rfl) rfl rfl ⟨_, Try.underlying55, rfl⟩ (fun _ => ⟨⟨20, by decide, by kernel_rfl⟩, by kernel_rfl⟩)
theorem tok58 : TOk Try.prog 58 ti58 := TOk.mk' (by kernel_rfl) rfl rfl ⟨_, Try.underlying58, rfl⟩
theorem tok59 : TOk Try.prog 59 ti59 := TOk.mk' (by kernel_rfl) rfl rfl ⟨_, Try.underlying59, rfl⟩
theorem tok70 : TOk Try.prog 70 ti70 := TOk.mk' (by kernel_rfl) rfl rfl ⟨_, Try.underlying70, rfl⟩
theorem tok71 : TOk Try.prog 71 ti71 := TOk.mk' (by kernel_rfl) rfl rfl ⟨_, Try.underlying71, rfl⟩
theorem tok76 : TOk Try.prog 76 ti76 := TOk.mk' (by kernel_rfl) rfl rfl ⟨_, Try.underlying76, rfl⟩
theorem tok81 : TOk Try.prog 81 ti81 := TOk.mk' (by kernel_rfl) rfl rfl ⟨_, Try.underlying81, rfl⟩
theorem tok85 : TOk Try.prog 85 ti85 := TOk.mk' (by kernel_rfl) rfl rfl ⟨_, Try.underlying85, _, rfl, by kernel_rfl, by kernel_rfl⟩ (fun _ => ⟨⟨20, by decide, by kernel_rfl⟩, by kernel_rfl⟩)
theorem tok90 : TOk Try.prog 90 ti90 := TOk.mk' (by kernel_rfl) rfl rfl ⟨_, Try.underlying90, rfl⟩
theorem tok91 : TOk Try.prog 91 ti91 := TOk.mk' (by kernel_rfl) rfl rfl ⟨_, Try.underlying91, rfl⟩
theorem tok93 : TOk Try.prog 93 ti93 := TOk.mk' (by kernel_rfl) rfl rfl ⟨_, Try.underlying93, _, rfl, by kernel_rfl, by kernel_rfl⟩
theorem tok95 : TOk Try.prog 95 ti95 := TOk.mk' (by kernel_rfl) rfl rfl ⟨_, Try.underlying95, _, rfl, by kernel_rfl, by kernel_rfl⟩ (fun _ => ⟨⟨20, by decide, by kernel_rfl⟩, by kernel_rfl⟩)
theorem tok99 : TOk Try.prog 99 ti99 := TOk.mk' (by kernel_rfl) rfl rfl ⟨_, Try.underlying99, rfl⟩
theorem tok101 : TOk Try.prog 101 ti101 := TOk.mk' (by kernel_rfl) rfl rfl ⟨_, Try.underlying101, rfl⟩
theorem tok103 : TOk Try.prog 103 ti103 := TOk.mk' (by kernel_rfl) rfl rfl ⟨_, Try.underlying103, _, rfl, by kernel_rfl, by kernel_rfl⟩
theorem tok110 : TOk Try.prog 110 ti110 := TOk.mk' (by kernel_rfl) rfl rfl ⟨_, Try.underlying110, rfl⟩
theorem tok117 : TOk Try.prog 117 ti117 := TOk.mk' (by kernel_rfl) rfl rfl ⟨_, Try.underlying117, rfl⟩
theorem tok119 : TOk Try.prog 119 ti119 := TOk.mk' (by kernel_rfl) rfl rfl ⟨_, Try.underlying119, _, rfl, by kernel_rfl, by kernel_rfl⟩
theorem tok122 : TOk Try.prog 122 ti122 := TOk.mk' (by kernel_rfl) rfl rfl ⟨_, Try.underlying122, rfl⟩
theorem tok124 : TOk Try.prog 124 ti124 := TOk.mk' (by kernel_rfl) rfl rfl ⟨_, Try.underlying124, rfl⟩
theorem tok127 : TOk Try.prog 127 ti127 := TOk.mk' (by kernel_rfl) rfl rfl ⟨_, Try.underlying127, _, rfl, by kernel_rfl, by kernel_rfl⟩ (fun _ => ⟨⟨20, by decide, by kernel_rfl⟩, by kernel_rfl⟩)
theorem tok135 : TOk Try.prog 135 ti135 := TOk.mk' (by kernel_rfl) rfl rfl ⟨_, Try.underlying135, rfl⟩
theorem tok138 : TOk Try.prog 138 ti138 := TOk.mk' (by kernel_rfl) rfl rfl ⟨_, Try.underlying138, rfl⟩
theorem tok140 : TOk Try.prog 140 ti140 := TOk.mk' (by kernel_rfl) rfl rfl ⟨_, Try.underlying140, rfl⟩
theorem tok145 : TOk Try.prog 145 ti145 := TOk.mk' (by kernel_rfl) rfl rfl ⟨_, Try.underlying145, rfl⟩ (fun _ => ⟨⟨20, by decide, by kernel_rfl⟩, by kernel_rfl⟩)
theorem tok147 : TOk Try.prog 147 ti147 := TOk.mk' (by kernel_rfl) rfl rfl ⟨_, Try.underlying147, rfl⟩
theorem tok154 : TOk Try.prog 154 ti154 := TOk.mk' (by kernel_rfl) rfl rfl ⟨_, Try.underlying154, rfl⟩
theorem tok162 : TOk Try.prog 162 ti162 := TOk.mk' (by kernel_rfl) rfl rfl ⟨_, Try.underlying162, rfl⟩
theorem tok166 : TOk Try.prog 166 ti166 := TOk.mk' (by kernel_rfl) rfl rfl ⟨_, Try.underlying166, rfl⟩
theorem tok177 : TOk Try.prog 177 ti177 := TOk.mk' (by kernel_rfl) rfl rfl ⟨_, Try.underlying177, rfl⟩
theorem T_ok : ∀ t i, T t = some i → TOk Try.prog t i := by
  intro t i h
  unfold T at h
  split at h
  · injection h with h; subst h; exact tok3
  · injection h with h; subst h; exact tok4
  · injection h with h; subst h; exact tok5
  · injection h with h; subst h; exact tok9
  · injection h with h; subst h; exact tok22
  · injection h with h; subst h; exact tok25
  · injection h with h; subst h; exact tok27
  · injection h with h; subst h; exact tok31
  · injection h with h; subst h; exact tok39
  · injection h with h; subst h; exact tok42
  · injection h with h; subst h; exact tok46
  · injection h with h; subst h; exact tok50
  · injection h with h; subst h; exact tok52
  · injection h with h; subst h; exact tok53
  · injection h with h; subst h; exact tok55
  · injection h with h; subst h; exact tok58
  · injection h with h; subst h; exact tok59
  · injection h with h; subst h; exact tok70
  · injection h with h; subst h; exact tok71
  · injection h with h; subst h; exact tok76
  · injection h with h; subst h; exact tok81
  · injection h with h; subst h; exact tok85
  · injection h with h; subst h; exact tok90
  · injection h with h; subst h; exact tok91
  · injection h with h; subst h; exact tok93
  · injection h with h; subst h; exact tok95
  · injection h with h; subst h; exact tok99
  · injection h with h; subst h; exact tok101
  · injection h with h; subst h; exact tok103
  · injection h with h; subst h; exact tok110
  · injection h with h; subst h; exact tok117
  · injection h with h; subst h; exact tok119
  · injection h with h; subst h; exact tok122
  · injection h with h; subst h; exact tok124
  · injection h with h; subst h; exact tok127
  · injection h with h; subst h; exact tok135
  · injection h with h; subst h; exact tok138
  · injection h with h; subst h; exact tok140
  · injection h with h; subst h; exact tok145
  · injection h with h; subst h; exact tok147
  · injection h with h; subst h; exact tok154
  · injection h with h; subst h; exact tok162
  · injection h with h; subst h; exact tok166
  · injection h with h; subst h; exact tok177
  · cases h
end Go.Proofs.Ytaminglbenglfaa.Am
