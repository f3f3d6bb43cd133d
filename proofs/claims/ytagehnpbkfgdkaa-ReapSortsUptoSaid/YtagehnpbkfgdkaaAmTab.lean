/- The types that the abstract machine reads. No conditions. -/
import Derived.Test.YtagehnpbkfgdkaaKC
import Derived.Test.YtagehnpbkfgdkaaProg
import Derived.KernelRfl
namespace Go.Proofs.Ytagehnpbkfgdkaa.Am
open Go
def ti3 : TI := ⟨.int .i64, 1, 8, [.int .i64 0], []⟩
def ti4 : TI := ⟨.bool, 1, 1, [.bool false], []⟩
def ti5 : TI := ⟨.int .u8, 1, 1, [.int .u8 0], []⟩
def ti9 : TI := ⟨.str, 1, 16, [.string ⟨#[]⟩], []⟩
def ti22 : TI := ⟨.slice 51, 1, 24, [.slice none 0 0], []⟩
def ti23 : TI := ⟨.slice 3, 1, 24, [.slice none 0 0], []⟩
def ti28 : TI := ⟨.ptr 58, 1, 8, [.pointer none], []⟩
def ti30 : TI := ⟨.slice 22, 1, 24, [.slice none 0 0], []⟩
def ti35 : TI := ⟨.slice 45, 1, 24, [.slice none 0 0], []⟩
def ti38 : TI := ⟨.arr 2 3, 2, 16, [.int .i64 0, .int .i64 0], [.i .i64, .i .i64]⟩
def ti40 : TI := ⟨.slice 38, 1, 24, [.slice none 0 0], []⟩
def ti43 : TI := ⟨.int .u16, 1, 2, [.int .u16 0], []⟩
def ti45 : TI := ⟨.slice 5, 1, 24, [.slice none 0 0], []⟩
def ti47 : TI := ⟨.int .u64, 1, 8, [.int .u64 0], []⟩
def ti49 : TI := ⟨.arr 32 5, 32, 32, [.int .u8 0, .int .u8 0, .int .u8 0, .int .u8 0, .int .u8 0, .int .u8 0, .int .u8 0, .int .u8 0, .int .u8 0, .int .u8 0, .int .u8 0, .int .u8 0, .int .u8 0, .int .u8 0, .int .u8 0, .int .u8 0, .int .u8 0, .int .u8 0, .int .u8 0, .int .u8 0, .int .u8 0, .int .u8 0, .int .u8 0, .int .u8 0, .int .u8 0, .int .u8 0, .int .u8 0, .int .u8 0, .int .u8 0, .int .u8 0, .int .u8 0, .int .u8 0], [.i .u8, .i .u8, .i .u8, .i .u8, .i .u8, .i .u8, .i .u8, .i .u8, .i .u8, .i .u8, .i .u8, .i .u8, .i .u8, .i .u8, .i .u8, .i .u8, .i .u8, .i .u8, .i .u8, .i .u8, .i .u8, .i .u8, .i .u8, .i .u8, .i .u8, .i .u8, .i .u8, .i .u8, .i .u8, .i .u8, .i .u8, .i .u8]⟩
def ti51 : TI := ⟨.struct [(0, 32), (32, 1), (33, 1), (34, 1), (35, 1), (36, 1), (37, 1), (38, 1), (39, 1), (40, 1)], 41, 144, [.int .u8 0, .int .u8 0, .int .u8 0, .int .u8 0, .int .u8 0, .int .u8 0, .int .u8 0, .int .u8 0, .int .u8 0, .int .u8 0, .int .u8 0, .int .u8 0, .int .u8 0, .int .u8 0, .int .u8 0, .int .u8 0, .int .u8 0, .int .u8 0, .int .u8 0, .int .u8 0, .int .u8 0, .int .u8 0, .int .u8 0, .int .u8 0, .int .u8 0, .int .u8 0, .int .u8 0, .int .u8 0, .int .u8 0, .int .u8 0, .int .u8 0, .int .u8 0, .slice none 0 0, .string ⟨#[]⟩, .int .u64 0, .int .u64 0, .int .u64 0, .int .i64 0, .int .i64 0, .int .i64 0, .slice none 0 0], []⟩
def ti54 : TI := ⟨.slice 23, 1, 24, [.slice none 0 0], []⟩
def ti58 : TI := ⟨.struct [(0, 1), (1, 1)], 2, 32, [.slice none 0 0, .int .i64 0], []⟩
def ti63 : TI := ⟨.other, 1, 8, [.nilFunc], []⟩
def ti65 : TI := ⟨.struct [(0, 1), (1, 1), (2, 1)], 3, 24, [.int .i64 0, .int .u64 0, .bool false], [.i .i64, .i .u64, .b]⟩
def ti78 : TI := ⟨.int .u32, 1, 4, [.int .u32 0], []⟩
def ti79 : TI := ⟨.arr 8 78, 8, 32, [.int .u32 0, .int .u32 0, .int .u32 0, .int .u32 0, .int .u32 0, .int .u32 0, .int .u32 0, .int .u32 0], [.i .u32, .i .u32, .i .u32, .i .u32, .i .u32, .i .u32, .i .u32, .i .u32]⟩
def ti81 : TI := ⟨.slice 9, 1, 24, [.slice none 0 0], []⟩
def ti86 : TI := ⟨.int .u64, 1, 8, [.int .u64 0], []⟩
def ti87 : TI := ⟨.arr 64 78, 64, 256, [.int .u32 0, .int .u32 0, .int .u32 0, .int .u32 0, .int .u32 0, .int .u32 0, .int .u32 0, .int .u32 0, .int .u32 0, .int .u32 0, .int .u32 0, .int .u32 0, .int .u32 0, .int .u32 0, .int .u32 0, .int .u32 0, .int .u32 0, .int .u32 0, .int .u32 0, .int .u32 0, .int .u32 0, .int .u32 0, .int .u32 0, .int .u32 0, .int .u32 0, .int .u32 0, .int .u32 0, .int .u32 0, .int .u32 0, .int .u32 0, .int .u32 0, .int .u32 0, .int .u32 0, .int .u32 0, .int .u32 0, .int .u32 0, .int .u32 0, .int .u32 0, .int .u32 0, .int .u32 0, .int .u32 0, .int .u32 0, .int .u32 0, .int .u32 0, .int .u32 0, .int .u32 0, .int .u32 0, .int .u32 0, .int .u32 0, .int .u32 0, .int .u32 0, .int .u32 0, .int .u32 0, .int .u32 0, .int .u32 0, .int .u32 0, .int .u32 0, .int .u32 0, .int .u32 0, .int .u32 0, .int .u32 0, .int .u32 0, .int .u32 0, .int .u32 0], [.i .u32, .i .u32, .i .u32, .i .u32, .i .u32, .i .u32, .i .u32, .i .u32, .i .u32, .i .u32, .i .u32, .i .u32, .i .u32, .i .u32, .i .u32, .i .u32, .i .u32, .i .u32, .i .u32, .i .u32, .i .u32, .i .u32, .i .u32, .i .u32, .i .u32, .i .u32, .i .u32, .i .u32, .i .u32, .i .u32, .i .u32, .i .u32, .i .u32, .i .u32, .i .u32, .i .u32, .i .u32, .i .u32, .i .u32, .i .u32, .i .u32, .i .u32, .i .u32, .i .u32, .i .u32, .i .u32, .i .u32, .i .u32, .i .u32, .i .u32, .i .u32, .i .u32, .i .u32, .i .u32, .i .u32, .i .u32, .i .u32, .i .u32, .i .u32, .i .u32, .i .u32, .i .u32, .i .u32, .i .u32]⟩
def u3 : U := .int .i64
def u4 : U := .bool
def u5 : U := .byte
def u9 : U := .str
def u49 : U := .arr 32 u5
def u45 : U := .sl u5
def u47 : U := .int .u64
def u23 : U := .sl u3
def u51 : U := .pr u49 (.pr u45 (.pr u9 (.pr u47 (.pr u47 (.pr u47 (.pr u3 (.pr u3 (.pr u3 (u23)))))))))
def u22 : U := .sl u51
def u30 : U := .sl u22
def u35 : U := .sl u45
def u38 : U := .arr 2 u3
def u40 : U := .sl u38
def u43 : U := .int .u16
def u54 : U := .sl u23
def u58 : U := .pr u23 (u3)
def u65 : U := .pr u3 (.pr u47 (u4))
def u78 : U := .int .u32
def u79 : U := .arr 8 u78
def u81 : U := .sl u9
def u86 : U := .int .u64
def u87 : U := .arr 64 u78
def TU : TypeId → Option U
  | 3 => some u3
  | 4 => some u4
  | 5 => some u5
  | 9 => some u9
  | 22 => some u22
  | 23 => some u23
  | 30 => some u30
  | 35 => some u35
  | 38 => some u38
  | 40 => some u40
  | 43 => some u43
  | 45 => some u45
  | 47 => some u47
  | 49 => some u49
  | 51 => some u51
  | 54 => some u54
  | 58 => some u58
  | 65 => some u65
  | 78 => some u78
  | 79 => some u79
  | 81 => some u81
  | 86 => some u86
  | 87 => some u87
  | _ => none
def T : TypeId → Option TI
  | 3 => some ti3
  | 4 => some ti4
  | 5 => some ti5
  | 9 => some ti9
  | 22 => some ti22
  | 23 => some ti23
  | 28 => some ti28
  | 30 => some ti30
  | 35 => some ti35
  | 38 => some ti38
  | 40 => some ti40
  | 43 => some ti43
  | 45 => some ti45
  | 47 => some ti47
  | 49 => some ti49
  | 51 => some ti51
  | 54 => some ti54
  | 58 => some ti58
  | 63 => some ti63
  | 65 => some ti65
  | 78 => some ti78
  | 79 => some ti79
  | 81 => some ti81
  | 86 => some ti86
  | 87 => some ti87
  | _ => none
theorem tok3 : TOk Try.prog 3 ti3 := TOk.mk' (by kernel_rfl) rfl rfl ⟨_, Try.underlying3, rfl⟩
theorem tok4 : TOk Try.prog 4 ti4 := TOk.mk' (by kernel_rfl) rfl rfl ⟨_, Try.underlying4, rfl⟩
theorem tok5 : TOk Try.prog 5 ti5 := TOk.mk' (by kernel_rfl) rfl rfl ⟨_, Try.underlying5, rfl⟩
theorem tok9 : TOk Try.prog 9 ti9 := TOk.mk' (by kernel_rfl) rfl rfl ⟨_, Try.underlying9, rfl⟩
theorem tok22 : TOk Try.prog 22 ti22 := TOk.mk' (by kernel_rfl) rfl rfl ⟨_, Try.underlying22, rfl⟩
theorem tok23 : TOk Try.prog 23 ti23 := TOk.mk' (by kernel_rfl) rfl rfl ⟨_, Try.underlying23, rfl⟩
theorem tok28 : TOk Try.prog 28 ti28 := TOk.mk' (by kernel_rfl) rfl rfl ⟨_, Try.underlying28, rfl⟩
theorem tok30 : TOk Try.prog 30 ti30 := TOk.mk' (by kernel_rfl) rfl rfl ⟨_, Try.underlying30, rfl⟩
theorem tok35 : TOk Try.prog 35 ti35 := TOk.mk' (by kernel_rfl) rfl rfl ⟨_, Try.underlying35, rfl⟩
theorem tok38 : TOk Try.prog 38 ti38 := TOk.mk' (by kernel_rfl) rfl rfl ⟨_, Try.underlying38, rfl⟩ (fun _ => ⟨⟨20, by decide, by kernel_rfl⟩, by kernel_rfl⟩)
theorem tok40 : TOk Try.prog 40 ti40 := TOk.mk' (by kernel_rfl) rfl rfl ⟨_, Try.underlying40, rfl⟩
theorem tok43 : TOk Try.prog 43 ti43 := TOk.mk' (by kernel_rfl) rfl rfl ⟨_, Try.underlying43, rfl⟩
theorem tok45 : TOk Try.prog 45 ti45 := TOk.mk' (by kernel_rfl) rfl rfl ⟨_, Try.underlying45, rfl⟩
theorem tok47 : TOk Try.prog 47 ti47 := TOk.mk' (by kernel_rfl) rfl rfl ⟨_, Try.underlying47, rfl⟩
theorem tok49 : TOk Try.prog 49 ti49 := TOk.mk' (by kernel_rfl) rfl rfl ⟨_, Try.underlying49, rfl⟩ (fun _ => ⟨⟨20, by decide, by kernel_rfl⟩, by kernel_rfl⟩)
theorem tok51 : TOk Try.prog 51 ti51 := TOk.mk' (by kernel_rfl) rfl rfl ⟨_, Try.underlying51, _, rfl, by kernel_rfl, by kernel_rfl⟩
theorem tok54 : TOk Try.prog 54 ti54 := TOk.mk' (by kernel_rfl) rfl rfl ⟨_, Try.underlying54, rfl⟩
theorem tok58 : TOk Try.prog 58 ti58 := TOk.mk' (by kernel_rfl) rfl rfl ⟨_, Try.underlying58, _, rfl, by kernel_rfl, by kernel_rfl⟩
theorem tok63 : TOk Try.prog 63 ti63 := TOk.mk' (by kernel_rfl) rfl rfl ⟨_, Try.underlying63, rfl⟩
theorem tok65 : TOk Try.prog 65 ti65 := TOk.mk' (by kernel_rfl) rfl rfl ⟨_, Try.underlying65, _, rfl, by kernel_rfl, by kernel_rfl⟩ (fun _ => ⟨⟨20, by decide, by kernel_rfl⟩, by kernel_rfl⟩)
theorem tok78 : TOk Try.prog 78 ti78 := TOk.mk' (by kernel_rfl) rfl rfl ⟨_, Try.underlying78, rfl⟩
theorem tok79 : TOk Try.prog 79 ti79 := TOk.mk' (by kernel_rfl) rfl rfl ⟨_, Try.underlying79, rfl⟩ (fun _ => ⟨⟨20, by decide, by kernel_rfl⟩, by kernel_rfl⟩)
theorem tok81 : TOk Try.prog 81 ti81 := TOk.mk' (by kernel_rfl) rfl rfl ⟨_, Try.underlying81, rfl⟩
theorem tok86 : TOk Try.prog 86 ti86 := TOk.mk' (by kernel_rfl) rfl rfl ⟨_, Try.underlying86, rfl⟩
theorem tok87 : TOk Try.prog 87 ti87 := TOk.mk' (by kernel_rfl) rfl rfl ⟨_, Try.underlying87, rfl⟩ (fun _ => ⟨⟨20, by decide, by kernel_rfl⟩, by kernel_rfl⟩)
theorem T_ok : ∀ t i, T t = some i → TOk Try.prog t i := by
  intro t i h
  unfold T at h
  split at h
  · injection h with h; subst h; exact tok3
  · injection h with h; subst h; exact tok4
  · injection h with h; subst h; exact tok5
  · injection h with h; subst h; exact tok9
  · injection h with h; subst h; exact tok22
  · injection h with h; subst h; exact tok23
  · injection h with h; subst h; exact tok28
  · injection h with h; subst h; exact tok30
  · injection h with h; subst h; exact tok35
  · injection h with h; subst h; exact tok38
  · injection h with h; subst h; exact tok40
  · injection h with h; subst h; exact tok43
  · injection h with h; subst h; exact tok45
  · injection h with h; subst h; exact tok47
  · injection h with h; subst h; exact tok49
  · injection h with h; subst h; exact tok51
  · injection h with h; subst h; exact tok54
  · injection h with h; subst h; exact tok58
  · injection h with h; subst h; exact tok63
  · injection h with h; subst h; exact tok65
  · injection h with h; subst h; exact tok78
  · injection h with h; subst h; exact tok79
  · injection h with h; subst h; exact tok81
  · injection h with h; subst h; exact tok86
  · injection h with h; subst h; exact tok87
  · cases h
end Go.Proofs.Ytagehnpbkfgdkaa.Am
