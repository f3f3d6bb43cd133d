/- The types that the abstract machine reads. No conditions. -/
import Derived.Test.YtgfmnpbcbpobbaaDoorKC
import Derived.Test.YtgfmnpbcbpobbaaDoorProg
import Derived.KernelRfl
namespace Go.Proofs.YtgfmnpbcbpobbaaDoor.Am
open Go
def ti3 : TI := ⟨.int .i64, 1, 8, [.int .i64 0], []⟩
def ti4 : TI := ⟨.bool, 1, 1, [.bool false], []⟩
def ti5 : TI := ⟨.int .u8, 1, 1, [.int .u8 0], []⟩
def ti9 : TI := ⟨.str, 1, 16, [.string ⟨#[]⟩], []⟩
def ti20 : TI := ⟨.other, 1, 16, [.nilIface], []⟩
def ti21 : TI := ⟨.int .i32, 1, 4, [.int .i32 0], []⟩
def ti23 : TI := ⟨.slice 9, 1, 24, [.slice none 0 0], []⟩
def ti26 : TI := ⟨.int .u64, 1, 8, [.int .u64 0], []⟩
def ti27 : TI := ⟨.slice 58, 1, 24, [.slice none 0 0], []⟩
def ti29 : TI := ⟨.struct [(0, 1), (1, 1), (2, 1), (3, 1), (4, 1), (5, 1)], 6, 80, [.string ⟨#[]⟩, .int .u64 0, .int .u64 0, .int .u64 0, .string ⟨#[]⟩, .slice none 0 0], []⟩
def ti30 : TI := ⟨.slice 3, 1, 24, [.slice none 0 0], []⟩
def ti35 : TI := ⟨.int .i64, 1, 8, [.int .i64 0], []⟩
def ti38 : TI := ⟨.slice 29, 1, 24, [.slice none 0 0], []⟩
def ti39 : TI := ⟨.slice 5, 1, 24, [.slice none 0 0], []⟩
def ti46 : TI := ⟨.int .u16, 1, 2, [.int .u16 0], []⟩
def ti48 : TI := ⟨.slice 39, 1, 24, [.slice none 0 0], []⟩
def ti50 : TI := ⟨.slice 54, 1, 24, [.slice none 0 0], []⟩
def ti54 : TI := ⟨.struct [(0, 1), (1, 1), (2, 1), (3, 1)], 4, 48, [.int .i64 0, .int .i64 0, .int .u64 0, .slice none 0 0], []⟩
def ti58 : TI := ⟨.struct [(0, 1), (1, 1)], 2, 24, [.string ⟨#[]⟩, .int .u64 0], [.s, .i .u64]⟩
def ti64 : TI := ⟨.slice 30, 1, 24, [.slice none 0 0], []⟩
def ti65 : TI := ⟨.ptr 83, 1, 8, [.pointer none], []⟩
def ti68 : TI := ⟨.slice 86, 1, 24, [.slice none 0 0], []⟩
def ti71 : TI := ⟨.struct [(0, 1), (1, 1)], 2, 32, [.slice none 0 0, .int .u64 0], []⟩
def ti83 : TI := ⟨.struct [(0, 1), (1, 1)], 2, 32, [.slice none 0 0, .int .i64 0], []⟩
def ti86 : TI := ⟨.struct [(0, 1), (1, 1), (2, 1)], 3, 32, [.string ⟨#[]⟩, .int .u64 0, .int .u64 0], [.s, .i .u64, .i .u64]⟩
def ti87 : TI := ⟨.slice 26, 1, 24, [.slice none 0 0], []⟩
def ti90 : TI := ⟨.struct [(0, 1)], 1, 24, [.slice none 0 0], []⟩
def ti102 : TI := ⟨.struct [(0, 1), (1, 1)], 2, 2, [.int .u8 0, .int .u8 0], [.i .u8, .i .u8]⟩
def ti103 : TI := ⟨.arr 16 102, 32, 32, [.int .u8 0, .int .u8 0, .int .u8 0, .int .u8 0, .int .u8 0, .int .u8 0, .int .u8 0, .int .u8 0, .int .u8 0, .int .u8 0, .int .u8 0, .int .u8 0, .int .u8 0, .int .u8 0, .int .u8 0, .int .u8 0, .int .u8 0, .int .u8 0, .int .u8 0, .int .u8 0, .int .u8 0, .int .u8 0, .int .u8 0, .int .u8 0, .int .u8 0, .int .u8 0, .int .u8 0, .int .u8 0, .int .u8 0, .int .u8 0, .int .u8 0, .int .u8 0], [.i .u8, .i .u8, .i .u8, .i .u8, .i .u8, .i .u8, .i .u8, .i .u8, .i .u8, .i .u8, .i .u8, .i .u8, .i .u8, .i .u8, .i .u8, .i .u8, .i .u8, .i .u8, .i .u8, .i .u8, .i .u8, .i .u8, .i .u8, .i .u8, .i .u8, .i .u8, .i .u8, .i .u8, .i .u8, .i .u8, .i .u8, .i .u8]⟩
def ti105 : TI := ⟨.ptr 90, 1, 8, [.pointer none], []⟩
def u3 : U := .int .i64
def u4 : U := .bool
def u5 : U := .byte
def u9 : U := .str
def u21 : U := .int .i32
def u23 : U := .sl u9
def u26 : U := .int .u64
def u58 : U := .pr u9 (u26)
def u27 : U := .sl u58
def u29 : U := .pr u9 (.pr u26 (.pr u26 (.pr u26 (.pr u9 (u27)))))
def u30 : U := .sl u3
def u35 : U := .int .i64
def u38 : U := .sl u29
def u39 : U := .sl u5
def u46 : U := .int .u16
def u48 : U := .sl u39
def u54 : U := .pr u3 (.pr u3 (.pr u26 (u39)))
def u50 : U := .sl u54
def u64 : U := .sl u30
def u86 : U := .pr u9 (.pr u26 (u26))
def u68 : U := .sl u86
def u71 : U := .pr u68 (u26)
def u83 : U := .pr u30 (u3)
def u87 : U := .sl u26
def u90 : U := u39
def u102 : U := .pr u5 (u5)
def u103 : U := .arr 16 u102
def TU : TypeId → Option U
  | 3 => some u3
  | 4 => some u4
  | 5 => some u5
  | 9 => some u9
  | 21 => some u21
  | 23 => some u23
  | 26 => some u26
  | 27 => some u27
  | 29 => some u29
  | 30 => some u30
  | 35 => some u35
  | 38 => some u38
  | 39 => some u39
  | 46 => some u46
  | 48 => some u48
  | 50 => some u50
  | 54 => some u54
  | 58 => some u58
  | 64 => some u64
  | 68 => some u68
  | 71 => some u71
  | 83 => some u83
  | 86 => some u86
  | 87 => some u87
  | 90 => some u90
  | 102 => some u102
  | 103 => some u103
  | _ => none
def T : TypeId → Option TI
  | 3 => some ti3
  | 4 => some ti4
  | 5 => some ti5
  | 9 => some ti9
  | 20 => some ti20
  | 21 => some ti21
  | 23 => some ti23
  | 26 => some ti26
  | 27 => some ti27
  | 29 => some ti29
  | 30 => some ti30
  | 35 => some ti35
  | 38 => some ti38
  | 39 => some ti39
  | 46 => some ti46
  | 48 => some ti48
  | 50 => some ti50
  | 54 => some ti54
  | 58 => some ti58
  | 64 => some ti64
  | 65 => some ti65
  | 68 => some ti68
  | 71 => some ti71
  | 83 => some ti83
  | 86 => some ti86
  | 87 => some ti87
  | 90 => some ti90
  | 102 => some ti102
  | 103 => some ti103
  | 105 => some ti105
  | _ => none
theorem tok3 : TOk Tryd.prog 3 ti3 := TOk.mk' (by kernel_rfl) rfl rfl ⟨_, Tryd.underlying3, rfl⟩
theorem tok4 : TOk Tryd.prog 4 ti4 := TOk.mk' (by kernel_rfl) rfl rfl ⟨_, Tryd.underlying4, rfl⟩
theorem tok5 : TOk Tryd.prog 5 ti5 := TOk.mk' (by kernel_rfl) rfl rfl ⟨_, Tryd.underlying5, rfl⟩
theorem tok9 : TOk Tryd.prog 9 ti9 := TOk.mk' (by kernel_rfl) rfl rfl ⟨_, Tryd.underlying9, rfl⟩
theorem tok20 : TOk Tryd.prog 20 ti20 := TOk.mk' (by kernel_rfl) rfl rfl ⟨_, Tryd.underlying20, rfl⟩
theorem tok21 : TOk Tryd.prog 21 ti21 := TOk.mk' (by kernel_rfl) rfl rfl ⟨_, Tryd.underlying21, rfl⟩
theorem tok23 : TOk Tryd.prog 23 ti23 := TOk.mk' (by kernel_rfl) rfl rfl ⟨_, Tryd.underlying23, rfl⟩
theorem tok26 : TOk Tryd.prog 26 ti26 := TOk.mk' (by kernel_rfl) rfl rfl ⟨_, Tryd.underlying26, rfl⟩
theorem tok27 : TOk Tryd.prog 27 ti27 := TOk.mk' (by kernel_rfl) rfl rfl ⟨_, Tryd.underlying27, rfl⟩
theorem tok29 : TOk Tryd.prog 29 ti29 := TOk.mk' (by kernel_rfl) rfl rfl ⟨_, Tryd.underlying29, _, rfl, by kernel_rfl, by kernel_rfl⟩
theorem tok30 : TOk Tryd.prog 30 ti30 := TOk.mk' (by kernel_rfl) rfl rfl ⟨_, Tryd.underlying30, rfl⟩
theorem tok35 : TOk Tryd.prog 35 ti35 := TOk.mk' (by kernel_rfl) rfl rfl ⟨_, Tryd.underlying35, rfl⟩
theorem tok38 : TOk Tryd.prog 38 ti38 := TOk.mk' (by kernel_rfl) rfl rfl ⟨_, Tryd.underlying38, rfl⟩
theorem tok39 : TOk Tryd.prog 39 ti39 := TOk.mk' (by kernel_rfl) rfl rfl ⟨_, Tryd.underlying39, rfl⟩
theorem tok46 : TOk Tryd.prog 46 ti46 := TOk.mk' (by kernel_rfl) rfl rfl ⟨_, Tryd.underlying46, rfl⟩
theorem tok48 : TOk Tryd.prog 48 ti48 := TOk.mk' (by kernel_rfl) rfl rfl ⟨_, Tryd.underlying48, rfl⟩
theorem tok50 : TOk Tryd.prog 50 ti50 := TOk.mk' (by kernel_rfl) rfl rfl ⟨_, Tryd.underlying50, rfl⟩
theorem tok54 : TOk Tryd.prog 54 ti54 := TOk.mk' (by kernel_rfl) rfl rfl ⟨_, Tryd.underlying54, _, rfl, by kernel_rfl, by kernel_rfl⟩
theorem tok58 : TOk Tryd.prog 58 ti58 := TOk.mk' (by kernel_rfl) rfl rfl ⟨_, Tryd.underlying58, _, rfl, by kernel_rfl, by kernel_rfl⟩ (fun _ => ⟨⟨20, by decide, by kernel_rfl⟩, by kernel_rfl⟩)
theorem tok64 : TOk Tryd.prog 64 ti64 := TOk.mk' (by kernel_rfl) rfl rfl ⟨_, Tryd.underlying64, rfl⟩
theorem tok65 : TOk Tryd.prog 65 ti65 := TOk.mk' (by kernel_rfl) rfl rfl ⟨_, Tryd.underlying65, rfl⟩
theorem tok68 : TOk Tryd.prog 68 ti68 := TOk.mk' (by kernel_rfl) rfl rfl ⟨_, Tryd.underlying68, rfl⟩
theorem tok71 : TOk Tryd.prog 71 ti71 := TOk.mk' (by kernel_rfl) rfl rfl ⟨_, Tryd.underlying71, _, rfl, by kernel_rfl, by kernel_rfl⟩
theorem tok83 : TOk Tryd.prog 83 ti83 := TOk.mk' (by kernel_rfl) rfl rfl ⟨_, Tryd.underlying83, _, rfl, by kernel_rfl, by kernel_rfl⟩
theorem tok86 : TOk Tryd.prog 86 ti86 := TOk.mk' (by kernel_rfl) rfl rfl ⟨_, Tryd.underlying86, _, rfl, by kernel_rfl, by kernel_rfl⟩ (fun _ => ⟨⟨20, by decide, by kernel_rfl⟩, by kernel_rfl⟩)
theorem tok87 : TOk Tryd.prog 87 ti87 := TOk.mk' (by kernel_rfl) rfl rfl ⟨_, Tryd.underlying87, rfl⟩
theorem tok90 : TOk Tryd.prog 90 ti90 := TOk.mk' (by kernel_rfl) rfl rfl ⟨_, Tryd.underlying90, _, rfl, by kernel_rfl, by kernel_rfl⟩
theorem tok102 : TOk Tryd.prog 102 ti102 := TOk.mk' (by kernel_rfl) rfl rfl ⟨_, Tryd.underlying102, _, rfl, by kernel_rfl, by kernel_rfl⟩ (fun _ => ⟨⟨20, by decide, by kernel_rfl⟩, by kernel_rfl⟩)
theorem tok103 : TOk Tryd.prog 103 ti103 := TOk.mk' (by kernel_rfl) rfl rfl ⟨_, Tryd.underlying103, rfl⟩ (fun _ => ⟨⟨20, by decide, by kernel_rfl⟩, by kernel_rfl⟩)
theorem tok105 : TOk Tryd.prog 105 ti105 := TOk.mk' (by kernel_rfl) rfl rfl ⟨_, Tryd.underlying105, rfl⟩
theorem T_ok : ∀ t i, T t = some i → TOk Tryd.prog t i := by
  intro t i h
  unfold T at h
  split at h
  · injection h with h; subst h; exact tok3
  · injection h with h; subst h; exact tok4
  · injection h with h; subst h; exact tok5
  · injection h with h; subst h; exact tok9
  · injection h with h; subst h; exact tok20
  · injection h with h; subst h; exact tok21
  · injection h with h; subst h; exact tok23
  · injection h with h; subst h; exact tok26
  · injection h with h; subst h; exact tok27
  · injection h with h; subst h; exact tok29
  · injection h with h; subst h; exact tok30
  · injection h with h; subst h; exact tok35
  · injection h with h; subst h; exact tok38
  · injection h with h; subst h; exact tok39
  · injection h with h; subst h; exact tok46
  · injection h with h; subst h; exact tok48
  · injection h with h; subst h; exact tok50
  · injection h with h; subst h; exact tok54
  · injection h with h; subst h; exact tok58
  · injection h with h; subst h; exact tok64
  · injection h with h; subst h; exact tok65
  · injection h with h; subst h; exact tok68
  · injection h with h; subst h; exact tok71
  · injection h with h; subst h; exact tok83
  · injection h with h; subst h; exact tok86
  · injection h with h; subst h; exact tok87
  · injection h with h; subst h; exact tok90
  · injection h with h; subst h; exact tok102
  · injection h with h; subst h; exact tok103
  · injection h with h; subst h; exact tok105
  · cases h
end Go.Proofs.YtgfmnpbcbpobbaaDoor.Am
