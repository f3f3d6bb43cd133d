/- The types that the abstract machine reads. No conditions. -/
import Derived.Test.YthmfeknfiekcmaaKC
import Derived.Test.YthmfeknfiekcmaaProg
import Derived.KernelRfl
namespace Go.Proofs.Ythmfeknfiekcmaa.Am
open Go
def ti3 : TI := ⟨.int .i64, 1, 8, [.int .i64 0], [], false⟩
def ti4 : TI := ⟨.bool, 1, 1, [.bool false], [], false⟩
def ti5 : TI := ⟨.int .u8, 1, 1, [.int .u8 0], [], false⟩
def ti9 : TI := ⟨.str, 1, 16, [.string ⟨#[]⟩], [], false⟩
def ti22 : TI := ⟨.slice 51, 1, 24, [.slice none 0 0], [], false⟩
def ti23 : TI := ⟨.slice 3, 1, 24, [.slice none 0 0], [], false⟩
def ti28 : TI := ⟨.ptr 68, 1, 8, [.pointer none], [], false⟩
def ti30 : TI := ⟨.slice 22, 1, 24, [.slice none 0 0], [], false⟩
def ti35 : TI := ⟨.slice 45, 1, 24, [.slice none 0 0], [], false⟩
def ti38 : TI := ⟨.arr 2 3, 2, 16, [.int .i64 0, .int .i64 0], [.i .i64, .i .i64], false⟩
def ti40 : TI := ⟨.slice 38, 1, 24, [.slice none 0 0], [], false⟩
def ti43 : TI := ⟨.int .u16, 1, 2, [.int .u16 0], [], false⟩
def ti45 : TI := ⟨.slice 5, 1, 24, [.slice none 0 0], [], false⟩
def ti47 : TI := ⟨.int .u64, 1, 8, [.int .u64 0], [], false⟩
def ti49 : TI := ⟨.arr 32 5, 32, 32, [.int .u8 0, .int .u8 0, .int .u8 0, .int .u8 0, .int .u8 0, .int .u8 0, .int .u8 0, .int .u8 0, .int .u8 0, .int .u8 0, .int .u8 0, .int .u8 0, .int .u8 0, .int .u8 0, .int .u8 0, .int .u8 0, .int .u8 0, .int .u8 0, .int .u8 0, .int .u8 0, .int .u8 0, .int .u8 0, .int .u8 0, .int .u8 0, .int .u8 0, .int .u8 0, .int .u8 0, .int .u8 0, .int .u8 0, .int .u8 0, .int .u8 0, .int .u8 0], [.i .u8, .i .u8, .i .u8, .i .u8, .i .u8, .i .u8, .i .u8, .i .u8, .i .u8, .i .u8, .i .u8, .i .u8, .i .u8, .i .u8, .i .u8, .i .u8, .i .u8, .i .u8, .i .u8, .i .u8, .i .u8, .i .u8, .i .u8, .i .u8, .i .u8, .i .u8, .i .u8, .i .u8, .i .u8, .i .u8, .i .u8, .i .u8], false⟩
def ti51 : TI := ⟨.struct [(0, 32), (32, 1), (33, 1), (34, 1), (35, 1), (36, 1), (37, 1), (38, 1), (39, 1), (40, 1)], 41, 144, [.int .u8 0, .int .u8 0, .int .u8 0, .int .u8 0, .int .u8 0, .int .u8 0, .int .u8 0, .int .u8 0, .int .u8 0, .int .u8 0, .int .u8 0, .int .u8 0, .int .u8 0, .int .u8 0, .int .u8 0, .int .u8 0, .int .u8 0, .int .u8 0, .int .u8 0, .int .u8 0, .int .u8 0, .int .u8 0, .int .u8 0, .int .u8 0, .int .u8 0, .int .u8 0, .int .u8 0, .int .u8 0, .int .u8 0, .int .u8 0, .int .u8 0, .int .u8 0, .slice none 0 0, .string ⟨#[]⟩, .int .u64 0, .int .u64 0, .int .u64 0, .int .i64 0, .int .i64 0, .int .i64 0, .slice none 0 0], [], false⟩
def ti55 : TI := ⟨.struct [(0, 1), (1, 1), (2, 1)], 3, 24, [.int .i64 0, .int .u64 0, .int .i64 0], [.i .i64, .i .u64, .i .i64], false⟩
def ti56 : TI := ⟨.arr 3 55, 9, 72, [.int .i64 0, .int .u64 0, .int .i64 0, .int .i64 0, .int .u64 0, .int .i64 0, .int .i64 0, .int .u64 0, .int .i64 0], [.i .i64, .i .u64, .i .i64, .i .i64, .i .u64, .i .i64, .i .i64, .i .u64, .i .i64], false⟩
def ti58 : TI := ⟨.arr 2 56, 18, 144, [.int .i64 0, .int .u64 0, .int .i64 0, .int .i64 0, .int .u64 0, .int .i64 0, .int .i64 0, .int .u64 0, .int .i64 0, .int .i64 0, .int .u64 0, .int .i64 0, .int .i64 0, .int .u64 0, .int .i64 0, .int .i64 0, .int .u64 0, .int .i64 0], [.i .i64, .i .u64, .i .i64, .i .i64, .i .u64, .i .i64, .i .i64, .i .u64, .i .i64, .i .i64, .i .u64, .i .i64, .i .i64, .i .u64, .i .i64, .i .i64, .i .u64, .i .i64], false⟩
def ti61 : TI := ⟨.slice 55, 1, 24, [.slice none 0 0], [], false⟩
def ti62 : TI := ⟨.ptr 94, 1, 8, [.pointer none], [], false⟩
def ti68 : TI := ⟨.struct [(0, 1), (1, 1)], 2, 32, [.slice none 0 0, .int .i64 0], [], false⟩
def ti78 : TI := ⟨.slice 23, 1, 24, [.slice none 0 0], [], false⟩
def ti85 : TI := ⟨.other, 1, 8, [.nilFunc], [], false⟩
def ti87 : TI := ⟨.struct [(0, 1), (1, 1), (2, 1)], 3, 24, [.int .i64 0, .int .u64 0, .bool false], [.i .i64, .i .u64, .b], false⟩
def ti92 : TI := ⟨.map 3 3, 1, 8, [.map none], [], false⟩
def ti94 : TI := ⟨.struct [(0, 1), (1, 1)], 2, 32, [.slice none 0 0, .map none], [], false⟩
def ti99 : TI := ⟨.other, 1, 8, [.nilFunc], [], false⟩
def ti109 : TI := ⟨.int .u64, 1, 8, [.int .u64 0], [], false⟩
def ti110 : TI := ⟨.int .u32, 1, 4, [.int .u32 0], [], false⟩
def ti111 : TI := ⟨.arr 8 110, 8, 32, [.int .u32 0, .int .u32 0, .int .u32 0, .int .u32 0, .int .u32 0, .int .u32 0, .int .u32 0, .int .u32 0], [.i .u32, .i .u32, .i .u32, .i .u32, .i .u32, .i .u32, .i .u32, .i .u32], false⟩
def ti113 : TI := ⟨.slice 9, 1, 24, [.slice none 0 0], [], false⟩
def ti119 : TI := ⟨.int .i64, 1, 8, [.int .i64 0], [], false⟩
def ti126 : TI := ⟨.arr 64 110, 64, 256, [.int .u32 0, .int .u32 0, .int .u32 0, .int .u32 0, .int .u32 0, .int .u32 0, .int .u32 0, .int .u32 0, .int .u32 0, .int .u32 0, .int .u32 0, .int .u32 0, .int .u32 0, .int .u32 0, .int .u32 0, .int .u32 0, .int .u32 0, .int .u32 0, .int .u32 0, .int .u32 0, .int .u32 0, .int .u32 0, .int .u32 0, .int .u32 0, .int .u32 0, .int .u32 0, .int .u32 0, .int .u32 0, .int .u32 0, .int .u32 0, .int .u32 0, .int .u32 0, .int .u32 0, .int .u32 0, .int .u32 0, .int .u32 0, .int .u32 0, .int .u32 0, .int .u32 0, .int .u32 0, .int .u32 0, .int .u32 0, .int .u32 0, .int .u32 0, .int .u32 0, .int .u32 0, .int .u32 0, .int .u32 0, .int .u32 0, .int .u32 0, .int .u32 0, .int .u32 0, .int .u32 0, .int .u32 0, .int .u32 0, .int .u32 0, .int .u32 0, .int .u32 0, .int .u32 0, .int .u32 0, .int .u32 0, .int .u32 0, .int .u32 0, .int .u32 0], [.i .u32, .i .u32, .i .u32, .i .u32, .i .u32, .i .u32, .i .u32, .i .u32, .i .u32, .i .u32, .i .u32, .i .u32, .i .u32, .i .u32, .i .u32, .i .u32, .i .u32, .i .u32, .i .u32, .i .u32, .i .u32, .i .u32, .i .u32, .i .u32, .i .u32, .i .u32, .i .u32, .i .u32, .i .u32, .i .u32, .i .u32, .i .u32, .i .u32, .i .u32, .i .u32, .i .u32, .i .u32, .i .u32, .i .u32, .i .u32, .i .u32, .i .u32, .i .u32, .i .u32, .i .u32, .i .u32, .i .u32, .i .u32, .i .u32, .i .u32, .i .u32, .i .u32, .i .u32, .i .u32, .i .u32, .i .u32, .i .u32, .i .u32, .i .u32, .i .u32, .i .u32, .i .u32, .i .u32, .i .u32], false⟩
def ti129 : TI := ⟨.int .u64, 1, 8, [.int .u64 0], [], false⟩
def ti133 : TI := ⟨.ptr 3, 1, 8, [.pointer none], [], false⟩
def ti135 : TI := ⟨.ptr 129, 1, 8, [.pointer none], [], false⟩
def u3 : U := .int .i64
def u4 : U := .bool
def u5 : U := .byte
def u9 : U := .str
def u49 : U := .arr 32 u5
def u45 : U := .sl u5
def u47 : U := .int .u64
def u23 : U := .sl u3
def u51 : U := .pr u49 (.pr u45 (.pr u9 (.pr u47 (.pr u47 (.pr u47 (.pr u3 (.pr u3 (.pr u3 (u23)))))))))
def u22 : U := .sl u51
def u30 : U := .sl u22
def u35 : U := .sl u45
def u38 : U := .arr 2 u3
def u40 : U := .sl u38
def u43 : U := .int .u16
def u55 : U := .pr u3 (.pr u47 (u3))
def u56 : U := .arr 3 u55
def u58 : U := .arr 2 u56
def u61 : U := .sl u55
def u68 : U := .pr u23 (u3)
def u78 : U := .sl u23
def u87 : U := .pr u3 (.pr u47 (u4))
def u109 : U := .int .u64
def u110 : U := .int .u32
def u111 : U := .arr 8 u110
def u113 : U := .sl u9
def u119 : U := .int .i64
def u126 : U := .arr 64 u110
def u129 : U := .int .u64
def TU : TypeId → Option U
  | 3 => some u3
  | 4 => some u4
  | 5 => some u5
  | 9 => some u9
  | 22 => some u22
  | 23 => some u23
  | 30 => some u30
  | 35 => some u35
  | 38 => some u38
  | 40 => some u40
  | 43 => some u43
  | 45 => some u45
  | 47 => some u47
  | 49 => some u49
  | 51 => some u51
  | 55 => some u55
  | 56 => some u56
  | 58 => some u58
  | 61 => some u61
  | 68 => some u68
  | 78 => some u78
  | 87 => some u87
  | 109 => some u109
  | 110 => some u110
  | 111 => some u111
  | 113 => some u113
  | 119 => some u119
  | 126 => some u126
  | 129 => some u129
  | _ => none
def T : TypeId → Option TI
  | 3 => some ti3
  | 4 => some ti4
  | 5 => some ti5
  | 9 => some ti9
  | 22 => some ti22
  | 23 => some ti23
  | 28 => some ti28
  | 30 => some ti30
  | 35 => some ti35
  | 38 => some ti38
  | 40 => some ti40
  | 43 => some ti43
  | 45 => some ti45
  | 47 => some ti47
  | 49 => some ti49
  | 51 => some ti51
  | 55 => some ti55
  | 56 => some ti56
  | 58 => some ti58
  | 61 => some ti61
  | 62 => some ti62
  | 68 => some ti68
  | 78 => some ti78
  | 85 => some ti85
  | 87 => some ti87
  | 92 => some ti92
  | 94 => some ti94
  | 99 => some ti99
  | 109 => some ti109
  | 110 => some ti110
  | 111 => some ti111
  | 113 => some ti113
  | 119 => some ti119
  | 126 => some ti126
  | 129 => some ti129
  | 133 => some ti133
  | 135 => some ti135
  | _ => none
theorem tok3 : TOk Try.prog 3 ti3 := TOk.mk' (by kernel_rfl) rfl rfl ⟨_, Try.underlying3, rfl⟩
theorem tok4 : TOk Try.prog 4 ti4 := TOk.mk' (by kernel_rfl) rfl rfl ⟨_, Try.underlying4, rfl⟩
theorem tok5 : TOk Try.prog 5 ti5 := TOk.mk' (by kernel_rfl) rfl rfl ⟨_, Try.underlying5, rfl⟩
theorem tok9 : TOk Try.prog 9 ti9 := TOk.mk' (by kernel_rfl) rfl rfl ⟨_, Try.underlying9, rfl⟩
theorem tok22 : TOk Try.prog 22 ti22 := TOk.mk' (by kernel_rfl) rfl rfl ⟨_, Try.underlying22, rfl⟩
theorem tok23 : TOk Try.prog 23 ti23 := TOk.mk' (by kernel_rfl) rfl rfl ⟨_, Try.underlying23, rfl⟩
theorem tok28 : TOk Try.prog 28 ti28 := TOk.mk' (by kernel_rfl) rfl rfl ⟨_, Try.underlying28, rfl⟩
theorem tok30 : TOk Try.prog 30 ti30 := TOk.mk' (by kernel_rfl) rfl rfl ⟨_, Try.underlying30, rfl⟩
theorem tok35 : TOk Try.prog 35 ti35 := TOk.mk' (by kernel_rfl) rfl rfl ⟨_, Try.underlying35, rfl⟩
theorem tok38 : TOk Try.prog 38 ti38 := TOk.mk' (by kernel_rfl) rfl rfl ⟨_, Try.underlying38, rfl⟩ (fun _ => ⟨⟨20, by decide, by kernel_rfl⟩, by kernel_rfl⟩)
theorem tok40 : TOk Try.prog 40 ti40 := TOk.mk' (by kernel_rfl) rfl rfl ⟨_, Try.underlying40, rfl⟩
theorem tok43 : TOk Try.prog 43 ti43 := TOk.mk' (by kernel_rfl) rfl rfl ⟨_, Try.underlying43, rfl⟩
theorem tok45 : TOk Try.prog 45 ti45 := TOk.mk' (by kernel_rfl) rfl rfl ⟨_, Try.underlying45, rfl⟩
theorem tok47 : TOk Try.prog 47 ti47 := TOk.mk' (by kernel_rfl) rfl rfl ⟨_, Try.underlying47, rfl⟩
theorem tok49 : TOk Try.prog 49 ti49 := TOk.mk' (by kernel_rfl) rfl rfl ⟨_, Try.underlying49, rfl⟩ (fun _ => ⟨⟨20, by decide, by kernel_rfl⟩, by kernel_rfl⟩)
theorem tok51 : TOk Try.prog 51 ti51 := TOk.mk' (by kernel_rfl) rfl rfl ⟨_, Try.underlying51, _, rfl, by kernel_rfl, by kernel_rfl⟩
theorem tok55 : TOk Try.prog 55 ti55 := TOk.mk' (by kernel_rfl) rfl rfl ⟨_, Try.underlying55, _, rfl, by kernel_rfl, by kernel_rfl⟩ (fun _ => ⟨⟨20, by decide, by kernel_rfl⟩, by kernel_rfl⟩)
theorem tok56 : TOk Try.prog 56 ti56 := TOk.mk' (by kernel_rfl) rfl rfl ⟨_, Try.underlying56, rfl⟩ (fun _ => ⟨⟨20, by decide, by kernel_rfl⟩, by kernel_rfl⟩)
theorem tok58 : TOk Try.prog 58 ti58 := TOk.mk' (by kernel_rfl) rfl rfl ⟨_, Try.underlying58, rfl⟩ (fun _ => ⟨⟨20, by decide, by kernel_rfl⟩, by kernel_rfl⟩)
theorem tok61 : TOk Try.prog 61 ti61 := TOk.mk' (by kernel_rfl) rfl rfl ⟨_, Try.underlying61, rfl⟩
theorem tok62 : TOk Try.prog 62 ti62 := TOk.mk' (by kernel_rfl) rfl rfl ⟨_, Try.underlying62, rfl⟩
theorem tok68 : TOk Try.prog 68 ti68 := TOk.mk' (by kernel_rfl) rfl rfl ⟨_, Try.underlying68, _, rfl, by kernel_rfl, by kernel_rfl⟩
theorem tok78 : TOk Try.prog 78 ti78 := TOk.mk' (by kernel_rfl) rfl rfl ⟨_, Try.underlying78, rfl⟩
theorem tok85 : TOk Try.prog 85 ti85 := TOk.mk' (by kernel_rfl) rfl rfl ⟨_, Try.underlying85, rfl⟩
theorem tok87 : TOk Try.prog 87 ti87 := TOk.mk' (by kernel_rfl) rfl rfl ⟨_, Try.underlying87, _, rfl, by kernel_rfl, by kernel_rfl⟩ (fun _ => ⟨⟨20, by decide, by kernel_rfl⟩, by kernel_rfl⟩)
theorem tok92 : TOk Try.prog 92 ti92 := TOk.mk' (by kernel_rfl) rfl rfl ⟨_, Try.underlying92, rfl⟩
theorem tok94 : TOk Try.prog 94 ti94 := TOk.mk' (by kernel_rfl) rfl rfl ⟨_, Try.underlying94, _, rfl, by kernel_rfl, by kernel_rfl⟩
theorem tok99 : TOk Try.prog 99 ti99 := TOk.mk' (by kernel_rfl) rfl rfl ⟨_, Try.underlying99, rfl⟩
theorem tok109 : TOk Try.prog 109 ti109 := TOk.mk' (by kernel_rfl) rfl rfl ⟨_, Try.underlying109, rfl⟩
theorem tok110 : TOk Try.prog 110 ti110 := TOk.mk' (by kernel_rfl) rfl rfl ⟨_, Try.underlying110, rfl⟩
theorem tok111 : TOk Try.prog 111 ti111 := TOk.mk' (by kernel_rfl) rfl rfl ⟨_, Try.underlying111, rfl⟩ (fun _ => ⟨⟨20, by decide, by kernel_rfl⟩, by kernel_rfl⟩)
theorem tok113 : TOk Try.prog 113 ti113 := TOk.mk' (by kernel_rfl) rfl rfl ⟨_, Try.underlying113, rfl⟩
theorem tok119 : TOk Try.prog 119 ti119 := TOk.mk' (by kernel_rfl) rfl rfl ⟨_, Try.underlying119, rfl⟩
theorem tok126 : TOk Try.prog 126 ti126 := TOk.mk' (by kernel_rfl) rfl rfl ⟨_, Try.underlying126, rfl⟩ (fun _ => ⟨⟨20, by decide, by kernel_rfl⟩, by kernel_rfl⟩)
theorem tok129 : TOk Try.prog 129 ti129 := TOk.mk' (by kernel_rfl) rfl rfl ⟨_, Try.underlying129, rfl⟩
theorem tok133 : TOk Try.prog 133 ti133 := TOk.mk' (by kernel_rfl) rfl rfl ⟨_, Try.underlying133, rfl⟩
theorem tok135 : TOk Try.prog 135 ti135 := TOk.mk' (by kernel_rfl) rfl rfl ⟨_, Try.underlying135, rfl⟩
theorem T_ok : ∀ t i, T t = some i → TOk Try.prog t i := by
  intro t i h
  unfold T at h
  split at h
  · injection h with h; subst h; exact tok3
  · injection h with h; subst h; exact tok4
  · injection h with h; subst h; exact tok5
  · injection h with h; subst h; exact tok9
  · injection h with h; subst h; exact tok22
  · injection h with h; subst h; exact tok23
  · injection h with h; subst h; exact tok28
  · injection h with h; subst h; exact tok30
  · injection h with h; subst h; exact tok35
  · injection h with h; subst h; exact tok38
  · injection h with h; subst h; exact tok40
  · injection h with h; subst h; exact tok43
  · injection h with h; subst h; exact tok45
  · injection h with h; subst h; exact tok47
  · injection h with h; subst h; exact tok49
  · injection h with h; subst h; exact tok51
  · injection h with h; subst h; exact tok55
  · injection h with h; subst h; exact tok56
  · injection h with h; subst h; exact tok58
  · injection h with h; subst h; exact tok61
  · injection h with h; subst h; exact tok62
  · injection h with h; subst h; exact tok68
  · injection h with h; subst h; exact tok78
  · injection h with h; subst h; exact tok85
  · injection h with h; subst h; exact tok87
  · injection h with h; subst h; exact tok92
  · injection h with h; subst h; exact tok94
  · injection h with h; subst h; exact tok99
  · injection h with h; subst h; exact tok109
  · injection h with h; subst h; exact tok110
  · injection h with h; subst h; exact tok111
  · injection h with h; subst h; exact tok113
  · injection h with h; subst h; exact tok119
  · injection h with h; subst h; exact tok126
  · injection h with h; subst h; exact tok129
  · injection h with h; subst h; exact tok133
  · injection h with h; subst h; exact tok135
  · cases h
/-- The same types; a slice that is cut at its end is given away for that. -/
def Tc : TypeId → Option TI := fun t => (T t).map fun i => { i with cut := true }
theorem Tc_ok : ∀ t i, Tc t = some i → TOk Try.prog t i := by
  intro t i h
  unfold Tc at h
  cases e : T t with
  | none => rw [e] at h; cases h
  | some j =>
    rw [e] at h
    injection h with h
    subst h
    have k := T_ok t j e
    exact ⟨k.info, k.und, k.agg, k.cmp⟩
end Go.Proofs.Ythmfeknfiekcmaa.Am
