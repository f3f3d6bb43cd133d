/- The types that the abstract machine reads. No conditions. -/
import Derived.Test.YtppefbmeogoibaaKC
import Derived.Test.YtppefbmeogoibaaProg
import Derived.KernelRfl
namespace Go.Proofs.Ytppefbmeogoibaa.Am
open Go
def ti3 : TI := ⟨.int .i64, 1, 8, [.int .i64 0]⟩
def ti4 : TI := ⟨.bool, 1, 1, [.bool false]⟩
def ti5 : TI := ⟨.int .u8, 1, 1, [.int .u8 0]⟩
def ti9 : TI := ⟨.str, 1, 16, [.string ⟨#[]⟩]⟩
def ti22 : TI := ⟨.slice 5, 1, 24, [.slice none 0 0]⟩
def ti23 : TI := ⟨.int .u64, 1, 8, [.int .u64 0]⟩
def ti25 : TI := ⟨.slice 23, 1, 24, [.slice none 0 0]⟩
def ti30 : TI := ⟨.slice 22, 1, 24, [.slice none 0 0]⟩
def ti31 : TI := ⟨.int .i64, 1, 8, [.int .i64 0]⟩
def ti36 : TI := ⟨.int .u16, 1, 2, [.int .u16 0]⟩
def ti38 : TI := ⟨.slice 41, 1, 24, [.slice none 0 0]⟩
def ti41 : TI := ⟨.struct [(0, 1), (1, 1), (2, 1), (3, 1)], 4, 48, [.int .i64 0, .int .i64 0, .int .u64 0, .slice none 0 0]⟩
def ti49 : TI := ⟨.slice 3, 1, 24, [.slice none 0 0]⟩
def ti54 : TI := ⟨.int .u64, 1, 8, [.int .u64 0]⟩
def u3 : U := .int .i64
def u4 : U := .bool
def u5 : U := .byte
def u9 : U := .str
def u22 : U := .sl u5
def u23 : U := .int .u64
def u25 : U := .sl u23
def u30 : U := .sl u22
def u31 : U := .int .i64
def u36 : U := .int .u16
def u41 : U := .pr u3 (.pr u3 (.pr u23 (u22)))
def u38 : U := .sl u41
def u49 : U := .sl u3
def u54 : U := .int .u64
def TU : TypeId → Option U
  | 3 => some u3
  | 4 => some u4
  | 5 => some u5
  | 9 => some u9
  | 22 => some u22
  | 23 => some u23
  | 25 => some u25
  | 30 => some u30
  | 31 => some u31
  | 36 => some u36
  | 38 => some u38
  | 41 => some u41
  | 49 => some u49
  | 54 => some u54
  | _ => none
def T : TypeId → Option TI
  | 3 => some ti3
  | 4 => some ti4
  | 5 => some ti5
  | 9 => some ti9
  | 22 => some ti22
  | 23 => some ti23
  | 25 => some ti25
  | 30 => some ti30
  | 31 => some ti31
  | 36 => some ti36
  | 38 => some ti38
  | 41 => some ti41
  | 49 => some ti49
  | 54 => some ti54
  | _ => none
theorem tok3 : TOk Try.prog 3 ti3 := TOk.mk' (by kernel_rfl) rfl rfl ⟨_, Try.underlying3, rfl⟩
theorem tok4 : TOk Try.prog 4 ti4 := TOk.mk' (by kernel_rfl) rfl rfl ⟨_, Try.underlying4, rfl⟩
theorem tok5 : TOk Try.prog 5 ti5 := TOk.mk' (by kernel_rfl) rfl rfl ⟨_, Try.underlying5, rfl⟩
theorem tok9 : TOk Try.prog 9 ti9 := TOk.mk' (by kernel_rfl) rfl rfl ⟨_, Try.underlying9, rfl⟩
theorem tok22 : TOk Try.prog 22 ti22 := TOk.mk' (by kernel_rfl) rfl rfl ⟨_, Try.underlying22, rfl⟩
theorem tok23 : TOk Try.prog 23 ti23 := TOk.mk' (by kernel_rfl) rfl rfl ⟨_, Try.underlying23, rfl⟩
theorem tok25 : TOk Try.prog 25 ti25 := TOk.mk' (by kernel_rfl) rfl rfl ⟨_, Try.underlying25, rfl⟩
theorem tok30 : TOk Try.prog 30 ti30 := TOk.mk' (by kernel_rfl) rfl rfl ⟨_, Try.underlying30, rfl⟩
theorem tok31 : TOk Try.prog 31 ti31 := TOk.mk' (by kernel_rfl) rfl rfl ⟨_, Try.underlying31, rfl⟩
theorem tok36 : TOk Try.prog 36 ti36 := TOk.mk' (by kernel_rfl) rfl rfl ⟨_, Try.underlying36, rfl⟩
theorem tok38 : TOk Try.prog 38 ti38 := TOk.mk' (by kernel_rfl) rfl rfl ⟨_, Try.underlying38, rfl⟩
theorem tok41 : TOk Try.prog 41 ti41 := TOk.mk' (by kernel_rfl) rfl rfl ⟨_, Try.underlying41, _, rfl, by kernel_rfl, by kernel_rfl⟩
theorem tok49 : TOk Try.prog 49 ti49 := TOk.mk' (by kernel_rfl) rfl rfl ⟨_, Try.underlying49, rfl⟩
theorem tok54 : TOk Try.prog 54 ti54 := TOk.mk' (by kernel_rfl) rfl rfl ⟨_, Try.underlying54, rfl⟩
theorem T_ok : ∀ t i, T t = some i → TOk Try.prog t i := by
  intro t i h
  unfold T at h
  split at h
  · injection h with h; subst h; exact tok3
  · injection h with h; subst h; exact tok4
  · injection h with h; subst h; exact tok5
  · injection h with h; subst h; exact tok9
  · injection h with h; subst h; exact tok22
  · injection h with h; subst h; exact tok23
  · injection h with h; subst h; exact tok25
  · injection h with h; subst h; exact tok30
  · injection h with h; subst h; exact tok31
  · injection h with h; subst h; exact tok36
  · injection h with h; subst h; exact tok38
  · injection h with h; subst h; exact tok41
  · injection h with h; subst h; exact tok49
  · injection h with h; subst h; exact tok54
  · cases h
end Go.Proofs.Ytppefbmeogoibaa.Am
