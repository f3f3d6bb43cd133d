/- slices.Sorted of maps.Keys answers the keys in order: from the library's contracts. No conditions. -/
import Derived.Test.YtaminglbenglfaaSpLay
import Derived.Test.YtaminglbenglfaaTmKeys
namespace Go.Proofs.Ytaminglbenglfaa.Am
open Go Go.Proofs Go.RowKit Go.Maps Go.Sort Go.Shelf
theorem sorts_58 (m : Nat) : AnyZI.SortsIn Try.prog Try.sorted58_ren Fence.wide m :=
  ⟨fun blk off cap ss W hH hblk hsz => callsIn_wide.2 (AnyM.slices_Sort_int Try.sort82 blk off cap ss W hH hblk hsz),
   fun p cap W => callsIn_wide.2 (AnyM.slices_Sort_int_none Try.sort82 p cap W)⟩
theorem sorts_75 (m : Nat) : AnyZ.SortsIn Try.prog Try.sorted75_ren Fence.wide m :=
  ⟨fun blk off cap ss W hH hblk hsz => callsIn_wide.2 (AnyM.slices_Sort_string Try.sort91 blk off cap ss W hH hblk hsz),
   fun p cap W => callsIn_wide.2 (AnyM.slices_Sort_string_none Try.sort91 p cap W)⟩
theorem sp_59 : SpOk Try.prog 59 (.keys 83) := ⟨91, fun g w => (callsIn_wide (n := 5)).1 (AnyZI.keys_in Try.keys59 Fence.wide 5 trivial rfl (some g) w)⟩
theorem sp_58 : SpOk Try.prog 58 (.sortI 83 3) := sortI_of Try.underlying3 fun b g nn D0 w hb hown hmax hby => by
  have hseq : SeqGives Fence.wide 2 Try.prog 83 #[.pointer (some ⟨b, 0, none⟩)] encZ (fun ss => ss.Perm (intKeys D0)) (Maps.size D0) w :=
    AnyZI.keys_gives (ρ := Try.keys59_ren) { Try.keys59 with } Fence.wide _ trivial rfl (by omega) b g nn D0 w (lt_of_cell hb) hb hown
  exact (callsIn_wide (n := 5)).1 (AnyZI.sorted_in Try.sorted58 Fence.wide 5 trivial trivial trivial trivial rfl (by omega) (sorts_58 _) (enters_of Try.func82 (by kernel_rfl) rfl) 83 #[.pointer (some ⟨b, 0, none⟩)] trivial (enters_of Try.func83 (by kernel_rfl) rfl) _ _ hmax hby _ hseq)
theorem sp_76 : SpOk Try.prog 76 (.keys 92) := ⟨117, fun g w => (callsIn_wide (n := 5)).1 (AnyZ.keys_in Try.keys76 Fence.wide 5 trivial rfl (some g) w)⟩
theorem sp_75 : SpOk Try.prog 75 (.sortS 92 9) := sortS_of Try.underlying9 fun b g nn D0 w hb hown hmax hby => by
  have hseq : SeqGives Fence.wide 2 Try.prog 92 #[.pointer (some ⟨b, 0, none⟩)] encStr (fun ss => ss.Perm (strKeys D0)) (Maps.size D0) w :=
    AnyZ.keys_gives (ρ := Try.keys76_ren) { Try.keys76 with } Fence.wide _ trivial rfl (by omega) b g nn D0 w (lt_of_cell hb) hb hown
  exact (callsIn_wide (n := 5)).1 (AnyZ.sorted_in Try.sorted75 Fence.wide 5 trivial trivial trivial trivial rfl (by omega) (sorts_75 _) (enters_of Try.func91 (by kernel_rfl) rfl) 92 #[.pointer (some ⟨b, 0, none⟩)] trivial (enters_of Try.func92 (by kernel_rfl) rfl) _ _ hmax hby _ hseq)
end Go.Proofs.Ytaminglbenglfaa.Am
