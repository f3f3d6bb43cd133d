/- A fixed example holds: by reckoning. No conditions. -/
import Derived.Test.YtjbgdpjgfjnkbaaGreatDoorFAll
import Derived.KernelRfl
namespace Go.Proofs.YtjbgdpjgfjnkbaaGreatDoor.Am
open Go
set_option maxRecDepth 100000
theorem uM:F9=some true:=by
 rw[show fu0=⟨1180591620717411303424⟩from congrArg Fu.mk DQ]
 kernel_rfl
end Go.Proofs.YtjbgdpjgfjnkbaaGreatDoor.Am
