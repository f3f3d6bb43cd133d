/- 'known' answers true. No conditions. -/
import Derived.Test.YtppefbmeogoibaaL3Known
import Derived.Test.YtppefbmeogoibaaTmKnown
namespace Go.Proofs.Ytppefbmeogoibaa.Am
open Go

theorem known_ok : FnT Try.prog 21 gTrue := fnT_true Try.func21 rfl rfl known3
end Go.Proofs.Ytppefbmeogoibaa.Am
