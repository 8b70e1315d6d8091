/- The program draws its orders by the mixed rule. -/
import Derived.Test.YtpdpiihnafkgjaaProg
import Derived.Test.YtpdpiihnafkgjaaDx
import Derived.KernelRfl
namespace Go.Proofs.Ytpdpiihnafkgjaa
open Go Go.RowKit Rdn Rdn.Dp
theorem mixed : Try.prog.follows .mixedOrders = true := by kernel_rfl
end Go.Proofs.Ytpdpiihnafkgjaa
