/- The program draws its orders by the mixed rule. -/
import Derived.Test.YtcphobeommkgeaaProg
import Derived.Test.YtcphobeommkgeaaDx
import Derived.KernelRfl
namespace Go.Proofs.Ytcphobeommkgeaa
open Go Go.RowKit Rdn Rdn.Dp
theorem mixed : Try.prog.follows .mixedOrders = true := by kernel_rfl
end Go.Proofs.Ytcphobeommkgeaa
