/- The program draws its orders by the mixed rule. -/
import Derived.Test.YtanmcjkpdkmhfaaProg
import Derived.Test.YtanmcjkpdkmhfaaDx
import Derived.KernelRfl
namespace Go.Proofs.Ytanmcjkpdkmhfaa
open Go Go.RowKit Rdn Rdn.Dp
theorem mixed : Try.prog.follows .mixedOrders = true := by kernel_rfl
end Go.Proofs.Ytanmcjkpdkmhfaa
