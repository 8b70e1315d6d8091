/- The program draws its orders by the mixed rule. -/
import Derived.Test.YtdjjhajkpfiagaaProg
import Derived.Test.YtdjjhajkpfiagaaDx
import Derived.KernelRfl
namespace Go.Proofs.Ytdjjhajkpfiagaa
open Go Go.RowKit Rdn Rdn.Dp
theorem mixed : Try.prog.follows .mixedOrders = true := by kernel_rfl
end Go.Proofs.Ytdjjhajkpfiagaa
