/- The program draws its orders by the mixed rule. -/
import Derived.Test.YtnabnofidfmidaaProg
import Derived.Test.YtnabnofidfmidaaDx
import Derived.KernelRfl
namespace Go.Proofs.Ytnabnofidfmidaa
open Go Go.RowKit Rdn Rdn.Dp
theorem mixed : Try.prog.follows .mixedOrders = true := by kernel_rfl
end Go.Proofs.Ytnabnofidfmidaa
