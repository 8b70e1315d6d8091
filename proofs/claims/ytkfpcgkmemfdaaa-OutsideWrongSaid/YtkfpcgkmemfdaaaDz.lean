/- The program draws its orders by the mixed rule. -/
import Derived.Test.YtkfpcgkmemfdaaaProg
import Derived.Test.YtkfpcgkmemfdaaaDx
import Derived.KernelRfl
namespace Go.Proofs.Ytkfpcgkmemfdaaa
open Go Go.RowKit Rdn Rdn.Dp
theorem mixed : Try.prog.follows .mixedOrders = true := by kernel_rfl
end Go.Proofs.Ytkfpcgkmemfdaaa
