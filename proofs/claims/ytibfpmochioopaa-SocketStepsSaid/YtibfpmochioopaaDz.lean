/- The program draws its orders by the mixed rule. -/
import Derived.Test.YtibfpmochioopaaProg
import Derived.Test.YtibfpmochioopaaDx
import Derived.KernelRfl
namespace Go.Proofs.Ytibfpmochioopaa
open Go Go.RowKit Rdn Rdn.Dp
theorem mixed : Try.prog.follows .mixedOrders = true := by kernel_rfl
end Go.Proofs.Ytibfpmochioopaa
