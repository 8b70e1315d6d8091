/- The program draws its orders by the mixed rule. -/
import Derived.Test.YtdimpaidpagbeaaProg
import Derived.Test.YtdimpaidpagbeaaDx
import Derived.KernelRfl
namespace Go.Proofs.Ytdimpaidpagbeaa
open Go Go.RowKit Rdn Rdn.Dp
theorem mixed : Try.prog.follows .mixedOrders = true := by kernel_rfl
end Go.Proofs.Ytdimpaidpagbeaa
