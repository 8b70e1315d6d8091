/- The law StandbyNotes. -/
import Derived.Test.YtdpfglkjhdnbbaaR18
import Derived.Test.YtdpfglkjhdnbbaaC5
import Derived.Test.YtdpfglkjhdnbbaaReads
namespace Go.Proofs.Ytdpfglkjhdnbbaa
open Go Go.RowKit Rdn Rdn.Dp
set_option linter.unusedVariables false
set_option linter.unusedSimpArgs false
attribute [local irreducible] sReb
end Go.Proofs.Ytdpfglkjhdnbbaa
