/- Which shape each type of this seat is read by. -/
import Derived.Test.YthmjocibdepahaaGreatA2
import Derived.Test.YthmjocibdepahaaGreatA5
namespace Go.Proofs.YthmjocibdepahaaGreat
open Go Rdn
theorem rd_int : Reads Tryz.prog 3 (Sh.int .i64) := Reads.int (by kernel_rfl) (by kernel_rfl)
theorem rd_ints : Reads Tryz.prog 22 (Sh.slice (Sh.int .i64)) := Reads.slice (by kernel_rfl) (by kernel_rfl) (by decide) (of_decide_eq_true (by kernel_rfl)) rd_int
end Go.Proofs.YthmjocibdepahaaGreat
