/- Which shape each type of this seat is read by. -/
import Derived.Test.YtbgpfigkcpmnfaaGreatProg
import Derived.Test.YtbgpfigkcpmnfaaGreatA2
import Derived.Test.YtbgpfigkcpmnfaaGreatA5
namespace Go.Proofs.YtbgpfigkcpmnfaaGreat
open Go Rdn
theorem rd_int : Reads Tryz.prog 3 (Sh.int .i64) := Reads.int (by kernel_rfl) (by kernel_rfl)
theorem rd_u8 : Reads Tryz.prog 5 (Sh.int .u8) := Reads.int (by kernel_rfl) (by kernel_rfl)
theorem rd_ints : Reads Tryz.prog 22 (Sh.slice (Sh.int .i64)) := Reads.slice (by kernel_rfl) (by kernel_rfl) (by decide) (of_decide_eq_true (by kernel_rfl)) rd_int
theorem rd_bytes : Reads Tryz.prog 23 (Sh.slice (Sh.int .u8)) := Reads.slice (by kernel_rfl) (by kernel_rfl) (by decide) (of_decide_eq_true (by kernel_rfl)) rd_u8
end Go.Proofs.YtbgpfigkcpmnfaaGreat
