/- Which shape each type of this seat is read by. -/
import Derived.Test.YtnabnofidfmidaaProg
import Derived.Test.YtnabnofidfmidaaLift
import Derived.Test.YtnabnofidfmidaaShapes
namespace Go.Proofs.Ytnabnofidfmidaa
open Go Rdn
theorem rd_int : Reads Try.prog 3 (Sh.int .i64) := Reads.int (by kernel_rfl) (by kernel_rfl)
theorem rd_u8 : Reads Try.prog 5 (Sh.int .u8) := Reads.int (by kernel_rfl) (by kernel_rfl)
theorem rd_u16 : Reads Try.prog 58 (Sh.int .u16) := Reads.int (by kernel_rfl) (by kernel_rfl)
theorem rd_u32 : Reads Try.prog 159 (Sh.int .u32) := Reads.int (by kernel_rfl) (by kernel_rfl)
theorem rd_ints : Reads Try.prog 22 (Sh.slice (Sh.int .i64)) := Reads.slice (by kernel_rfl) (by kernel_rfl) (by decide) (of_decide_eq_true (by kernel_rfl)) rd_int
theorem rd_bytes : Reads Try.prog 123 (Sh.slice (Sh.int .u8)) := Reads.slice (by kernel_rfl) (by kernel_rfl) (by decide) (of_decide_eq_true (by kernel_rfl)) rd_u8
theorem rd_words : Reads Try.prog 39 (Sh.slice (Sh.int .u16)) := Reads.slice (by kernel_rfl) (by kernel_rfl) (by decide) (of_decide_eq_true (by kernel_rfl)) rd_u16
theorem rd_Canon : Reads Try.prog 60 Canon.sh :=
  Reads.via (Reads.struct Try.underlying60 (by kernel_rfl) (Row.cons rfl rd_u8 (Row.cons rfl rd_u16 (Row.cons rfl rd_int (Row.cons rfl rd_int (Row.nil _ _)))))) (fun a => ⟨⟨a.1, a.2.1, a.2.2.1, a.2.2.2.1⟩, rfl⟩)
theorem rd_Canons : Reads Try.prog 27 (Sh.slice Canon.sh) := Reads.slice (by kernel_rfl) (by kernel_rfl) (by decide) (of_decide_eq_true (by kernel_rfl)) rd_Canon
end Go.Proofs.Ytnabnofidfmidaa
