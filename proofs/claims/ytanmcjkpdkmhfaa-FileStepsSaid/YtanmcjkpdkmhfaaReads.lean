/- Which shape each type of this seat is read by. -/
import Derived.Test.YtanmcjkpdkmhfaaProg
import Derived.Test.YtanmcjkpdkmhfaaLift
import Derived.Test.YtanmcjkpdkmhfaaShapes
namespace Go.Proofs.Ytanmcjkpdkmhfaa
open Go Rdn
theorem rd_int : Reads Try.prog 3 (Sh.int .i64) := Reads.int (by kernel_rfl) (by kernel_rfl)
theorem rd_u8 : Reads Try.prog 5 (Sh.int .u8) := Reads.int (by kernel_rfl) (by kernel_rfl)
theorem rd_u16 : Reads Try.prog 69 (Sh.int .u16) := Reads.int (by kernel_rfl) (by kernel_rfl)
theorem rd_u32 : Reads Try.prog 111 (Sh.int .u32) := Reads.int (by kernel_rfl) (by kernel_rfl)
theorem rd_ints : Reads Try.prog 22 (Sh.slice (Sh.int .i64)) := Reads.slice (by kernel_rfl) (by kernel_rfl) (by decide) (of_decide_eq_true (by kernel_rfl)) rd_int
theorem rd_words : Reads Try.prog 52 (Sh.slice (Sh.int .u16)) := Reads.slice (by kernel_rfl) (by kernel_rfl) (by decide) (of_decide_eq_true (by kernel_rfl)) rd_u16
theorem rd_wordss : Reads Try.prog 51 (Sh.slice (Sh.slice (Sh.int .u16))) := Reads.slice (by kernel_rfl) (by kernel_rfl) (by decide) (of_decide_eq_true (by kernel_rfl)) rd_words
theorem rd_Canon : Reads Try.prog 71 Canon.sh :=
  Reads.via (Reads.struct Try.underlying71 (by kernel_rfl) (Row.cons rfl rd_u8 (Row.cons rfl rd_u16 (Row.cons rfl rd_int (Row.cons rfl rd_int (Row.nil _ _)))))) (fun a => ⟨⟨a.1, a.2.1, a.2.2.1, a.2.2.2.1⟩, rfl⟩)
theorem rd_Canons : Reads Try.prog 33 (Sh.slice Canon.sh) := Reads.slice (by kernel_rfl) (by kernel_rfl) (by decide) (of_decide_eq_true (by kernel_rfl)) rd_Canon
theorem rd_Output : Reads Try.prog 102 Output.sh :=
  Reads.via (Reads.struct Try.underlying102 (by kernel_rfl) (Row.cons rfl rd_int (Row.cons rfl rd_int (Row.cons rfl rd_Canons (Row.nil _ _))))) (fun a => ⟨⟨a.1, a.2.1, a.2.2.1⟩, rfl⟩)
theorem rd_Outputs : Reads Try.prog 61 (Sh.slice Output.sh) := Reads.slice (by kernel_rfl) (by kernel_rfl) (by decide) (of_decide_eq_true (by kernel_rfl)) rd_Output
theorem rd_Canonss : Reads Try.prog 23 (Sh.slice (Sh.slice Canon.sh)) := Reads.slice (by kernel_rfl) (by kernel_rfl) (by decide) (of_decide_eq_true (by kernel_rfl)) rd_Canons
end Go.Proofs.Ytanmcjkpdkmhfaa
