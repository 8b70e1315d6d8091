/- Which shape each type of this seat is read by. -/
import Derived.Test.YtibfpmochioopaaProg
import Derived.Test.YtibfpmochioopaaLift
import Derived.Test.YtibfpmochioopaaShapes
namespace Go.Proofs.Ytibfpmochioopaa
open Go Rdn
theorem rd_int : Reads Try.prog 3 (Sh.int .i64) := Reads.int (by kernel_rfl) (by kernel_rfl)
theorem rd_u8 : Reads Try.prog 5 (Sh.int .u8) := Reads.int (by kernel_rfl) (by kernel_rfl)
theorem rd_u16 : Reads Try.prog 57 (Sh.int .u16) := Reads.int (by kernel_rfl) (by kernel_rfl)
theorem rd_u32 : Reads Try.prog 92 (Sh.int .u32) := Reads.int (by kernel_rfl) (by kernel_rfl)
theorem rd_ints : Reads Try.prog 25 (Sh.slice (Sh.int .i64)) := Reads.slice (by kernel_rfl) (by kernel_rfl) (by decide) (of_decide_eq_true (by kernel_rfl)) rd_int
theorem rd_words : Reads Try.prog 29 (Sh.slice (Sh.int .u16)) := Reads.slice (by kernel_rfl) (by kernel_rfl) (by decide) (of_decide_eq_true (by kernel_rfl)) rd_u16
theorem rd_wordss : Reads Try.prog 23 (Sh.slice (Sh.slice (Sh.int .u16))) := Reads.slice (by kernel_rfl) (by kernel_rfl) (by decide) (of_decide_eq_true (by kernel_rfl)) rd_words
theorem rd_Canon : Reads Try.prog 59 Canon.sh :=
  Reads.via (Reads.struct Try.underlying59 (by kernel_rfl) (Row.cons rfl rd_u8 (Row.cons rfl rd_u16 (Row.cons rfl rd_int (Row.cons rfl rd_int (Row.nil _ _)))))) (fun a => ⟨⟨a.1, a.2.1, a.2.2.1, a.2.2.2.1⟩, rfl⟩)
theorem rd_Canons : Reads Try.prog 24 (Sh.slice Canon.sh) := Reads.slice (by kernel_rfl) (by kernel_rfl) (by decide) (of_decide_eq_true (by kernel_rfl)) rd_Canon
theorem rd_Output : Reads Try.prog 28 Output.sh :=
  Reads.via (Reads.struct Try.underlying28 (by kernel_rfl) (Row.cons rfl rd_int (Row.cons rfl rd_int (Row.cons rfl rd_Canons (Row.nil _ _))))) (fun a => ⟨⟨a.1, a.2.1, a.2.2.1⟩, rfl⟩)
theorem rd_Outputs : Reads Try.prog 22 (Sh.slice Output.sh) := Reads.slice (by kernel_rfl) (by kernel_rfl) (by decide) (of_decide_eq_true (by kernel_rfl)) rd_Output
end Go.Proofs.Ytibfpmochioopaa
