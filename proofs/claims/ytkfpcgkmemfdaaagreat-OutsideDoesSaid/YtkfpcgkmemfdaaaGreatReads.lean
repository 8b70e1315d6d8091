/- Which shape each type of this seat is read by. -/
import Derived.Test.YtkfpcgkmemfdaaaGreatProg
import Derived.Test.YtkfpcgkmemfdaaaGreatLift
import Derived.Test.YtkfpcgkmemfdaaaGreatC4
namespace Go.Proofs.YtkfpcgkmemfdaaaGreat
open Go Rdn
theorem rd_int : Reads Tryz.prog 3 (Sh.int .i64) := Reads.int (by kernel_rfl) (by kernel_rfl)
theorem rd_u8 : Reads Tryz.prog 5 (Sh.int .u8) := Reads.int (by kernel_rfl) (by kernel_rfl)
theorem rd_u16 : Reads Tryz.prog 41 (Sh.int .u16) := Reads.int (by kernel_rfl) (by kernel_rfl)
theorem rd_u32 : Reads Tryz.prog 149 (Sh.int .u32) := Reads.int (by kernel_rfl) (by kernel_rfl)
theorem rd_ints : Reads Tryz.prog 25 (Sh.slice (Sh.int .i64)) := Reads.slice (by kernel_rfl) (by kernel_rfl) (by decide) (of_decide_eq_true (by kernel_rfl)) rd_int
theorem rd_bytes : Reads Tryz.prog 85 (Sh.slice (Sh.int .u8)) := Reads.slice (by kernel_rfl) (by kernel_rfl) (by decide) (of_decide_eq_true (by kernel_rfl)) rd_u8
theorem rd_words : Reads Tryz.prog 29 (Sh.slice (Sh.int .u16)) := Reads.slice (by kernel_rfl) (by kernel_rfl) (by decide) (of_decide_eq_true (by kernel_rfl)) rd_u16
theorem rd_wordss : Reads Tryz.prog 30 (Sh.slice (Sh.slice (Sh.int .u16))) := Reads.slice (by kernel_rfl) (by kernel_rfl) (by decide) (of_decide_eq_true (by kernel_rfl)) rd_words
theorem rd_Canon : Reads Tryz.prog 43 Canon.sh :=
  Reads.via (Reads.struct Tryz.underlying43 (by kernel_rfl) (Row.cons rfl rd_u8 (Row.cons rfl rd_u16 (Row.cons rfl rd_int (Row.cons rfl rd_int (Row.nil _ _)))))) (fun a => ⟨⟨a.1, a.2.1, a.2.2.1, a.2.2.2.1⟩, rfl⟩)
theorem rd_Canons : Reads Tryz.prog 22 (Sh.slice Canon.sh) := Reads.slice (by kernel_rfl) (by kernel_rfl) (by decide) (of_decide_eq_true (by kernel_rfl)) rd_Canon
theorem rd_Output : Reads Tryz.prog 45 Output.sh :=
  Reads.via (Reads.struct Tryz.underlying45 (by kernel_rfl) (Row.cons rfl rd_int (Row.cons rfl rd_int (Row.cons rfl rd_Canons (Row.nil _ _))))) (fun a => ⟨⟨a.1, a.2.1, a.2.2.1⟩, rfl⟩)
theorem rd_Outputs : Reads Tryz.prog 35 (Sh.slice Output.sh) := Reads.slice (by kernel_rfl) (by kernel_rfl) (by decide) (of_decide_eq_true (by kernel_rfl)) rd_Output
theorem rd_Canonss : Reads Tryz.prog 31 (Sh.slice (Sh.slice Canon.sh)) := Reads.slice (by kernel_rfl) (by kernel_rfl) (by decide) (of_decide_eq_true (by kernel_rfl)) rd_Canons
end Go.Proofs.YtkfpcgkmemfdaaaGreat
