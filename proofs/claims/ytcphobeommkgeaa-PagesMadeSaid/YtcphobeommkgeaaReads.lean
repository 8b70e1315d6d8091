/- Which shape each type of this seat is read by. -/
import Derived.Test.YtcphobeommkgeaaProg
import Derived.Test.YtcphobeommkgeaaLift
import Derived.Test.YtcphobeommkgeaaC4
namespace Go.Proofs.Ytcphobeommkgeaa
open Go Rdn
theorem rd_int : Reads Try.prog 3 (Sh.int .i64) := Reads.int (by kernel_rfl) (by kernel_rfl)
theorem rd_u8 : Reads Try.prog 5 (Sh.int .u8) := Reads.int (by kernel_rfl) (by kernel_rfl)
theorem rd_u16 : Reads Try.prog 41 (Sh.int .u16) := Reads.int (by kernel_rfl) (by kernel_rfl)
theorem rd_u32 : Reads Try.prog 54 (Sh.int .u32) := Reads.int (by kernel_rfl) (by kernel_rfl)
theorem rd_ints : Reads Try.prog 22 (Sh.slice (Sh.int .i64)) := Reads.slice (by kernel_rfl) (by kernel_rfl) (by decide) (of_decide_eq_true (by kernel_rfl)) rd_int
theorem rd_bytes : Reads Try.prog 48 (Sh.slice (Sh.int .u8)) := Reads.slice (by kernel_rfl) (by kernel_rfl) (by decide) (of_decide_eq_true (by kernel_rfl)) rd_u8
theorem rd_Canon : Reads Try.prog 84 Canon.sh :=
  Reads.via (Reads.struct Try.underlying84 (by kernel_rfl) (Row.cons rfl rd_u8 (Row.cons rfl rd_u16 (Row.cons rfl rd_int (Row.cons rfl rd_int (Row.nil _ _)))))) (fun a => ⟨⟨a.1, a.2.1, a.2.2.1, a.2.2.2.1⟩, rfl⟩)
theorem rd_Canons : Reads Try.prog 40 (Sh.slice Canon.sh) := Reads.slice (by kernel_rfl) (by kernel_rfl) (by decide) (of_decide_eq_true (by kernel_rfl)) rd_Canon
theorem rd_View : Reads Try.prog 43 View.sh :=
  Reads.via (Reads.struct Try.underlying43 (by kernel_rfl) (Row.cons rfl rd_int (Row.cons rfl rd_int (Row.cons rfl rd_int (Row.cons rfl rd_int (Row.cons rfl rd_int (Row.cons rfl rd_int (Row.cons rfl rd_u16 (Row.cons rfl rd_Canons (Row.nil _ _)))))))))) (fun a => ⟨⟨a.1, a.2.1, a.2.2.1, a.2.2.2.1, a.2.2.2.2.1, a.2.2.2.2.2.1, a.2.2.2.2.2.2.1, a.2.2.2.2.2.2.2.1⟩, rfl⟩)
theorem rd_u32s : Reads Try.prog 53 (Sh.slice (Sh.int .u32)) := Reads.slice (by kernel_rfl) (by kernel_rfl) (by decide) (of_decide_eq_true (by kernel_rfl)) rd_u32
theorem rd_u32ss : Reads Try.prog 55 (Sh.slice (Sh.slice (Sh.int .u32))) := Reads.slice (by kernel_rfl) (by kernel_rfl) (by decide) (of_decide_eq_true (by kernel_rfl)) rd_u32s
theorem rd_Tree : Reads Try.prog 57 Tree.sh :=
  Reads.via (Reads.struct Try.underlying57 (by kernel_rfl) (Row.cons rfl rd_u32ss (Row.nil _ _))) (fun a => ⟨⟨a.1⟩, rfl⟩)
theorem rd_Canonss : Reads Try.prog 27 (Sh.slice (Sh.slice Canon.sh)) := Reads.slice (by kernel_rfl) (by kernel_rfl) (by decide) (of_decide_eq_true (by kernel_rfl)) rd_Canons
theorem rd_Views : Reads Try.prog 28 (Sh.slice View.sh) := Reads.slice (by kernel_rfl) (by kernel_rfl) (by decide) (of_decide_eq_true (by kernel_rfl)) rd_View
theorem rd_State : Reads Try.prog 30 State.sh :=
  Reads.via (Reads.struct Try.underlying30 (by kernel_rfl) (Row.cons rfl rd_Canonss (Row.cons rfl rd_Views (Row.nil _ _)))) (fun a => ⟨⟨a.1, a.2.1⟩, rfl⟩)
theorem rd_PageID : Reads Try.prog 39 PageID.sh :=
  Reads.via (Reads.struct Try.underlying39 (by kernel_rfl) (Row.cons rfl rd_int (Row.cons rfl rd_int (Row.nil _ _)))) (fun a => ⟨⟨a.1, a.2.1⟩, rfl⟩)
theorem rd_Page : Reads Try.prog 45 Page.sh :=
  Reads.via (Reads.struct Try.underlying45 (by kernel_rfl) (Row.cons rfl rd_PageID (Row.cons rfl rd_Canons (Row.cons rfl rd_View (Row.nil _ _))))) (fun a => ⟨⟨a.1, a.2.1, a.2.2.1⟩, rfl⟩)
theorem rd_Pages : Reads Try.prog 32 (Sh.slice Page.sh) := Reads.slice (by kernel_rfl) (by kernel_rfl) (by decide) (of_decide_eq_true (by kernel_rfl)) rd_Page
end Go.Proofs.Ytcphobeommkgeaa
