/- Which shape each type of this seat is read by. -/
import Derived.Test.YtdpfglkjhdnbbaaProg
import Derived.Test.YtdpfglkjhdnbbaaLift
import Derived.Test.YtdpfglkjhdnbbaaC4
namespace Go.Proofs.Ytdpfglkjhdnbbaa
open Go Rdn
theorem rd_int : Reads Try.prog 3 (Sh.int .i64) := Reads.int (by kernel_rfl) (by kernel_rfl)
theorem rd_u8 : Reads Try.prog 5 (Sh.int .u8) := Reads.int (by kernel_rfl) (by kernel_rfl)
theorem rd_u16 : Reads Try.prog 71 (Sh.int .u16) := Reads.int (by kernel_rfl) (by kernel_rfl)
theorem rd_ints : Reads Try.prog 48 (Sh.slice (Sh.int .i64)) := Reads.slice (by kernel_rfl) (by kernel_rfl) (by decide) (of_decide_eq_true (by kernel_rfl)) rd_int
theorem rd_bytes : Reads Try.prog 24 (Sh.slice (Sh.int .u8)) := Reads.slice (by kernel_rfl) (by kernel_rfl) (by decide) (of_decide_eq_true (by kernel_rfl)) rd_u8
theorem rd_Canon : Reads Try.prog 73 Canon.sh :=
  Reads.via (Reads.struct Try.underlying73 (by kernel_rfl) (Row.cons rfl rd_u8 (Row.cons rfl rd_u16 (Row.cons rfl rd_int (Row.cons rfl rd_int (Row.nil _ _)))))) (fun a => ⟨⟨a.1, a.2.1, a.2.2.1, a.2.2.2.1⟩, rfl⟩)
theorem rd_Canons : Reads Try.prog 22 (Sh.slice Canon.sh) := Reads.slice (by kernel_rfl) (by kernel_rfl) (by decide) (of_decide_eq_true (by kernel_rfl)) rd_Canon
theorem rd_Output : Reads Try.prog 59 Output.sh :=
  Reads.via (Reads.struct Try.underlying59 (by kernel_rfl) (Row.cons rfl rd_int (Row.cons rfl rd_int (Row.cons rfl rd_Canons (Row.nil _ _))))) (fun a => ⟨⟨a.1, a.2.1, a.2.2.1⟩, rfl⟩)
theorem rd_Outputs : Reads Try.prog 30 (Sh.slice Output.sh) := Reads.slice (by kernel_rfl) (by kernel_rfl) (by decide) (of_decide_eq_true (by kernel_rfl)) rd_Output
theorem rd_Gateway : Reads Try.prog 32 Gateway.sh :=
  Reads.via (Reads.struct Try.underlying32 (by kernel_rfl) (Row.cons rfl rd_int (Row.cons rfl rd_int (Row.cons rfl rd_int (Row.cons rfl rd_Outputs (Row.nil _ _)))))) (fun a => ⟨⟨a.1, a.2.1, a.2.2.1, a.2.2.2.1⟩, rfl⟩)
theorem rd_Mailbox : Reads Try.prog 34 Mailbox.sh :=
  Reads.via (Reads.struct Try.underlying34 (by kernel_rfl) (Row.cons rfl rd_int (Row.cons rfl rd_int (Row.cons rfl rd_Outputs (Row.nil _ _))))) (fun a => ⟨⟨a.1, a.2.1, a.2.2.1⟩, rfl⟩)
theorem rd_Note : Reads Try.prog 26 Note.sh :=
  Reads.via (Reads.struct Try.underlying26 (by kernel_rfl) (Row.cons rfl rd_int (Row.cons rfl rd_int (Row.cons rfl rd_int (Row.cons rfl rd_bytes (Row.nil _ _)))))) (fun a => ⟨⟨a.1, a.2.1, a.2.2.1, a.2.2.2.1⟩, rfl⟩)
end Go.Proofs.Ytdpfglkjhdnbbaa
