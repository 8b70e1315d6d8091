/-
  No cell of these rows narrows 'for every input' (looked for: loops, veiled, ifaces, maps, wideKeys, modest, calm, conditions, laid).
  DERIVED. THE GIVEN ROWS OF THIS SEAT. 4 by the template 'for every input the law returns true; each argument reads behind the call as it read before'; 0 by the template 'total and deterministic' (their statements: YtdpfglkjhdnbbaaTotals.lean).
  GIVEN WITH THE SEED: the statements are not yours to turn. If you find one false, say at which input.
  Laid BY PROGRAM, IN A SANDBOX (cutbox-rows.mjs): the forced cells as the released guide's own fill.sh prints them over the translation 21517e78f3fb56a0… (all of the seat's roots in one cut). By AI agents, Wed Nov 11 2026. No macro, syntax, notation, axiom, sorry.
-/
import Derived.Test.YtdpfglkjhdnbbaaChecked
import GoSem.Claim
import GoSem.ClaimJoined
import GoSem.ClaimMapViews
import Derived.JoinedTies
import Derived.KernelRfl
namespace Go.Proofs.Ytdpfglkjhdnbbaa
/- THE CELL 'sum', in the pinned program and in every row, IS THE sha256 OF THE DUMP (.gsa) THAT YtdpfglkjhdnbbaaProg.lean LOADS. Nothing in Lean hashes anything: it is a label: what it is worth is what the hold of that sum in a sandbox is worth. -/
noncomputable def Try.pinned : Pinned := { name := "ytdpfglkjhdnbbaa", sum := "21517e78f3fb56a07daa9e6aaf1c264e4b23039a3a2849ebe605e81528207600", checked := Try.checked }
namespace Rows
def none {H : Type} : Left H := { results := [], args := [] }

/-- 'redundancylaw40.StandbyNotes': WHATEVER THE INPUT: true; the input reads as it did. -/
def standbyNotesSpec : ChangeSpec := { name := "standbyNotes", fn := fun _ => fun
  | [d1, d2, d3, d4] => { results := [.lit (.bool true)], args := [d1, d2, d3, d4] }
  | _ => none }
def standbyNotesRow : OpenClaim := { program := "ytdpfglkjhdnbbaa", sum := "21517e78f3fb56a07daa9e6aaf1c264e4b23039a3a2849ebe605e81528207600", func := "redundancy/redundancylaw40.StandbyNotes", spec := "standbyNotes", unfollowed := true, recurses := true, apart := false }
def StandbyNotesSaid : Prop := standbyNotesRow.holds Try.pinned (OpenSpec.ofChange standbyNotesSpec)

/-- ITS FALSE NEIGHBOUR: 'it returns false'. Refute it at one input. -/
def standbyNotesWrong : ChangeSpec := { name := "standbyNotes", fn := fun _ => fun
  | [d1, d2, d3, d4] => { results := [.lit (.bool false)], args := [d1, d2, d3, d4] }
  | _ => none }
def StandbyNotesWrongFalsely : Prop := standbyNotesRow.holds Try.pinned (OpenSpec.ofChange standbyNotesWrong)

/-- 'redundancylaw40.StandbyReturns': WHATEVER THE INPUT: true; the input reads as it did. -/
def standbyReturnsSpec : ChangeSpec := { name := "standbyReturns", fn := fun _ => fun
  | [d1, d2] => { results := [.lit (.bool true)], args := [d1, d2] }
  | _ => none }
def standbyReturnsRow : OpenClaim := { program := "ytdpfglkjhdnbbaa", sum := "21517e78f3fb56a07daa9e6aaf1c264e4b23039a3a2849ebe605e81528207600", func := "redundancy/redundancylaw40.StandbyReturns", spec := "standbyReturns", unfollowed := true, recurses := true, apart := false }
def StandbyReturnsSaid : Prop := standbyReturnsRow.holds Try.pinned (OpenSpec.ofChange standbyReturnsSpec)

/-- ITS FALSE NEIGHBOUR: 'it returns false'. Refute it at one input. -/
def standbyReturnsWrong : ChangeSpec := { name := "standbyReturns", fn := fun _ => fun
  | [d1, d2] => { results := [.lit (.bool false)], args := [d1, d2] }
  | _ => none }
def StandbyReturnsWrongFalsely : Prop := standbyReturnsRow.holds Try.pinned (OpenSpec.ofChange standbyReturnsWrong)

/-- 'redundancylaw40.StandbyRaw': WHATEVER THE INPUT: true; the input reads as it did. -/
def standbyRawSpec : ChangeSpec := { name := "standbyRaw", fn := fun _ => fun
  | [d1, d2, d3, d4, d5] => { results := [.lit (.bool true)], args := [d1, d2, d3, d4, d5] }
  | _ => none }
def standbyRawRow : OpenClaim := { program := "ytdpfglkjhdnbbaa", sum := "21517e78f3fb56a07daa9e6aaf1c264e4b23039a3a2849ebe605e81528207600", func := "redundancy/redundancylaw40.StandbyRaw", spec := "standbyRaw", unfollowed := true, recurses := true, apart := false }
def StandbyRawSaid : Prop := standbyRawRow.holds Try.pinned (OpenSpec.ofChange standbyRawSpec)

/-- ITS FALSE NEIGHBOUR: 'it returns false'. Refute it at one input. -/
def standbyRawWrong : ChangeSpec := { name := "standbyRaw", fn := fun _ => fun
  | [d1, d2, d3, d4, d5] => { results := [.lit (.bool false)], args := [d1, d2, d3, d4, d5] }
  | _ => none }
def StandbyRawWrongFalsely : Prop := standbyRawRow.holds Try.pinned (OpenSpec.ofChange standbyRawWrong)

/-- 'redundancylaw40.StandbyOnce': WHATEVER THE INPUT: true; the input reads as it did. -/
def standbyOnceSpec : ChangeSpec := { name := "standbyOnce", fn := fun _ => fun
  | [d] => { results := [.lit (.bool true)], args := [d] }
  | _ => none }
def standbyOnceRow : OpenClaim := { program := "ytdpfglkjhdnbbaa", sum := "21517e78f3fb56a07daa9e6aaf1c264e4b23039a3a2849ebe605e81528207600", func := "redundancy/redundancylaw40.StandbyOnce", spec := "standbyOnce", unfollowed := true, recurses := true, apart := false }
def StandbyOnceSaid : Prop := standbyOnceRow.holds Try.pinned (OpenSpec.ofChange standbyOnceSpec)

/-- ITS FALSE NEIGHBOUR: 'it returns false'. Refute it at one input. -/
def standbyOnceWrong : ChangeSpec := { name := "standbyOnce", fn := fun _ => fun
  | [d] => { results := [.lit (.bool false)], args := [d] }
  | _ => none }
def StandbyOnceWrongFalsely : Prop := standbyOnceRow.holds Try.pinned (OpenSpec.ofChange standbyOnceWrong)

/- THE SECOND FORM. 'bulk': how many values and letters a reading holds, each counted each time it is reached (what is shared counts as often as it is met; a slice's spare places count too). A statement '..UptoSaid' is the law's where the arguments, and the package variables that the reading takes, are together of bulk at most 1048576: NARROWER than '..Said'. Prove '..Said' where nothing that the law and all that it calls make is longer than what came in: it says more and counts as full. Else prove '..UptoSaid'. A law counts once. -/
mutual
def uptoBulk {H : Type} : DataW H → Nat
  | .lit (.string bytes) => bytes.length + 1
  | .lit _ => 1
  | .nil => 1
  | .ptr d => uptoBulk d + 1
  | .slice elems spare => uptoBulkAll elems + uptoBulkAll spare + 1
  | .agg parts => uptoBulkAll parts + 1
  | .iface _ d => uptoBulk d + 1
  | .map entries => uptoBulkEntries entries + 1
  | .held _ => 1
def uptoBulkAll {H : Type} : List (DataW H) → Nat
  | [] => 0
  | d :: r => uptoBulk d + uptoBulkAll r
def uptoBulkEntries {H : Type} : List (Lit × DataW H) → Nat
  | [] => 0
  | x :: r => uptoBulkEntry x + uptoBulkEntries r
def uptoBulkEntry {H : Type} : Lit × DataW H → Nat
  | (.string bytes, d) => bytes.length + uptoBulk d + 1
  | (_, d) => uptoBulk d + 1
 end
def uptoSmall : (H : Type) → List (DataW H) → Bool := fun _ ds => decide (uptoBulkAll ds ≤ 1048576)
def OpenSpec.upto (s : _root_.Go.ChangeSpec) : _root_.Go.OpenSpec := { _root_.Go.OpenSpec.ofChange s with cond := some uptoSmall }

/-- 'redundancylaw40.StandbyNotes', WHERE WHAT IT READS IS OF BULK AT MOST 1048576: true; the input reads as it did. -/
def standbyNotesUptoRow : OpenClaim := { program := "ytdpfglkjhdnbbaa", sum := "21517e78f3fb56a07daa9e6aaf1c264e4b23039a3a2849ebe605e81528207600", func := "redundancy/redundancylaw40.StandbyNotes", spec := "standbyNotes", unfollowed := true, recurses := true, apart := false, narrowed := true }
def StandbyNotesUptoSaid : Prop := standbyNotesUptoRow.holds Try.pinned (OpenSpec.upto standbyNotesSpec)

/-- 'redundancylaw40.StandbyReturns', WHERE WHAT IT READS IS OF BULK AT MOST 1048576: true; the input reads as it did. -/
def standbyReturnsUptoRow : OpenClaim := { program := "ytdpfglkjhdnbbaa", sum := "21517e78f3fb56a07daa9e6aaf1c264e4b23039a3a2849ebe605e81528207600", func := "redundancy/redundancylaw40.StandbyReturns", spec := "standbyReturns", unfollowed := true, recurses := true, apart := false, narrowed := true }
def StandbyReturnsUptoSaid : Prop := standbyReturnsUptoRow.holds Try.pinned (OpenSpec.upto standbyReturnsSpec)

/-- 'redundancylaw40.StandbyRaw', WHERE WHAT IT READS IS OF BULK AT MOST 1048576: true; the input reads as it did. -/
def standbyRawUptoRow : OpenClaim := { program := "ytdpfglkjhdnbbaa", sum := "21517e78f3fb56a07daa9e6aaf1c264e4b23039a3a2849ebe605e81528207600", func := "redundancy/redundancylaw40.StandbyRaw", spec := "standbyRaw", unfollowed := true, recurses := true, apart := false, narrowed := true }
def StandbyRawUptoSaid : Prop := standbyRawUptoRow.holds Try.pinned (OpenSpec.upto standbyRawSpec)

/-- 'redundancylaw40.StandbyOnce', WHERE WHAT IT READS IS OF BULK AT MOST 1048576: true; the input reads as it did. -/
def standbyOnceUptoRow : OpenClaim := { program := "ytdpfglkjhdnbbaa", sum := "21517e78f3fb56a07daa9e6aaf1c264e4b23039a3a2849ebe605e81528207600", func := "redundancy/redundancylaw40.StandbyOnce", spec := "standbyOnce", unfollowed := true, recurses := true, apart := false, narrowed := true }
def StandbyOnceUptoSaid : Prop := standbyOnceUptoRow.holds Try.pinned (OpenSpec.upto standbyOnceSpec)

end Rows
end Go.Proofs.Ytdpfglkjhdnbbaa
