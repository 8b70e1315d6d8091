/-
  No cell of these rows narrows 'for every input' (looked for: loops, veiled, ifaces, maps, wideKeys, modest, calm, conditions, laid).
  DERIVED. THE GIVEN ROWS OF THIS SEAT. 9 by the template 'for every input the law returns true; each argument reads behind the call as it read before'; 0 by the template 'total and deterministic' (their statements: YtdjjhajkpfiagaaTotals.lean).
  GIVEN WITH THE SEED: the statements are not yours to turn. If you find one false, say at which input.
  Laid BY PROGRAM, IN A SANDBOX (cutbox-rows.mjs): the forced cells as the released guide's own fill.sh prints them over the translation 72c6831ec720077f… (all of the seat's roots in one cut). By AI agents, Wed Nov 11 2026. No macro, syntax, notation, axiom, sorry.
-/
import Derived.Test.YtdjjhajkpfiagaaChecked
import GoSem.Claim
import GoSem.ClaimJoined
import GoSem.ClaimMapViews
import Derived.JoinedTies
import Derived.KernelRfl
namespace Go.Proofs.Ytdjjhajkpfiagaa
/- THE CELL 'sum', in the pinned program and in every row, IS THE sha256 OF THE DUMP (.gsa) THAT YtdjjhajkpfiagaaProg.lean LOADS. Nothing in Lean hashes anything: it is a label: what it is worth is what the hold of that sum in a sandbox is worth. -/
noncomputable def Try.pinned : Pinned := { name := "ytdjjhajkpfiagaa", sum := "72c6831ec720077f76116dfb4ec89f4d61397bbec13575ca0d33936a62669471", checked := Try.checked }
namespace Rows
def none {H : Type} : Left H := { results := [], args := [] }

/-- 'redundancylaw39.JournalByte': WHATEVER THE INPUT: true; the input reads as it did. -/
def journalByteSpec : ChangeSpec := { name := "journalByte", fn := fun _ => fun
  | [d1, d2, d3] => { results := [.lit (.bool true)], args := [d1, d2, d3] }
  | _ => none }
def journalByteRow : OpenClaim := { program := "ytdjjhajkpfiagaa", sum := "72c6831ec720077f76116dfb4ec89f4d61397bbec13575ca0d33936a62669471", func := "redundancy/redundancylaw39.JournalByte", spec := "journalByte", apart := false }
def JournalByteSaid : Prop := journalByteRow.holds Try.pinned (OpenSpec.ofChange journalByteSpec)

/-- ITS FALSE NEIGHBOUR: 'it returns false'. Refute it at one input. -/
def journalByteWrong : ChangeSpec := { name := "journalByte", fn := fun _ => fun
  | [d1, d2, d3] => { results := [.lit (.bool false)], args := [d1, d2, d3] }
  | _ => none }
def JournalByteWrongFalsely : Prop := journalByteRow.holds Try.pinned (OpenSpec.ofChange journalByteWrong)

/-- 'redundancylaw39.JournalNotes': WHATEVER THE INPUT: true; the input reads as it did. -/
def journalNotesSpec : ChangeSpec := { name := "journalNotes", fn := fun _ => fun
  | [d1, d2, d3] => { results := [.lit (.bool true)], args := [d1, d2, d3] }
  | _ => none }
def journalNotesRow : OpenClaim := { program := "ytdjjhajkpfiagaa", sum := "72c6831ec720077f76116dfb4ec89f4d61397bbec13575ca0d33936a62669471", func := "redundancy/redundancylaw39.JournalNotes", spec := "journalNotes", apart := false }
def JournalNotesSaid : Prop := journalNotesRow.holds Try.pinned (OpenSpec.ofChange journalNotesSpec)

/-- ITS FALSE NEIGHBOUR: 'it returns false'. Refute it at one input. -/
def journalNotesWrong : ChangeSpec := { name := "journalNotes", fn := fun _ => fun
  | [d1, d2, d3] => { results := [.lit (.bool false)], args := [d1, d2, d3] }
  | _ => none }
def JournalNotesWrongFalsely : Prop := journalNotesRow.holds Try.pinned (OpenSpec.ofChange journalNotesWrong)

/-- 'redundancylaw38.GatewayRaw': WHATEVER THE INPUT: true; the input reads as it did. -/
def gatewayRawSpec : ChangeSpec := { name := "gatewayRaw", fn := fun _ => fun
  | [d1, d2, d3, d4, d5, d6, d7] => { results := [.lit (.bool true)], args := [d1, d2, d3, d4, d5, d6, d7] }
  | _ => none }
def gatewayRawRow : OpenClaim := { program := "ytdjjhajkpfiagaa", sum := "72c6831ec720077f76116dfb4ec89f4d61397bbec13575ca0d33936a62669471", func := "redundancy/redundancylaw38.GatewayRaw", spec := "gatewayRaw", apart := false }
def GatewayRawSaid : Prop := gatewayRawRow.holds Try.pinned (OpenSpec.ofChange gatewayRawSpec)

/-- ITS FALSE NEIGHBOUR: 'it returns false'. Refute it at one input. -/
def gatewayRawWrong : ChangeSpec := { name := "gatewayRaw", fn := fun _ => fun
  | [d1, d2, d3, d4, d5, d6, d7] => { results := [.lit (.bool false)], args := [d1, d2, d3, d4, d5, d6, d7] }
  | _ => none }
def GatewayRawWrongFalsely : Prop := gatewayRawRow.holds Try.pinned (OpenSpec.ofChange gatewayRawWrong)

/-- 'redundancylaw38.GatewayRuns': WHATEVER THE INPUT: true; the input reads as it did. -/
def gatewayRunsSpec : ChangeSpec := { name := "gatewayRuns", fn := fun _ => fun
  | [d] => { results := [.lit (.bool true)], args := [d] }
  | _ => none }
def gatewayRunsRow : OpenClaim := { program := "ytdjjhajkpfiagaa", sum := "72c6831ec720077f76116dfb4ec89f4d61397bbec13575ca0d33936a62669471", func := "redundancy/redundancylaw38.GatewayRuns", spec := "gatewayRuns", apart := false }
def GatewayRunsSaid : Prop := gatewayRunsRow.holds Try.pinned (OpenSpec.ofChange gatewayRunsSpec)

/-- ITS FALSE NEIGHBOUR: 'it returns false'. Refute it at one input. -/
def gatewayRunsWrong : ChangeSpec := { name := "gatewayRuns", fn := fun _ => fun
  | [d] => { results := [.lit (.bool false)], args := [d] }
  | _ => none }
def GatewayRunsWrongFalsely : Prop := gatewayRunsRow.holds Try.pinned (OpenSpec.ofChange gatewayRunsWrong)

/-- 'redundancylaw38.GatewayOnce': WHATEVER THE INPUT: true; the input reads as it did. -/
def gatewayOnceSpec : ChangeSpec := { name := "gatewayOnce", fn := fun _ => fun
  | [d] => { results := [.lit (.bool true)], args := [d] }
  | _ => none }
def gatewayOnceRow : OpenClaim := { program := "ytdjjhajkpfiagaa", sum := "72c6831ec720077f76116dfb4ec89f4d61397bbec13575ca0d33936a62669471", func := "redundancy/redundancylaw38.GatewayOnce", spec := "gatewayOnce", apart := false }
def GatewayOnceSaid : Prop := gatewayOnceRow.holds Try.pinned (OpenSpec.ofChange gatewayOnceSpec)

/-- ITS FALSE NEIGHBOUR: 'it returns false'. Refute it at one input. -/
def gatewayOnceWrong : ChangeSpec := { name := "gatewayOnce", fn := fun _ => fun
  | [d] => { results := [.lit (.bool false)], args := [d] }
  | _ => none }
def GatewayOnceWrongFalsely : Prop := gatewayOnceRow.holds Try.pinned (OpenSpec.ofChange gatewayOnceWrong)

/-- 'redundancylaw38.GatewayWaits': WHATEVER THE INPUT: true; the input reads as it did. -/
def gatewayWaitsSpec : ChangeSpec := { name := "gatewayWaits", fn := fun _ => fun
  | [d1, d2, d3] => { results := [.lit (.bool true)], args := [d1, d2, d3] }
  | _ => none }
def gatewayWaitsRow : OpenClaim := { program := "ytdjjhajkpfiagaa", sum := "72c6831ec720077f76116dfb4ec89f4d61397bbec13575ca0d33936a62669471", func := "redundancy/redundancylaw38.GatewayWaits", spec := "gatewayWaits", apart := false }
def GatewayWaitsSaid : Prop := gatewayWaitsRow.holds Try.pinned (OpenSpec.ofChange gatewayWaitsSpec)

/-- ITS FALSE NEIGHBOUR: 'it returns false'. Refute it at one input. -/
def gatewayWaitsWrong : ChangeSpec := { name := "gatewayWaits", fn := fun _ => fun
  | [d1, d2, d3] => { results := [.lit (.bool false)], args := [d1, d2, d3] }
  | _ => none }
def GatewayWaitsWrongFalsely : Prop := gatewayWaitsRow.holds Try.pinned (OpenSpec.ofChange gatewayWaitsWrong)

/-- 'redundancylaw39.JournalRaw': WHATEVER THE INPUT: true; the input reads as it did. -/
def journalRawSpec : ChangeSpec := { name := "journalRaw", fn := fun _ => fun
  | [d1, d2] => { results := [.lit (.bool true)], args := [d1, d2] }
  | _ => none }
def journalRawRow : OpenClaim := { program := "ytdjjhajkpfiagaa", sum := "72c6831ec720077f76116dfb4ec89f4d61397bbec13575ca0d33936a62669471", func := "redundancy/redundancylaw39.JournalRaw", spec := "journalRaw", apart := false }
def JournalRawSaid : Prop := journalRawRow.holds Try.pinned (OpenSpec.ofChange journalRawSpec)

/-- ITS FALSE NEIGHBOUR: 'it returns false'. Refute it at one input. -/
def journalRawWrong : ChangeSpec := { name := "journalRaw", fn := fun _ => fun
  | [d1, d2] => { results := [.lit (.bool false)], args := [d1, d2] }
  | _ => none }
def JournalRawWrongFalsely : Prop := journalRawRow.holds Try.pinned (OpenSpec.ofChange journalRawWrong)

/-- 'redundancylaw39.JournalMade': WHATEVER THE INPUT: true; the input reads as it did. -/
def journalMadeSpec : ChangeSpec := { name := "journalMade", fn := fun _ => fun
  | [d1, d2, d3, d4] => { results := [.lit (.bool true)], args := [d1, d2, d3, d4] }
  | _ => none }
def journalMadeRow : OpenClaim := { program := "ytdjjhajkpfiagaa", sum := "72c6831ec720077f76116dfb4ec89f4d61397bbec13575ca0d33936a62669471", func := "redundancy/redundancylaw39.JournalMade", spec := "journalMade", apart := false }
def JournalMadeSaid : Prop := journalMadeRow.holds Try.pinned (OpenSpec.ofChange journalMadeSpec)

/-- ITS FALSE NEIGHBOUR: 'it returns false'. Refute it at one input. -/
def journalMadeWrong : ChangeSpec := { name := "journalMade", fn := fun _ => fun
  | [d1, d2, d3, d4] => { results := [.lit (.bool false)], args := [d1, d2, d3, d4] }
  | _ => none }
def JournalMadeWrongFalsely : Prop := journalMadeRow.holds Try.pinned (OpenSpec.ofChange journalMadeWrong)

/-- 'redundancylaw39.JournalCut': WHATEVER THE INPUT: true; the input reads as it did. -/
def journalCutSpec : ChangeSpec := { name := "journalCut", fn := fun _ => fun
  | [d1, d2] => { results := [.lit (.bool true)], args := [d1, d2] }
  | _ => none }
def journalCutRow : OpenClaim := { program := "ytdjjhajkpfiagaa", sum := "72c6831ec720077f76116dfb4ec89f4d61397bbec13575ca0d33936a62669471", func := "redundancy/redundancylaw39.JournalCut", spec := "journalCut", apart := false }
def JournalCutSaid : Prop := journalCutRow.holds Try.pinned (OpenSpec.ofChange journalCutSpec)

/-- ITS FALSE NEIGHBOUR: 'it returns false'. Refute it at one input. -/
def journalCutWrong : ChangeSpec := { name := "journalCut", fn := fun _ => fun
  | [d1, d2] => { results := [.lit (.bool false)], args := [d1, d2] }
  | _ => none }
def JournalCutWrongFalsely : Prop := journalCutRow.holds Try.pinned (OpenSpec.ofChange journalCutWrong)

/- THE SECOND FORM. 'bulk': how many values and letters a reading holds, each counted each time it is reached (what is shared counts as often as it is met; a slice's spare places count too). A statement '..UptoSaid' is the law's where the arguments, and the package variables that the reading takes, are together of bulk at most 1048576: NARROWER than '..Said'. Prove '..Said' where nothing that the law and all that it calls make is longer than what came in: it says more and counts as full. Else prove '..UptoSaid'. A law counts once. -/
mutual
def uptoBulk {H : Type} : DataW H → Nat
  | .lit (.string bytes) => bytes.length + 1
  | .lit _ => 1
  | .nil => 1
  | .ptr d => uptoBulk d + 1
  | .slice elems spare => uptoBulkAll elems + uptoBulkAll spare + 1
  | .agg parts => uptoBulkAll parts + 1
  | .iface _ d => uptoBulk d + 1
  | .map entries => uptoBulkEntries entries + 1
  | .held _ => 1
def uptoBulkAll {H : Type} : List (DataW H) → Nat
  | [] => 0
  | d :: r => uptoBulk d + uptoBulkAll r
def uptoBulkEntries {H : Type} : List (Lit × DataW H) → Nat
  | [] => 0
  | x :: r => uptoBulkEntry x + uptoBulkEntries r
def uptoBulkEntry {H : Type} : Lit × DataW H → Nat
  | (.string bytes, d) => bytes.length + uptoBulk d + 1
  | (_, d) => uptoBulk d + 1
 end
def uptoSmall : (H : Type) → List (DataW H) → Bool := fun _ ds => decide (uptoBulkAll ds ≤ 1048576)
def OpenSpec.upto (s : _root_.Go.ChangeSpec) : _root_.Go.OpenSpec := { _root_.Go.OpenSpec.ofChange s with cond := some uptoSmall }

/-- 'redundancylaw39.JournalByte', WHERE WHAT IT READS IS OF BULK AT MOST 1048576: true; the input reads as it did. -/
def journalByteUptoRow : OpenClaim := { program := "ytdjjhajkpfiagaa", sum := "72c6831ec720077f76116dfb4ec89f4d61397bbec13575ca0d33936a62669471", func := "redundancy/redundancylaw39.JournalByte", spec := "journalByte", apart := false, narrowed := true }
def JournalByteUptoSaid : Prop := journalByteUptoRow.holds Try.pinned (OpenSpec.upto journalByteSpec)

/-- 'redundancylaw39.JournalNotes', WHERE WHAT IT READS IS OF BULK AT MOST 1048576: true; the input reads as it did. -/
def journalNotesUptoRow : OpenClaim := { program := "ytdjjhajkpfiagaa", sum := "72c6831ec720077f76116dfb4ec89f4d61397bbec13575ca0d33936a62669471", func := "redundancy/redundancylaw39.JournalNotes", spec := "journalNotes", apart := false, narrowed := true }
def JournalNotesUptoSaid : Prop := journalNotesUptoRow.holds Try.pinned (OpenSpec.upto journalNotesSpec)

/-- 'redundancylaw38.GatewayRaw', WHERE WHAT IT READS IS OF BULK AT MOST 1048576: true; the input reads as it did. -/
def gatewayRawUptoRow : OpenClaim := { program := "ytdjjhajkpfiagaa", sum := "72c6831ec720077f76116dfb4ec89f4d61397bbec13575ca0d33936a62669471", func := "redundancy/redundancylaw38.GatewayRaw", spec := "gatewayRaw", apart := false, narrowed := true }
def GatewayRawUptoSaid : Prop := gatewayRawUptoRow.holds Try.pinned (OpenSpec.upto gatewayRawSpec)

/-- 'redundancylaw38.GatewayRuns', WHERE WHAT IT READS IS OF BULK AT MOST 1048576: true; the input reads as it did. -/
def gatewayRunsUptoRow : OpenClaim := { program := "ytdjjhajkpfiagaa", sum := "72c6831ec720077f76116dfb4ec89f4d61397bbec13575ca0d33936a62669471", func := "redundancy/redundancylaw38.GatewayRuns", spec := "gatewayRuns", apart := false, narrowed := true }
def GatewayRunsUptoSaid : Prop := gatewayRunsUptoRow.holds Try.pinned (OpenSpec.upto gatewayRunsSpec)

/-- 'redundancylaw38.GatewayOnce', WHERE WHAT IT READS IS OF BULK AT MOST 1048576: true; the input reads as it did. -/
def gatewayOnceUptoRow : OpenClaim := { program := "ytdjjhajkpfiagaa", sum := "72c6831ec720077f76116dfb4ec89f4d61397bbec13575ca0d33936a62669471", func := "redundancy/redundancylaw38.GatewayOnce", spec := "gatewayOnce", apart := false, narrowed := true }
def GatewayOnceUptoSaid : Prop := gatewayOnceUptoRow.holds Try.pinned (OpenSpec.upto gatewayOnceSpec)

/-- 'redundancylaw38.GatewayWaits', WHERE WHAT IT READS IS OF BULK AT MOST 1048576: true; the input reads as it did. -/
def gatewayWaitsUptoRow : OpenClaim := { program := "ytdjjhajkpfiagaa", sum := "72c6831ec720077f76116dfb4ec89f4d61397bbec13575ca0d33936a62669471", func := "redundancy/redundancylaw38.GatewayWaits", spec := "gatewayWaits", apart := false, narrowed := true }
def GatewayWaitsUptoSaid : Prop := gatewayWaitsUptoRow.holds Try.pinned (OpenSpec.upto gatewayWaitsSpec)

/-- 'redundancylaw39.JournalRaw', WHERE WHAT IT READS IS OF BULK AT MOST 1048576: true; the input reads as it did. -/
def journalRawUptoRow : OpenClaim := { program := "ytdjjhajkpfiagaa", sum := "72c6831ec720077f76116dfb4ec89f4d61397bbec13575ca0d33936a62669471", func := "redundancy/redundancylaw39.JournalRaw", spec := "journalRaw", apart := false, narrowed := true }
def JournalRawUptoSaid : Prop := journalRawUptoRow.holds Try.pinned (OpenSpec.upto journalRawSpec)

/-- 'redundancylaw39.JournalMade', WHERE WHAT IT READS IS OF BULK AT MOST 1048576: true; the input reads as it did. -/
def journalMadeUptoRow : OpenClaim := { program := "ytdjjhajkpfiagaa", sum := "72c6831ec720077f76116dfb4ec89f4d61397bbec13575ca0d33936a62669471", func := "redundancy/redundancylaw39.JournalMade", spec := "journalMade", apart := false, narrowed := true }
def JournalMadeUptoSaid : Prop := journalMadeUptoRow.holds Try.pinned (OpenSpec.upto journalMadeSpec)

/-- 'redundancylaw39.JournalCut', WHERE WHAT IT READS IS OF BULK AT MOST 1048576: true; the input reads as it did. -/
def journalCutUptoRow : OpenClaim := { program := "ytdjjhajkpfiagaa", sum := "72c6831ec720077f76116dfb4ec89f4d61397bbec13575ca0d33936a62669471", func := "redundancy/redundancylaw39.JournalCut", spec := "journalCut", apart := false, narrowed := true }
def JournalCutUptoSaid : Prop := journalCutUptoRow.holds Try.pinned (OpenSpec.upto journalCutSpec)

end Rows
end Go.Proofs.Ytdjjhajkpfiagaa
