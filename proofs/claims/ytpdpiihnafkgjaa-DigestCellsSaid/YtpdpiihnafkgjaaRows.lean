/-
  No cell of these rows narrows 'for every input' (looked for: loops, veiled, ifaces, maps, wideKeys, modest, calm, conditions, laid).
  DERIVED. THE GIVEN ROWS OF THIS SEAT. 10 by the template 'for every input the law returns true; each argument reads behind the call as it read before'; 0 by the template 'total and deterministic' (their statements: YtpdpiihnafkgjaaTotals.lean).
  GIVEN WITH THE SEED: the statements are not yours to turn. If you find one false, say at which input.
  Laid BY PROGRAM, IN A SANDBOX (cutbox-rows.mjs): the forced cells as the released guide's own fill.sh prints them over the translation 120e92f01d20fc9c… (all of the seat's roots in one cut). By AI agents, Wed Nov 11 2026. No macro, syntax, notation, axiom, sorry.
-/
import Derived.Test.YtpdpiihnafkgjaaChecked
import GoSem.Claim
import GoSem.ClaimJoined
import GoSem.ClaimMapViews
import Derived.JoinedTies
import Derived.KernelRfl
namespace Go.Proofs.Ytpdpiihnafkgjaa
/- THE CELL 'sum', in the pinned program and in every row, IS THE sha256 OF THE DUMP (.gsa) THAT YtpdpiihnafkgjaaProg.lean LOADS. Nothing in Lean hashes anything: it is a label: what it is worth is what the hold of that sum in a sandbox is worth. -/
noncomputable def Try.pinned : Pinned := { name := "ytpdpiihnafkgjaa", sum := "120e92f01d20fc9c793a1d2989db6070e6e2e76daf9e85271c7fbc095c37af80", checked := Try.checked }
namespace Rows
def none {H : Type} : Left H := { results := [], args := [] }

/-- 'redundancylaw01.WordBits': WHATEVER THE INPUT: true; the input reads as it did. -/
def wordBitsSpec : ChangeSpec := { name := "wordBits", fn := fun _ => fun
  | [d1, d2, d3] => { results := [.lit (.bool true)], args := [d1, d2, d3] }
  | _ => none }
def wordBitsRow : OpenClaim := { program := "ytpdpiihnafkgjaa", sum := "120e92f01d20fc9c793a1d2989db6070e6e2e76daf9e85271c7fbc095c37af80", func := "redundancy/redundancylaw01.WordBits", spec := "wordBits", apart := false }
def WordBitsSaid : Prop := wordBitsRow.holds Try.pinned (OpenSpec.ofChange wordBitsSpec)

/-- ITS FALSE NEIGHBOUR: 'it returns false'. Refute it at one input. -/
def wordBitsWrong : ChangeSpec := { name := "wordBits", fn := fun _ => fun
  | [d1, d2, d3] => { results := [.lit (.bool false)], args := [d1, d2, d3] }
  | _ => none }
def WordBitsWrongFalsely : Prop := wordBitsRow.holds Try.pinned (OpenSpec.ofChange wordBitsWrong)

/-- 'redundancylaw24.DigestGoesOn': WHATEVER THE INPUT: true; the input reads as it did. -/
def digestGoesOnSpec : ChangeSpec := { name := "digestGoesOn", fn := fun _ => fun
  | [d1, d2, d3, d4] => { results := [.lit (.bool true)], args := [d1, d2, d3, d4] }
  | _ => none }
def digestGoesOnRow : OpenClaim := { program := "ytpdpiihnafkgjaa", sum := "120e92f01d20fc9c793a1d2989db6070e6e2e76daf9e85271c7fbc095c37af80", func := "redundancy/redundancylaw24.DigestGoesOn", spec := "digestGoesOn", apart := false }
def DigestGoesOnSaid : Prop := digestGoesOnRow.holds Try.pinned (OpenSpec.ofChange digestGoesOnSpec)

/-- ITS FALSE NEIGHBOUR: 'it returns false'. Refute it at one input. -/
def digestGoesOnWrong : ChangeSpec := { name := "digestGoesOn", fn := fun _ => fun
  | [d1, d2, d3, d4] => { results := [.lit (.bool false)], args := [d1, d2, d3, d4] }
  | _ => none }
def DigestGoesOnWrongFalsely : Prop := digestGoesOnRow.holds Try.pinned (OpenSpec.ofChange digestGoesOnWrong)

/-- 'redundancylaw24.DigestByte': WHATEVER THE INPUT: true; the input reads as it did. -/
def digestByteSpec : ChangeSpec := { name := "digestByte", fn := fun _ => fun
  | [d1, d2, d3] => { results := [.lit (.bool true)], args := [d1, d2, d3] }
  | _ => none }
def digestByteRow : OpenClaim := { program := "ytpdpiihnafkgjaa", sum := "120e92f01d20fc9c793a1d2989db6070e6e2e76daf9e85271c7fbc095c37af80", func := "redundancy/redundancylaw24.DigestByte", spec := "digestByte", apart := false }
def DigestByteSaid : Prop := digestByteRow.holds Try.pinned (OpenSpec.ofChange digestByteSpec)

/-- ITS FALSE NEIGHBOUR: 'it returns false'. Refute it at one input. -/
def digestByteWrong : ChangeSpec := { name := "digestByte", fn := fun _ => fun
  | [d1, d2, d3] => { results := [.lit (.bool false)], args := [d1, d2, d3] }
  | _ => none }
def DigestByteWrongFalsely : Prop := digestByteRow.holds Try.pinned (OpenSpec.ofChange digestByteWrong)

/-- 'redundancylaw01.WordFlips': WHATEVER THE INPUT: true; the input reads as it did. -/
def wordFlipsSpec : ChangeSpec := { name := "wordFlips", fn := fun _ => fun
  | [d1, d2, d3] => { results := [.lit (.bool true)], args := [d1, d2, d3] }
  | _ => none }
def wordFlipsRow : OpenClaim := { program := "ytpdpiihnafkgjaa", sum := "120e92f01d20fc9c793a1d2989db6070e6e2e76daf9e85271c7fbc095c37af80", func := "redundancy/redundancylaw01.WordFlips", spec := "wordFlips", apart := false }
def WordFlipsSaid : Prop := wordFlipsRow.holds Try.pinned (OpenSpec.ofChange wordFlipsSpec)

/-- ITS FALSE NEIGHBOUR: 'it returns false'. Refute it at one input. -/
def wordFlipsWrong : ChangeSpec := { name := "wordFlips", fn := fun _ => fun
  | [d1, d2, d3] => { results := [.lit (.bool false)], args := [d1, d2, d3] }
  | _ => none }
def WordFlipsWrongFalsely : Prop := wordFlipsRow.holds Try.pinned (OpenSpec.ofChange wordFlipsWrong)

/-- 'redundancylaw01.WordMetric': WHATEVER THE INPUT: true; the input reads as it did. -/
def wordMetricSpec : ChangeSpec := { name := "wordMetric", fn := fun _ => fun
  | [d] => { results := [.lit (.bool true)], args := [d] }
  | _ => none }
def wordMetricRow : OpenClaim := { program := "ytpdpiihnafkgjaa", sum := "120e92f01d20fc9c793a1d2989db6070e6e2e76daf9e85271c7fbc095c37af80", func := "redundancy/redundancylaw01.WordMetric", spec := "wordMetric", apart := false }
def WordMetricSaid : Prop := wordMetricRow.holds Try.pinned (OpenSpec.ofChange wordMetricSpec)

/-- ITS FALSE NEIGHBOUR: 'it returns false'. Refute it at one input. -/
def wordMetricWrong : ChangeSpec := { name := "wordMetric", fn := fun _ => fun
  | [d] => { results := [.lit (.bool false)], args := [d] }
  | _ => none }
def WordMetricWrongFalsely : Prop := wordMetricRow.holds Try.pinned (OpenSpec.ofChange wordMetricWrong)

/-- 'redundancylaw01.WordPairs': WHATEVER THE INPUT: true; the input reads as it did. -/
def wordPairsSpec : ChangeSpec := { name := "wordPairs", fn := fun _ => fun
  | [d] => { results := [.lit (.bool true)], args := [d] }
  | _ => none }
def wordPairsRow : OpenClaim := { program := "ytpdpiihnafkgjaa", sum := "120e92f01d20fc9c793a1d2989db6070e6e2e76daf9e85271c7fbc095c37af80", func := "redundancy/redundancylaw01.WordPairs", spec := "wordPairs", apart := false }
def WordPairsSaid : Prop := wordPairsRow.holds Try.pinned (OpenSpec.ofChange wordPairsSpec)

/-- ITS FALSE NEIGHBOUR: 'it returns false'. Refute it at one input. -/
def wordPairsWrong : ChangeSpec := { name := "wordPairs", fn := fun _ => fun
  | [d] => { results := [.lit (.bool false)], args := [d] }
  | _ => none }
def WordPairsWrongFalsely : Prop := wordPairsRow.holds Try.pinned (OpenSpec.ofChange wordPairsWrong)

/-- 'redundancylaw01.WordBytes': WHATEVER THE INPUT: true; the input reads as it did. -/
def wordBytesSpec : ChangeSpec := { name := "wordBytes", fn := fun _ => fun
  | [d1, d2] => { results := [.lit (.bool true)], args := [d1, d2] }
  | _ => none }
def wordBytesRow : OpenClaim := { program := "ytpdpiihnafkgjaa", sum := "120e92f01d20fc9c793a1d2989db6070e6e2e76daf9e85271c7fbc095c37af80", func := "redundancy/redundancylaw01.WordBytes", spec := "wordBytes", apart := false }
def WordBytesSaid : Prop := wordBytesRow.holds Try.pinned (OpenSpec.ofChange wordBytesSpec)

/-- ITS FALSE NEIGHBOUR: 'it returns false'. Refute it at one input. -/
def wordBytesWrong : ChangeSpec := { name := "wordBytes", fn := fun _ => fun
  | [d1, d2] => { results := [.lit (.bool false)], args := [d1, d2] }
  | _ => none }
def WordBytesWrongFalsely : Prop := wordBytesRow.holds Try.pinned (OpenSpec.ofChange wordBytesWrong)

/-- 'redundancylaw01.WordDistances': WHATEVER THE INPUT: true; the input reads as it did. -/
def wordDistancesSpec : ChangeSpec := { name := "wordDistances", fn := fun _ => fun
  | [d1, d2, d3] => { results := [.lit (.bool true)], args := [d1, d2, d3] }
  | _ => none }
def wordDistancesRow : OpenClaim := { program := "ytpdpiihnafkgjaa", sum := "120e92f01d20fc9c793a1d2989db6070e6e2e76daf9e85271c7fbc095c37af80", func := "redundancy/redundancylaw01.WordDistances", spec := "wordDistances", apart := false }
def WordDistancesSaid : Prop := wordDistancesRow.holds Try.pinned (OpenSpec.ofChange wordDistancesSpec)

/-- ITS FALSE NEIGHBOUR: 'it returns false'. Refute it at one input. -/
def wordDistancesWrong : ChangeSpec := { name := "wordDistances", fn := fun _ => fun
  | [d1, d2, d3] => { results := [.lit (.bool false)], args := [d1, d2, d3] }
  | _ => none }
def WordDistancesWrongFalsely : Prop := wordDistancesRow.holds Try.pinned (OpenSpec.ofChange wordDistancesWrong)

/-- 'redundancylaw24.DigestCells': WHATEVER THE INPUT: true; the input reads as it did. -/
def digestCellsSpec : ChangeSpec := { name := "digestCells", fn := fun _ => fun
  | [d1, d2, d3] => { results := [.lit (.bool true)], args := [d1, d2, d3] }
  | _ => none }
def digestCellsRow : OpenClaim := { program := "ytpdpiihnafkgjaa", sum := "120e92f01d20fc9c793a1d2989db6070e6e2e76daf9e85271c7fbc095c37af80", func := "redundancy/redundancylaw24.DigestCells", spec := "digestCells", apart := false }
def DigestCellsSaid : Prop := digestCellsRow.holds Try.pinned (OpenSpec.ofChange digestCellsSpec)

/-- ITS FALSE NEIGHBOUR: 'it returns false'. Refute it at one input. -/
def digestCellsWrong : ChangeSpec := { name := "digestCells", fn := fun _ => fun
  | [d1, d2, d3] => { results := [.lit (.bool false)], args := [d1, d2, d3] }
  | _ => none }
def DigestCellsWrongFalsely : Prop := digestCellsRow.holds Try.pinned (OpenSpec.ofChange digestCellsWrong)

/-- 'redundancylaw24.DigestRaw': WHATEVER THE INPUT: true; the input reads as it did. -/
def digestRawSpec : ChangeSpec := { name := "digestRaw", fn := fun _ => fun
  | [d1, d2, d3, d4, d5, d6, d7] => { results := [.lit (.bool true)], args := [d1, d2, d3, d4, d5, d6, d7] }
  | _ => none }
def digestRawRow : OpenClaim := { program := "ytpdpiihnafkgjaa", sum := "120e92f01d20fc9c793a1d2989db6070e6e2e76daf9e85271c7fbc095c37af80", func := "redundancy/redundancylaw24.DigestRaw", spec := "digestRaw", apart := false }
def DigestRawSaid : Prop := digestRawRow.holds Try.pinned (OpenSpec.ofChange digestRawSpec)

/-- ITS FALSE NEIGHBOUR: 'it returns false'. Refute it at one input. -/
def digestRawWrong : ChangeSpec := { name := "digestRaw", fn := fun _ => fun
  | [d1, d2, d3, d4, d5, d6, d7] => { results := [.lit (.bool false)], args := [d1, d2, d3, d4, d5, d6, d7] }
  | _ => none }
def DigestRawWrongFalsely : Prop := digestRawRow.holds Try.pinned (OpenSpec.ofChange digestRawWrong)

/- THE SECOND FORM. 'bulk': how many values and letters a reading holds, each counted each time it is reached (what is shared counts as often as it is met; a slice's spare places count too). A statement '..UptoSaid' is the law's where the arguments, and the package variables that the reading takes, are together of bulk at most 1048576: NARROWER than '..Said'. Prove '..Said' where nothing that the law and all that it calls make is longer than what came in: it says more and counts as full. Else prove '..UptoSaid'. A law counts once. -/
mutual
def uptoBulk {H : Type} : DataW H → Nat
  | .lit (.string bytes) => bytes.length + 1
  | .lit _ => 1
  | .nil => 1
  | .ptr d => uptoBulk d + 1
  | .slice elems spare => uptoBulkAll elems + uptoBulkAll spare + 1
  | .agg parts => uptoBulkAll parts + 1
  | .iface _ d => uptoBulk d + 1
  | .map entries => uptoBulkEntries entries + 1
  | .held _ => 1
def uptoBulkAll {H : Type} : List (DataW H) → Nat
  | [] => 0
  | d :: r => uptoBulk d + uptoBulkAll r
def uptoBulkEntries {H : Type} : List (Lit × DataW H) → Nat
  | [] => 0
  | x :: r => uptoBulkEntry x + uptoBulkEntries r
def uptoBulkEntry {H : Type} : Lit × DataW H → Nat
  | (.string bytes, d) => bytes.length + uptoBulk d + 1
  | (_, d) => uptoBulk d + 1
 end
def uptoSmall : (H : Type) → List (DataW H) → Bool := fun _ ds => decide (uptoBulkAll ds ≤ 1048576)
def OpenSpec.upto (s : _root_.Go.ChangeSpec) : _root_.Go.OpenSpec := { _root_.Go.OpenSpec.ofChange s with cond := some uptoSmall }

/-- 'redundancylaw01.WordBits', WHERE WHAT IT READS IS OF BULK AT MOST 1048576: true; the input reads as it did. -/
def wordBitsUptoRow : OpenClaim := { program := "ytpdpiihnafkgjaa", sum := "120e92f01d20fc9c793a1d2989db6070e6e2e76daf9e85271c7fbc095c37af80", func := "redundancy/redundancylaw01.WordBits", spec := "wordBits", apart := false, narrowed := true }
def WordBitsUptoSaid : Prop := wordBitsUptoRow.holds Try.pinned (OpenSpec.upto wordBitsSpec)

/-- 'redundancylaw24.DigestGoesOn', WHERE WHAT IT READS IS OF BULK AT MOST 1048576: true; the input reads as it did. -/
def digestGoesOnUptoRow : OpenClaim := { program := "ytpdpiihnafkgjaa", sum := "120e92f01d20fc9c793a1d2989db6070e6e2e76daf9e85271c7fbc095c37af80", func := "redundancy/redundancylaw24.DigestGoesOn", spec := "digestGoesOn", apart := false, narrowed := true }
def DigestGoesOnUptoSaid : Prop := digestGoesOnUptoRow.holds Try.pinned (OpenSpec.upto digestGoesOnSpec)

/-- 'redundancylaw24.DigestByte', WHERE WHAT IT READS IS OF BULK AT MOST 1048576: true; the input reads as it did. -/
def digestByteUptoRow : OpenClaim := { program := "ytpdpiihnafkgjaa", sum := "120e92f01d20fc9c793a1d2989db6070e6e2e76daf9e85271c7fbc095c37af80", func := "redundancy/redundancylaw24.DigestByte", spec := "digestByte", apart := false, narrowed := true }
def DigestByteUptoSaid : Prop := digestByteUptoRow.holds Try.pinned (OpenSpec.upto digestByteSpec)

/-- 'redundancylaw01.WordFlips', WHERE WHAT IT READS IS OF BULK AT MOST 1048576: true; the input reads as it did. -/
def wordFlipsUptoRow : OpenClaim := { program := "ytpdpiihnafkgjaa", sum := "120e92f01d20fc9c793a1d2989db6070e6e2e76daf9e85271c7fbc095c37af80", func := "redundancy/redundancylaw01.WordFlips", spec := "wordFlips", apart := false, narrowed := true }
def WordFlipsUptoSaid : Prop := wordFlipsUptoRow.holds Try.pinned (OpenSpec.upto wordFlipsSpec)

/-- 'redundancylaw01.WordMetric', WHERE WHAT IT READS IS OF BULK AT MOST 1048576: true; the input reads as it did. -/
def wordMetricUptoRow : OpenClaim := { program := "ytpdpiihnafkgjaa", sum := "120e92f01d20fc9c793a1d2989db6070e6e2e76daf9e85271c7fbc095c37af80", func := "redundancy/redundancylaw01.WordMetric", spec := "wordMetric", apart := false, narrowed := true }
def WordMetricUptoSaid : Prop := wordMetricUptoRow.holds Try.pinned (OpenSpec.upto wordMetricSpec)

/-- 'redundancylaw01.WordPairs', WHERE WHAT IT READS IS OF BULK AT MOST 1048576: true; the input reads as it did. -/
def wordPairsUptoRow : OpenClaim := { program := "ytpdpiihnafkgjaa", sum := "120e92f01d20fc9c793a1d2989db6070e6e2e76daf9e85271c7fbc095c37af80", func := "redundancy/redundancylaw01.WordPairs", spec := "wordPairs", apart := false, narrowed := true }
def WordPairsUptoSaid : Prop := wordPairsUptoRow.holds Try.pinned (OpenSpec.upto wordPairsSpec)

/-- 'redundancylaw01.WordBytes', WHERE WHAT IT READS IS OF BULK AT MOST 1048576: true; the input reads as it did. -/
def wordBytesUptoRow : OpenClaim := { program := "ytpdpiihnafkgjaa", sum := "120e92f01d20fc9c793a1d2989db6070e6e2e76daf9e85271c7fbc095c37af80", func := "redundancy/redundancylaw01.WordBytes", spec := "wordBytes", apart := false, narrowed := true }
def WordBytesUptoSaid : Prop := wordBytesUptoRow.holds Try.pinned (OpenSpec.upto wordBytesSpec)

/-- 'redundancylaw01.WordDistances', WHERE WHAT IT READS IS OF BULK AT MOST 1048576: true; the input reads as it did. -/
def wordDistancesUptoRow : OpenClaim := { program := "ytpdpiihnafkgjaa", sum := "120e92f01d20fc9c793a1d2989db6070e6e2e76daf9e85271c7fbc095c37af80", func := "redundancy/redundancylaw01.WordDistances", spec := "wordDistances", apart := false, narrowed := true }
def WordDistancesUptoSaid : Prop := wordDistancesUptoRow.holds Try.pinned (OpenSpec.upto wordDistancesSpec)

/-- 'redundancylaw24.DigestCells', WHERE WHAT IT READS IS OF BULK AT MOST 1048576: true; the input reads as it did. -/
def digestCellsUptoRow : OpenClaim := { program := "ytpdpiihnafkgjaa", sum := "120e92f01d20fc9c793a1d2989db6070e6e2e76daf9e85271c7fbc095c37af80", func := "redundancy/redundancylaw24.DigestCells", spec := "digestCells", apart := false, narrowed := true }
def DigestCellsUptoSaid : Prop := digestCellsUptoRow.holds Try.pinned (OpenSpec.upto digestCellsSpec)

/-- 'redundancylaw24.DigestRaw', WHERE WHAT IT READS IS OF BULK AT MOST 1048576: true; the input reads as it did. -/
def digestRawUptoRow : OpenClaim := { program := "ytpdpiihnafkgjaa", sum := "120e92f01d20fc9c793a1d2989db6070e6e2e76daf9e85271c7fbc095c37af80", func := "redundancy/redundancylaw24.DigestRaw", spec := "digestRaw", apart := false, narrowed := true }
def DigestRawUptoSaid : Prop := digestRawUptoRow.holds Try.pinned (OpenSpec.upto digestRawSpec)

end Rows
end Go.Proofs.Ytpdpiihnafkgjaa
