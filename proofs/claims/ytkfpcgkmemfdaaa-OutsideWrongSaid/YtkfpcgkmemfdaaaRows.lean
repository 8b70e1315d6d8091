/-
  No cell of these rows narrows 'for every input' (looked for: loops, veiled, ifaces, maps, wideKeys, modest, calm, conditions, laid).
  DERIVED. THE GIVEN ROWS OF THIS SEAT. 4 by the template 'for every input the law returns true; each argument reads behind the call as it read before'; 0 by the template 'total and deterministic' (their statements: YtkfpcgkmemfdaaaTotals.lean).
  GIVEN WITH THE SEED: the statements are not yours to turn. If you find one false, say at which input.
  Laid BY PROGRAM, IN A SANDBOX (cutbox-rows.mjs): the forced cells as the released guide's own fill.sh prints them over the translation af39d2cb53f3c99a… (all of the seat's roots in one cut). By AI agents, Wed Nov 11 2026. No macro, syntax, notation, axiom, sorry.
-/
import Derived.Test.YtkfpcgkmemfdaaaChecked
import GoSem.Claim
import GoSem.ClaimJoined
import GoSem.ClaimMapViews
import Derived.JoinedTies
import Derived.KernelRfl
namespace Go.Proofs.Ytkfpcgkmemfdaaa
/- THE CELL 'sum', in the pinned program and in every row, IS THE sha256 OF THE DUMP (.gsa) THAT YtkfpcgkmemfdaaaProg.lean LOADS. Nothing in Lean hashes anything: it is a label: what it is worth is what the hold of that sum in a sandbox is worth. -/
noncomputable def Try.pinned : Pinned := { name := "ytkfpcgkmemfdaaa", sum := "af39d2cb53f3c99aeeffa970bcb2545b9742e44ef5269f8bda4cbc6133f6681d", checked := Try.checked }
namespace Rows
def none {H : Type} : Left H := { results := [], args := [] }

/-- 'redundancylaw19.OutsideBegins': WHATEVER THE INPUT: true; the input reads as it did. -/
def outsideBeginsSpec : ChangeSpec := { name := "outsideBegins", fn := fun _ => fun
  | [d1, d2, d3, d4] => { results := [.lit (.bool true)], args := [d1, d2, d3, d4] }
  | _ => none }
def outsideBeginsRow : OpenClaim := { program := "ytkfpcgkmemfdaaa", sum := "af39d2cb53f3c99aeeffa970bcb2545b9742e44ef5269f8bda4cbc6133f6681d", func := "redundancy/redundancylaw19.OutsideBegins", spec := "outsideBegins", unfollowed := true, recurses := true, apart := false }
def OutsideBeginsSaid : Prop := outsideBeginsRow.holds Try.pinned (OpenSpec.ofChange outsideBeginsSpec)

/-- ITS FALSE NEIGHBOUR: 'it returns false'. Refute it at one input. -/
def outsideBeginsWrong : ChangeSpec := { name := "outsideBegins", fn := fun _ => fun
  | [d1, d2, d3, d4] => { results := [.lit (.bool false)], args := [d1, d2, d3, d4] }
  | _ => none }
def OutsideBeginsWrongFalsely : Prop := outsideBeginsRow.holds Try.pinned (OpenSpec.ofChange outsideBeginsWrong)

/-- 'redundancylaw19.OutsideKeeps': WHATEVER THE INPUT: true; the input reads as it did. -/
def outsideKeepsSpec : ChangeSpec := { name := "outsideKeeps", fn := fun _ => fun
  | [d] => { results := [.lit (.bool true)], args := [d] }
  | _ => none }
def outsideKeepsRow : OpenClaim := { program := "ytkfpcgkmemfdaaa", sum := "af39d2cb53f3c99aeeffa970bcb2545b9742e44ef5269f8bda4cbc6133f6681d", func := "redundancy/redundancylaw19.OutsideKeeps", spec := "outsideKeeps", unfollowed := true, recurses := true, apart := false }
def OutsideKeepsSaid : Prop := outsideKeepsRow.holds Try.pinned (OpenSpec.ofChange outsideKeepsSpec)

/-- ITS FALSE NEIGHBOUR: 'it returns false'. Refute it at one input. -/
def outsideKeepsWrong : ChangeSpec := { name := "outsideKeeps", fn := fun _ => fun
  | [d] => { results := [.lit (.bool false)], args := [d] }
  | _ => none }
def OutsideKeepsWrongFalsely : Prop := outsideKeepsRow.holds Try.pinned (OpenSpec.ofChange outsideKeepsWrong)

/-- 'redundancylaw19.OutsideAgain': WHATEVER THE INPUT: true; the input reads as it did. -/
def outsideAgainSpec : ChangeSpec := { name := "outsideAgain", fn := fun _ => fun
  | [d] => { results := [.lit (.bool true)], args := [d] }
  | _ => none }
def outsideAgainRow : OpenClaim := { program := "ytkfpcgkmemfdaaa", sum := "af39d2cb53f3c99aeeffa970bcb2545b9742e44ef5269f8bda4cbc6133f6681d", func := "redundancy/redundancylaw19.OutsideAgain", spec := "outsideAgain", unfollowed := true, recurses := true, apart := false }
def OutsideAgainSaid : Prop := outsideAgainRow.holds Try.pinned (OpenSpec.ofChange outsideAgainSpec)

/-- ITS FALSE NEIGHBOUR: 'it returns false'. Refute it at one input. -/
def outsideAgainWrong : ChangeSpec := { name := "outsideAgain", fn := fun _ => fun
  | [d] => { results := [.lit (.bool false)], args := [d] }
  | _ => none }
def OutsideAgainWrongFalsely : Prop := outsideAgainRow.holds Try.pinned (OpenSpec.ofChange outsideAgainWrong)

/-- 'redundancylaw19.OutsideWrong': WHATEVER THE INPUT: true; the input reads as it did. -/
def outsideWrongSpec : ChangeSpec := { name := "outsideWrong", fn := fun _ => fun
  | [d1, d2] => { results := [.lit (.bool true)], args := [d1, d2] }
  | _ => none }
def outsideWrongRow : OpenClaim := { program := "ytkfpcgkmemfdaaa", sum := "af39d2cb53f3c99aeeffa970bcb2545b9742e44ef5269f8bda4cbc6133f6681d", func := "redundancy/redundancylaw19.OutsideWrong", spec := "outsideWrong", unfollowed := true, recurses := true, apart := false }
def OutsideWrongSaid : Prop := outsideWrongRow.holds Try.pinned (OpenSpec.ofChange outsideWrongSpec)

/-- ITS FALSE NEIGHBOUR: 'it returns false'. Refute it at one input. -/
def outsideWrongWrong : ChangeSpec := { name := "outsideWrong", fn := fun _ => fun
  | [d1, d2] => { results := [.lit (.bool false)], args := [d1, d2] }
  | _ => none }
def OutsideWrongWrongFalsely : Prop := outsideWrongRow.holds Try.pinned (OpenSpec.ofChange outsideWrongWrong)

/- THE SECOND FORM. 'bulk': how many values and letters a reading holds, each counted each time it is reached (what is shared counts as often as it is met; a slice's spare places count too). A statement '..UptoSaid' is the law's where the arguments, and the package variables that the reading takes, are together of bulk at most 1048576: NARROWER than '..Said'. Prove '..Said' where nothing that the law and all that it calls make is longer than what came in: it says more and counts as full. Else prove '..UptoSaid'. A law counts once. -/
mutual
def uptoBulk {H : Type} : DataW H → Nat
  | .lit (.string bytes) => bytes.length + 1
  | .lit _ => 1
  | .nil => 1
  | .ptr d => uptoBulk d + 1
  | .slice elems spare => uptoBulkAll elems + uptoBulkAll spare + 1
  | .agg parts => uptoBulkAll parts + 1
  | .iface _ d => uptoBulk d + 1
  | .map entries => uptoBulkEntries entries + 1
  | .held _ => 1
def uptoBulkAll {H : Type} : List (DataW H) → Nat
  | [] => 0
  | d :: r => uptoBulk d + uptoBulkAll r
def uptoBulkEntries {H : Type} : List (Lit × DataW H) → Nat
  | [] => 0
  | x :: r => uptoBulkEntry x + uptoBulkEntries r
def uptoBulkEntry {H : Type} : Lit × DataW H → Nat
  | (.string bytes, d) => bytes.length + uptoBulk d + 1
  | (_, d) => uptoBulk d + 1
 end
def uptoSmall : (H : Type) → List (DataW H) → Bool := fun _ ds => decide (uptoBulkAll ds ≤ 1048576)
def OpenSpec.upto (s : _root_.Go.ChangeSpec) : _root_.Go.OpenSpec := { _root_.Go.OpenSpec.ofChange s with cond := some uptoSmall }

/-- 'redundancylaw19.OutsideBegins', WHERE WHAT IT READS IS OF BULK AT MOST 1048576: true; the input reads as it did. -/
def outsideBeginsUptoRow : OpenClaim := { program := "ytkfpcgkmemfdaaa", sum := "af39d2cb53f3c99aeeffa970bcb2545b9742e44ef5269f8bda4cbc6133f6681d", func := "redundancy/redundancylaw19.OutsideBegins", spec := "outsideBegins", unfollowed := true, recurses := true, apart := false, narrowed := true }
def OutsideBeginsUptoSaid : Prop := outsideBeginsUptoRow.holds Try.pinned (OpenSpec.upto outsideBeginsSpec)

/-- 'redundancylaw19.OutsideKeeps', WHERE WHAT IT READS IS OF BULK AT MOST 1048576: true; the input reads as it did. -/
def outsideKeepsUptoRow : OpenClaim := { program := "ytkfpcgkmemfdaaa", sum := "af39d2cb53f3c99aeeffa970bcb2545b9742e44ef5269f8bda4cbc6133f6681d", func := "redundancy/redundancylaw19.OutsideKeeps", spec := "outsideKeeps", unfollowed := true, recurses := true, apart := false, narrowed := true }
def OutsideKeepsUptoSaid : Prop := outsideKeepsUptoRow.holds Try.pinned (OpenSpec.upto outsideKeepsSpec)

/-- 'redundancylaw19.OutsideAgain', WHERE WHAT IT READS IS OF BULK AT MOST 1048576: true; the input reads as it did. -/
def outsideAgainUptoRow : OpenClaim := { program := "ytkfpcgkmemfdaaa", sum := "af39d2cb53f3c99aeeffa970bcb2545b9742e44ef5269f8bda4cbc6133f6681d", func := "redundancy/redundancylaw19.OutsideAgain", spec := "outsideAgain", unfollowed := true, recurses := true, apart := false, narrowed := true }
def OutsideAgainUptoSaid : Prop := outsideAgainUptoRow.holds Try.pinned (OpenSpec.upto outsideAgainSpec)

/-- 'redundancylaw19.OutsideWrong', WHERE WHAT IT READS IS OF BULK AT MOST 1048576: true; the input reads as it did. -/
def outsideWrongUptoRow : OpenClaim := { program := "ytkfpcgkmemfdaaa", sum := "af39d2cb53f3c99aeeffa970bcb2545b9742e44ef5269f8bda4cbc6133f6681d", func := "redundancy/redundancylaw19.OutsideWrong", spec := "outsideWrong", unfollowed := true, recurses := true, apart := false, narrowed := true }
def OutsideWrongUptoSaid : Prop := outsideWrongUptoRow.holds Try.pinned (OpenSpec.upto outsideWrongSpec)

end Rows
end Go.Proofs.Ytkfpcgkmemfdaaa
