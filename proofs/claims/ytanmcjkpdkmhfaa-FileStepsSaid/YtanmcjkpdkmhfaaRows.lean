/-
  No cell of these rows narrows 'for every input' (looked for: loops, veiled, ifaces, maps, wideKeys, modest, calm, conditions, laid).
  DERIVED. THE GIVEN ROWS OF THIS SEAT. 5 by the template 'for every input the law returns true; each argument reads behind the call as it read before'; 0 by the template 'total and deterministic' (their statements: YtanmcjkpdkmhfaaTotals.lean).
  GIVEN WITH THE SEED: the statements are not yours to turn. If you find one false, say at which input.
  Laid BY PROGRAM, IN A SANDBOX (cutbox-rows.mjs): the forced cells as the released guide's own fill.sh prints them over the translation 09a3ce4c7dcf5cbc… (all of the seat's roots in one cut). By AI agents, Wed Nov 11 2026. No macro, syntax, notation, axiom, sorry.
-/
import Derived.Test.YtanmcjkpdkmhfaaChecked
import GoSem.Claim
import GoSem.ClaimJoined
import GoSem.ClaimMapViews
import Derived.JoinedTies
import Derived.KernelRfl
namespace Go.Proofs.Ytanmcjkpdkmhfaa
/- THE CELL 'sum', in the pinned program and in every row, IS THE sha256 OF THE DUMP (.gsa) THAT YtanmcjkpdkmhfaaProg.lean LOADS. Nothing in Lean hashes anything: it is a label: what it is worth is what the hold of that sum in a sandbox is worth. -/
noncomputable def Try.pinned : Pinned := { name := "ytanmcjkpdkmhfaa", sum := "09a3ce4c7dcf5cbcc929ce8fc1d9ce1bcc6c7c8ecbcd9d94a8a21c099be375cf", checked := Try.checked }
namespace Rows
def none {H : Type} : Left H := { results := [], args := [] }

/-- 'redundancylaw17.FileEmpties': WHATEVER THE INPUT: true; the input reads as it did. -/
def fileEmptiesSpec : ChangeSpec := { name := "fileEmpties", fn := fun _ => fun
  | [d1, d2] => { results := [.lit (.bool true)], args := [d1, d2] }
  | _ => none }
def fileEmptiesRow : OpenClaim := { program := "ytanmcjkpdkmhfaa", sum := "09a3ce4c7dcf5cbcc929ce8fc1d9ce1bcc6c7c8ecbcd9d94a8a21c099be375cf", func := "redundancy/redundancylaw17.FileEmpties", spec := "fileEmpties", unfollowed := true, recurses := true, apart := false }
def FileEmptiesSaid : Prop := fileEmptiesRow.holds Try.pinned (OpenSpec.ofChange fileEmptiesSpec)

/-- ITS FALSE NEIGHBOUR: 'it returns false'. Refute it at one input. -/
def fileEmptiesWrong : ChangeSpec := { name := "fileEmpties", fn := fun _ => fun
  | [d1, d2] => { results := [.lit (.bool false)], args := [d1, d2] }
  | _ => none }
def FileEmptiesWrongFalsely : Prop := fileEmptiesRow.holds Try.pinned (OpenSpec.ofChange fileEmptiesWrong)

/-- 'redundancylaw17.FileParts': WHATEVER THE INPUT: true; the input reads as it did. -/
def filePartsSpec : ChangeSpec := { name := "fileParts", fn := fun _ => fun
  | [d1, d2, d3, d4] => { results := [.lit (.bool true)], args := [d1, d2, d3, d4] }
  | _ => none }
def filePartsRow : OpenClaim := { program := "ytanmcjkpdkmhfaa", sum := "09a3ce4c7dcf5cbcc929ce8fc1d9ce1bcc6c7c8ecbcd9d94a8a21c099be375cf", func := "redundancy/redundancylaw17.FileParts", spec := "fileParts", unfollowed := true, recurses := true, apart := false }
def FilePartsSaid : Prop := filePartsRow.holds Try.pinned (OpenSpec.ofChange filePartsSpec)

/-- ITS FALSE NEIGHBOUR: 'it returns false'. Refute it at one input. -/
def filePartsWrong : ChangeSpec := { name := "fileParts", fn := fun _ => fun
  | [d1, d2, d3, d4] => { results := [.lit (.bool false)], args := [d1, d2, d3, d4] }
  | _ => none }
def FilePartsWrongFalsely : Prop := filePartsRow.holds Try.pinned (OpenSpec.ofChange filePartsWrong)

/-- 'redundancylaw17.FileHandles': WHATEVER THE INPUT: true; the input reads as it did. -/
def fileHandlesSpec : ChangeSpec := { name := "fileHandles", fn := fun _ => fun
  | [d1, d2, d3] => { results := [.lit (.bool true)], args := [d1, d2, d3] }
  | _ => none }
def fileHandlesRow : OpenClaim := { program := "ytanmcjkpdkmhfaa", sum := "09a3ce4c7dcf5cbcc929ce8fc1d9ce1bcc6c7c8ecbcd9d94a8a21c099be375cf", func := "redundancy/redundancylaw17.FileHandles", spec := "fileHandles", unfollowed := true, recurses := true, apart := false }
def FileHandlesSaid : Prop := fileHandlesRow.holds Try.pinned (OpenSpec.ofChange fileHandlesSpec)

/-- ITS FALSE NEIGHBOUR: 'it returns false'. Refute it at one input. -/
def fileHandlesWrong : ChangeSpec := { name := "fileHandles", fn := fun _ => fun
  | [d1, d2, d3] => { results := [.lit (.bool false)], args := [d1, d2, d3] }
  | _ => none }
def FileHandlesWrongFalsely : Prop := fileHandlesRow.holds Try.pinned (OpenSpec.ofChange fileHandlesWrong)

/-- 'redundancylaw17.FileBack': WHATEVER THE INPUT: true; the input reads as it did. -/
def fileBackSpec : ChangeSpec := { name := "fileBack", fn := fun _ => fun
  | [d1, d2, d3] => { results := [.lit (.bool true)], args := [d1, d2, d3] }
  | _ => none }
def fileBackRow : OpenClaim := { program := "ytanmcjkpdkmhfaa", sum := "09a3ce4c7dcf5cbcc929ce8fc1d9ce1bcc6c7c8ecbcd9d94a8a21c099be375cf", func := "redundancy/redundancylaw17.FileBack", spec := "fileBack", unfollowed := true, recurses := true, apart := false }
def FileBackSaid : Prop := fileBackRow.holds Try.pinned (OpenSpec.ofChange fileBackSpec)

/-- ITS FALSE NEIGHBOUR: 'it returns false'. Refute it at one input. -/
def fileBackWrong : ChangeSpec := { name := "fileBack", fn := fun _ => fun
  | [d1, d2, d3] => { results := [.lit (.bool false)], args := [d1, d2, d3] }
  | _ => none }
def FileBackWrongFalsely : Prop := fileBackRow.holds Try.pinned (OpenSpec.ofChange fileBackWrong)

/-- 'redundancylaw17.FileSteps': WHATEVER THE INPUT: true; the input reads as it did. -/
def fileStepsSpec : ChangeSpec := { name := "fileSteps", fn := fun _ => fun
  | [d1, d2, d3, d4, d5, d6, d7, d8] => { results := [.lit (.bool true)], args := [d1, d2, d3, d4, d5, d6, d7, d8] }
  | _ => none }
def fileStepsRow : OpenClaim := { program := "ytanmcjkpdkmhfaa", sum := "09a3ce4c7dcf5cbcc929ce8fc1d9ce1bcc6c7c8ecbcd9d94a8a21c099be375cf", func := "redundancy/redundancylaw17.FileSteps", spec := "fileSteps", unfollowed := true, recurses := true, apart := false }
def FileStepsSaid : Prop := fileStepsRow.holds Try.pinned (OpenSpec.ofChange fileStepsSpec)

/-- ITS FALSE NEIGHBOUR: 'it returns false'. Refute it at one input. -/
def fileStepsWrong : ChangeSpec := { name := "fileSteps", fn := fun _ => fun
  | [d1, d2, d3, d4, d5, d6, d7, d8] => { results := [.lit (.bool false)], args := [d1, d2, d3, d4, d5, d6, d7, d8] }
  | _ => none }
def FileStepsWrongFalsely : Prop := fileStepsRow.holds Try.pinned (OpenSpec.ofChange fileStepsWrong)

/- THE SECOND FORM. 'bulk': how many values and letters a reading holds, each counted each time it is reached (what is shared counts as often as it is met; a slice's spare places count too). A statement '..UptoSaid' is the law's where the arguments, and the package variables that the reading takes, are together of bulk at most 1048576: NARROWER than '..Said'. Prove '..Said' where nothing that the law and all that it calls make is longer than what came in: it says more and counts as full. Else prove '..UptoSaid'. A law counts once. -/
mutual
def uptoBulk {H : Type} : DataW H → Nat
  | .lit (.string bytes) => bytes.length + 1
  | .lit _ => 1
  | .nil => 1
  | .ptr d => uptoBulk d + 1
  | .slice elems spare => uptoBulkAll elems + uptoBulkAll spare + 1
  | .agg parts => uptoBulkAll parts + 1
  | .iface _ d => uptoBulk d + 1
  | .map entries => uptoBulkEntries entries + 1
  | .held _ => 1
def uptoBulkAll {H : Type} : List (DataW H) → Nat
  | [] => 0
  | d :: r => uptoBulk d + uptoBulkAll r
def uptoBulkEntries {H : Type} : List (Lit × DataW H) → Nat
  | [] => 0
  | x :: r => uptoBulkEntry x + uptoBulkEntries r
def uptoBulkEntry {H : Type} : Lit × DataW H → Nat
  | (.string bytes, d) => bytes.length + uptoBulk d + 1
  | (_, d) => uptoBulk d + 1
 end
def uptoSmall : (H : Type) → List (DataW H) → Bool := fun _ ds => decide (uptoBulkAll ds ≤ 1048576)
def OpenSpec.upto (s : _root_.Go.ChangeSpec) : _root_.Go.OpenSpec := { _root_.Go.OpenSpec.ofChange s with cond := some uptoSmall }

/-- 'redundancylaw17.FileEmpties', WHERE WHAT IT READS IS OF BULK AT MOST 1048576: true; the input reads as it did. -/
def fileEmptiesUptoRow : OpenClaim := { program := "ytanmcjkpdkmhfaa", sum := "09a3ce4c7dcf5cbcc929ce8fc1d9ce1bcc6c7c8ecbcd9d94a8a21c099be375cf", func := "redundancy/redundancylaw17.FileEmpties", spec := "fileEmpties", unfollowed := true, recurses := true, apart := false, narrowed := true }
def FileEmptiesUptoSaid : Prop := fileEmptiesUptoRow.holds Try.pinned (OpenSpec.upto fileEmptiesSpec)

/-- 'redundancylaw17.FileParts', WHERE WHAT IT READS IS OF BULK AT MOST 1048576: true; the input reads as it did. -/
def filePartsUptoRow : OpenClaim := { program := "ytanmcjkpdkmhfaa", sum := "09a3ce4c7dcf5cbcc929ce8fc1d9ce1bcc6c7c8ecbcd9d94a8a21c099be375cf", func := "redundancy/redundancylaw17.FileParts", spec := "fileParts", unfollowed := true, recurses := true, apart := false, narrowed := true }
def FilePartsUptoSaid : Prop := filePartsUptoRow.holds Try.pinned (OpenSpec.upto filePartsSpec)

/-- 'redundancylaw17.FileHandles', WHERE WHAT IT READS IS OF BULK AT MOST 1048576: true; the input reads as it did. -/
def fileHandlesUptoRow : OpenClaim := { program := "ytanmcjkpdkmhfaa", sum := "09a3ce4c7dcf5cbcc929ce8fc1d9ce1bcc6c7c8ecbcd9d94a8a21c099be375cf", func := "redundancy/redundancylaw17.FileHandles", spec := "fileHandles", unfollowed := true, recurses := true, apart := false, narrowed := true }
def FileHandlesUptoSaid : Prop := fileHandlesUptoRow.holds Try.pinned (OpenSpec.upto fileHandlesSpec)

/-- 'redundancylaw17.FileBack', WHERE WHAT IT READS IS OF BULK AT MOST 1048576: true; the input reads as it did. -/
def fileBackUptoRow : OpenClaim := { program := "ytanmcjkpdkmhfaa", sum := "09a3ce4c7dcf5cbcc929ce8fc1d9ce1bcc6c7c8ecbcd9d94a8a21c099be375cf", func := "redundancy/redundancylaw17.FileBack", spec := "fileBack", unfollowed := true, recurses := true, apart := false, narrowed := true }
def FileBackUptoSaid : Prop := fileBackUptoRow.holds Try.pinned (OpenSpec.upto fileBackSpec)

/-- 'redundancylaw17.FileSteps', WHERE WHAT IT READS IS OF BULK AT MOST 1048576: true; the input reads as it did. -/
def fileStepsUptoRow : OpenClaim := { program := "ytanmcjkpdkmhfaa", sum := "09a3ce4c7dcf5cbcc929ce8fc1d9ce1bcc6c7c8ecbcd9d94a8a21c099be375cf", func := "redundancy/redundancylaw17.FileSteps", spec := "fileSteps", unfollowed := true, recurses := true, apart := false, narrowed := true }
def FileStepsUptoSaid : Prop := fileStepsUptoRow.holds Try.pinned (OpenSpec.upto fileStepsSpec)

end Rows
end Go.Proofs.Ytanmcjkpdkmhfaa
