/-
  No cell of these rows narrows 'for every input' (looked for: loops, veiled, ifaces, maps, wideKeys, modest, calm, conditions, laid).
  DERIVED. THE GIVEN ROWS OF THIS SEAT. 10 by the template 'for every input the law returns true; each argument reads behind the call as it read before'; 0 by the template 'total and deterministic' (their statements: YtcphobeommkgeaaTotals.lean).
  GIVEN WITH THE SEED: the statements are not yours to turn. If you find one false, say at which input.
  Laid BY PROGRAM, IN A SANDBOX (cutbox-rows.mjs): the forced cells as the released guide's own fill.sh prints them over the translation 642735ddc4d06b59… (all of the seat's roots in one cut). By AI agents, Wed Nov 11 2026. No macro, syntax, notation, axiom, sorry.
-/
import Derived.Test.YtcphobeommkgeaaChecked
import GoSem.Claim
import GoSem.ClaimJoined
import GoSem.ClaimMapViews
import Derived.JoinedTies
import Derived.KernelRfl
namespace Go.Proofs.Ytcphobeommkgeaa
/- THE CELL 'sum', in the pinned program and in every row, IS THE sha256 OF THE DUMP (.gsa) THAT YtcphobeommkgeaaProg.lean LOADS. Nothing in Lean hashes anything: it is a label: what it is worth is what the hold of that sum in a sandbox is worth. -/
noncomputable def Try.pinned : Pinned := { name := "ytcphobeommkgeaa", sum := "642735ddc4d06b59ab223ef2249531b50740bb3897b934548c88610c5af01e16", checked := Try.checked }
namespace Rows
def none {H : Type} : Left H := { results := [], args := [] }

/-- 'redundancylaw25.PagesBytes': WHATEVER THE INPUT: true; the input reads as it did. -/
def pagesBytesSpec : ChangeSpec := { name := "pagesBytes", fn := fun _ => fun
  | [d1, d2, d3] => { results := [.lit (.bool true)], args := [d1, d2, d3] }
  | _ => none }
def pagesBytesRow : OpenClaim := { program := "ytcphobeommkgeaa", sum := "642735ddc4d06b59ab223ef2249531b50740bb3897b934548c88610c5af01e16", func := "redundancy/redundancylaw25.PagesBytes", spec := "pagesBytes", unfollowed := true, recurses := true, apart := false }
def PagesBytesSaid : Prop := pagesBytesRow.holds Try.pinned (OpenSpec.ofChange pagesBytesSpec)

/-- ITS FALSE NEIGHBOUR: 'it returns false'. Refute it at one input. -/
def pagesBytesWrong : ChangeSpec := { name := "pagesBytes", fn := fun _ => fun
  | [d1, d2, d3] => { results := [.lit (.bool false)], args := [d1, d2, d3] }
  | _ => none }
def PagesBytesWrongFalsely : Prop := pagesBytesRow.holds Try.pinned (OpenSpec.ofChange pagesBytesWrong)

/-- 'redundancylaw25.PagesShapes': WHATEVER THE INPUT: true; the input reads as it did. -/
def pagesShapesSpec : ChangeSpec := { name := "pagesShapes", fn := fun _ => fun
  | [d] => { results := [.lit (.bool true)], args := [d] }
  | _ => none }
def pagesShapesRow : OpenClaim := { program := "ytcphobeommkgeaa", sum := "642735ddc4d06b59ab223ef2249531b50740bb3897b934548c88610c5af01e16", func := "redundancy/redundancylaw25.PagesShapes", spec := "pagesShapes", unfollowed := true, recurses := true, apart := false }
def PagesShapesSaid : Prop := pagesShapesRow.holds Try.pinned (OpenSpec.ofChange pagesShapesSpec)

/-- ITS FALSE NEIGHBOUR: 'it returns false'. Refute it at one input. -/
def pagesShapesWrong : ChangeSpec := { name := "pagesShapes", fn := fun _ => fun
  | [d] => { results := [.lit (.bool false)], args := [d] }
  | _ => none }
def PagesShapesWrongFalsely : Prop := pagesShapesRow.holds Try.pinned (OpenSpec.ofChange pagesShapesWrong)

/-- 'redundancylaw26.TreeMade': WHATEVER THE INPUT: true; the input reads as it did. -/
def treeMadeSpec : ChangeSpec := { name := "treeMade", fn := fun _ => fun
  | [d1, d2, d3, d4, d5] => { results := [.lit (.bool true)], args := [d1, d2, d3, d4, d5] }
  | _ => none }
def treeMadeRow : OpenClaim := { program := "ytcphobeommkgeaa", sum := "642735ddc4d06b59ab223ef2249531b50740bb3897b934548c88610c5af01e16", func := "redundancy/redundancylaw26.TreeMade", spec := "treeMade", unfollowed := true, recurses := true, apart := false }
def TreeMadeSaid : Prop := treeMadeRow.holds Try.pinned (OpenSpec.ofChange treeMadeSpec)

/-- ITS FALSE NEIGHBOUR: 'it returns false'. Refute it at one input. -/
def treeMadeWrong : ChangeSpec := { name := "treeMade", fn := fun _ => fun
  | [d1, d2, d3, d4, d5] => { results := [.lit (.bool false)], args := [d1, d2, d3, d4, d5] }
  | _ => none }
def TreeMadeWrongFalsely : Prop := treeMadeRow.holds Try.pinned (OpenSpec.ofChange treeMadeWrong)

/-- 'redundancylaw26.TreeDiffers': WHATEVER THE INPUT: true; the input reads as it did. -/
def treeDiffersSpec : ChangeSpec := { name := "treeDiffers", fn := fun _ => fun
  | [d1, d2, d3, d4] => { results := [.lit (.bool true)], args := [d1, d2, d3, d4] }
  | _ => none }
def treeDiffersRow : OpenClaim := { program := "ytcphobeommkgeaa", sum := "642735ddc4d06b59ab223ef2249531b50740bb3897b934548c88610c5af01e16", func := "redundancy/redundancylaw26.TreeDiffers", spec := "treeDiffers", unfollowed := true, recurses := true, apart := false }
def TreeDiffersSaid : Prop := treeDiffersRow.holds Try.pinned (OpenSpec.ofChange treeDiffersSpec)

/-- ITS FALSE NEIGHBOUR: 'it returns false'. Refute it at one input. -/
def treeDiffersWrong : ChangeSpec := { name := "treeDiffers", fn := fun _ => fun
  | [d1, d2, d3, d4] => { results := [.lit (.bool false)], args := [d1, d2, d3, d4] }
  | _ => none }
def TreeDiffersWrongFalsely : Prop := treeDiffersRow.holds Try.pinned (OpenSpec.ofChange treeDiffersWrong)

/-- 'redundancylaw26.TreeUpdates': WHATEVER THE INPUT: true; the input reads as it did. -/
def treeUpdatesSpec : ChangeSpec := { name := "treeUpdates", fn := fun _ => fun
  | [d1, d2, d3] => { results := [.lit (.bool true)], args := [d1, d2, d3] }
  | _ => none }
def treeUpdatesRow : OpenClaim := { program := "ytcphobeommkgeaa", sum := "642735ddc4d06b59ab223ef2249531b50740bb3897b934548c88610c5af01e16", func := "redundancy/redundancylaw26.TreeUpdates", spec := "treeUpdates", unfollowed := true, recurses := true, apart := false }
def TreeUpdatesSaid : Prop := treeUpdatesRow.holds Try.pinned (OpenSpec.ofChange treeUpdatesSpec)

/-- ITS FALSE NEIGHBOUR: 'it returns false'. Refute it at one input. -/
def treeUpdatesWrong : ChangeSpec := { name := "treeUpdates", fn := fun _ => fun
  | [d1, d2, d3] => { results := [.lit (.bool false)], args := [d1, d2, d3] }
  | _ => none }
def TreeUpdatesWrongFalsely : Prop := treeUpdatesRow.holds Try.pinned (OpenSpec.ofChange treeUpdatesWrong)

/-- 'redundancylaw25.PagesBack': WHATEVER THE INPUT: true; the input reads as it did. -/
def pagesBackSpec : ChangeSpec := { name := "pagesBack", fn := fun _ => fun
  | [d1, d2] => { results := [.lit (.bool true)], args := [d1, d2] }
  | _ => none }
def pagesBackRow : OpenClaim := { program := "ytcphobeommkgeaa", sum := "642735ddc4d06b59ab223ef2249531b50740bb3897b934548c88610c5af01e16", func := "redundancy/redundancylaw25.PagesBack", spec := "pagesBack", unfollowed := true, recurses := true, apart := false }
def PagesBackSaid : Prop := pagesBackRow.holds Try.pinned (OpenSpec.ofChange pagesBackSpec)

/-- ITS FALSE NEIGHBOUR: 'it returns false'. Refute it at one input. -/
def pagesBackWrong : ChangeSpec := { name := "pagesBack", fn := fun _ => fun
  | [d1, d2] => { results := [.lit (.bool false)], args := [d1, d2] }
  | _ => none }
def PagesBackWrongFalsely : Prop := pagesBackRow.holds Try.pinned (OpenSpec.ofChange pagesBackWrong)

/-- 'redundancylaw25.PagesRaw': WHATEVER THE INPUT: true; the input reads as it did. -/
def pagesRawSpec : ChangeSpec := { name := "pagesRaw", fn := fun _ => fun
  | [d1, d2, d3, d4, d5] => { results := [.lit (.bool true)], args := [d1, d2, d3, d4, d5] }
  | _ => none }
def pagesRawRow : OpenClaim := { program := "ytcphobeommkgeaa", sum := "642735ddc4d06b59ab223ef2249531b50740bb3897b934548c88610c5af01e16", func := "redundancy/redundancylaw25.PagesRaw", spec := "pagesRaw", unfollowed := true, recurses := true, apart := false }
def PagesRawSaid : Prop := pagesRawRow.holds Try.pinned (OpenSpec.ofChange pagesRawSpec)

/-- ITS FALSE NEIGHBOUR: 'it returns false'. Refute it at one input. -/
def pagesRawWrong : ChangeSpec := { name := "pagesRaw", fn := fun _ => fun
  | [d1, d2, d3, d4, d5] => { results := [.lit (.bool false)], args := [d1, d2, d3, d4, d5] }
  | _ => none }
def PagesRawWrongFalsely : Prop := pagesRawRow.holds Try.pinned (OpenSpec.ofChange pagesRawWrong)

/-- 'redundancylaw25.PagesMade': WHATEVER THE INPUT: true; the input reads as it did. -/
def pagesMadeSpec : ChangeSpec := { name := "pagesMade", fn := fun _ => fun
  | [d1, d2, d3] => { results := [.lit (.bool true)], args := [d1, d2, d3] }
  | _ => none }
def pagesMadeRow : OpenClaim := { program := "ytcphobeommkgeaa", sum := "642735ddc4d06b59ab223ef2249531b50740bb3897b934548c88610c5af01e16", func := "redundancy/redundancylaw25.PagesMade", spec := "pagesMade", unfollowed := true, recurses := true, apart := false }
def PagesMadeSaid : Prop := pagesMadeRow.holds Try.pinned (OpenSpec.ofChange pagesMadeSpec)

/-- ITS FALSE NEIGHBOUR: 'it returns false'. Refute it at one input. -/
def pagesMadeWrong : ChangeSpec := { name := "pagesMade", fn := fun _ => fun
  | [d1, d2, d3] => { results := [.lit (.bool false)], args := [d1, d2, d3] }
  | _ => none }
def PagesMadeWrongFalsely : Prop := pagesMadeRow.holds Try.pinned (OpenSpec.ofChange pagesMadeWrong)

/-- 'redundancylaw26.TreeStates': WHATEVER THE INPUT: true; the input reads as it did. -/
def treeStatesSpec : ChangeSpec := { name := "treeStates", fn := fun _ => fun
  | [d1, d2, d3] => { results := [.lit (.bool true)], args := [d1, d2, d3] }
  | _ => none }
def treeStatesRow : OpenClaim := { program := "ytcphobeommkgeaa", sum := "642735ddc4d06b59ab223ef2249531b50740bb3897b934548c88610c5af01e16", func := "redundancy/redundancylaw26.TreeStates", spec := "treeStates", unfollowed := true, recurses := true, apart := false }
def TreeStatesSaid : Prop := treeStatesRow.holds Try.pinned (OpenSpec.ofChange treeStatesSpec)

/-- ITS FALSE NEIGHBOUR: 'it returns false'. Refute it at one input. -/
def treeStatesWrong : ChangeSpec := { name := "treeStates", fn := fun _ => fun
  | [d1, d2, d3] => { results := [.lit (.bool false)], args := [d1, d2, d3] }
  | _ => none }
def TreeStatesWrongFalsely : Prop := treeStatesRow.holds Try.pinned (OpenSpec.ofChange treeStatesWrong)

/-- 'redundancylaw26.TreeRaw': WHATEVER THE INPUT: true; the input reads as it did. -/
def treeRawSpec : ChangeSpec := { name := "treeRaw", fn := fun _ => fun
  | [d1, d2, d3, d4, d5, d6] => { results := [.lit (.bool true)], args := [d1, d2, d3, d4, d5, d6] }
  | _ => none }
def treeRawRow : OpenClaim := { program := "ytcphobeommkgeaa", sum := "642735ddc4d06b59ab223ef2249531b50740bb3897b934548c88610c5af01e16", func := "redundancy/redundancylaw26.TreeRaw", spec := "treeRaw", unfollowed := true, recurses := true, apart := false }
def TreeRawSaid : Prop := treeRawRow.holds Try.pinned (OpenSpec.ofChange treeRawSpec)

/-- ITS FALSE NEIGHBOUR: 'it returns false'. Refute it at one input. -/
def treeRawWrong : ChangeSpec := { name := "treeRaw", fn := fun _ => fun
  | [d1, d2, d3, d4, d5, d6] => { results := [.lit (.bool false)], args := [d1, d2, d3, d4, d5, d6] }
  | _ => none }
def TreeRawWrongFalsely : Prop := treeRawRow.holds Try.pinned (OpenSpec.ofChange treeRawWrong)

/- THE SECOND FORM. 'bulk': how many values and letters a reading holds, each counted each time it is reached (what is shared counts as often as it is met; a slice's spare places count too). A statement '..UptoSaid' is the law's where the arguments, and the package variables that the reading takes, are together of bulk at most 1048576: NARROWER than '..Said'. Prove '..Said' where nothing that the law and all that it calls make is longer than what came in: it says more and counts as full. Else prove '..UptoSaid'. A law counts once. -/
mutual
def uptoBulk {H : Type} : DataW H → Nat
  | .lit (.string bytes) => bytes.length + 1
  | .lit _ => 1
  | .nil => 1
  | .ptr d => uptoBulk d + 1
  | .slice elems spare => uptoBulkAll elems + uptoBulkAll spare + 1
  | .agg parts => uptoBulkAll parts + 1
  | .iface _ d => uptoBulk d + 1
  | .map entries => uptoBulkEntries entries + 1
  | .held _ => 1
def uptoBulkAll {H : Type} : List (DataW H) → Nat
  | [] => 0
  | d :: r => uptoBulk d + uptoBulkAll r
def uptoBulkEntries {H : Type} : List (Lit × DataW H) → Nat
  | [] => 0
  | x :: r => uptoBulkEntry x + uptoBulkEntries r
def uptoBulkEntry {H : Type} : Lit × DataW H → Nat
  | (.string bytes, d) => bytes.length + uptoBulk d + 1
  | (_, d) => uptoBulk d + 1
 end
def uptoSmall : (H : Type) → List (DataW H) → Bool := fun _ ds => decide (uptoBulkAll ds ≤ 1048576)
def OpenSpec.upto (s : _root_.Go.ChangeSpec) : _root_.Go.OpenSpec := { _root_.Go.OpenSpec.ofChange s with cond := some uptoSmall }

/-- 'redundancylaw25.PagesBytes', WHERE WHAT IT READS IS OF BULK AT MOST 1048576: true; the input reads as it did. -/
def pagesBytesUptoRow : OpenClaim := { program := "ytcphobeommkgeaa", sum := "642735ddc4d06b59ab223ef2249531b50740bb3897b934548c88610c5af01e16", func := "redundancy/redundancylaw25.PagesBytes", spec := "pagesBytes", unfollowed := true, recurses := true, apart := false, narrowed := true }
def PagesBytesUptoSaid : Prop := pagesBytesUptoRow.holds Try.pinned (OpenSpec.upto pagesBytesSpec)

/-- 'redundancylaw25.PagesShapes', WHERE WHAT IT READS IS OF BULK AT MOST 1048576: true; the input reads as it did. -/
def pagesShapesUptoRow : OpenClaim := { program := "ytcphobeommkgeaa", sum := "642735ddc4d06b59ab223ef2249531b50740bb3897b934548c88610c5af01e16", func := "redundancy/redundancylaw25.PagesShapes", spec := "pagesShapes", unfollowed := true, recurses := true, apart := false, narrowed := true }
def PagesShapesUptoSaid : Prop := pagesShapesUptoRow.holds Try.pinned (OpenSpec.upto pagesShapesSpec)

/-- 'redundancylaw26.TreeMade', WHERE WHAT IT READS IS OF BULK AT MOST 1048576: true; the input reads as it did. -/
def treeMadeUptoRow : OpenClaim := { program := "ytcphobeommkgeaa", sum := "642735ddc4d06b59ab223ef2249531b50740bb3897b934548c88610c5af01e16", func := "redundancy/redundancylaw26.TreeMade", spec := "treeMade", unfollowed := true, recurses := true, apart := false, narrowed := true }
def TreeMadeUptoSaid : Prop := treeMadeUptoRow.holds Try.pinned (OpenSpec.upto treeMadeSpec)

/-- 'redundancylaw26.TreeDiffers', WHERE WHAT IT READS IS OF BULK AT MOST 1048576: true; the input reads as it did. -/
def treeDiffersUptoRow : OpenClaim := { program := "ytcphobeommkgeaa", sum := "642735ddc4d06b59ab223ef2249531b50740bb3897b934548c88610c5af01e16", func := "redundancy/redundancylaw26.TreeDiffers", spec := "treeDiffers", unfollowed := true, recurses := true, apart := false, narrowed := true }
def TreeDiffersUptoSaid : Prop := treeDiffersUptoRow.holds Try.pinned (OpenSpec.upto treeDiffersSpec)

/-- 'redundancylaw26.TreeUpdates', WHERE WHAT IT READS IS OF BULK AT MOST 1048576: true; the input reads as it did. -/
def treeUpdatesUptoRow : OpenClaim := { program := "ytcphobeommkgeaa", sum := "642735ddc4d06b59ab223ef2249531b50740bb3897b934548c88610c5af01e16", func := "redundancy/redundancylaw26.TreeUpdates", spec := "treeUpdates", unfollowed := true, recurses := true, apart := false, narrowed := true }
def TreeUpdatesUptoSaid : Prop := treeUpdatesUptoRow.holds Try.pinned (OpenSpec.upto treeUpdatesSpec)

/-- 'redundancylaw25.PagesBack', WHERE WHAT IT READS IS OF BULK AT MOST 1048576: true; the input reads as it did. -/
def pagesBackUptoRow : OpenClaim := { program := "ytcphobeommkgeaa", sum := "642735ddc4d06b59ab223ef2249531b50740bb3897b934548c88610c5af01e16", func := "redundancy/redundancylaw25.PagesBack", spec := "pagesBack", unfollowed := true, recurses := true, apart := false, narrowed := true }
def PagesBackUptoSaid : Prop := pagesBackUptoRow.holds Try.pinned (OpenSpec.upto pagesBackSpec)

/-- 'redundancylaw25.PagesRaw', WHERE WHAT IT READS IS OF BULK AT MOST 1048576: true; the input reads as it did. -/
def pagesRawUptoRow : OpenClaim := { program := "ytcphobeommkgeaa", sum := "642735ddc4d06b59ab223ef2249531b50740bb3897b934548c88610c5af01e16", func := "redundancy/redundancylaw25.PagesRaw", spec := "pagesRaw", unfollowed := true, recurses := true, apart := false, narrowed := true }
def PagesRawUptoSaid : Prop := pagesRawUptoRow.holds Try.pinned (OpenSpec.upto pagesRawSpec)

/-- 'redundancylaw25.PagesMade', WHERE WHAT IT READS IS OF BULK AT MOST 1048576: true; the input reads as it did. -/
def pagesMadeUptoRow : OpenClaim := { program := "ytcphobeommkgeaa", sum := "642735ddc4d06b59ab223ef2249531b50740bb3897b934548c88610c5af01e16", func := "redundancy/redundancylaw25.PagesMade", spec := "pagesMade", unfollowed := true, recurses := true, apart := false, narrowed := true }
def PagesMadeUptoSaid : Prop := pagesMadeUptoRow.holds Try.pinned (OpenSpec.upto pagesMadeSpec)

/-- 'redundancylaw26.TreeStates', WHERE WHAT IT READS IS OF BULK AT MOST 1048576: true; the input reads as it did. -/
def treeStatesUptoRow : OpenClaim := { program := "ytcphobeommkgeaa", sum := "642735ddc4d06b59ab223ef2249531b50740bb3897b934548c88610c5af01e16", func := "redundancy/redundancylaw26.TreeStates", spec := "treeStates", unfollowed := true, recurses := true, apart := false, narrowed := true }
def TreeStatesUptoSaid : Prop := treeStatesUptoRow.holds Try.pinned (OpenSpec.upto treeStatesSpec)

/-- 'redundancylaw26.TreeRaw', WHERE WHAT IT READS IS OF BULK AT MOST 1048576: true; the input reads as it did. -/
def treeRawUptoRow : OpenClaim := { program := "ytcphobeommkgeaa", sum := "642735ddc4d06b59ab223ef2249531b50740bb3897b934548c88610c5af01e16", func := "redundancy/redundancylaw26.TreeRaw", spec := "treeRaw", unfollowed := true, recurses := true, apart := false, narrowed := true }
def TreeRawUptoSaid : Prop := treeRawUptoRow.holds Try.pinned (OpenSpec.upto treeRawSpec)

end Rows
end Go.Proofs.Ytcphobeommkgeaa
