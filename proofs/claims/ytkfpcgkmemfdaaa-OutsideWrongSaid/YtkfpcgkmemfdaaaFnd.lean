/- The first element that fits. -/
import Derived.Test.YtkfpcgkmemfdaaaDz
import Derived.Test.YtkfpcgkmemfdaaaDd
namespace Go.Proofs.Ytkfpcgkmemfdaaa
open Go Go.RowKit Rdn Rdn.Dp
set_option linter.unusedVariables false
set_option linter.unusedSimpArgs false
/-- The first element that fits, -1 if there is none. -/
def fnd {α : Type} (p : α → Bool) (l : List α) : Int := if l.any p = true then (l.findIdx p : Int) else -1
theorem fnd_at {α : Type} [Inhabited α] {p : α → Bool} {l : List α} {k : Nat} (h : k < l.length) (h0 : ∀ j, j < k → p l[j]! = false) (h1 : p l[k]! = true) : fnd p l = k := by
  have hk : l[k]! = l[k] := getElem!_pos l k h
  have ha : l.any p = true := List.any_eq_true.2 ⟨l[k], List.getElem_mem h, by rw [← hk]; exact h1⟩
  rw [fnd, if_pos ha]
  have : l.findIdx p = k := by
    refine (List.findIdx_eq h).2 ⟨by rw [← hk]; exact h1, fun j hj => ?_⟩
    have := h0 j hj
    rw [getElem!_pos l j (by omega)] at this
    exact this
  rw [this]
theorem fnd_no {α : Type} [Inhabited α] {p : α → Bool} {l : List α} (h0 : ∀ j, j < l.length → p l[j]! = false) : fnd p l = -1 := by
  have ha : ¬ l.any p = true := fun h => by
    obtain ⟨x, hx, hp⟩ := List.any_eq_true.1 h
    obtain ⟨j, hj, rfl⟩ := List.getElem_of_mem hx
    have := h0 j hj
    rw [getElem!_pos l j hj, hp] at this
    cases this
  rw [fnd, if_neg ha]
theorem fnd_ge {α : Type} (p : α → Bool) (l : List α) : decide (fnd p l ≥ 0) = l.any p := by
  unfold fnd
  split
  · rename_i h
    rw [h]; simp
  · rename_i h
    rw [Bool.not_eq_true] at h
    rw [h]; simp
end Go.Proofs.Ytkfpcgkmemfdaaa
