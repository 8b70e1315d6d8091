/- A region that draws its order, whose calls make memory and leave the old as it was: the invariant for Gho.region: what was yielded reads as it should. Over any program. -/
import Derived.Test.YtpdpiihnafkgjaaMem
import Derived.Test.YtpdpiihnafkgjaaGho
namespace Rdn
open Go Go.RowKit
set_option linter.unusedVariables false

structure FreshC (R : Nat → World → Value → Prop) (W : World) (g : Nat → Option Value) (y : World) : Prop where
  keep : Below W.heap.size W y
  s : ∀ i v, g i = some v → R i y v
theorem FreshC.init {R : Nat → World → Value → Prop} {W : World} : FreshC R W (fun _ => none) { W with drawn := W.drawn + 1 } := ⟨⟨rfl, rfl, rfl, Nat.le_refl _, fun _ _ => rfl⟩, fun i v h => by cases h⟩
theorem FreshC.next {R : Nat → World → Value → Prop} {W y y' : World} {g : Nat → Option Value} (h : FreshC R W g y) (hR : ∀ i v, R i y v → Below y.heap.size y y' → R i y' v) (i : Nat) (u : Value) (hb : Below y.heap.size y y') (hu : R i y' u) : FreshC R W (Gho.upo g i u) y' := by
  refine ⟨h.keep.trans (hb.mono h.keep.size), fun j v hv => ?_⟩
  by_cases e : j = i
  · subst e
    rw [Gho.upo_same] at hv
    obtain rfl := Option.some.inj hv
    exact hu
  · rw [Gho.upo_ne g u e] at hv
    exact hR j v (h.s j v hv) hb
theorem SlV.toOld {α : Type} {r : Sh α} {S : Nat → Prop} {w : World} {l : List α} {v : Value} (h : SlV r S w l v) : SlV r (old w) w l v := h.sub (fun b hb _ => hb)
end Rdn
