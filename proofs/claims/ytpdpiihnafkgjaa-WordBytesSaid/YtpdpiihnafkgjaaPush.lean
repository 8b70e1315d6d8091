/- 'out = append(out, x)' in a region that draws its order: the invariant for Gho.region. p: the operation that lays x in a block; q: the append. Over any program. -/
import Derived.Test.YtpdpiihnafkgjaaApp
import Derived.Test.YtpdpiihnafkgjaaGho
namespace Rdn
open Go Go.RowKit
set_option linter.unusedVariables false

structure PushC {α : Type} (r : Sh α) (Z : Nat → Prop) (base : Nat) (e : TypeId) (p q : Nat) (v0 : Value) (L : List α) (x0 : α) (cs : Array Value) (W : World) (g : Nat → Option Value) (y : World) : Prop where
  keep : Below base W y
  s0 : g q = none → Own r Z base e y v0 L
  s1 : ∀ B, g p = some (.slice (some ⟨B, 0, none⟩) 1 1) → g q = none → y.heap[B]? = some (.cells cs e (0, 0))
  s2 : ∀ v, g q = some v → Own r Z base e y v (L ++ [x0])

section
variable {α : Type} {r : Sh α} {Z : Nat → Prop} {base : Nat} {e : TypeId} {p q : Nat} {v0 : Value} {L : List α} {x0 : α} {cs : Array Value} {W y y' : World} {g : Nat → Option Value}
theorem PushC.init (hown : Own r Z base e W v0 L) : PushC r Z base e p q v0 L x0 cs W (fun _ => none) { W with drawn := W.drawn + 1 } :=
  ⟨⟨rfl, rfl, rfl, Nat.le_refl _, fun _ _ => rfl⟩, fun _ => hown.drew, fun _ h => (by cases h), fun _ h => (by cases h)⟩
/-- An operation that reads. -/
theorem PushC.read (h : PushC r Z base e p q v0 L x0 cs W g y) (i : Nat) (u : Value) (hp : i ≠ p) (hq : i ≠ q) : PushC r Z base e p q v0 L x0 cs W (Gho.upo g i u) y := by
  have ep := Gho.upo_ne g u (Ne.symm hp)
  have eq := Gho.upo_ne g u (Ne.symm hq)
  exact ⟨h.keep, fun hh => h.s0 (eq ▸ hh), fun B hB hh => h.s1 B (ep ▸ hB) (eq ▸ hh), fun v hv => h.s2 v (eq ▸ hv)⟩
/-- The block of x. -/
theorem PushC.block (h : PushC r Z base e p q v0 L x0 cs W g y) (hpq : p ≠ q) (hb : base ≤ W.heap.size) (hZ : ∀ b, Z b → b < base) : PushC r Z base e p q v0 L x0 cs W (Gho.upo g p (.slice (some ⟨y.heap.size, 0, none⟩) 1 1)) (y.alloc (.cells cs e)) := by
  have ep := Gho.upo_same g p (.slice (some ⟨y.heap.size, 0, none⟩) 1 1)
  have eq := Gho.upo_ne g (.slice (some ⟨y.heap.size, 0, none⟩) 1 1) (Ne.symm hpq)
  have hs := h.keep.size
  have ho : ∀ {v l}, Own r Z base e y v l → Own r Z base e (y.alloc (.cells cs e)) v l := fun hh => hh.keep (Keep.alloc (fun _ => False) _ _) (fun b hz => by have := hZ b hz; omega) (fun _ _ h => h) (fun _ _ h => h)
  refine ⟨h.keep.alloc (by omega) _, fun hh => ho (h.s0 (eq ▸ hh)), fun B hB hh => ?_, fun v hv => ho (h.s2 v (eq ▸ hv))⟩
  rw [ep] at hB
  injection hB with hB
  injection hB with hB
  injection hB with hB
  injection hB with hB
  subst hB
  exact heap_new _ _
/-- The append. -/
theorem PushC.push (h : PushC r Z base e p q v0 L x0 cs W g y) (hpq : p ≠ q) {u v' : Value} (hgp : g p = some u) (hgq : g q = none) (hb : base ≤ W.heap.size) (ho' : Own r Z base e y' v' (L ++ [x0])) (hk : Keep (fun b => v0.ownBlock = some b) y y') :
    PushC r Z base e p q v0 L x0 cs W (Gho.upo g q v') y' := by
  have eq := Gho.upo_same g q v'
  have hs := h.keep.size
  have hlt := (h.s0 hgq).lt
  refine ⟨h.keep.trans (hk.below (fun b _ e => (hlt b e).1) (by omega)), fun hh => ?_, fun B hB hh => ?_, fun v hv => ?_⟩
  · rw [eq] at hh; cases hh
  · rw [eq] at hh; cases hh
  · rw [eq] at hv
    obtain rfl := Option.some.inj hv
    exact ho'
end
end Rdn
