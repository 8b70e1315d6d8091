/- Distance of lists of cells: plain. -/
import Derived.Test.YtpdpiihnafkgjaaShapes
import Derived.Test.YtpdpiihnafkgjaaBits
namespace Rdn
open Go

/-- How far the i-th cells of two lists are apart. -/
def dAt (a b : List Cell) (i : Nat) : Nat :=
  match a[i]?, b[i]? with
  | some x, some y => ones 16 (x.val.toNat ^^^ y.val.toNat) + if x.tag = y.tag then 0 else 1
  | none, none => 0
  | _, _ => 17
def dTo (a b : List Cell) : Nat → Nat
  | 0 => 0
  | n + 1 => dTo a b n + dAt a b n
def dist (a b : List Cell) : Nat := dTo a b (max a.length b.length)

theorem dAt_le (a b : List Cell) (i : Nat) : dAt a b i ≤ 17 := by
  unfold dAt
  split
  · rename_i x y _ _
    have := ones_le 16 (x.val.toNat ^^^ y.val.toNat)
    split <;> omega
  · omega
  · omega
theorem dTo_le (a b : List Cell) : ∀ n, dTo a b n ≤ 17 * n
  | 0 => by simp [dTo]
  | n + 1 => by have := dTo_le a b n; have := dAt_le a b n; simp only [dTo]; omega
theorem dAt_both {a b : List Cell} {i : Nat} (ha : i < a.length) (hb : i < b.length) : dAt a b i = ones 16 (a[i].val.toNat ^^^ b[i].val.toNat) + if a[i].tag = b[i].tag then 0 else 1 := by
  simp [dAt, List.getElem?_eq_getElem ha, List.getElem?_eq_getElem hb]
theorem dAt_one {a b : List Cell} {i : Nat} (h : i < max a.length b.length) (h1 : a.length ≤ i ∨ b.length ≤ i) : dAt a b i = 17 := by
  unfold dAt
  rcases h1 with h1 | h1
  · rw [List.getElem?_eq_none h1, List.getElem?_eq_getElem (show i < b.length by omega)]
  · rw [List.getElem?_eq_none h1, List.getElem?_eq_getElem (show i < a.length by omega)]
end Rdn
