/- The distance of lists of cells is a metric: plain. -/
import Derived.Test.YtpdpiihnafkgjaaWordP
namespace Rdn
open Go
set_option linter.unusedVariables false

theorem dAt_comm (a b : List Cell) (i : Nat) : dAt a b i = dAt b a i := by
  unfold dAt
  cases a[i]? <;> cases b[i]? <;> simp [Nat.xor_comm, eq_comm]
theorem dTo_comm (a b : List Cell) : ∀ n, dTo a b n = dTo b a n
  | 0 => rfl
  | n + 1 => by simp only [dTo, dTo_comm a b n, dAt_comm a b n]
theorem dist_comm (a b : List Cell) : dist a b = dist b a := by unfold dist; rw [dTo_comm, Nat.max_comm]
theorem dAt_out {a b : List Cell} {i : Nat} (h : max a.length b.length ≤ i) : dAt a b i = 0 := by
  unfold dAt
  rw [List.getElem?_eq_none (by omega), List.getElem?_eq_none (by omega)]
theorem dTo_out {a b : List Cell} : ∀ {n}, max a.length b.length ≤ n → dTo a b n = dist a b
  | 0, h => by unfold dist; rw [show max a.length b.length = 0 by omega]
  | n + 1, h => by
    by_cases e : max a.length b.length = n + 1
    · unfold dist; rw [e]
    · simp only [dTo]
      rw [dTo_out (n := n) (by omega), dAt_out (by omega)]
      rfl
theorem dAt_tri (a b c : List Cell) (i : Nat) : dAt a c i ≤ dAt a b i + dAt b c i := by
  unfold dAt
  cases ha : a[i]? <;> cases hb : b[i]? <;> cases hc : c[i]? <;> simp only [] <;> try omega
  · rename_i x z
    have := ones_le 16 (x.val.toNat ^^^ z.val.toNat)
    split <;> omega
  · rename_i x y z
    have := ones_tri 16 x.val.toNat y.val.toNat z.val.toNat
    by_cases h1 : x.tag = y.tag <;> by_cases h2 : y.tag = z.tag <;> by_cases h3 : x.tag = z.tag <;> simp only [h1, h2, h3, if_true, if_false] <;> first | omega | (exfalso; apply h3; rw [h1, h2]) | skip
    all_goals (split <;> omega)
theorem dTo_tri (a b c : List Cell) : ∀ n, dTo a c n ≤ dTo a b n + dTo b c n
  | 0 => by simp [dTo]
  | n + 1 => by have := dTo_tri a b c n; have := dAt_tri a b c n; simp only [dTo]; omega
theorem dist_tri (a b c : List Cell) : dist a c ≤ dist a b + dist b c := by
  have := dTo_tri a b c (max a.length (max b.length c.length))
  rwa [dTo_out (by omega), dTo_out (by omega), dTo_out (by omega)] at this
theorem dAt_self (a : List Cell) (i : Nat) : dAt a a i = 0 := by
  unfold dAt
  cases a[i]? <;> simp [ones_zero]
theorem dist_self (a : List Cell) : dist a a = 0 := by
  unfold dist
  generalize max a.length a.length = n
  induction n with
  | zero => rfl
  | succ n ih => simp only [dTo, ih, dAt_self]
theorem dTo_zero {a b : List Cell} : ∀ {n}, dTo a b n = 0 → ∀ i, i < n → dAt a b i = 0
  | n + 1, h, i, hi => by
    simp only [dTo] at h
    by_cases e : i = n
    · subst e; omega
    · exact dTo_zero (n := n) (by omega) i (by omega)
/-- A cell's word is a word. -/
def Cell.ok (c : Cell) : Prop := 0 ≤ c.val ∧ c.val ≤ 65535
theorem dist_zero {a b : List Cell} (ha : ∀ c ∈ a, c.ok) (hb : ∀ c ∈ b, c.ok) (h : dist a b = 0) : a = b := by
  have hz := dTo_zero h
  have hl : a.length = b.length := by
    by_cases e : a.length = b.length
    · exact e
    · have := hz (min a.length b.length) (by omega)
      rw [dAt_one (by omega) (by omega)] at this
      omega
  apply List.ext_getElem hl
  intro i h1 h2
  have := hz i (by omega)
  rw [dAt_both h1 h2] at this
  have ho : ones 16 (a[i].val.toNat ^^^ b[i].val.toNat) = 0 := by omega
  have ht : a[i].tag = b[i].tag := by
    by_cases e : a[i].tag = b[i].tag
    · exact e
    · rw [if_neg e] at this; omega
  obtain ⟨a0, a1⟩ := ha _ (List.getElem_mem h1)
  obtain ⟨b0, b1⟩ := hb _ (List.getElem_mem h2)
  have hx := ones_eq_zero 16 _ (Nat.xor_lt_two_pow (n := 16) (by omega) (by omega)) ho
  have hv : a[i].val.toNat = b[i].val.toNat := by have e := xor_self_xor a[i].val.toNat b[i].val.toNat; rw [hx, Nat.zero_xor] at e; exact e.symm
  have hv' : a[i].val = b[i].val := by omega
  cases h1 : a[i]
  cases h2 : b[i]
  simp_all
end Rdn
