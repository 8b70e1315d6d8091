/- The digest's step on plain numbers: it can be undone. -/
import Derived.WalkKit
namespace Rdn
open Go
set_option linter.unusedVariables false

/-- One byte. -/
def fnv1 (s x : Nat) : Nat := (s ^^^ x) * 16777619 % 4294967296
def fnv (s : Nat) : List Int → Nat
  | [] => s
  | x :: l => fnv (fnv1 s x.toNat) l
theorem fnv1_lt (s x : Nat) : fnv1 s x < 4294967296 := Nat.mod_lt _ (by decide)
theorem fnv_lt : ∀ (l : List Int) (s : Nat), s < 4294967296 → fnv s l < 4294967296
  | [], s, h => h
  | x :: l, s, _ => fnv_lt l _ (fnv1_lt _ _)
theorem fnv_append : ∀ (a b : List Int) (s : Nat), fnv s (a ++ b) = fnv (fnv s a) b
  | [], b, s => rfl
  | x :: a, b, s => fnv_append a b _
/-- The prime is odd: 16777619 * 899433627 = 1 modulo 2^32. -/
theorem mul_inv (n : Nat) (h : n < 4294967296) : n * 16777619 % 4294967296 * 899433627 % 4294967296 = n := by
  omega
theorem xor_cancel {a b x : Nat} (h : a ^^^ x = b ^^^ x) : a = b := by
  have := congrArg (· ^^^ x) h
  simpa [Nat.xor_assoc] using this
theorem xor32 {a x : Nat} (ha : a < 4294967296) (hx : x < 4294967296) : a ^^^ x < 4294967296 := Nat.xor_lt_two_pow (n := 32) ha hx
theorem fnv1_inj {a b x y : Nat} (ha : a < 4294967296) (hb : b < 4294967296) (hx : x < 4294967296) (hy : y < 4294967296) (h : fnv1 a x = fnv1 b y) : a ^^^ x = b ^^^ y := by
  rw [← mul_inv _ (xor32 ha hx), ← mul_inv _ (xor32 hb hy)]
  unfold fnv1 at h
  rw [h]
theorem fnv_inj : ∀ (l : List Int) {a b : Nat}, a < 4294967296 → b < 4294967296 → (∀ x ∈ l, x.toNat < 4294967296) → fnv a l = fnv b l → a = b
  | [], a, b, _, _, _, h => h
  | x :: l, a, b, ha, hb, hl, h => xor_cancel (fnv1_inj ha hb (hl x (by simp)) (hl x (by simp)) (fnv_inj l (fnv1_lt _ _) (fnv1_lt _ _) (fun y hy => hl y (by simp [hy])) h))
/-- Lists that differ in one byte alone. -/
theorem fnv_set : ∀ (l : List Int) (k : Nat) (x : Int) {s : Nat}, s < 4294967296 → (∀ y ∈ l, y.toNat < 4294967296) → x.toNat < 4294967296 → (h : k < l.length) → fnv s l = fnv s (l.set k x) → l[k].toNat = x.toNat
  | y :: l, 0, x, s, hs, hl, hx, _, h => by
    simp only [List.set_cons_zero, fnv] at h
    have e := fnv1_inj hs hs (hl y (by simp)) hx (fnv_inj l (fnv1_lt _ _) (fnv1_lt _ _) (fun z hz => hl z (by simp [hz])) h)
    rw [Nat.xor_comm s, Nat.xor_comm s] at e
    simpa using xor_cancel e
  | y :: l, k + 1, x, s, hs, hl, hx, hk, h => by
    simp only [List.set_cons_succ, fnv] at h
    simpa using fnv_set l k x (fnv1_lt _ _) (fun z hz => hl z (by simp [hz])) hx (by simpa using hk) h
end Rdn
