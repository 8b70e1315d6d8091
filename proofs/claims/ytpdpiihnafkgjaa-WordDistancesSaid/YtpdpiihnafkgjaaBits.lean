/- Bits of words: the number of ones, flips; plain lemmas on natural numbers. -/
import Derived.WalkKit
import Derived.Lib.Tables
namespace Rdn
open Go

/-- How many of the lowest k bits are 1. -/
def ones : Nat → Nat → Nat
  | 0, _ => 0
  | k + 1, n => n % 2 + ones k (n / 2)

theorem ones_le : ∀ k n, ones k n ≤ k
  | 0, _ => Nat.le_refl _
  | k + 1, n => by have := ones_le k (n / 2); unfold ones; omega

theorem ones_zero : ∀ k, ones k 0 = 0
  | 0 => rfl
  | k + 1 => by unfold ones; simp [ones_zero k]

theorem xor_mod2 (a b : Nat) : (a ^^^ b) % 2 = (a % 2 + b % 2) % 2 := by
  have h := Nat.xor_mod_two_pow (a := a) (b := b) (n := 1)
  simp only [Nat.pow_one] at h
  rw [h]
  rcases Nat.mod_two_eq_zero_or_one a with ha | ha <;> rcases Nat.mod_two_eq_zero_or_one b with hb | hb <;> simp [ha, hb]

theorem xor_div2 (a b : Nat) : (a ^^^ b) / 2 = a / 2 ^^^ b / 2 := by
  have h := Nat.xor_div_two_pow (a := a) (b := b) (n := 1)
  simpa using h

theorem and_div2 (a b : Nat) : (a &&& b) / 2 = a / 2 &&& b / 2 := by
  have h := Nat.and_div_two_pow (a := a) (b := b) (n := 1)
  simpa using h

theorem and_mod2 (a b : Nat) : (a &&& b) % 2 = a % 2 * (b % 2) := by
  have h := Nat.and_mod_two_pow (a := a) (b := b) (n := 1)
  simp only [Nat.pow_one] at h
  rw [h]
  rcases Nat.mod_two_eq_zero_or_one a with ha | ha <;> rcases Nat.mod_two_eq_zero_or_one b with hb | hb <;> simp [ha, hb]

theorem ones_tri : ∀ k a b c, ones k (a ^^^ c) ≤ ones k (a ^^^ b) + ones k (b ^^^ c)
  | 0, _, _, _ => by simp [ones]
  | k + 1, a, b, c => by
    have h := ones_tri k (a / 2) (b / 2) (c / 2)
    simp only [ones, xor_div2, xor_mod2]
    omega

theorem ones_eq_zero : ∀ k n, n < 2 ^ k → ones k n = 0 → n = 0
  | 0, n, h, _ => by simp at h; exact h
  | k + 1, n, h, h0 => by
    simp only [ones] at h0
    have := ones_eq_zero k (n / 2) (by rw [Nat.pow_succ] at h; omega) (by omega)
    omega

/-- 'v & (v - 1)' has one 1 less. -/
theorem ones_kern : ∀ k v, 0 < v → v < 2 ^ k → ones k (v &&& (v - 1)) + 1 = ones k v
  | 0, v, h0, h => by simp at h; omega
  | k + 1, v, h0, h => by
    rw [Nat.pow_succ] at h
    simp only [ones, and_div2, and_mod2]
    rcases Nat.mod_two_eq_zero_or_one v with hv | hv
    · have h1 : (v - 1) / 2 = v / 2 - 1 := by omega
      have ih := ones_kern k (v / 2) (by omega) (by omega)
      rw [h1, hv]
      omega
    · have h1 : (v - 1) / 2 = v / 2 := by omega
      have h2 : (v - 1) % 2 = 0 := by omega
      rw [h1, h2, hv, Nat.and_self]
      omega

theorem ones_split (m : Nat) : ∀ k x, ones (m + k) x = ones m (x % 2 ^ m) + ones k (x / 2 ^ m) := by
  induction m with
  | zero => intro k x; simp [ones]
  | succ m ih =>
    intro k x
    have e : m + 1 + k = (m + k) + 1 := by omega
    rw [e]
    simp only [ones]
    rw [ih k (x / 2)]
    have h1 : x % 2 ^ (m + 1) % 2 = x % 2 := by rw [Nat.pow_succ, Nat.mul_comm]; exact Nat.mod_mul_right_mod _ _ _
    have h2 : x % 2 ^ (m + 1) / 2 = x / 2 % 2 ^ m := by rw [Nat.pow_succ, Nat.mul_comm, Nat.mod_mul_right_div_self]
    have h3 : x / 2 ^ (m + 1) = x / 2 / 2 ^ m := by rw [Nat.pow_succ, Nat.mul_comm, Nat.div_div_eq_div_mul]
    rw [h1, h2, h3]
    omega

theorem pop8_ones : ∀ i : Fin 256, Go.Lib.pop8 ((i.val : Nat) : Int) = ((ones 8 i.val : Nat) : Int) := by decide +kernel

theorem pop8_of (i : Nat) (h : i < 256) : Go.Lib.pop8 (i : Int) = ((ones 8 i : Nat) : Int) := pop8_ones ⟨i, h⟩

theorem xor_self_xor (v b : Nat) : (v ^^^ b) ^^^ b = v := by rw [Nat.xor_assoc, Nat.xor_self, Nat.xor_zero]

/-- A flip of bit i changes the number of ones by 1. -/
theorem ones_flip : ∀ k v i, i < k → ones k (v ^^^ 2 ^ i) = ones k v + 1 ∨ ones k (v ^^^ 2 ^ i) + 1 = ones k v
  | 0, _, i, h => by omega
  | k + 1, v, 0, _ => by
    simp only [ones, xor_div2, xor_mod2, Nat.pow_zero]
    have : v / 2 ^^^ 1 / 2 = v / 2 := by simp
    rw [this]
    omega
  | k + 1, v, i + 1, h => by
    have h2 : 2 ^ (i + 1) / 2 = 2 ^ i := by rw [Nat.pow_succ]; omega
    have h3 : 2 ^ (i + 1) % 2 = 0 := by rw [Nat.pow_succ]; omega
    simp only [ones, xor_div2, xor_mod2, h2, h3]
    have := ones_flip k (v / 2) i (by omega)
    omega
/-- A flip of bit 'bit' modulo 16. -/
def flipI (v bit : Int) : Int := ((v.toNat ^^^ 2 ^ (bit % 16).toNat : Nat) : Int)
theorem tmod_neg_bounds {v n : Int} (hn : 1 ≤ n) (h : v < 0) : -n < v.tmod n ∧ v.tmod n ≤ 0 := by
  have e := Int.emod_eq_tmod (a := v) (b := n)
  have hlt := Int.emod_lt_of_pos v (b := n) (by omega)
  have h0 := Int.emod_nonneg v (b := n) (by omega)
  have hneg : v.tmod n = -((-v).tmod n) := by rw [Int.neg_tmod]; omega
  have h1 : 0 ≤ (-v).tmod n := Int.tmod_nonneg n (by omega)
  have h2 : (-v).tmod n < n := Int.tmod_lt_of_pos (-v) (by omega)
  omega

theorem emod_of_tmod {v n : Int} (hn : 1 ≤ n) (_h : v < 0) : (v.tmod n < 0 → v.tmod n + n = v % n) ∧ (0 ≤ v.tmod n → v.tmod n = v % n) := by
  have e := Int.emod_eq_tmod (a := v) (b := n)
  have hlt := Int.emod_lt_of_pos v (b := n) (by omega)
  have h0 := Int.emod_nonneg v (b := n) (by omega)
  have hl : v.tmod n < n := Int.tmod_lt_of_pos v (by omega)
  split at e
  · constructor <;> intro <;> omega
  · constructor <;> intro <;> omega


theorem tmod16_lo (bit : Int) : -16 < bit.tmod 16 := by
  by_cases h : bit < 0
  · exact (tmod_neg_bounds (by omega) h).1
  · have := Int.tmod_nonneg 16 (show 0 ≤ bit by omega); omega
theorem tmod16_eq (bit : Int) : bit.tmod 16 % 16 = bit % 16 := by
  have e := Int.emod_eq_tmod (a := bit) (b := 16)
  split at e
  · omega
  · simp only [Int.natAbs] at e
    omega
theorem wrap_u16_small (p : Nat) (h : p < 65536) : IntKind.u16.wrap (p : Int) = (p : Int) := by
  rw [IntKind.wrap_u16]; omega
theorem flip_eq (v bit : Int) (h0 : 0 ≤ v) (h1 : v ≤ 65535) : bits .xor .u16 v (IntKind.u16.wrap (2 ^ (bit % 16).toNat)) = flipI v bit := by
  obtain ⟨n, hn⟩ := Int.eq_ofNat_of_zero_le (show 0 ≤ bit % 16 by omega)
  have hlt : n < 16 := by omega
  have hp : 2 ^ n < 65536 := by
    have : 2 ^ n ≤ 2 ^ 15 := Nat.pow_le_pow_right (by omega) (by omega)
    omega
  obtain ⟨V, rfl⟩ := Int.eq_ofNat_of_zero_le h0
  unfold flipI
  rw [hn]
  simp only [Int.toNat_natCast]
  have hw : IntKind.u16.wrap (2 ^ n) = ((2 ^ n : Nat) : Int) := by
    have e : (2 : Int) ^ n = ((2 ^ n : Nat) : Int) := by simp
    rw [e]
    exact wrap_u16_small _ hp
  rw [hw, u16_xor_nat V (2 ^ n) (by omega) hp]
theorem and255 (v : Nat) (h : v ≤ 65535) : bits .and .u16 (v : Int) 255 = (v : Int) % 256 := by
  have := u16_and_nat v 255 (by omega) (by omega)
  have e : ((255 : Nat) : Int) = 255 := rfl
  rw [e] at this
  rw [this]
  have := Nat.and_two_pow_sub_one_eq_mod v 8
  simp only [Nat.reducePow, Nat.reduceSub] at this
  rw [this]
  omega
theorem and_pred (k : Nat) (h0 : 0 < k) (h : k ≤ 65535) : bits .and .u16 (k : Int) ((k : Int) - 1) = ((k &&& (k - 1) : Nat) : Int) := by
  have := u16_and_nat k (k - 1) (by omega) (by omega)
  have e : ((k - 1 : Nat) : Int) = (k : Int) - 1 := by omega
  rw [e] at this
  exact this
theorem pop8_split (v : Nat) (h : v ≤ 65535) : (Go.Lib.pop8 ((v : Int) / 256) + Go.Lib.pop8 ((v : Int) % 256)) % 256 = ((ones 16 v : Nat) : Int) := by
  have e1 : (v : Int) / 256 = ((v / 256 : Nat) : Int) := by omega
  have e2 : (v : Int) % 256 = ((v % 256 : Nat) : Int) := by omega
  rw [e1, e2, pop8_of _ (by omega), pop8_of _ (by omega)]
  have h1 := ones_split 8 8 v
  simp only [Nat.reducePow, Nat.reduceAdd] at h1
  have h2 := ones_le 16 v
  omega
theorem xor16 {x y : Int} (h0 : 0 ≤ x) (h1 : x ≤ 65535) (h2 : 0 ≤ y) (h3 : y ≤ 65535) : bits .xor .u16 x y = ((x.toNat ^^^ y.toNat : Nat) : Int) := u16_xor x y h0 (by omega) h2 (by omega)
theorem xor16_le {x y : Int} (h0 : 0 ≤ x) (h1 : x ≤ 65535) (h2 : 0 ≤ y) (h3 : y ≤ 65535) : x.toNat ^^^ y.toNat < 65536 := Nat.xor_lt_two_pow (n := 16) (by omega) (by omega)
end Rdn
