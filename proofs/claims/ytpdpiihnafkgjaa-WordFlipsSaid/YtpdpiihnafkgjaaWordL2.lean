/- The law WordFlips. -/
import Derived.Test.YtpdpiihnafkgjaaWordL1
import Derived.Test.YtpdpiihnafkgjaaWordD
import Derived.Test.YtpdpiihnafkgjaaMem
namespace Go.Proofs.Ytpdpiihnafkgjaa
open Go Go.RowKit Rdn
set_option linter.unusedVariables false

theorem flipI_lt {v : Int} (i : Int) (h0 : 0 ≤ v) (h1 : v ≤ 65535) : ∃ X : Nat, flipI v i = X ∧ X ≤ 65535 ∧ X = v.toNat ^^^ 2 ^ (i % 16).toNat := by
  have hi : (i % 16).toNat < 16 := by omega
  have hp : 2 ^ (i % 16).toNat < 65536 := Nat.pow_lt_pow_right (m := (i % 16).toNat) (n := 16) (by omega) hi
  have := Nat.xor_lt_two_pow (n := 16) (x := v.toNat) (y := 2 ^ (i % 16).toNat) (by omega) hp
  exact ⟨_, rfl, by omega, rfl⟩

theorem dist_one (a b : Nat) (i : Nat) (hi : i < 16) (h : b = a ^^^ 2 ^ i) : dist [⟨0, (a : Int)⟩] [⟨0, (b : Int)⟩] = 1 := by
  have e : a ^^^ b = 0 ^^^ 2 ^ i := by rw [h, ← Nat.xor_assoc, Nat.xor_self]
  have := ones_flip 16 0 i hi
  rw [ones_zero] at this
  have h2 : ones 16 (a ^^^ b) = 1 := by rw [e]; omega
  simp [dist, dTo, dAt, h2]

set_option maxHeartbeats 2000000 in
theorem flips_any (v : Nat) (i k : Int) (w : World) (hv : v ≤ 65535) :
    Calls Try.prog 6 #[.int .u16 v, .int .i64 i, .int .i64 k] w fun e w' => e = .returned (.bool true) ∧ Below w.heap.size w w' := by
  obtain ⟨X, fX, hX, eX⟩ := flipI_lt (v := (v : Int)) i (by omega) (by omega)
  obtain ⟨Y, fY, hY, eY⟩ := flipI_lt (v := (v : Int)) k (by omega) (by omega)
  simp only [Int.toNat_natCast] at eX eY
  have hi : (i % 16).toNat < 16 := by omega
  have fV : flipI X i = (v : Int) := by unfold flipI; rw [Int.toNat_natCast, eX, Nat.xor_assoc, Nat.xor_self, Nat.xor_zero]
  have fZ : flipI Y i = flipI X k := by unfold flipI; rw [Int.toNat_natCast, Int.toNat_natCast, eX, eY, Nat.xor_assoc, Nat.xor_assoc, Nat.xor_comm (2 ^ (i % 16).toNat)]
  obtain ⟨Z, fZ', hZ, _⟩ := flipI_lt (v := (X : Int)) k (by omega) (by omega)
  rw [fZ'] at fZ
  have hne : X ≠ v := by
    intro h
    have : ones 16 X = ones 16 v := by rw [h]
    have := ones_flip 16 v _ hi
    rw [← eX] at this
    omega
  have n0 : ((X : Int) != (v : Int)) = true := by simp; omega
  have hD := dist_one v X _ hi eX
  have ho : ∃ t : Bool, (((ones 16 X : Nat) : Int) - ((ones 16 v : Nat) : Int) == 1) = t ∧ (t = false → (((ones 16 X : Nat) : Int) - ((ones 16 v : Nat) : Int) == -1) = true) := by
    have := ones_flip 16 v _ hi
    rw [← eX] at this
    rcases this with h | h
    · exact ⟨true, by simp; omega, fun e => by cases e⟩
    · refine ⟨false, by simp; omega, fun _ => ?_⟩
      have : ((ones 16 X : Nat) : Int) - ((ones 16 v : Nat) : Int) = -1 := by omega
      simp [this]
  obtain ⟨t, ht, ht'⟩ := ho
  have o1 := ones_le 16 X
  have o2 := ones_le 16 v
  have HX := Lib.hid eX
  have HY := Lib.hid eY
  have HN := Lib.hid hne
  have HD := Lib.hid hD
  clear eX eY hne hD
  have inX : inK .u16 (X : Int) := inK_u16 (by omega) (by omega)
  have inV : inK .u16 (v : Int) := inK_u16 (by omega) (by omega)
  have in0 : inK .u8 (0 : Int) := inK_u8 (by omega) (by omega)
  go_enter Try.func6, Try.ntmps6
  go_wp2_with fail
  with_reducible refine (flip_any v i _ (by omega) (by omega)).mono ?_
  rintro e w' ⟨rfl, rfl⟩
  rw [fX]
  go_wp2_with fail
  with_reducible refine (wordones_any X _ (by omega)).mono ?_
  rintro e w' ⟨rfl, n1, rfl⟩
  go_wp2_with fail
  with_reducible refine (wordones_any v _ (by omega)).mono ?_
  rintro e w' ⟨rfl, n2, rfl⟩
  go_wp2_with fail
  with_reducible refine (flip_any X i _ (by omega) (by omega)).mono ?_
  rintro e w' ⟨rfl, rfl⟩
  rw [fV]
  obtain ⟨W2, hW2⟩ : ∃ W2, ((w.drewN (n1 + n2)).alloc (.cells #[.int .u8 0, .int .u16 v] 24)).alloc (.cells #[.int .u8 0, .int .u16 X] 24) = W2 := ⟨_, rfl⟩
  rw [hW2]
  have hB2 : Below w.heap.size w W2 := by rw [← hW2]; exact ((Below.drewN' (Below.refl _ _) _).alloc (by simp [World.drewN]) _).alloc (by simp [World.drewN]) _
  have b0 : W2.heap[w.heap.size]? = some (.cells #[.int .u8 0, .int .u16 v] 24 (0, 0)) := by rw [← hW2]; exact heap_push (heap_new (w.drewN (n1 + n2)) _)
  have b1 : W2.heap[w.heap.size + 1]? = some (.cells #[.int .u8 0, .int .u16 X] 24 (0, 0)) := by
    have := heap_new ((w.drewN (n1 + n2)).alloc (.cells #[.int .u8 0, .int .u16 v] 24)) (.cells #[.int .u8 0, .int .u16 X] 24)
    rw [← hW2]
    simpa [World.drewN] using this
  have sa : SlV Cell.sh (fun _ => True) W2 [⟨0, (v : Int)⟩] (.slice (some ⟨w.heap.size, 0, none⟩) 1 1) := SlV.of_block (l := [⟨0, (v : Int)⟩]) (c := 1) b0 (Rows.single (Cell.rd_iff.2 ⟨rfl, in0, inV⟩)) trivial (by simp) (by simp)
  have sb : SlV Cell.sh (fun _ => True) W2 [⟨0, (X : Int)⟩] (.slice (some ⟨w.heap.size + 1, 0, none⟩) 1 1) := SlV.of_block (l := [⟨0, (X : Int)⟩]) (c := 1) b1 (Rows.single (Cell.rd_iff.2 ⟨rfl, in0, inX⟩)) trivial (by simp) (by simp)
  have HB := Lib.hid hB2
  clear hB2 hW2 b0 b1
  cases t
  · have ht2 := ht' rfl
    clear ht'
    go_wp2_with fail
    with_reducible refine (distance_any _ _ _ _ _ _ sa sb).mono ?_
    rintro e w' ⟨rfl, n3, rfl⟩
    rw [HD.out]
    go_wp2_with fail
    with_reducible refine (flip_any X k _ (by omega) (by omega)).mono ?_
    rintro e w' ⟨rfl, rfl⟩
    rw [fZ']
    go_wp2_with fail
    with_reducible refine (flip_any v k _ (by omega) (by omega)).mono ?_
    rintro e w' ⟨rfl, rfl⟩
    rw [fY]
    go_wp2_with fail
    with_reducible refine (flip_any Y i _ (by omega) (by omega)).mono ?_
    rintro e w' ⟨rfl, rfl⟩
    rw [fZ]
    go_wp2_with fail
    with_reducible refine (awake01_any _).mono ?_
    rintro e w' ⟨rfl, hb⟩
    go_wp2_with fail
    go_ret
    exact ⟨rfl, (Below.drewN' HB.out _).trans (hb.mono HB.out.size)⟩
  · clear ht'
    go_wp2_with fail
    with_reducible refine (distance_any _ _ _ _ _ _ sa sb).mono ?_
    rintro e w' ⟨rfl, n3, rfl⟩
    rw [HD.out]
    go_wp2_with fail
    with_reducible refine (flip_any X k _ (by omega) (by omega)).mono ?_
    rintro e w' ⟨rfl, rfl⟩
    rw [fZ']
    go_wp2_with fail
    with_reducible refine (flip_any v k _ (by omega) (by omega)).mono ?_
    rintro e w' ⟨rfl, rfl⟩
    rw [fY]
    go_wp2_with fail
    with_reducible refine (flip_any Y i _ (by omega) (by omega)).mono ?_
    rintro e w' ⟨rfl, rfl⟩
    rw [fZ]
    go_wp2_with fail
    with_reducible refine (awake01_any _).mono ?_
    rintro e w' ⟨rfl, hb⟩
    go_wp2_with fail
    go_ret
    exact ⟨rfl, (Below.drewN' HB.out _).trans (hb.mono HB.out.size)⟩

theorem flips_law {a0 a1 a2 : Int} {v0 v1 v2 : Value} (W : World) (e0 : (Sh.int .u16).rd (old W) W a0 [v0]) (e1 : (Sh.int .i64).rd (old W) W a1 [v1]) (e2 : (Sh.int .i64).rd (old W) W a2 [v2]) :
    Calls Try.prog 6 #[v0, v1, v2] W fun e w' => e = .returned (.bool true) ∧ Below W.heap.size W w' := by
  obtain ⟨h0, b0⟩ := e0
  obtain ⟨h1, b1⟩ := e1
  obtain ⟨h2, b2⟩ := e2
  simp only [List.cons.injEq, and_true] at h0 h1 h2
  subst h0 h1 h2
  have l0 := b0.1
  have u0 := b0.2
  simp [IntKind.min, IntKind.max, IntKind.signed, IntKind.bits] at l0 u0
  obtain ⟨x, rfl⟩ := Int.eq_ofNat_of_zero_le l0
  exact flips_any x _ _ W (by omega)
end Go.Proofs.Ytpdpiihnafkgjaa
