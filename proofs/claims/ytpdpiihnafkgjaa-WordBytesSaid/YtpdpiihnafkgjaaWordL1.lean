/- Contracts: Valid, awake; the law WordBits. -/
import Derived.Test.YtpdpiihnafkgjaaWordA
import Derived.Lib.ItoaWalk
namespace Go.Proofs.Ytpdpiihnafkgjaa
open Go Go.RowKit Rdn
set_option linter.unusedVariables false

theorem valid_any (t v : Int) (w : World) :
    Calls Try.prog 16 #[.agg #[.int .u8 t, .int .u16 v]] w fun e w' => e = .returned (.bool (decide (t ≤ 2))) ∧ Below w.heap.size w w' := by
  go_enter Try.func16, Try.ntmps16
  go_wp2
  go_ret
  exact ⟨rfl, (Below.refl _ _).alloc (Nat.le_refl _) _⟩

theorem refvalid_any (t v : Int) (w : World) :
    Calls Try.prog 17 #[.agg #[.int .u8 t, .int .u16 v]] w fun e w' => e = .returned (.bool (decide (t ≤ 2))) ∧ Below w.heap.size w w' := by
  go_enter Try.func17, Try.ntmps17
  go_wp2
  go_ret
  exact ⟨rfl, (Below.refl _ _).alloc (Nat.le_refl _) _⟩

theorem awake01_any (w : World) :
    Calls Try.prog 20 #[] w fun e w' => e = .returned (.bool true) ∧ Below w.heap.size w w' := by
  have f8 : flipI 0 3 = 8 := by decide
  have f5 : ((ones 16 5 : Nat) : Int) = 2 := by decide
  go_enter Try.func20, Try.ntmps20
  go_wp2_with (first
    | (go_at_call 14; refine (flip_any 0 3 _ (by decide) (by decide)).mono ?_; rintro e w' ⟨rfl, rfl⟩)
    | (go_at_call 18; refine (wordones_any 5 _ (by decide)).mono ?_; rintro e w' ⟨rfl, n, rfl⟩)
    | (go_at_call 16; refine (valid_any 2 0 _).mono ?_; rintro e w' ⟨rfl, hb⟩))
  go_ret
  exact ⟨rfl, Below.trans (Below.drewN' (Below.refl _ _) _) hb⟩

set_option maxHeartbeats 2000000 in
theorem wordbits_any (t v u bit : Int) (w : World) (ht : 0 ≤ t) (ht' : t ≤ 255) (hu : 0 ≤ u) (hu' : u ≤ 65535) (hb : -9223372036854775808 ≤ bit) (hb' : bit ≤ 9223372036854775807) :
    Calls Try.prog 3 #[.agg #[.int .u8 t, .int .u16 v], .int .u16 u, .int .i64 bit] w fun e w' => e = .returned (.bool true) ∧ Below w.heap.size w w' := by
  obtain ⟨U, rfl⟩ := Int.eq_ofNat_of_zero_le hu
  have hm0 : 0 ≤ bit % 20 := by omega
  have hm1 : bit % 20 ≤ 19 := by omega
  go_enter Try.func3, Try.ntmps3
  go_wp2_with (first
    | (go_at_call 13; refine (mkmod_any _ _ _ (by omega) (by omega) hb hb').mono ?_; rintro e w' ⟨rfl, rfl⟩))
  go_loop [15] (fun i => ∃ k : Nat, k ≤ 2 ∧ i = .int .i64 k) (fun i => 2 - (intOf i).toNat)
  case atStart => exact ⟨0, by omega, rfl⟩
  case round =>
    obtain ⟨k, hk, rfl⟩ := hrel
    obtain rfl | rfl | rfl : k = 0 ∨ k = 1 ∨ k = 2 := by omega
    · go_wp2_with (first
        | (go_at_call 14; refine (flip_any _ _ _ hu hu').mono ?_; rintro e w' ⟨rfl, rfl⟩)
        | (go_at_call 15; refine (refflip_any _ _ _ hu hu' (by omega) (by omega)).mono ?_; rintro e w' ⟨rfl, rfl⟩))
      go_roundw
      case rel => exact ⟨1, by omega, rfl⟩
      case measure => simp [intOf]
    · go_wp2_with (first
        | (go_at_call 14; refine (flip_any _ _ _ hu hu').mono ?_; rintro e w' ⟨rfl, rfl⟩)
        | (go_at_call 15; refine (refflip_any _ _ _ hu hu' (by omega) (by omega)).mono ?_; rintro e w' ⟨rfl, rfl⟩))
      go_roundw
      case rel => exact ⟨2, by omega, rfl⟩
      case measure => simp [intOf]
    · go_wp2_with fail
      go_name_world W1 hW1
      have hB : Below w.heap.size w W1 := by rw [← hW1]; exact ((Below.refl _ _).alloc (Nat.le_refl _) _).alloc (by simp) _
      have c0 : W1.cell? ⟨w.heap.size, 0, none⟩ = some (.int .u8 t) := by rw [← hW1]; simp [go_sem]
      have c1 : W1.cell? ⟨w.heap.size, 1, none⟩ = some (.int .u16 v) := by rw [← hW1]; simp [go_sem]
      clear hW1
      have d0 := fun p : BW W1 => p.cell c0
      have d1 := fun p : BW W1 => p.cell c1
      clear c0 c1
      refine wp_region_below (by kernel_rfl) (by kernel_rfl) ?_
      repeat (quiet_step ((first
        | (go_at_call 16; with_reducible refine calls_bw (valid_any _ _ _))
        | (go_at_call 17; with_reducible refine calls_bw (refvalid_any _ _ _))
        | (go_at_call 18; with_reducible refine calls_bw (calls_drew (wordones_any _ _ (by omega))))
        | (go_at_call 19; with_reducible refine calls_bw (calls_same (refones_any _ _ (by omega))))
        | (go_at_call 20; with_reducible refine calls_bw (awake01_any _)))))
      refine wpQuiet_nil ?_
      intro _ hw'
      obtain ⟨q, rfl⟩ := hw'
      have hq := q.h
      go_wp2_with fail
      go_ret
      exact ⟨rfl, hB.trans (hq.mono hB.size)⟩

theorem wordbits_law {a0 : Cell} {c0 : Array Value} {a1 a2 : Int} {v1 v2 : Value} (W : World) (e0 : Cell.sh.rd (old W) W a0 c0.toList) (e1 : (Sh.int .u16).rd (old W) W a1 [v1]) (e2 : (Sh.int .i64).rd (old W) W a2 [v2]) :
    Calls Try.prog 3 #[.agg c0, v1, v2] W fun e w' => e = .returned (.bool true) ∧ Below W.heap.size W w' := by
  obtain ⟨h0, b0, b0'⟩ := Cell.rd_iff.1 e0
  obtain rfl := arr_of h0
  obtain ⟨h1, b1⟩ := e1
  obtain ⟨h2, b2⟩ := e2
  simp only [List.cons.injEq, and_true] at h1 h2
  subst h1 h2
  exact wordbits_any _ _ _ _ W b0.1 b0.2 b1.1 b1.2 b2.1 b2.2
end Go.Proofs.Ytpdpiihnafkgjaa
