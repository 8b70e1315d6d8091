/- Contracts of the small functions of chapter 1. -/
import Derived.Test.YtpdpiihnafkgjaaProg
import Derived.Test.YtpdpiihnafkgjaaBase
import Derived.Test.YtpdpiihnafkgjaaBits
import Derived.Test.YtpdpiihnafkgjaaWordP
import Derived.Deep.QuietTactic
import Derived.BigQuiet
import Derived.Lib.Hide
namespace Go.Proofs.Ytpdpiihnafkgjaa
open Go Go.RowKit Rdn

theorem mod_any (v n : Int) (w : World) (hn : 1 ≤ n) (hn2 : n ≤ 4611686018427387903) (hv : -9223372036854775808 ≤ v) (hv2 : v ≤ 9223372036854775807) :
    Calls Try.prog 48 #[.int .i64 v, .int .i64 n] w fun e w' => e = .returned (.int .i64 (v % n)) ∧ w = w' := by
  by_cases h0 : 0 ≤ v
  · have h1 : 0 ≤ v % n := Int.emod_nonneg v (by omega)
    go_enter Try.func48, Try.ntmps48
    go_wp2
    go_ret
    exact ⟨rfl, rfl⟩
  · obtain ⟨h2, h1⟩ := tmod_neg_bounds hn (show v < 0 by omega)
    have e := emod_of_tmod hn (show v < 0 by omega)
    have E := Lib.hid e
    clear e
    by_cases h3 : v.tmod n < 0
    · go_enter Try.func48, Try.ntmps48
      go_wp2
      go_ret
      exact ⟨ret_int (E.out.1 h3), rfl⟩
    · go_enter Try.func48, Try.ntmps48
      go_wp2
      go_ret
      exact ⟨ret_int (E.out.2 (by omega)), rfl⟩

theorem mkmod_any (v n : Int) (w : World) (hn : 1 ≤ n) (hn2 : n ≤ 4611686018427387903) (hv : -9223372036854775808 ≤ v) (hv2 : v ≤ 9223372036854775807) :
    Calls Try.prog 13 #[.int .i64 v, .int .i64 n] w fun e w' => e = .returned (.int .i64 (v % n)) ∧ w = w' := by
  go_enter Try.func13, Try.ntmps13
  go_wp2_with (go_at_call 48; refine (mod_any _ _ _ hn hn2 hv hv2).mono ?_; rintro e w' ⟨rfl, rfl⟩)
  go_ret
  exact ⟨rfl, rfl⟩

theorem flip_any (v bit : Int) (w : World) (h0 : 0 ≤ v) (h1 : v ≤ 65535) :
    Calls Try.prog 14 #[.int .u16 v, .int .i64 bit] w fun e w' => e = .returned (.int .u16 (flipI v bit)) ∧ w = w' := by
  have hd := tmod16_eq bit
  have g1 : -16 < bit.tmod 16 := tmod16_lo bit
  have g2 : bit.tmod 16 < 16 := Int.tmod_lt_of_pos bit (by omega)
  have g3 : 0 ≤ (bit.tmod 16 + 16) % 16 := by omega
  have g4 : (bit.tmod 16 + 16) % 16 ≤ 15 := by omega
  have HF := Lib.hid (flip_eq v bit h0 h1)
  have HD := Lib.hid hd
  clear hd
  go_enter Try.func14, Try.ntmps14
  go_wp2
  go_ret
  exact ⟨ret_int (by rw [← HF.out, ← HD.out]), rfl⟩

theorem refflip_any (v bit : Int) (w : World) (h0 : 0 ≤ v) (h1 : v ≤ 65535) (hv : -9223372036854775808 ≤ bit) (hv2 : bit ≤ 9223372036854775807) :
    Calls Try.prog 15 #[.int .u16 v, .int .i64 bit] w fun e w' => e = .returned (.int .u16 (flipI v bit)) ∧ w = w' := by
  have g0 : 0 ≤ bit % 16 := by omega
  have g1 : bit % 16 ≤ 15 := by omega
  have HF := Lib.hid (flip_eq v bit h0 h1)
  go_enter Try.func15, Try.ntmps15
  go_wp2_with (go_at_call 48; refine (mod_any _ _ _ (by omega) (by omega) hv hv2).mono ?_; rintro e w' ⟨rfl, rfl⟩)
  go_ret
  exact ⟨ret_int HF.out, rfl⟩

theorem ones16_any (v : Nat) (w : World) (h1 : v ≤ 65535) :
    Calls Try.prog 49 #[.int .u16 v] w fun e w' => e = .returned (.int .i64 (ones 16 v)) ∧ ∃ n, w' = w.drewN n := by
  have g1 : 0 ≤ (v : Int) / 256 := by omega
  have g2 : (v : Int) / 256 ≤ 255 := by omega
  have HO := Lib.hid (pop8_split v h1)
  have hb := and255 v h1
  go_enter Try.func49, Try.ntmps49
  go_wp2
  go_quiet (fail)
  go_wp2
  go_ret
  exact ⟨ret_int HO.out, _, rfl⟩

theorem wordones_any (v : Nat) (w : World) (h1 : v ≤ 65535) :
    Calls Try.prog 18 #[.int .u16 v] w fun e w' => e = .returned (.int .i64 (ones 16 v)) ∧ ∃ n, w' = w.drewN n := by
  go_enter Try.func18, Try.ntmps18
  go_wp2_with (go_at_call 49; refine (ones16_any _ _ h1).mono ?_; rintro e w' ⟨rfl, n, rfl⟩)
  go_ret
  exact ⟨rfl, _, rfl⟩

theorem refones_any (v : Nat) (w : World) (h1 : v ≤ 65535) :
    Calls Try.prog 19 #[.int .u16 v] w fun e w' => e = .returned (.int .i64 (ones 16 v)) ∧ w = w' := by
  go_enter Try.func19, Try.ntmps19
  go_wp2
  go_loop [0, 3] (fun x n => ∃ k m : Nat, k ≤ 65535 ∧ m ≤ 16 ∧ x = .int .u16 k ∧ n = .int .i64 m ∧ m + ones 16 k = ones 16 v) (fun x _ => (intOf x).toNat)
  case atStart => exact ⟨v, 0, h1, by omega, rfl, rfl, by omega⟩
  case round =>
    obtain ⟨k, m, hk, hm, rfl, rfl, ho⟩ := hrel
    have HO := Lib.hid ho
    clear ho
    by_cases h0 : 0 < k
    · have hkern := Lib.hid (ones_kern 16 k h0 (by omega))
      have hb := Lib.hid (and_pred k h0 hk)
      have hle := Lib.hid (Nat.and_le_right (n := k) (m := k - 1))
      go_wp2
      go_round
      case rel => exact ⟨k &&& (k - 1), m + 1, by have := hle.out; omega, by have := ones_le 16 v; have := HO.out; have := hkern.out; omega, by rw [hb.out], by go_num, by have := HO.out; have := hkern.out; omega⟩
      case measure => rw [hb.out]; have := hle.out; simp [intOf]; omega
    · obtain rfl : k = 0 := by omega
      have hz := Lib.hid (ones_zero 16)
      go_wp2
      go_ret
      exact ⟨ret_int (by have := HO.out; have := hz.out; omega), rfl⟩

end Go.Proofs.Ytpdpiihnafkgjaa
