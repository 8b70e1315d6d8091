/- pages.part of a row of one's own. -/
import Derived.Test.YtcphobeommkgeaaFo
namespace Go.Proofs.Ytcphobeommkgeaa
open Go Go.RowKit Rdn Rdn.Dp
set_option linter.unusedVariables false
set_option maxHeartbeats 4000000 in
theorem part_raw (i : Int) (A : Option Addr) (n c : Nat) (h0 : 0 ≤ i) (h1 : i ≤ 32) (h2 : i * 8 < n) (hc : n ≤ c) (hn : n ≤ 140737488355328) (w : World) : Calls Try.prog 77 #[.slice A n c, .int .i64 i] w fun x w' => w' = w ∧ ∃ v, x = .returned v ∧ partOf 4 (i * 8).toNat (min (i * 8 + 8) (n : Int)).toNat (.slice A n c) v := by
  have e1 : ¬ (i < 0) := by omega
  have e2 : ¬ (i > 32) := by omega
  have e3 : wrap64 (i * 8) = i * 8 := by unfold wrap64; omega
  have e4 : ¬ (i * 8 ≥ (n : Int)) := by omega
  have e5 : wrap64 (i * 8 + 8) = i * 8 + 8 := by unfold wrap64; omega
  go_enter Try.func77, Try.ntmps77
  go_wp2
  · rw [show (min (i * 8 + 8) (n : Int)).toNat = n by omega]
    go_ret
    exact ⟨rfl, _, rfl, A, n, c, _, rfl, rfl, by omega, by omega, hc, fun _ => rfl⟩
  · rw [show (min (i * 8 + 8) (n : Int)).toNat = (i * 8 + 8).toNat by omega]
    go_ret
    exact ⟨rfl, _, rfl, A, n, c, _, rfl, rfl, by omega, by omega, hc, fun _ => rfl⟩
end Go.Proofs.Ytcphobeommkgeaa
