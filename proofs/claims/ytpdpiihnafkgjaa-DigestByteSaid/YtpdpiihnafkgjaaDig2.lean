/- Contracts: digest.long. -/
import Derived.Test.YtpdpiihnafkgjaaDig1
import Derived.Lib.ItoaWalk
namespace Go.Proofs.Ytpdpiihnafkgjaa
open Go Go.RowKit Rdn
set_option linter.unusedVariables false

def byteAt (n : Int) (i : Nat) : Int := n / 2 ^ (8 * i) % 256
def le8 (n : Int) : List Int := [byteAt n 0, byteAt n 1, byteAt n 2, byteAt n 3, byteAt n 4, byteAt n 5, byteAt n 6, byteAt n 7]
/-- The array when k bytes are in it. -/
def arr8 (n : Int) (k : Nat) : Array Value := (((le8 n).take k ++ List.replicate (8 - k) 0).map (Value.int .u8)).toArray
theorem arr8_set (n : Int) (k : Nat) (hk : k < 8) : (arr8 n k).setIfInBounds k (.int .u8 (byteAt n k)) = arr8 n (k + 1) := by
  match k, hk with
  | 0, _ | 1, _ | 2, _ | 3, _ | 4, _ | 5, _ | 6, _ | 7, _ => rfl
theorem arr8_at (n : Int) (k : Nat) (hk : k < 8) : (arr8 n k)[k]? = some (.int .u8 0) := by
  match k, hk with
  | 0, _ | 1, _ | 2, _ | 3, _ | 4, _ | 5, _ | 6, _ | 7, _ => rfl
theorem byte_at (n : Int) (i : Nat) : 0 ≤ byteAt n i ∧ byteAt n i ≤ 255 := by unfold byteAt; omega

set_option maxHeartbeats 2000000 in
theorem long_any (n : Int) (w : World) (h0 : -9223372036854775808 ≤ n) (h1 : n ≤ 9223372036854775807) :
    Calls Try.prog 54 #[.int .i64 n] w fun e w' => e = .returned (.agg ((le8 n).map (Value.int .u8)).toArray) ∧ Below w.heap.size w w' := by
  go_enter Try.func54, Try.ntmps54
  go_wp2_with fail
  go_name_world W1 hW1
  have k1 : Keep (old w) w W1 := by rw [← hW1]; exact (Keep.alloc _ w _).trans (Keep.alloc _ _ _)
  have hB : Below w.heap.size w W1 := by rw [← hW1]; exact ((Below.refl _ _).alloc (Nat.le_refl _) _).alloc (by simp) _
  have hs : W1.heap.size = w.heap.size + 2 := by rw [← hW1]; simp
  have b0 : W1.heap[w.heap.size]? = some (.cells (arr8 n 0) 77 (0, 0)) := by rw [← hW1]; exact heap_push (heap_new _ _)
  have b1 : W1.heap[w.heap.size + 1]? = some (.cells (arr8 n 0) 77 (0, 0)) := by rw [← hW1]; have := heap_new (w.alloc (.cells (arr8 n 0) 77)) (.cells (arr8 n 0) 77); rwa [show (w.alloc (.cells (arr8 n 0) 77)).heap.size = w.heap.size + 1 by simp] at this
  obtain ⟨X, hX⟩ : ∃ X, X = IntKind.u64.wrap n := ⟨_, rfl⟩
  rw [← hX]
  have hX' : X = n % 18446744073709551616 := by rw [hX]; simp [IntKind.wrap, IntKind.signed, IntKind.bits]
  have x0 : 0 ≤ X := by omega
  have x1 : X ≤ 18446744073709551615 := by omega
  have HX := Lib.hid hX'
  clear hX hX' hW1 k1
  go_loopw [8] (fun i wr => ∃ k : Nat, k ≤ 8 ∧ i = .int .i64 k ∧ wr.heap[w.heap.size + 1]? = some (.cells (arr8 n k) 77 (0, 0)) ∧ Keep (fun b => b = w.heap.size + 1) W1 wr) (fun i _ => 8 - (intOf i).toNat)
  case atStart => exact ⟨0, by omega, rfl, b1, Keep.refl _ _⟩
  case round =>
    obtain ⟨k, hk, rfl, hb, hk1⟩ := hrel
    have hsz := hk1.size
    by_cases hlt : k < 8
    · have hst := fun u => cells_set hb k u
      have f := cells_free hb
      have KB := Lib.hid hk1
      have c : wr.cell? ⟨w.heap.size + 1, k, none⟩ = some (.int .u8 0) := (cells_cell hb k).trans (arr8_at n k hlt)
      clear hb hk1
      rcases (show k = 0 ∨ k = 1 ∨ k = 2 ∨ k = 3 ∨ k = 4 ∨ k = 5 ∨ k = 6 ∨ k = 7 by omega) with rfl | rfl | rfl | rfl | rfl | rfl | rfl | rfl
      all_goals
        have f' := f 0
        go_wp2_with fail
        go_roundw
        case rel =>
          refine ⟨_, ?_, rfl, (hst _).trans ?_, KB.out.trans (Keep.setCell _ _ _ rfl)⟩
          · decide
          · exact congrArg (fun a => some (Obj.cells a 77 (0, 0))) ((congrArg _ (int_eq (by have := HX.out; simp only [byteAt]; omega))).trans (arr8_set n _ (by decide)))
        case measure => simp [intOf]
    · obtain rfl : k = 8 := by omega
      have b0' := hk1.at_ b0 (by omega)
      have c0 := cells_cell hb 0
      have c1 := cells_cell hb 1
      have c2 := cells_cell hb 2
      have c3 := cells_cell hb 3
      have c4 := cells_cell hb 4
      have c5 := cells_cell hb 5
      have c6 := cells_cell hb 6
      have c7 := cells_cell hb 7
      have d0 := cells_cell b0' 0
      have d1 := cells_cell b0' 1
      have d2 := cells_cell b0' 2
      have d3 := cells_cell b0' 3
      have d4 := cells_cell b0' 4
      have d5 := cells_cell b0' 5
      have d6 := cells_cell b0' 6
      have d7 := cells_cell b0' 7
      have f0 := cells_free b0' 0
      have f1 := cells_free b0' 1
      have f2 := cells_free b0' 2
      have f3 := cells_free b0' 3
      have f4 := cells_free b0' 4
      have f5 := cells_free b0' 5
      have f6 := cells_free b0' 6
      have f7 := cells_free b0' 7
      simp [arr8, le8] at c0 c1 c2 c3 c4 c5 c6 c7 d0 d1 d2 d3 d4 d5 d6 d7
      have KB := Lib.hid hk1
      clear hk1
      go_wp2_with fail
      have S0 := Lib.hid (cells_set (cells_set (cells_set (cells_set (cells_set (cells_set (cells_set (cells_set b0' 0 (.int .u8 (byteAt n 0))) 1 (.int .u8 (byteAt n 1))) 2 (.int .u8 (byteAt n 2))) 3 (.int .u8 (byteAt n 3))) 4 (.int .u8 (byteAt n 4))) 5 (.int .u8 (byteAt n 5))) 6 (.int .u8 (byteAt n 6))) 7 (.int .u8 (byteAt n 7)))
      clear b0' hb
      have K : ∀ (a : World) (j : Nat) (u : Value), Keep (fun b => w.heap.size ≤ b) a (a.setCell ⟨w.heap.size, j, none⟩ u) := fun a j u => Keep.setCell _ _ _ (Nat.le_refl _)
      have hk2 : Keep (fun b => w.heap.size ≤ b) W1 wr := KB.out.mono (fun b _ e => by omega)
      refine bodyPost_ret (v := .agg ((le8 n).map (Value.int .u8)).toArray) ?_ rfl ⟨rfl, hB.trans (((((((((hk2.trans (K _ _ _)).trans (K _ _ _)).trans (K _ _ _)).trans (K _ _ _)).trans (K _ _ _)).trans (K _ _ _)).trans (K _ _ _)).trans (K _ _ _)).below (fun b _ h => h) (by omega))⟩
      have e := S0.out
      simp [arr8, le8] at e
      have e0 := cells_cell e 0
      have e1 := cells_cell e 1
      have e2 := cells_cell e 2
      have e3 := cells_cell e 3
      have e4 := cells_cell e 4
      have e5 := cells_cell e 5
      have e6 := cells_cell e 6
      have e7 := cells_cell e 7
      clear e S0
      simp at e0 e1 e2 e3 e4 e5 e6 e7
      simp [results, Try.results54, go_sem, e0, e1, e2, e3, e4, e5, e6, e7, le8]
end Go.Proofs.Ytpdpiihnafkgjaa
