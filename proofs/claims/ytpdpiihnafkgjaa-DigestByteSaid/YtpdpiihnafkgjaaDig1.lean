/- Contracts: digest.Add and its reference. -/
import Derived.Test.YtpdpiihnafkgjaaProg
import Derived.Test.YtpdpiihnafkgjaaFnv
import Derived.Test.YtpdpiihnafkgjaaWordA
import Derived.Test.YtpdpiihnafkgjaaApp
namespace Go.Proofs.Ytpdpiihnafkgjaa
open Go Go.RowKit Rdn
set_option linter.unusedVariables false

theorem xor32i {s : Nat} {x : Int} (hs : s < 4294967296) (h0 : 0 ≤ x) (h1 : x ≤ 255) : bits .xor .u32 (s : Int) x = ((s ^^^ x.toNat : Nat) : Int) := by
  have := u32_xor (s : Int) x (by omega) (by omega) h0 (by omega)
  simpa using this

set_option maxHeartbeats 1000000 in
theorem add_any (l : List Int) (v : Value) (S : Nat → Prop) (s : Nat) (w : World) (hs : s < 4294967296) (h : SlV (Sh.int .u8) S w l v) :
    Calls Try.prog 22 #[.int .u32 s, v] w fun e w' => e = .returned (.int .u32 (fnv s l)) ∧ ∃ n, w' = w.drewN n := by
  obtain ⟨A, c, rfl, hc, hm⟩ := h.shape
  go_enter Try.func22, Try.ntmps22
  go_wp2_with fail
  go_loopw [0, 9] (fun t i wr => ∃ k : Nat, k ≤ l.length ∧ i = .int .i64 k ∧ t = .int .u32 (fnv s (l.take k)) ∧ ∃ q, wr = w.drewN q) (fun _ i _ => l.length - (intOf i).toNat)
  case atStart => exact ⟨0, by omega, rfl, rfl, 0, rfl⟩
  case round =>
    obtain ⟨k, hk, rfl, rfl, q, rfl⟩ := hrel
    by_cases hlt : k < l.length
    · obtain ⟨g, o, rfl, _, hgl, x0, hx⟩ := ints_at h hlt
      have hx0 : 0 ≤ l[k] := by have := hx.1; simpa [IntKind.min, IntKind.signed] using this
      have hx1 : l[k] ≤ 255 := by have := hx.2; simpa [IntKind.max, IntKind.signed, IntKind.bits] using this
      have hT := Lib.hid (show fnv s (l.take (k + 1)) = fnv1 (fnv s (l.take k)) l[k].toNat by rw [List.take_add_one, List.getElem?_eq_getElem hlt, fnv_append]; rfl)
      have hf := fnv_lt (l.take k) s hs
      obtain ⟨F, hF⟩ : ∃ F, F = fnv s (l.take k) := ⟨_, rfl⟩
      rw [← hF] at hf ⊢
      have HF := Lib.hid hF
      clear hF
      have he := xor32i hf hx0 hx1
      have hX : F ^^^ l[k].toNat < 4294967296 := xor32 hf (by omega)
      obtain ⟨X, hXe⟩ : ∃ X, X = F ^^^ l[k].toNat := ⟨_, rfl⟩
      rw [← hXe] at hX he
      have HX := Lib.hid hXe
      clear hXe
      go_wp2_with fail
      go_roundw
      case rel => exact ⟨k + 1, by omega, by go_num, int_eq (by rw [hT.out, ← HF.out]; unfold fnv1; rw [← HX.out]; omega), _, rfl⟩
      case measure => simp [intOf]; omega
    · obtain rfl : k = l.length := by omega
      go_wp2_with fail
      go_ret
      exact ⟨ret_int (by rw [List.take_length]), _, rfl⟩

set_option maxHeartbeats 1000000 in
theorem refadd_any (l : List Int) (v : Value) (S : Nat → Prop) (s : Nat) (w : World) (hs : s < 4294967296) (h : SlV (Sh.int .u8) S w l v) :
    Calls Try.prog 43 #[.int .u32 s, v] w fun e w' => e = .returned (.int .u32 (fnv s l)) ∧ ∃ n, w' = w.drewN n := by
  obtain ⟨A, c, rfl, hc, hm⟩ := h.shape
  go_enter Try.func43, Try.ntmps43
  go_wp2_with fail
  go_loopw [0, 5] (fun t i wr => ∃ k : Nat, k ≤ l.length ∧ i = .int .i64 k ∧ t = .int .u32 (fnv s (l.take k)) ∧ ∃ q, wr = w.drewN q) (fun _ i _ => l.length - (intOf i).toNat)
  case atStart => exact ⟨0, by omega, rfl, rfl, 0, rfl⟩
  case round =>
    obtain ⟨k, hk, rfl, rfl, q, rfl⟩ := hrel
    by_cases hlt : k < l.length
    · obtain ⟨g, o, rfl, _, hgl, x0, hx⟩ := ints_at h hlt
      have hx0 : 0 ≤ l[k] := by have := hx.1; simpa [IntKind.min, IntKind.signed] using this
      have hx1 : l[k] ≤ 255 := by have := hx.2; simpa [IntKind.max, IntKind.signed, IntKind.bits] using this
      have hT := Lib.hid (show fnv s (l.take (k + 1)) = fnv1 (fnv s (l.take k)) l[k].toNat by rw [List.take_add_one, List.getElem?_eq_getElem hlt, fnv_append]; rfl)
      have hf := fnv_lt (l.take k) s hs
      obtain ⟨F, hF⟩ : ∃ F, F = fnv s (l.take k) := ⟨_, rfl⟩
      rw [← hF] at hf ⊢
      have HF := Lib.hid hF
      clear hF
      have he := xor32i hf hx0 hx1
      have hX : F ^^^ l[k].toNat < 4294967296 := xor32 hf (by omega)
      obtain ⟨X, hXe⟩ : ∃ X, X = F ^^^ l[k].toNat := ⟨_, rfl⟩
      rw [← hXe] at hX he
      have HX := Lib.hid hXe
      clear hXe
      go_wp2_with fail
      go_roundw
      case rel => exact ⟨k + 1, by omega, by go_num, int_eq (by rw [hT.out, ← HF.out]; unfold fnv1; rw [← HX.out]; omega), _, rfl⟩
      case measure => simp [intOf]; omega
    · obtain rfl : k = l.length := by omega
      go_wp2_with fail
      go_ret
      exact ⟨ret_int (by rw [List.take_length]), _, rfl⟩

end Go.Proofs.Ytpdpiihnafkgjaa
