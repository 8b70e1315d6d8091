/- The law DigestByte. -/
import Derived.Test.YtpdpiihnafkgjaaDigL1
namespace Go.Proofs.Ytpdpiihnafkgjaa
open Go Go.RowKit Rdn
set_option linter.unusedVariables false

theorem xor8 {x y : Int} (h0 : 0 ≤ x) (h1 : x ≤ 255) (h2 : 0 ≤ y) (h3 : y ≤ 255) : bits .xor .u8 x y = ((x.toNat ^^^ y.toNat : Nat) : Int) := u8_xor x y h0 (by omega) h2 (by omega)

set_option maxHeartbeats 2000000 in
theorem digestbyte_any (b : List Int) (vb : Value) (at_ y : Int) (w : World) (hb : SlV (Sh.int .u8) (old w) w b vb) (ht : -9223372036854775808 ≤ at_) (ht' : at_ ≤ 9223372036854775807) (hy : 0 ≤ y) (hy' : y ≤ 255) :
    Calls Try.prog 5 #[vb, .int .i64 at_, .int .u8 y] w fun e w' => e = .returned (.bool true) ∧ Below w.heap.size w w' := by
  obtain ⟨A, c, rfl, hc, hm⟩ := hb.shape
  have hlB : ∀ n ∈ b, 0 ≤ n ∧ n ≤ 255 := by
    intro n hn
    obtain ⟨i, hi, rfl⟩ := List.getElem_of_mem hn
    obtain ⟨_, _, _, _, _, _, hx⟩ := ints_at hb hi
    have h1 := hx.1
    have h2 := hx.2
    simp [IntKind.min, IntKind.max, IntKind.signed, IntKind.bits] at h1 h2
    omega
  by_cases h0 : b.length = 0
  · have d0 : ((b.length : Int) == 0) = true := by simp [h0]
    go_enter Try.func5, Try.ntmps5
    go_wp2_with fail
    with_reducible refine (awake24_any _).mono ?_
    rintro e w1 ⟨rfl, hB⟩
    go_wp2_with fail
    go_ret
    exact ⟨rfl, hB⟩
  have d0 : ((b.length : Int) == 0) = false := by
    have : (b.length : Int) ≠ 0 := by omega
    simpa using this
  by_cases hlen : 2000 < b.length
  · go_enter Try.func5, Try.ntmps5
    go_wp2_with fail
    with_reducible refine (awake24_any _).mono ?_
    rintro e w1 ⟨rfl, hB⟩
    go_wp2_with fail
    go_ret
    exact ⟨rfl, hB⟩
  have hlen' : b.length ≤ 2000 := by omega
  obtain ⟨i0, hi, hz0, hz1, hz2⟩ := info_parts info_u8
  have hown0 : Own (Sh.int .u8) (fun _ => False) w.heap.size 5 (w.alloc (.cells #[] 5)) (.slice (some ⟨w.heap.size, 0, none⟩) 0 0) [] := Own.made _ _ _ _ _ (Nat.le_refl _) (fun _ h => h.elim) _ rfl
  have hb1 : SlV (Sh.int .u8) (old w) (w.alloc (.cells #[] 5)) b (.slice A b.length c) := hb.mono (fun _ h => h) (fun b hb => Below.heap_alloc w _ b hb)
  go_enter Try.func5, Try.ntmps5
  go_wp2_with (at_builtin; with_reducible refine wpList_appends (S := old w) (Z := fun _ => False) (vx := .slice A b.length c) (m := b) (.tmp 17) (.tmp 18) 32 5 i0 (.int .u8 0) 1 rfl rfl Try.underlying32 hi hz0 hz1 hz2 rfl (by decide) rfl rfl hown0 hb1 flat_int (fun _ h => h.elim) ?_ ?_ ?_ ?_)
  · simp [maxLen]; omega
  · simp; omega
  · simp
  intro v1 w1 hown1 hk1 hor1
  have hB1 : Below w.heap.size w w1 := ((Below.refl _ _).alloc (Nat.le_refl _) _).trans (hk1.below (fun b _ e => by simp [Value.ownBlock] at e; omega) (by simp))
  have hown1 : Own (Sh.int .u8) (fun _ => False) w.heap.size 5 w1 v1 b := hown1
  obtain ⟨k, hk⟩ : ∃ k : Nat, at_ % (b.length : Int) = k := ⟨(at_ % (b.length : Int)).toNat, by have := Int.emod_nonneg at_ (b := (b.length : Int)) (by omega); omega⟩
  have hkl : k < b.length := by have := Int.emod_lt_of_pos at_ (b := (b.length : Int)) (by omega); omega
  obtain ⟨g, c1, rfl, hbg, hcl, c0, f0, hin, hset⟩ := hown1.int_at hkl
  obtain ⟨x0, x1⟩ := hlB _ (List.getElem_mem hkl)
  have r0 : 0 ≤ y % 255 := by omega
  have r1 : y % 255 ≤ 254 := by omega
  have hX := xor8 x0 x1 (show 0 ≤ 1 + y % 255 by omega) (by omega)
  have hXl : b[k].toNat ^^^ (1 + y % 255).toNat < 256 := Nat.xor_lt_two_pow (n := 8) (by omega) (by omega)
  have hXn : b[k].toNat ^^^ (1 + y % 255).toNat ≠ b[k].toNat := by
    intro h
    have h1 : (1 + y % 255).toNat ^^^ b[k].toNat = 0 ^^^ b[k].toNat := by rw [Nat.xor_comm, h, Nat.zero_xor]
    have := xor_cancel h1
    omega
  obtain ⟨X, hXe⟩ : ∃ X, X = b[k].toNat ^^^ (1 + y % 255).toNat := ⟨_, rfl⟩
  rw [← hXe] at hX hXl hXn
  clear hXe
  have hown2 := hset X (inK_u8 (by omega) (by omega))
  have hk2 : Keep (fun b => b = g) w1 (w1.setCell ⟨g, k, none⟩ (.int .u8 X)) := Keep.setCell _ _ _ rfl
  have hB2 : Below w.heap.size w (w1.setCell ⟨g, k, none⟩ (.int .u8 X)) := hB1.trans (hk2.below (fun b _ e => by omega) hB1.size)
  have hb2 : SlV (Sh.int .u8) (old w) (w1.setCell ⟨g, k, none⟩ (.int .u8 X)) b (.slice A b.length c) := hb.mono (fun _ h => h) (fun b hb => hB2.block b hb)
  have hall := hown2.sl (Z' := fun _ => True) (by simp; omega) (fun _ _ => trivial) (fun _ _ => trivial)
  have hneq : ((fnv 2166136261 b : Nat) : Int) ≠ ((fnv 2166136261 (b.set k X) : Nat) : Int) := by
    intro h
    have h1 := fnv_set b k X (s := 2166136261) (by omega) (fun y hy => by have := hlB y hy; omega) (by omega) hkl (by omega)
    omega
  have n1 : (((fnv 2166136261 b : Nat) : Int) != ((fnv 2166136261 (b.set k X) : Nat) : Int)) = true := by simp; omega
  have HB := Lib.hid hB2
  have HN := Lib.hid hneq
  clear hB2 hneq hk2 hset hown2 hk1 hor1 hown1 hB1 hb1 hown0 hXn
  go_wp2_with fail
  with_reducible refine (mkmod_any _ _ _ (by omega) (by omega) ht ht').mono ?_
  rintro e w2 ⟨rfl, rfl⟩
  rw [hk]
  go_wp2_with fail
  with_reducible refine (add_start _ _ _ _ hb2).mono ?_
  rintro e w2 ⟨rfl, n3, rfl⟩
  go_wp2_with fail
  with_reducible refine (add_start _ _ _ _ (hall.drewN _)).mono ?_
  rintro e w2 ⟨rfl, n4, rfl⟩
  go_wp2_with fail
  with_reducible refine (awake24_any _).mono ?_
  rintro e w3 ⟨rfl, hB⟩
  go_wp2_with fail
  go_ret
  exact ⟨rfl, (Below.drewN' HB.out _).trans (hB.mono HB.out.size)⟩

theorem digestbyte_law {a0 : List Int} {a1 a2 : Int} {v0 v1 v2 : Value} (W : World) (e0 : (Sh.slice (Sh.int .u8)).rd (old W) W a0 [v0]) (e1 : (Sh.int .i64).rd (old W) W a1 [v1]) (e2 : (Sh.int .u8).rd (old W) W a2 [v2]) :
    Calls Try.prog 5 #[v0, v1, v2] W fun e w' => e = .returned (.bool true) ∧ Below W.heap.size W w' := by
  obtain ⟨_, h0, b0⟩ := e0
  obtain ⟨h1, b1⟩ := e1
  obtain ⟨h2, b2⟩ := e2
  simp only [List.cons.injEq, and_true] at h0 h1 h2
  subst h0 h1 h2
  exact digestbyte_any _ _ _ _ W b0 b1.1 b1.2 b2.1 b2.2
end Go.Proofs.Ytpdpiihnafkgjaa
