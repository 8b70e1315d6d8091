/- Contracts: awake of chapter 24; the laws DigestGoesOn, DigestByte. -/
import Derived.Test.YtpdpiihnafkgjaaDig3
namespace Go.Proofs.Ytpdpiihnafkgjaa
open Go Go.RowKit Rdn
set_option linter.unusedVariables false

theorem add_start (l : List Int) (v : Value) (S : Nat → Prop) (w : World) (h : SlV (Sh.int .u8) S w l v) :
    Calls Try.prog 22 #[.int .u32 2166136261, v] w fun e w' => e = .returned (.int .u32 (fnv 2166136261 l)) ∧ ∃ n, w' = w.drewN n := by
  have := add_any l v S 2166136261 w (by omega) h
  rwa [show ((2166136261 : Nat) : Int) = 2166136261 from rfl] at this

set_option maxHeartbeats 1000000 in
theorem awake24_any (w : World) :
    Calls Try.prog 21 #[] w fun e w' => e = .returned (.bool true) ∧ Below w.heap.size w w' := by
  have z8 : inK .u8 0 := inK_u8 (by omega) (by omega)
  have z16 : inK .u16 0 := inK_u16 (by omega) (by omega)
  have z64 : inK .i64 0 := inK_i64 (by omega) (by omega)
  have f97 : ((fnv 2166136261 [97] : Nat) : Int) = 3826002220 := by decide
  have f0 : ((fnv 2166136261 [] : Nat) : Int) = 2166136261 := by decide
  go_enter Try.func21, Try.ntmps21
  go_wp2_with fail
  with_reducible refine (add_start [] _ (fun _ => True) _ (SlV.nil _ _ _)).mono ?_
  rintro e w1 ⟨rfl, n1, rfl⟩
  go_wp2_with fail
  have hsl : SlV (Sh.int .u8) (fun _ => True) ((w.drewN n1).alloc (.cells #[.int .u8 97] 5)) [97] (.slice (some ⟨w.heap.size, 0, none⟩) 1 1) :=
    SlV.of_block (l := [97]) (c := 1) (heap_new _ _) (Rows.ints (fun n hn => by simp at hn; subst hn; exact inK_u8 (by omega) (by omega))) trivial (by simp) (by simp)
  with_reducible refine (add_start [97] _ (fun _ => True) _ hsl).mono ?_
  rintro e w2 ⟨rfl, n2, rfl⟩
  go_wp2_with fail
  with_reducible refine (bytes_any ⟨0, 0, 0, 0⟩ _ z8 z16 z64 z64).mono ?_
  rintro e w3 ⟨v, rfl, hv, hb⟩
  obtain ⟨A, c, rfl, hc, hm⟩ := hv.shape
  have hl : (canonBytes ⟨0, 0, 0, 0⟩).length = 19 := rfl
  rw [hl]
  clear hc hm hv
  go_wp2_with fail
  go_ret
  refine ⟨rfl, Below.trans (Below.drewN' ((Below.drewN' (Below.refl _ _) _).alloc ?_ _) _) (hb.mono ?_)⟩ <;> simp [World.drewN]

set_option maxHeartbeats 2000000 in
theorem goeson_any (a b : List Int) (va vb : Value) (x y : Nat) (w : World) (hx : x < 4294967296) (hy : y < 4294967296) (ha : SlV (Sh.int .u8) (old w) w a va) (hb : SlV (Sh.int .u8) (old w) w b vb) :
    Calls Try.prog 4 #[va, vb, .int .u32 x, .int .u32 y] w fun e w' => e = .returned (.bool true) ∧ Below w.heap.size w w' := by
  obtain ⟨A, c, rfl, hc, hm⟩ := ha.shape
  obtain ⟨A', c', rfl, hc', hm'⟩ := hb.shape
  have hlA : ∀ n ∈ a, n.toNat < 4294967296 := by
    intro n hn
    obtain ⟨i, hi, rfl⟩ := List.getElem_of_mem hn
    obtain ⟨_, _, _, _, _, _, hx⟩ := ints_at ha hi
    have := hx.2
    simp [IntKind.max, IntKind.signed, IntKind.bits] at this
    omega
  by_cases hlen : 2000 < a.length + b.length
  · go_enter Try.func4, Try.ntmps4
    go_wp2_with fail
    with_reducible refine (awake24_any _).mono ?_
    rintro e w1 ⟨rfl, hB⟩
    go_wp2_with fail
    go_ret
    exact ⟨rfl, hB⟩
  · obtain ⟨i0, hi, hz0, hz1, hz2⟩ := info_parts info_u8
    go_enter Try.func4, Try.ntmps4
    have hown0 : Own (Sh.int .u8) (fun _ => False) w.heap.size 5 (w.alloc (.cells #[] 5)) (.slice (some ⟨w.heap.size, 0, none⟩) 0 0) [] := Own.made _ _ _ _ _ (Nat.le_refl _) (fun _ h => h.elim) _ rfl
    have ha1 : SlV (Sh.int .u8) (old w) (w.alloc (.cells #[] 5)) a (.slice A a.length c) := ha.mono (fun _ h => h) (fun b hb => Below.heap_alloc w _ b hb)
    have hlen' : a.length + b.length ≤ 2000 := by omega
    have hold : ∀ {l : List Int} {v : Value}, SlV (Sh.int .u8) (old w) w l v → ∀ {w1 : World}, Below w.heap.size w w1 → SlV (Sh.int .u8) (old w) w1 l v := fun h _ hB => h.mono (fun _ h => h) (fun b hb => hB.block b hb)
    go_wp2_with (at_builtin; with_reducible refine wpList_appends (S := old w) (Z := fun _ => False) (vx := .slice A a.length c) (m := a) (.tmp 17) (.tmp 18) 32 5 i0 (.int .u8 0) 1 rfl rfl Try.underlying32 hi hz0 hz1 hz2 rfl (by decide) rfl rfl hown0 ha1 flat_int (fun _ h => h.elim) ?_ ?_ ?_ ?_)
    · simp [maxLen]; omega
    · simp; omega
    · simp
    intro v1 w1 hown1 hk1 hor1
    have hB1 : Below w.heap.size w w1 := ((Below.refl _ _).alloc (Nat.le_refl _) _).trans (hk1.below (fun b _ e => by simp [Value.ownBlock] at e; omega) (by simp))
    have hb1 := hold hb hB1
    have H1 := Lib.hid hB1
    clear hB1 hk1 hor1 ha1
    go_wp2_with (at_builtin; with_reducible refine wpList_appends (S := old w) (Z := fun _ => False) (vx := .slice A' b.length c') (m := b) (.tmp 19) (.tmp 20) 32 5 i0 (.int .u8 0) 1 rfl rfl Try.underlying32 hi hz0 hz1 hz2 rfl (by decide) rfl rfl hown1 hb1 flat_int (fun _ h => h.elim) ?_ ?_ ?_ ?_)
    · simp [maxLen]; omega
    · simp; omega
    · exact H1.out.size
    intro v2 w2 hown2 hk2 hor2
    have hB2 : Below w.heap.size w w2 := H1.out.trans (hk2.below (fun b _ e => (hown1.lt b e).1) H1.out.size)
    have hall := hown2.sl (Z' := fun _ => True) (by simp; omega) (fun _ _ => trivial) (fun _ _ => trivial)
    have ha2 := hold ha hB2
    have hb2 := hold hb hB2
    have H2 := Lib.hid hB2
    have hf1 := fnv_append a b x
    have hxa := fnv_lt a x hx
    have hya := fnv_lt a y hy
    obtain ⟨t, t1, t2⟩ : ∃ t : Bool, ((x : Int) == (y : Int)) = t ∧ (((fnv x a : Nat) : Int) == ((fnv y a : Nat) : Int)) = t := by
      by_cases e : x = y
      · exact ⟨true, by simp [e], by simp [e]⟩
      · have : ¬ fnv x a = fnv y a := fun h => e (fnv_inj a hx hy hlA h)
        exact ⟨false, by simp; omega, by simp; omega⟩
    clear hB2 hk2 hor2 hown2 hown1 hb1 hown0 H1
    go_wp2_with fail
    with_reducible refine (add_any _ _ _ x _ hx hall).mono ?_
    rintro e w3 ⟨rfl, n3, rfl⟩
    go_wp2_with fail
    with_reducible refine (add_any _ _ _ x _ hx (ha2.drewN _)).mono ?_
    rintro e w3 ⟨rfl, n4, rfl⟩
    go_wp2_with fail
    with_reducible refine (add_any _ _ _ (fnv x a) _ hxa (hb2.drewN _)).mono ?_
    rintro e w3 ⟨rfl, n5, rfl⟩
    cases t
    all_goals
      go_wp2_with fail
      with_reducible refine (add_any _ _ _ x _ hx (ha2.drewN _)).mono ?_
      rintro e w3 ⟨rfl, n6, rfl⟩
      go_wp2_with fail
      with_reducible refine (add_any _ _ _ y _ hy (ha2.drewN _)).mono ?_
      rintro e w3 ⟨rfl, n7, rfl⟩
      go_wp2_with fail
      with_reducible refine (awake24_any _).mono ?_
      rintro e w3 ⟨rfl, hB⟩
      go_wp2_with fail
      go_ret
      exact ⟨rfl, (Below.drewN' H2.out _).trans (hB.mono H2.out.size)⟩

theorem goeson_law {a0 a1 : List Int} {a2 a3 : Int} {v0 v1 v2 v3 : Value} (W : World) (e0 : (Sh.slice (Sh.int .u8)).rd (old W) W a0 [v0]) (e1 : (Sh.slice (Sh.int .u8)).rd (old W) W a1 [v1]) (e2 : (Sh.int .u32).rd (old W) W a2 [v2]) (e3 : (Sh.int .u32).rd (old W) W a3 [v3]) :
    Calls Try.prog 4 #[v0, v1, v2, v3] W fun e w' => e = .returned (.bool true) ∧ Below W.heap.size W w' := by
  obtain ⟨_, h0, b0⟩ := e0
  obtain ⟨_, h1, b1⟩ := e1
  obtain ⟨h2, b2⟩ := e2
  obtain ⟨h3, b3⟩ := e3
  simp only [List.cons.injEq, and_true] at h0 h1 h2 h3
  subst h0 h1 h2 h3
  have l2 := b2.1
  have u2 := b2.2
  have l3 := b3.1
  have u3 := b3.2
  simp [IntKind.min, IntKind.max, IntKind.signed, IntKind.bits] at l2 u2 l3 u3
  obtain ⟨x, rfl⟩ := Int.eq_ofNat_of_zero_le l2
  obtain ⟨y, rfl⟩ := Int.eq_ofNat_of_zero_le l3
  exact goeson_any _ _ _ _ x y W (by omega) (by omega) b0 b1
end Go.Proofs.Ytpdpiihnafkgjaa
