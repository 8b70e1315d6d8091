/- slices.Grow of nothing, for canonical cells: a row of one's own without elements. -/
import Derived.Test.YtkfpcgkmemfdaaaGreatC4
import Derived.Lib.AppendZerosOnto
namespace Rdn.Dp
open Go Go.RowKit Rdn
set_option linter.unusedVariables false
/-- A function that makes a row without elements. -/
theorem Fnc.ofRow {P : Program} {f : FuncId} {xs : List V} {e s : Nat} (hs0 : 0 < s) (args : List Value) (ha : ∀ S w vs, RdTs (argS S) w xs vs → vs = args)
    (h : ∀ w, Calls P f args.toArray w fun ex w' => ∃ v, ex = .returned v ∧ Below w.heap.size w w' ∧ v.oneCell' = true ∧ w'.ownsRow w.heap.size e s v 0 []) : Fnc P f xs (fun y obs => y = .own 0 0 ∧ obs = [⟨.row e, true, 0, .arr s []⟩]) := by
  intro w S vs hS hvs
  obtain rfl := ha S w vs hvs
  refine (h w).mono ?_
  rintro ex w' ⟨v, rfl, hb, hv, hrow⟩
  refine ⟨.own 0 0, _, v, ⟨rfl, rfl⟩, rfl, ⟨fun _ => False, fun b => w.heap.size ≤ b, [(0, v)]⟩, fun b hb => False.elim hb, fun o ho => by simp at ho; subst ho; exact ⟨rfl, rfl⟩, rfl, rfl, fun i => ?_, rfl, fun r o hr => ?_, fun r r' o o' g g' u u' b hne k1 k2 => ?_, fun b hb => False.elim hb, fun b => Iff.rfl, fun b hb => False.elim hb, Keep.of_below hb⟩
  · cases i with
    | zero =>
      show RdT _ _ (.own 0 0) v
      simp only [RdT, RdV]
      refine ⟨v, rfl, hv, by simp, fun gc u hu => ?_⟩
      simp at hu
      exact ⟨by omega, fun _ => hu.2⟩
    | succ i =>
      have e : slotV [(0, V.own 0 0)] (i + 1) = .junk := by simp [slotV]
      show RdT _ _ (slotV [(0, V.own 0 0)] (i + 1)) _
      rw [e]
      simp only [RdT]
  · cases r with
    | zero =>
      simp at hr
      subst hr
      exact ⟨v, rfl, s, [], [], rfl, rfl, (fun x hx => by cases hx), hs0, by simp, hrow, by simp [RdL], fun b hb hB => hB⟩
    | succ r => simp at hr
  · exfalso
    have h1 := (List.getElem?_eq_some_iff.1 k1).1
    have h2 := (List.getElem?_eq_some_iff.1 k2).1
    simp at h1 h2
    omega
end Rdn.Dp
namespace Go.Proofs.YtkfpcgkmemfdaaaGreat
open Go Go.RowKit Rdn Rdn.Dp
set_option linter.unusedVariables false
set_option maxHeartbeats 2000000 in
theorem growC_nil (w : World) : Calls Tryz.prog 110 #[.slice none 0 0, .int .i64 0] w fun e w' => e = .returned (.slice none 0 0) ∧ w' = w := by
  go_enter Tryz.func110, Tryz.ntmps110
  go_wp2
  go_ret
  exact ⟨rfl, rfl⟩
abbrev zcn : Value := .agg #[.int .u8 0, .int .u16 0, .int .i64 0, .int .i64 0]
theorem info_cnc : (Tryz.prog.info? 43).map (fun i => (i.zero, i.size, i.bytes)) = some (some zcn, 4, 24) := by kernel_rfl
theorem under_cns : Tryz.prog.underlying 22 = some (.slice 43) := by kernel_rfl
theorem under_i64c : Tryz.prog.underlying 3 = some (.int .i64) := by kernel_rfl
set_option maxHeartbeats 4000000 in
theorem growC_pos (n : Nat) (h0 : 0 < n) (hn : n ≤ 1000000) (w : World) : Calls Tryz.prog 110 #[.slice none 0 0, .int .i64 n] w fun e w' => ∃ c xs, n ≤ c ∧ c ≤ maxLen ∧ xs.size = c * 4 ∧ e = .returned (.slice (some ⟨w.heap.size, 0, none⟩) 0 c) ∧ w' = w.drew.alloc (.cells xs 43) := by
  obtain ⟨i0, hi, hz0, hz1, hz2⟩ := info_parts info_cnc
  have h1 : ¬ ((n : Int) < 0) := by omega
  have h2 : wrap64 ((0 : Int) - 0) = 0 := by unfold wrap64; omega
  have h3 : wrap64 ((n : Int) - 0) = (n : Int) := by unfold wrap64; omega
  have h4 : (n : Int) > 0 := by omega
  have hold : (Builtin.firstCells i0.size 0 (.slice none 0 0)).run Tryz.prog w.drew = .ok ([] : List Value).toArray w.drew := run_firstCells_none w.drew i0.size 0 0 0
  have hrz : ∀ ty, (Builtin.append_ #[22, 3] ty #[.slice none 0 0, .int .i64 n]).run Tryz.prog w =
      .ok (.slice (some ⟨w.heap.size, 0, none⟩) n (grownCap w n 0 43)) (w.drew.alloc (.cells (([] : List Value).toArray ++ Builtin.zeroCells zcn.cells n ++ Builtin.zeroCells zcn.cells (grownCap w n 0 43 - n)) 43)) := by
    intro ty
    have h := Lib.run_append_grow_zeros w 22 3 ty 43 i0 zcn .i64 .i64 under_cns under_i64c hi hz0 none 0 0 [] hold n h0 (by omega) (by omega) (by omega) (by rw [hz2]; omega)
      (by rw [Nat.zero_add]; exact growslice_fits h0 (by rw [hz2]; omega))
    rw [Nat.zero_add] at h
    exact h
  have hG := grownCap_ge w n 0 43
  have hG63 := grownCap_le_maxLen w n 0 43 (by unfold maxLen; omega)
  obtain ⟨G, hGe⟩ : ∃ G, G = grownCap w n 0 43 := ⟨_, rfl⟩
  rw [← hGe] at hrz hG hG63
  have hG64 : G ≤ 9223372036854775807 := by unfold maxLen at hG63; omega
  have hsz : (([] : List Value).toArray ++ Builtin.zeroCells zcn.cells n ++ Builtin.zeroCells zcn.cells (G - n)).size = G * 4 := by
    simp [Builtin.zeroCells, Value.cells]
    omega
  generalize ([] : List Value).toArray ++ Builtin.zeroCells zcn.cells n ++ Builtin.zeroCells zcn.cells (G - n) = xs at hrz hsz
  clear hold hGe
  go_enter Tryz.func110, Tryz.ntmps110
  go_wp2_with (at_builtin; refine Lib.wpList_append_run _ rfl _ _ _ _ rfl _ _ rfl rfl _ _ (hrz _) ?_)
  all_goals (go_ret; first | exact ⟨G, hG, hG63, xs, hsz, rfl, rfl⟩ | exact ⟨G, hG, hG63, xs, hsz, rfl⟩)
theorem growC_fn (n : Nat) (hn : n ≤ 1000000) : Fnc Tryz.prog 110 [.nilS, .int .i64 n] (fun x obs => x = .own 0 0 ∧ obs = [⟨.row 43, true, 0, .arr 4 []⟩]) := by
  refine Fnc.ofRow (by decide) [.slice none 0 0, .int .i64 n] (fun S w vs h => ?_) fun w => ?_
  · simp only [RdTs, RdT, RdV] at h
    obtain ⟨v, ys, rfl, h1, v2, ys2, rfl, ⟨h2, _⟩, rfl⟩ := h
    simp only [List.cons.injEq, and_true] at h1 h2
    rw [h1, h2]
  · by_cases h0 : n = 0
    · subst h0
      refine (growC_nil w).mono ?_
      rintro e w' ⟨rfl, rfl⟩
      exact ⟨_, rfl, Below.refl _ _, rfl, World.ownsRow_nil _ _ _ _⟩
    · refine (growC_pos n (by omega) hn w).mono ?_
      rintro e w' ⟨c, xs, h1, h2, h3, rfl, rfl⟩
      refine ⟨_, rfl, (Below.refl _ _).drew.alloc (Nat.le_refl _) _, rfl, rfl, .inr ⟨w.heap.size, c, xs, rfl, Nat.le_refl _, ?_, Nat.zero_le _, h2, by omega, by simp⟩⟩
      exact Array.getElem?_push_size (xs := w.drew.heap)
end Go.Proofs.YtkfpcgkmemfdaaaGreat
