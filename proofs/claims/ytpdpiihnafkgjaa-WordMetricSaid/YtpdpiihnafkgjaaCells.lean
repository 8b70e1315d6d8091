/- The deck made; lists of cells off a deck. -/
import Derived.Test.YtpdpiihnafkgjaaDeckB
namespace Go.Proofs.Ytpdpiihnafkgjaa
open Go Go.RowKit Rdn
set_option linter.unusedVariables false

theorem info_Cell : (Try.prog.info? 24).map (fun i => (i.zero, i.size, i.bytes)) = some (some (.agg #[.int .u8 0, .int .u16 0]), 2, 4) := by kernel_rfl

theorem new_any (l : List Int) (v : Value) (w : World) (h : SlV (Sh.int .i64) (old w) w l v) :
    Calls Try.prog 24 #[v] w fun e w' => ∃ g, e = .returned (.pointer (some ⟨g, 0, none⟩)) ∧ w.heap.size ≤ g ∧ Deck w.heap.size w' g ∧ Below w.heap.size w w' := by
  obtain ⟨A, c, rfl, hc, hm⟩ := h.shape
  go_enter Try.func24, Try.ntmps24
  go_wp2_with fail
  go_ret
  refine ⟨_, rfl, Nat.le_refl _, ⟨l, A, c, 0, ?_, by omega, by simp, ?_⟩, (Below.refl _ _).alloc (Nat.le_refl _) _⟩
  · exact heap_new w _
  · exact SlV.mono (fun b hb => ⟨hb, fun e => by rw [e] at hb; exact Nat.lt_irrefl _ hb⟩) (fun b hb => Below.heap_alloc w _ b hb) h

theorem few_any (l : List Int) (v : Value) (S : Nat → Prop) (w : World) (h : SlV (Sh.int .i64) S w l v) :
    Calls Try.prog 37 #[v] w fun e w' => e = .returned (.bool (decide (l.length ≤ 400))) ∧ w = w' := by
  obtain ⟨A, c, rfl, hc, hm⟩ := h.shape
  go_enter Try.func37, Try.ntmps37
  go_wp2_with fail
  go_ret
  exact ⟨ret_bool (by simp; omega), rfl⟩

set_option maxRecDepth 100000 in
set_option maxHeartbeats 1000000 in
theorem cells_any (N g : Nat) (n : Nat) (w : World) (hn : n ≤ 1000) (hd : Deck N w g) :
    Calls Try.prog 25 #[.pointer (some ⟨g, 0, none⟩), .int .i64 n] w fun e w' =>
      ∃ (l : List Cell) (v : Value), e = .returned v ∧ l.length ≤ n ∧ SlV Cell.sh (fun b => w.heap.size ≤ b) w' l v ∧ Deck N w' g ∧ Only g w w' := by
  have hgl := hd.lt
  have hNl' := hd.le
  obtain ⟨i0, hi, hz0, hz1, hz2⟩ := info_parts info_Cell
  go_enter Try.func25, Try.ntmps25
  go_wp2_with fail
  with_reducible refine (next_any N g _ _ (by omega) (by omega) hd).mono ?_
  rintro e w0 ⟨m0, hm0, rfl, hD0, hO0⟩
  go_wp2_with fail
  go_loopw [5, 6] (fun v k wr => ∃ (m : Nat) (l : List Cell), k = .int .i64 m ∧ l.length + m ≤ n ∧ Own Cell.sh (fun _ => False) w.heap.size 24 wr v l ∧ Deck N wr g ∧ Only g w wr) (fun _ k _ => (intOf k).toNat)
  case atStart => exact ⟨m0, [], rfl, by simp; omega, Own.nil _ _ _ _ _, hD0, hO0⟩
  case round =>
    obtain ⟨m, l, rfl, hlm, hown, hD, hO⟩ := hrel
    have HW := Lib.hid hown
    clear hown
    have hNl := hd.le
    by_cases hm : 0 < m
    · go_wp2_with fail
      with_reducible refine (cell_any N g _ hD).mono ?_
      rintro e w1 ⟨t, x, ht, hx, rfl, hD1, hO1⟩
      go_wp2_with fail
      with_reducible refine (next_any N g 9 _ (by omega) (by omega) hD1.alloc).mono ?_
      rintro e w2 ⟨q, hq, rfl, hD2, hO2⟩
      have hne : ¬ w1.heap.size = g := by have := hD1.lt; omega
      have hN1 := hD1.le
      have b2 := (hO2.keep (S := fun b => b = g) rfl).at_ (heap_new w1 (.cells #[.int .u8 t, .int .u16 x] 24)) hne
      have c0 := cells_cell b2 0
      have c1 := cells_cell b2 1
      have f0 := cells_free b2 0
      simp at c0 c1
      have hk2 : Keep (fun b => b = g) wr w2 := ((hO1.keep (S := fun b => b = g) rfl).trans (Keep.alloc _ _ _)).trans (hO2.keep rfl)
      have hw1 : w.heap.size ≤ w1.heap.size := Nat.le_trans hO.size hO1.size
      have hown2 : Own Cell.sh (fun _ => False) w.heap.size 24 w2 u5 l := HW.out.keep hk2 (fun _ h => h.elim) (fun _ h => h.elim) (fun b hb => by have := HW.out.lt b hb; omega)
      have hO2' : Only g w w2 := hO.trans (keep_only hk2 (fun b _ e => e))
      have hlt1 : ∀ b, u5.ownBlock = some b → w.heap.size ≤ b ∧ b < w1.heap.size := fun b hb => ⟨(HW.out.lt b hb).1, Nat.lt_of_lt_of_le (HW.out.lt b hb).2 hO1.size⟩
      have hw2 : w.heap.size ≤ w2.heap.size := hO2'.size
      have B2 := Lib.hid b2
      have HO2 := Lib.hid hown2
      have HOO := Lib.hid hO2'
      have HL := Lib.hid hlt1
      clear b2 hk2 hown2 hO2' hO2 hO1 hD1 hD hO hO0 hD0 hlt1
      by_cases hq0 : q = 0
      · subst hq0
        clear HW
        go_wp2_with fail
        with_reducible refine (next_any N g 256 _ (by omega) (by omega) hD2).mono ?_
        rintro e w3 ⟨q3, hq3, rfl, hD3, hO3⟩
        have b3 := (hO3.keep (S := fun b => b = g) rfl).at_ B2.out hne
        have f3 := cells_free b3 0
        have d0 := cells_cell b3 0
        have hs := cells_set b3 0 (.int .u8 q3)
        have hk4 : Keep (fun b => b = g ∨ b = w1.heap.size) w2 (w3.setCell ⟨w1.heap.size, 0, none⟩ (.int .u8 q3)) := (hO3.keep (.inl rfl)).trans (Keep.setCell _ _ _ (.inr rfl))
        have hD4 := hD3.setCell (p := ⟨w1.heap.size, 0, none⟩) hN1 hne (.int .u8 q3)
        have hO4 : Only g w (w3.setCell ⟨w1.heap.size, 0, none⟩ (.int .u8 q3)) := keep_only (((HOO.out.keep (S := fun b => b = g ∨ b = w1.heap.size) (.inl rfl))).trans hk4) (fun b hb e => by omega)
        have hown4 := HO2.out.keep hk4 (fun _ h => h.elim) (fun _ h => h.elim) (fun b hb => by have := HL.out b hb; omega)
        have hw4 : w.heap.size ≤ (w3.setCell ⟨w1.heap.size, 0, none⟩ (.int .u8 q3)).heap.size := hO4.size
        have e0 := cells_cell hs 0
        have e1 := cells_cell hs 1
        simp at d0 e0 e1
        have HW4 := Lib.hid hown4
        have HO4 := Lib.hid hO4
        have HD4 := Lib.hid hD4
        clear hs hown4 hO4 hD4 hk4 b3 hO3 hD3 c0 c1 f0
        go_wp2_with (at_builtin; with_reducible refine wpList_push (.tmp 25) (.tmp 27) 37 24 i0 (.agg #[.int .u8 0, .int .u16 0]) 4 rfl rfl Try.underlying37 hi hz0 hz1 hz2 rfl (by decide) rfl rfl ?_ HW4.out (x0 := ⟨q3, x⟩) (Cell.rd_iff.2 ⟨rfl, ?_, ?_⟩) (fun _ h => h.elim) ?_ ?_ ?_ ?_)
        · simp
        · exact inK_u8 (by omega) (by omega)
        · exact inK_u16 (by omega) (by omega)
        · unfold maxLen; omega
        · omega
        · exact hw4
        · intro v' w' hown' hkeep hor
          obtain ⟨hD', hO'⟩ := deck_own HD4.out HO4.out (Nat.le_trans hNl' (Nat.le_refl _)) (Nat.le_refl _) hgl (fun b hb => (HL.out b hb).1) hkeep
          have HN := Lib.hid hown'
          clear hown' hkeep hor HW4 HO4 HD4 HL HO2 HOO B2
          go_wp2_with fail
          go_roundw
          case rel => exact ⟨m - 1, _, by go_num, by simp; omega, HN.out, hD', hO'⟩
          case measure => simp [intOf]; omega
      · clear HW
        have HD2 := Lib.hid hD2
        go_wp2_with (at_builtin; with_reducible refine wpList_push (.tmp 25) (.tmp 27) 37 24 i0 (.agg #[.int .u8 0, .int .u16 0]) 4 rfl rfl Try.underlying37 hi hz0 hz1 hz2 rfl (by decide) rfl rfl ?_ HO2.out (x0 := ⟨t, x⟩) (Cell.rd_iff.2 ⟨rfl, ?_, ?_⟩) (fun _ h => h.elim) ?_ ?_ ?_ ?_)
        · rfl
        · exact inK_u8 (by omega) (by omega)
        · exact inK_u16 (by omega) (by omega)
        · unfold maxLen; omega
        · omega
        · exact hw2
        · intro v' w' hown' hkeep hor
          obtain ⟨hD', hO'⟩ := deck_own HD2.out HOO.out (Nat.le_trans hNl' (Nat.le_refl _)) (Nat.le_refl _) hgl (fun b hb => (HL.out b hb).1) hkeep
          have HN := Lib.hid hown'
          clear hown' hkeep hor HD2 HL HO2 HOO B2 hD2
          go_wp2_with fail
          go_roundw
          case rel => exact ⟨m - 1, _, by go_num, by simp; omega, HN.out, hD', hO'⟩
          case measure => simp [intOf]; omega
    · obtain rfl : m = 0 := by omega
      go_wp2_with fail
      go_ret
      exact ⟨l, u5, rfl, by omega, HW.out.sl (by omega) (fun _ h => h.elim) (fun b hb => (HW.out.lt b hb).1), hD, hO⟩
end Go.Proofs.Ytpdpiihnafkgjaa
