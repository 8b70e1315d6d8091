/- The law WordMetric. -/
import Derived.Test.YtpdpiihnafkgjaaWordL1
import Derived.Test.YtpdpiihnafkgjaaWordD
import Derived.Test.YtpdpiihnafkgjaaWordM
import Derived.Test.YtpdpiihnafkgjaaCells
import Derived.Test.YtpdpiihnafkgjaaSame01
namespace Go.Proofs.Ytpdpiihnafkgjaa
open Go Go.RowKit Rdn
set_option linter.unusedVariables false

theorem cells_ok {S : Nat → Prop} {w : World} {l : List Cell} {v : Value} (h : SlV Cell.sh S w l v) : ∀ c ∈ l, c.ok := by
  intro c hc
  obtain ⟨i, hi, rfl⟩ := List.getElem_of_mem hc
  obtain ⟨A, n, rfl, _, _⟩ := h.shape
  obtain ⟨_, _, _, _, _, _, _, _, h1, h2⟩ := cell_at h hi
  exact ⟨h1, h2⟩

theorem cells_i (N g : Nat) (n : Int) (w : World) (hn0 : 0 ≤ n) (hn : n ≤ 1000) (hd : Deck N w g) :
    Calls Try.prog 25 #[.pointer (some ⟨g, 0, none⟩), .int .i64 n] w fun e w' =>
      ∃ (l : List Cell) (v : Value), e = .returned v ∧ (l.length : Int) ≤ n ∧ SlV Cell.sh (fun b => w.heap.size ≤ b) w' l v ∧ Deck N w' g ∧ Only g w w' := by
  obtain ⟨m, rfl⟩ := Int.eq_ofNat_of_zero_le hn0
  exact (cells_any N g m w (by omega) hd).mono fun e w' ⟨l, v, h1, h2, h3⟩ => ⟨l, v, h1, by omega, h3⟩

set_option maxHeartbeats 2000000 in
theorem metric_any (l : List Int) (v : Value) (w : World) (h : SlV (Sh.int .i64) (old w) w l v) :
    Calls Try.prog 7 #[v] w fun e w' => e = .returned (.bool true) ∧ Below w.heap.size w w' := by
  go_enter Try.func7, Try.ntmps7
  go_wp2_with fail
  with_reducible refine (new_any l v w h).mono ?_
  rintro e w1 ⟨g, rfl, hg, hD1, hB1⟩
  go_wp2_with fail
  with_reducible refine (cells_i w.heap.size g 6 w1 (by omega) (by omega) hD1).mono ?_
  rintro e w2 ⟨a, va, rfl, hal, ha, hD2, hO2⟩
  have hg1 := hD1.lt
  have ha := ha.sub (S' := fun b => b ≠ g) (fun b _ hb => by omega)
  go_wp2_with fail
  with_reducible refine (cells_i w.heap.size g 6 w2 (by omega) (by omega) hD2).mono ?_
  rintro e w3 ⟨b, vb, rfl, hbl, hb, hD3, hO3⟩
  have hg2 := hD2.lt
  have hb := hb.sub (S' := fun b => b ≠ g) (fun b _ hb => by omega)
  have ha := ha.keep (hO3.keep (S := fun b => b = g) rfl) (fun _ h => h)
  go_wp2_with fail
  with_reducible refine (cells_i w.heap.size g 6 w3 (by omega) (by omega) hD3).mono ?_
  rintro e w4 ⟨c, vc, rfl, hcl, hc, hD4, hO4⟩
  have hg3 := hD3.lt
  have hc := hc.sub (S' := fun b => b ≠ g) (fun b _ hb => by omega)
  have ha := ha.keep (hO4.keep (S := fun b => b = g) rfl) (fun _ h => h)
  have hb := hb.keep (hO4.keep (S := fun b => b = g) rfl) (fun _ h => h)
  have hB4 : Below w.heap.size w w4 := (hB1.trans ((hO2.below hg hB1.size).trans ((hO3.below hg (by omega)).trans (hO4.below hg (by omega)))))
  have hba := dist_comm b a
  have haa := dist_self a
  have htri := dist_tri a b c
  have hoa := cells_ok ha
  have hob := cells_ok hb
  obtain ⟨t, t1, t2⟩ : ∃ t : Bool, ((dist a b : Int) == 0) = t ∧ decide (a = b) = t := by
    by_cases e : a = b
    · subst e; exact ⟨true, by simp [dist_self], by simp⟩
    · have : dist a b ≠ 0 := fun h => e (dist_zero hoa hob h)
      exact ⟨false, by simp; omega, by simp [e]⟩
  have l1 := dTo_le a b (max a.length b.length)
  have l2 := dTo_le b c (max b.length c.length)
  have l3 := dTo_le a c (max a.length c.length)
  have l1 : dist a b ≤ 1000 := by unfold dist; omega
  have l2 : dist b c ≤ 1000 := by unfold dist; omega
  have l3 : dist a c ≤ 1000 := by unfold dist; omega
  have HB := Lib.hid hB4
  have H1 := Lib.hid hba
  have H2 := Lib.hid haa
  have H3 := Lib.hid htri
  clear hB4 hba haa hoa hob hO4 hO3 hO2 hD1 hD2 hD3 hD4 hB1 h
  go_wp2_with fail
  with_reducible refine (distance_any _ _ _ _ _ _ ha hb).mono ?_
  rintro e w5 ⟨rfl, n1, rfl⟩
  go_wp2_with fail
  with_reducible refine (distance_any _ _ _ _ _ _ (hb.drewN _) (hc.drewN _)).mono ?_
  rintro e w5 ⟨rfl, n2, rfl⟩
  go_wp2_with fail
  with_reducible refine (distance_any _ _ _ _ _ _ (ha.drewN _) (hc.drewN _)).mono ?_
  rintro e w5 ⟨rfl, n3, rfl⟩
  go_wp2_with fail
  with_reducible refine (distance_any _ _ _ _ _ _ (hb.drewN _) (ha.drewN _)).mono ?_
  rintro e w5 ⟨rfl, n4, rfl⟩
  rw [H1.out]
  go_wp2_with fail
  with_reducible refine (refsame_any _ _ _ _ _ _ _ (ha.drewN _) (hb.drewN _)).mono ?_
  rintro e w5 ⟨rfl, n5, rfl⟩
  rw [t2]
  cases t
  all_goals
    go_wp2_with fail
    with_reducible refine (distance_any _ _ _ _ _ _ (ha.drewN _) (ha.drewN _)).mono ?_
    rintro e w5 ⟨rfl, n6, rfl⟩
    rw [H2.out]
    go_wp2_with fail
    with_reducible refine (awake01_any _).mono ?_
    rintro e w6 ⟨rfl, hb⟩
    go_wp2_with fail
    go_ret
    exact ⟨rfl, (Below.drewN' HB.out _).trans (hb.mono HB.out.size)⟩

theorem metric_law {a0 : List Int} {v0 : Value} (W : World) (e0 : (Sh.slice (Sh.int .i64)).rd (old W) W a0 [v0]) :
    Calls Try.prog 7 #[v0] W fun e w' => e = .returned (.bool true) ∧ Below W.heap.size W w' := by
  obtain ⟨_, h0, b0⟩ := e0
  simp only [List.cons.injEq, and_true] at h0
  subst h0
  exact metric_any _ _ W b0
end Go.Proofs.Ytpdpiihnafkgjaa
