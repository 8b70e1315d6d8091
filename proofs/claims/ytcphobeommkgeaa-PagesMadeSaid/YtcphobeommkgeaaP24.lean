/- States drawn near one: plain. -/
import Derived.Test.YtcphobeommkgeaaP4
import Derived.Test.YtcphobeommkgeaaP3
namespace Go.Proofs.Ytcphobeommkgeaa
open Go Go.RowKit Rdn Rdn.Dp
set_option linter.unusedVariables false
set_option linter.unusedSimpArgs false
/-- A thread, or a word, of a state is another one. -/
def nT (s : State) (a : Nat) (v : View) : State := ⟨s.regions, s.threads.set a v⟩
def nR (s : State) (w a : Nat) (c : Canon) : State := ⟨s.regions.set w (s.regions[w]!.set a c), s.threads⟩
def nrg (l : List Int) (s : State) (k : Nat) : State × Nat :=
  (nR s (dnx l k s.regions.length).toNat (dnx l (dkx l k) (s.regions[(dnx l k s.regions.length).toNat]!.length)).toNat (sc1 l (dkx l (dkx l k))).1, (sc1 l (dkx l (dkx l k))).2)
def nst (l : List Int) (x : State × Nat) : State × Nat :=
  if 0 < x.1.threads.length then
    if dnx l x.2 3 = 2 then (nT x.1 (dnx l (dkx l x.2) x.1.threads.length).toNat (sv1 l (dkx l (dkx l x.2))).1, (sv1 l (dkx l (dkx l x.2))).2)
    else nrg l x.1 (dkx l x.2)
  else nrg l x.1 x.2
/-- The state after some of these. -/
def nrs (l : List Int) (x : State × Nat) : Nat → State × Nat
  | 0 => x
  | i + 1 => nst l (nrs l x i)
theorem nT_fine {s : State} (h : Fine s) (a : Nat) {v : View} (hv : v.regs.length = 8) : Fine (nT s a v) := by
  obtain ⟨h1, h2, h3, h4⟩ := h
  refine ⟨?_, h2, h3, fun x hx => ?_⟩
  · obtain ⟨g1, g2, g3⟩ := h1
    exact ⟨g1, by simpa [nT] using g2, g3⟩
  · rcases List.mem_or_eq_of_mem_set hx with hx | rfl
    · exact h4 x hx
    · exact hv
theorem nR_fine {s : State} (h : Fine s) (w a : Nat) (c : Canon) : Fine (nR s w a c) := by
  by_cases hw : w < s.regions.length
  · have hm : s.regions[w]! ∈ s.regions := mem_at hw
    obtain ⟨h1, h2, h3, h4⟩ := h
    have key : ∀ x ∈ (nR s w a c).regions, ∃ y ∈ s.regions, x.length = y.length := fun x hx => by
      rcases List.mem_or_eq_of_mem_set hx with hx | rfl
      · exact ⟨x, hx, rfl⟩
      · exact ⟨_, hm, by simp⟩
    refine ⟨?_, by simpa [nR] using h2, fun x hx => ?_, h4⟩
    · obtain ⟨g1, g2, g3⟩ := h1
      refine ⟨by simpa [nR] using g1, g2, fun j hj => ?_⟩
      obtain ⟨y, hy, e⟩ := key _ (mem_at hj)
      obtain ⟨i, hi, rfl⟩ := List.getElem_of_mem hy
      have := g3 i hi
      rw [getElem!_pos s.regions i hi] at this
      rw [e]; exact this
    · obtain ⟨y, hy, e⟩ := key x hx
      rw [e]; exact h3 y hy
  · have : nR s w a c = s := by
      unfold nR
      rw [List.set_eq_of_length_le (by omega)]
    rw [this]; exact h
theorem nst_fine {l : List Int} {x : State × Nat} (h : Fine x.1) (hk : x.2 ≤ l.length) : Fine (nst l x).1 ∧ (nst l x).2 ≤ l.length ∧ (nst l x).1.regions.length = x.1.regions.length ∧ (nst l x).1.threads.length = x.1.threads.length := by
  unfold nst
  split
  · split
    · exact ⟨nT_fine h _ (sv1_regs _ _), sv1_le _ (dkx_le (dkx_le hk)), rfl, by simp [nT]⟩
    · exact ⟨nR_fine h _ _ _, sc1_le _ (dkx_le (dkx_le (dkx_le hk))), by simp [nrg, nR], rfl⟩
  · exact ⟨nR_fine h _ _ _, sc1_le _ (dkx_le (dkx_le hk)), by simp [nrg, nR], rfl⟩
theorem nrs_fine {l : List Int} {x : State × Nat} (h : Fine x.1) (hk : x.2 ≤ l.length) : ∀ i, Fine (nrs l x i).1 ∧ (nrs l x i).2 ≤ l.length ∧ (nrs l x i).1.regions.length = x.1.regions.length ∧ (nrs l x i).1.threads.length = x.1.threads.length
  | 0 => ⟨h, hk, rfl, rfl⟩
  | i + 1 => by
    obtain ⟨h1, h2, h3, h4⟩ := nrs_fine h hk i
    obtain ⟨g1, g2, g3, g4⟩ := nst_fine (x := nrs l x i) h1 h2
    exact ⟨g1, g2, g3.trans h3, g4.trans h4⟩
theorem fine_low {s : State} (h : Fine s) : LowS s := by
  obtain ⟨⟨h0, h1, h2⟩, h3, h4, h5⟩ := h
  exact ⟨by omega, fun x hx => by have := h4 x hx; omega, by omega, fun x hx => by have := h5 x hx; omega⟩
theorem fine_thr {s : State} (h : Fine s) : s.threads.length ≤ 1000 := by
  obtain ⟨⟨h0, h1, h2⟩, h3, h4, h5⟩ := h
  omega
theorem ssd_three (l : List Int) (k : Nat) : (ssd l k).1.regions.length ≤ 3 := by
  have h1 := dnx_ge (l := l) (k := k) (n := 3) (by omega)
  have h2 := dnx_lt (l := l) (k := k) (n := 3) (by omega)
  have : (ssd l k).1.regions.length = (dnx l k 3).toNat + 1 := drw_len _ _ _
  omega
end Go.Proofs.Ytcphobeommkgeaa
