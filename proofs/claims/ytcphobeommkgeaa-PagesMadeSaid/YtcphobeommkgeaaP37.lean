/- Pages of a state: there are some, and they are small. -/
import Derived.Test.YtcphobeommkgeaaP26
namespace Go.Proofs.Ytcphobeommkgeaa
open Go Go.RowKit Rdn Rdn.Dp
set_option linter.unusedVariables false
set_option linter.unusedSimpArgs false
theorem mod_nat (a : Int) {n : Nat} (hn : 0 < n) : ∃ i : Nat, a % (n : Int) = i ∧ i < n := by
  have h1 := Int.emod_nonneg a (b := (n : Int)) (by omega)
  have h2 := Int.emod_lt_of_pos a (b := (n : Int)) (by omega)
  obtain ⟨i, hi⟩ := Int.eq_ofNat_of_zero_le h1
  exact ⟨i, hi, by omega⟩
theorem pgs_pos {s : State} (F : Fine s) : 0 < (pgs s).length := by
  have h := pgs_len s
  have h1 := F.one
  obtain ⟨r, hr⟩ : ∃ r, s.regions.length = r + 1 := ⟨s.regions.length - 1, by omega⟩
  have h2 := (fine_pos F (j := r) (by omega)).1
  rw [hr, psum] at h
  omega
theorem pgs_small {s : State} (F : Fine s) {k : Nat} (hk : k < (pgs s).length) : ((pgs s)[k]!).cells.length ≤ 1000000 ∧ ((pgs s)[k]!).view.regs.length ≤ 1000000 := by
  rw [pgs_at hk]
  have hk' : k < (idsF (szs s) s.threads.length).length := by unfold pgs at hk; rwa [List.length_map] at hk
  have hc := ((mem_idsF (mem_at hk') F.shp).cells).1
  refine ⟨by omega, ?_⟩
  unfold getP
  split
  · by_cases h : (idsF (szs s) s.threads.length)[k]!.index.toNat < s.threads.length
    · have := F.reg _ (mem_at h)
      dsimp only
      omega
    · dsimp only
      rw [getElem!_neg s.threads _ h]
      exact Nat.zero_le _
  · exact Nat.zero_le _
end Go.Proofs.Ytcphobeommkgeaa
