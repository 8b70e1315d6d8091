/- Calls that get a row of one's own and give a part of it. Over any program. -/
import Derived.Test.YtcphobeommkgeaaPt
namespace Rdn.Dp
open Go Go.RowKit Rdn
set_option linter.unusedVariables false
section
variable {P : Program} {σ : AS}
/-- A call that gets a row of one's own and a number, and gives a part of the row. -/
theorem gen_callO {f : FuncId} {xs : List X} {r g s e lo hi : Nat} {i : Int} {kk : OK} {q : List V} (hx : xs.map (X.ev σ) = [.own r g, .int .i64 i]) (hk : kk = .row e ∨ ∃ p, kk = .rows p e) (k1 : σ.ob[r]? = some ⟨kk, true, g, .arr s q⟩)
    (hF : ∀ (A : Option Addr) (c : Nat) (w : World), q.length ≤ c → Calls P f #[.slice A q.length c, .int .i64 i] w fun x w' => w' = w ∧ ∃ v, x = .returned v ∧ partOf s lo hi (.slice A q.length c) v) :
    Gen P σ (.call f xs) (.osl r g s lo hi) [r] none := by
  have hkk : (∃ e, kk = .row e) ∨ ∃ p e, kk = .rows p e := by
    rcases hk with h | ⟨p, h⟩
    · exact .inl ⟨e, h⟩
    · exact .inr ⟨p, e, h⟩
  refine ⟨fun _ _ h => (by cases h), ?_⟩
  intro σ' hev hob _ cx E a w o R hc S hS
  have q1 : σ'.ob[r]? = some ⟨kk, true, g, .arr s q⟩ := by rw [hob r (by simp)]; exact k1
  obtain ⟨os, hxs, hrun⟩ := compK_call hc a
  have hr := compXs_rd0 R hxs
  rw [show xs.map (X.ev σ') = xs.map (X.ev σ) from List.map_congr_left fun y hy => hev y hy, hx] at hr
  simp only [RdTs] at hr
  obtain ⟨v0, vs, he, h1, v1, vs1, rfl, h2, h3⟩ := hr
  subst h3
  obtain ⟨e0, u, zs, _, hu, hU, hs0, hql, hown, hrd, hpu, hB⟩ := R.rowAt hkk q1
  have hv : v0 = u := by
    simp only [RdT, RdV] at h1
    obtain ⟨v', m1, _, _, m4⟩ := h1
    simp only [List.cons.injEq, and_true] at m1
    subst m1
    exact (m4 g u hu).2 rfl
  have hv1 : v1 = .int .i64 i := by
    simp only [RdT, RdV, List.cons.injEq, and_true] at h2
    exact h2.1
  subst hv hv1
  obtain ⟨A, c, hA, hnc⟩ := own_slice hown
  subst hA
  unfold relAt relUpon
  rw [hrun w]
  show Calls P f (os.map a.eval).toArray w _
  rw [he]
  refine (hF A c w hnc).mono ?_
  rintro x w' ⟨rfl, v, rfl, hp⟩
  exact ⟨v, rfl, hS v w' E (Leads.refl _ _) (mk_osl hu hp) R⟩
end
end Rdn.Dp
