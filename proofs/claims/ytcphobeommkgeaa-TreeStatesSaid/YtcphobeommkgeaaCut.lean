/- A piece of code is walked up to a state that is told apart; what follows is walked from there, once. -/
import Derived.Test.YtcphobeommkgeaaZt
namespace Rdn.Dp
open Go Go.RowKit Rdn
set_option linter.unusedVariables false
section
variable {P : Program} {cx : Cx} {N : Nat} {Q : Exit → Act → World → Prop} {k : List It} {σ : AS} {n : Nat} {t : List (Nat × V)} {ob : List Ob}
theorem ev_cut {J : AS → Prop} {x : MC} (rest : ∀ σ', J σ' → Ev P cx N Q k σ') (h : Ev P cx N Q (.code x :: .goal J :: k) σ) : Ev P cx N Q (.code x :: k) σ := by
  refine ⟨fun hn E a w R => ?_⟩
  have h1 := h.h hn E a w R
  rw [wpS_code] at h1 ⊢
  intro c hc
  refine wp_mono (h1 c hc) fun e a w hq => ?_
  cases e with
  | normal =>
    simp only [onX, wpS] at hq ⊢
    obtain ⟨E1, σ1, hJ, hn1, R1⟩ := hq
    exact (rest σ1 hJ).h hn1 E1 _ _ R1
  | exit id => simpa only [onX, exitS] using hq
  | goto l => exact hq
  | ret => exact hq
  | panic c => exact hq
  | outgrown => exact hq
/-- As a loop's rule, without a loop: U: the slots that change, ks: those that stay, O: the objects. -/
theorem ev_cutK {ι : Type} (ks : List Nat) (U : ι → List (Nat × V)) (O : ι → List Ob) {tk : List (Nat × V)} {x : MC} (htk : keepT t ks = tk)
    (rest : ∀ y, Ev P cx N Q k ⟨n, U y ++ tk, O y⟩)
    (h : ∀ J : Unit → AS → Prop, (∀ i y, 0 < 1 → J i ⟨n, U y ++ tk, O y⟩) → Ev P cx N Q (.code x :: .goal (J ()) :: k) ⟨n, t, ob⟩) : Ev P cx N Q (.code x :: k) ⟨n, t, ob⟩ :=
  ev_cut (J := fun σ' => ∃ y, σ' = ⟨n, U y ++ tk, O y⟩) (fun σ' hJ => by obtain ⟨y, rfl⟩ := hJ; exact rest y) (h (fun _ σ' => ∃ y, σ' = ⟨n, U y ++ tk, O y⟩) fun _ y _ => ⟨y, rfl⟩)
end
section
variable {P : Program} {cx : Cx} {E E' : Env} {a : Act} {w w' : World} {N : Nat} {Q : Exit → Act → World → Prop} {k : List It} {l : List RO} {n : Nat} {t : List (Nat × V)} {ob : List Ob}
/-- A row that a variable's field holds is not written any more. -/
theorem Rel.frzBox (R : Rel cx E ⟨n, t, ob⟩ a w) {r j g r' g' e' s' : Nat} {qb : Bool} {T : TypeId} {q q' : List V} (hr : ob[r]? = some ⟨.box qb T, true, g, .agg q⟩) (hj : q[j]? = some (.own r' g')) (hr' : ob[r']? = some ⟨.row e', true, g', .arr s' q'⟩) : ∃ E', Rel cx E' ⟨n, t, (ob.set r' ⟨.row e', false, g', .arr s' q'⟩).set r ⟨.box qb T, true, g, .agg (q.set j (.sl true s' q'))⟩⟩ a w := by
  have hne : r' ≠ r := by
    rintro rfl
    rw [hr] at hr'
    cases hr'
  obtain ⟨u, k1, k2⟩ := R.ob r' _ hr'
  obtain ⟨L, R1⟩ := R.freeze (r := r') hr' k1 (fun b hb => ⟨k2.wrRow (e := e') rfl hb, trivial⟩)
  have hup : ((⟨n, t, ob⟩ : AS).upd r' Ob.freeze) = ⟨n, t, ob.set r' ⟨.row e', false, g', .arr s' q'⟩⟩ := by simp [AS.upd, hr', Ob.freeze]
  rw [hup] at R1
  have rl' : r' < ob.length := (List.getElem?_eq_some_iff.1 hr').1
  have hjl := (List.getElem?_eq_some_iff.1 hj).1
  have hjv : q[j] = .own r' g' := (List.getElem?_eq_some_iff.1 hj).2
  refine ⟨_, R1.kind (r := r) (o := ⟨.box qb T, true, g, .agg q⟩) (by rw [List.getElem?_set_ne hne]; exact hr) rfl rfl fun u h => ?_⟩
  unfold OkO at h ⊢
  obtain ⟨b, cs, h1, h2, h3, h4, h5⟩ := h
  simp only [RdV] at h3
  obtain ⟨ys, c, zs, p1, p2, p3, p4⟩ := h3.part hjl
  rw [hjv] at p3
  have p3' := p3
  simp only [RdV] at p3'
  obtain ⟨v, rfl, _⟩ := p3'
  have hv := own_calm R1 (r := r') (g := g') (v := v) (by simpa only [RdT] using p3) (by simp [rowV, List.getElem?_set_self rl']) (fun o ho => by
    have ho : (ob.set r' ⟨.row e', false, g', .arr s' q'⟩)[r']? = some o := ho
    rw [List.getElem?_set_self rl'] at ho
    cases ho; rfl)
  have e1 : (rowV ⟨n, t, ob.set r' ⟨.row e', false, g', .arr s' q'⟩⟩ r' g').1 = s' := by simp [rowV, List.getElem?_set_self rl']
  have e2 : (rowV ⟨n, t, ob.set r' ⟨.row e', false, g', .arr s' q'⟩⟩ r' g').2.1 = q' := by simp [rowV, List.getElem?_set_self rl']
  rw [e1, e2] at hv
  refine ⟨b, cs, h1, h2, ?_, h4, h5⟩
  simp only [RdV]
  rw [p1]
  exact p4 (fun _ _ h => h) _ _ hv
theorem ev_frzBox (r j r' : Nat) {g g' e' s' : Nat} {qb : Bool} {T : TypeId} {q q' : List V} (hr : ob[r]? = some ⟨.box qb T, true, g, .agg q⟩) (hr' : ob[r']? = some ⟨.row e', true, g', .arr s' q'⟩) (hj : q[j]? = some (.own r' g')) (h : Ev P cx N Q k ⟨n, t, (ob.set r' ⟨.row e', false, g', .arr s' q'⟩).set r ⟨.box qb T, true, g, .agg (q.set j (.sl true s' q'))⟩⟩) : Ev P cx N Q k ⟨n, t, ob⟩ := by
  refine ⟨fun hn E a w R => ?_⟩
  obtain ⟨E', R'⟩ := R.frzBox hr hj hr'
  exact h.h hn E' a w R'
theorem evr_frzBox (r j r' : Nat) {g g' e' s' : Nat} {qb : Bool} {T : TypeId} {q q' : List V} (hr : ob[r]? = some ⟨.box qb T, true, g, .agg q⟩) (hr' : ob[r']? = some ⟨.row e', true, g', .arr s' q'⟩) (hj : q[j]? = some (.own r' g')) (h : EvR P cx N Q k l ⟨n, t, (ob.set r' ⟨.row e', false, g', .arr s' q'⟩).set r ⟨.box qb T, true, g, .agg (q.set j (.sl true s' q'))⟩⟩) : EvR P cx N Q k l ⟨n, t, ob⟩ := by
  refine ⟨fun hn E a w R => ?_⟩
  obtain ⟨E', R'⟩ := R.frzBox hr hj hr'
  exact h.h hn E' a w R'
end
end Rdn.Dp
