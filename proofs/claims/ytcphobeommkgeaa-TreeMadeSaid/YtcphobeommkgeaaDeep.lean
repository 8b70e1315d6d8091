/- Calls that read rows that hold rows. Over any program. -/
import Derived.Test.YtcphobeommkgeaaNr
namespace Rdn.Dp
open Go Go.RowKit Rdn
set_option linter.unusedVariables false
/-- A row of one's own, as a call reads it. -/
def dp1 (σ : AS) : V → V
  | .own r g => .sl false (rowV σ r g).1 (V.lows (rowV σ r g).2.1)
  | x => x.low
def dp1Ok (σ : AS) : V → Prop
  | .own r g => (rowV σ r g).2.2
  | x => x.pure = true
/-- As well a row that holds rows. -/
def dp2 (σ : AS) : V → V
  | .own r g => .sl false (rowW σ r g).1 ((rowW σ r g).2.1.map (dp1 σ))
  | x => x.low
def dp2Ok (σ : AS) : V → Prop
  | .own r g => (rowW σ r g).2.2 ∧ ∀ y ∈ (rowW σ r g).2.1, dp1Ok σ y
  | x => x.pure = true
/-- As well a struct of these. -/
def dp3 (σ : AS) : V → V
  | .agg l => .agg (l.map (dp2 σ))
  | x => dp2 σ x
def dp3Ok (σ : AS) : V → Prop
  | .agg l => ∀ y ∈ l, dp2Ok σ y
  | x => dp2Ok σ x
/-- The objects that are read. -/
def in1 (ids : List Nat) : V → Prop
  | .own r _ => r ∈ ids
  | _ => True
def in2 (ids : List Nat) (σ : AS) : V → Prop
  | .own r g => r ∈ ids ∧ ∀ y ∈ (rowW σ r g).2.1, in1 ids y
  | _ => True
def in3 (ids : List Nat) (σ : AS) : V → Prop
  | .agg l => ∀ y ∈ l, in2 ids σ y
  | x => in2 ids σ x
section
variable {cx : Cx} {E : Env} {σ σ' : AS} {a : Act} {w : World}
theorem dp1_rd (R : Rel cx E σ a w) {x : V} {cs : List Value} (h : dp1Ok σ x) (hr : RdV E w x cs) : RdV (argE w) w (dp1 σ x) cs := by
  cases x with
  | own r g =>
    have h' := hr
    simp only [RdV] at h'
    obtain ⟨v, rfl, _⟩ := h'
    exact own_res R (by simpa only [RdT] using hr) h
  | _ => exact low_rd R.lt h hr
theorem dp1_pure {x : V} (h : dp1Ok σ x) : (dp1 σ x).pure = true := by
  cases x with
  | own r g => rfl
  | _ => exact (V.low_pure _).trans h
theorem dp1_size {x : V} : (dp1 σ x).size = x.size := by
  cases x with
  | own r g => rfl
  | _ => exact V.low_size _
theorem dp1s_rd (R : Rel cx E σ a w) : ∀ {l : List V} {cs : List Value}, (∀ y ∈ l, dp1Ok σ y) → RdL E w l cs → RdL (argE w) w (l.map (dp1 σ)) cs
  | [], cs, _, h => by simp only [RdL, List.map_nil] at h ⊢; exact h
  | x :: l, cs, hk, h => by
    simp only [RdL, List.map_cons] at h ⊢
    obtain ⟨c, ys, h1, h2, h3⟩ := h
    exact ⟨c, ys, h1, dp1_rd R (hk x (by simp)) h2, dp1s_rd R (fun y hy => hk y (by simp [hy])) h3⟩
theorem dp2_rd (R : Rel cx E σ a w) {x : V} {cs : List Value} (h : dp2Ok σ x) (hr : RdV E w x cs) : RdV (argE w) w (dp2 σ x) cs := by
  cases x with
  | own r g =>
    have h' := hr
    simp only [RdV] at h'
    obtain ⟨v, rfl, _⟩ := h'
    obtain ⟨h1, h2⟩ := h
    obtain ⟨k, e', lv, s', l, xs, q1, q2, q3, q4, q5, q6, q7, q8, q9, q10, q11⟩ := rd_ownW R (by simpa only [RdT] using hr) h1
    rw [q4] at h2
    simp only [dp2]
    rw [q3, q4]
    simp only [RdV]
    have hl : (l.map (dp1 σ)).length = l.length := by simp
    refine ⟨pures_iff.2 fun y hy => ?_, fun y hy => ?_, ?_⟩
    · obtain ⟨z, hz, rfl⟩ := List.mem_map.1 hy
      exact dp1_pure (h2 z hz)
    · obtain ⟨z, hz, rfl⟩ := List.mem_map.1 hy
      rw [dp1_size]; exact q6 z hz
    rcases q9.2 with ⟨rfl, hn⟩ | ⟨b, cap, cur, rfl, m1, m2, m3, m4, m5, m6⟩
    · exact ⟨none, 0, by rw [hl, hn], by omega, by omega, fun h0 => by omega⟩
    · refine ⟨_, cap, by rw [hl], by omega, by omega, fun h0 => ⟨b, 0, xs, rfl, heap_lt m2, by simp, dp1s_rd R h2 q10, fun j v hv => ?_⟩⟩
      rw [← m6, List.getElem?_take] at hv
      split at hv
      · simpa [World.cell?, m2] using hv
      · cases hv
  | _ => exact low_rd R.lt h hr
theorem dp2s_rd (R : Rel cx E σ a w) : ∀ {l : List V} {cs : List Value}, (∀ y ∈ l, dp2Ok σ y) → RdL E w l cs → RdL (argE w) w (l.map (dp2 σ)) cs
  | [], cs, _, h => by simp only [RdL, List.map_nil] at h ⊢; exact h
  | x :: l, cs, hk, h => by
    simp only [RdL, List.map_cons] at h ⊢
    obtain ⟨c, ys, h1, h2, h3⟩ := h
    exact ⟨c, ys, h1, dp2_rd R (hk x (by simp)) h2, dp2s_rd R (fun y hy => hk y (by simp [hy])) h3⟩
theorem dp3_rd (R : Rel cx E σ a w) {x : V} {v : Value} (h : dp3Ok σ x) (hr : RdT E w x v) : RdT (argE w) w (dp3 σ x) v := by
  cases x with
  | agg l =>
    simp only [RdT, dp3] at hr ⊢
    obtain ⟨cs, h1, h2⟩ := hr
    simp only [RdV] at h2 ⊢
    exact ⟨cs, h1, dp2s_rd R h h2⟩
  | own r g =>
    have := dp2_rd (x := .own r g) R h (by simpa only [RdT] using hr)
    simp only [dp3, dp2, RdT] at this ⊢
    exact this
  | _ => exact lowT_rdS (E := E) (E0 := argE w) R.lt h hr
theorem dp3s_rd (R : Rel cx E σ a w) : ∀ {l : List V} {vs : List Value}, (∀ y ∈ l, dp3Ok σ y) → RdTs E w l vs → RdTs (argE w) w (l.map (dp3 σ)) vs
  | [], vs, _, h => by simp only [RdTs, List.map_nil] at h ⊢; exact h
  | x :: l, vs, hk, h => by
    simp only [RdTs, List.map_cons] at h ⊢
    obtain ⟨v, ys, h1, h2, h3⟩ := h
    exact ⟨v, ys, h1, dp3_rd R (hk x (by simp)) h2, dp3s_rd R (fun y hy => hk y (by simp [hy])) h3⟩
/-! ### What other objects hold does not matter -/
variable {ids : List Nat}
theorem rowV_at {r g : Nat} (h : σ'.ob[r]? = σ.ob[r]?) : rowV σ' r g = rowV σ r g := by unfold rowV; rw [h]
theorem rowW_at {r g : Nat} (h : σ'.ob[r]? = σ.ob[r]?) : rowW σ' r g = rowW σ r g := by unfold rowW; rw [h]
theorem dp1_at (hq : ∀ q ∈ ids, σ'.ob[q]? = σ.ob[q]?) {x : V} (hi : in1 ids x) : dp1 σ' x = dp1 σ x ∧ (dp1Ok σ x → dp1Ok σ' x) := by
  cases x with
  | own r g => simp only [dp1, dp1Ok, rowV_at (hq r hi)]; exact ⟨trivial, id⟩
  | _ => exact ⟨rfl, id⟩
theorem dp2_at (hq : ∀ q ∈ ids, σ'.ob[q]? = σ.ob[q]?) {x : V} (hi : in2 ids σ x) : dp2 σ' x = dp2 σ x ∧ (dp2Ok σ x → dp2Ok σ' x) := by
  cases x with
  | own r g =>
    obtain ⟨h1, h2⟩ := hi
    simp only [dp2, dp2Ok, rowW_at (hq r h1)]
    exact ⟨by rw [List.map_congr_left fun y hy => (dp1_at hq (h2 y hy)).1], fun h => ⟨h.1, fun y hy => (dp1_at hq (h2 y hy)).2 (h.2 y hy)⟩⟩
  | _ => exact ⟨rfl, id⟩
theorem dp3_at (hq : ∀ q ∈ ids, σ'.ob[q]? = σ.ob[q]?) {x : V} (hi : in3 ids σ x) : dp3 σ' x = dp3 σ x ∧ (dp3Ok σ x → dp3Ok σ' x) := by
  cases x with
  | agg l =>
    simp only [dp3, dp3Ok]
    exact ⟨by rw [List.map_congr_left fun y hy => (dp2_at hq (hi y hy)).1], fun h y hy => (dp2_at hq (hi y hy)).2 (h y hy)⟩
  | own r g => exact dp2_at (x := .own r g) hq hi
  | _ => exact ⟨rfl, id⟩
end
section
variable {P : Program} {cx : Cx} {N : Nat} {Q : Exit → Act → World → Prop} {k : List It} {σ : AS} {l : List RO} {n : Nat} {t : List (Nat × V)} {ob : List Ob} {gd : Option (Nat × Bool)} {f : FuncId} {xs : List X} {ys : List V} {x : V}
/-- A call that reads rows that hold rows; its result is new. -/
theorem evr_callN {d : Option Nat} (hF : Fnc P f ys fun y obs => y = x ∧ obs = []) (hw : wants σ gd = some true) (hok : ∀ y ∈ xs.map (X.ev σ), dp3Ok σ y) (hy : (xs.map (X.ev σ)).map (dp3 σ) = ys) (hp : V.pureT x = true) (hq : x.fresh = true)
    (h : EvR P cx N Q k l (σ.put d x)) : EvR P cx N Q k (⟨d, gd, .call f xs⟩ :: l) σ := by
  subst hy
  refine ⟨fun hn E a w R ops os hcc => ?_⟩
  obtain ⟨o, os', rfl, h1, h2⟩ := compL_cons hcc
  obtain ⟨k1, k2, k3, k4⟩ := compR_some h1
  unfold wpList
  rw [if_pos (wants_ok R k2 hw)]
  refine .inl ?_
  obtain ⟨as, hxs, hrun⟩ := compK_call k1 a
  unfold Oper.wp
  rw [hrun w, Oper.upon_enter]
  have hargs := dp3s_rd R hok (compXs_rd0 R hxs)
  refine (hF w (fun b => b < w.heap.size) _ (fun _ h => h) hargs).mono ?_
  rintro e w' ⟨y, obs, v, ⟨rfl, rfl⟩, rfl, hres⟩
  obtain ⟨E', _, hx', R'⟩ := R.backC (ws := [.junk]) (fun h => by simp [V.pures, V.pure] at h) (.inr ⟨hq, fun o ho => by cases ho⟩) hres
  rw [V.shift_pureT _ _ hp] at hx'
  rw [List.map_nil, List.append_nil] at R'
  show wpList P ops (onX P cx N Q k) os' (a.put o.dst v) w'
  rw [show o.dst = d from k3]
  exact h.h (by rw [AS.put_n]; exact hn) E' _ w' (R'.put (fun i hi => by show i < σ.n; rw [show σ.n = N from hn]; exact k4 i hi) hx') ops os' h2
theorem callN {i : Nat} (hF : Fnc P f ys fun y obs => y = x ∧ obs = []) (h : wants ⟨n, t, ob⟩ gd = some true ∧ (∀ y ∈ xs.map (X.ev ⟨n, t, ob⟩), dp3Ok ⟨n, t, ob⟩ y) ∧ (xs.map (X.ev ⟨n, t, ob⟩)).map (dp3 ⟨n, t, ob⟩) = ys ∧ V.pureT x = true ∧ x.fresh = true ∧ evalR (EvR P cx N Q k) [(), (), (), (), (), (), (), ()] l ⟨n, (i, x) :: t, ob⟩) : EvR P cx N Q k (⟨some i, gd, .call f xs⟩ :: l) ⟨n, t, ob⟩ := by
  obtain ⟨h1, h2, h3, h4, h5, h6⟩ := h
  exact evr_callN hF h1 h2 h3 h4 h5 (ev_all h6)
variable {t0 : List (Nat × V)} {ob0 : List Ob} {B : List (List Nat)} {nx : Nat} {lg : List Lg} {j : Nat}
theorem callNw {d : Option Nat} (ids : List Nat) (hF : Fnc P f ys fun y obs => y = x ∧ obs = []) (h : wants σ gd = some true ∧ (∀ y ∈ xs.map (X.ev σ), dp3Ok σ y) ∧ (∀ y ∈ xs.map (X.ev σ), in3 ids σ y) ∧ (xs.map (X.ev σ)).map (dp3 σ) = ys ∧ V.pureT x = true ∧ x.fresh = true ∧ evalW (EvW P cx N Q k t0 ob0 B) [] [(), (), (), (), (), (), (), ()] l (j + 1) (σ.put d x) (lgC j ids none lg) nx) : EvW P cx N Q k t0 ob0 B (⟨d, gd, .call f xs⟩ :: l) j σ lg nx := by
  obtain ⟨h1, h2, h3, h4, h5, h6, h7⟩ := h
  subst h4
  refine evw_callN ids _ x hF h1 (fun σ' hq cx E a w vs R hr => ?_) h5 h6 (evw_all h7)
  have e : (xs.map (X.ev σ)).map (dp3 σ) = (xs.map (X.ev σ)).map (dp3 σ') := List.map_congr_left fun y hy => (dp3_at hq (h3 y hy)).1.symm
  rw [e]
  exact dp3s_rd R (fun y hy => (dp3_at hq (h3 y hy)).2 (h2 y hy)) hr
end
theorem dp1_pureV {σ : AS} {x : V} (h : x.pure = true) : dp1 σ x = x.low := by cases x <;> first | rfl | cases h
theorem dp1_map {α : Type} (σ : AS) (f : α → V) {g : α → V} [h : Lo f g] (l : List α) : (l.map f).map (dp1 σ) = l.map g := by
  rw [List.map_map]
  exact List.map_congr_left fun a _ => (dp1_pureV (h.pure a)).trans (h.low a)
theorem dp1Ok_pure {σ : AS} {x : V} (h : x.pure = true) : dp1Ok σ x := by cases x <;> first | exact h | cases h
theorem dp1Ok_map {α : Type} (σ : AS) (f : α → V) {g : α → V} [h : Lo f g] (l : List α) : ∀ y ∈ l.map f, dp1Ok σ y := fun y hy => by
  obtain ⟨a, _, rfl⟩ := List.mem_map.1 hy
  exact dp1Ok_pure (h.pure a)
/-- A row of rows one of which is another row of one's own. -/
theorem dp1_set {α : Type} {σ : AS} {f : α → V} [h : Lo f f] {l : List (List α)} {r q gq s e : Nat} {m : List α} (hq : σ.ob[q]? = some ⟨.row e, true, gq, .arr s (m.map f)⟩) : ((l.map (slV' true s f)).set r (.own q gq)).map (dp1 σ) = (l.set r m).map (slV' false s f) := by
  rw [List.map_set, dp1_map, List.map_set]
  congr 1
  simp only [dp1, rowV, hq, slV', lows_lo]
theorem dp1Ok_set {α : Type} {σ : AS} {f : α → V} [h : Lo f f] {l : List (List α)} {r q gq s e : Nat} {m : List α} (hq : σ.ob[q]? = some ⟨.row e, true, gq, .arr s (m.map f)⟩) : ∀ y ∈ (l.map (slV' true s f)).set r (.own q gq), dp1Ok σ y := fun y hy => by
  rcases List.mem_or_eq_of_mem_set hy with hy | rfl
  · exact dp1Ok_map σ (slV' true s f) l y hy
  · simp only [dp1Ok, rowV, hq]
end Rdn.Dp
