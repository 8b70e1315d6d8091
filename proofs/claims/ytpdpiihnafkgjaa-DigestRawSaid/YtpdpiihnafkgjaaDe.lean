/- What a function returns: out of its own frame. Over any program. -/
import Derived.Test.YtpdpiihnafkgjaaDc
namespace Rdn.Dp
open Go Go.RowKit Rdn
set_option linter.unusedVariables false
section
variable {E E' : Env} {w : World}
mutual
theorem fresh_rd (hB : ∀ b, E.B b → E.F b → E'.B b) (hF : ∀ b, E.F b → E'.F b) : ∀ {x : V} {cs : List Value}, x.pure = true → x.fresh = true → RdV E w x cs → RdV E' w x cs
  | .int k n, cs, _, _, h => by simp only [RdV] at h ⊢; exact h
  | .bool b, cs, _, _, h => by simp only [RdV] at h ⊢; exact h
  | .str b, cs, _, _, h => by simp only [RdV] at h ⊢; exact h
  | .nilS, cs, _, _, h => by simp only [RdV] at h ⊢; exact h
  | .agg l, cs, hp, hf, h => by simp only [V.pure] at hp; simp only [V.fresh] at hf; simp only [RdV] at h ⊢; exact freshs_rd hB hF hp hf h
  | .arr s l, cs, hp, hf, h => by simp only [V.pure] at hp; simp only [V.fresh] at hf; simp only [RdV] at h ⊢; exact ⟨freshs_rd hB hF hp hf h.1, h.2⟩
  | .sl t s l, cs, hp, hf, h => by
    simp only [V.fresh, Bool.and_eq_true] at hf
    simp only [RdV] at h ⊢
    obtain ⟨h1, h2, A, c, h3, h4, h5, h6⟩ := h
    refine ⟨h1, h2, A, c, h3, h4, h5, fun h0 => ?_⟩
    obtain ⟨b, o, xs, hA, hb, hff, hr, ha⟩ := h6 h0
    exact ⟨b, o, xs, hA, hB b hb (hff hf.1), fun _ => hF b (hff hf.1), freshs_rd hB hF h1 hf.2 hr, ha⟩
  | .own r g, cs, hp, _, h => by simp [V.pure] at hp
  | .ptr r g p o, cs, hp, _, h => by simp [V.pure] at hp
  | .rp x, cs, hp, _, h => by simp [V.pure] at hp
  | .fn f, cs, hp, _, h => by simp [V.pure] at hp
  | .tup l, cs, hp, _, h => by simp [V.pure] at hp
  | .junk, cs, hp, _, h => by simp [V.pure] at hp
theorem freshs_rd (hB : ∀ b, E.B b → E.F b → E'.B b) (hF : ∀ b, E.F b → E'.F b) : ∀ {l : List V} {cs : List Value}, V.pures l = true → V.freshs l = true → RdL E w l cs → RdL E' w l cs
  | [], xs, _, _, h => by simp only [RdL] at h ⊢; exact h
  | a :: l, xs, hp, hf, h => by
    simp only [V.pures, Bool.and_eq_true] at hp
    simp only [V.freshs, Bool.and_eq_true] at hf
    simp only [RdL] at h ⊢
    obtain ⟨c, ys, h1, h2, h3⟩ := h
    exact ⟨c, ys, h1, fresh_rd hB hF hp.1 hf.1 h2, freshs_rd hB hF hp.2 hf.2 h3⟩
end
end
section
variable {cx : Cx} {E : Env} {σ : AS} {a : Act} {w : World}
def outE (W w : World) (E : Env) (ids : List Nat) : Env :=
  ⟨fun b => W.heap.size ≤ b ∧ b < w.heap.size ∧ ∀ r ∈ ids, ∀ g u, E.ref[r]? = some (g, u) → blk u ≠ some b, fun b => W.heap.size ≤ b, ids.map fun r => (0, ((E.ref[r]?).map (·.2)).getD undef)⟩
/-- The objects that go out: rows that may be written. -/
def outOk (σ : AS) (ids : List Nat) : Prop := ids.Nodup ∧ ∀ r ∈ ids, ∃ e g s l, σ.ob[r]? = some ⟨.row e, true, g, .arr s l⟩ ∧ V.freshs l = true
theorem outB (R : Rel cx E σ a w) {ids : List Nat} (ho : outOk σ ids) : ∀ b, E.B b → E.F b → (outE cx.W w E ids).B b := by
  intro b hb hf
  refine ⟨(R.fr b).1 hf, R.lt b hb, fun r hr g u hu hbu => ?_⟩
  obtain ⟨e, g', s, l, h1, _⟩ := ho.2 r hr
  obtain ⟨u', k1, k2⟩ := R.ob r _ h1
  rw [hu] at k1
  injection k1 with k1
  injection k1 with _ k1
  subst k1
  exact k2.live_B rfl hbu hb
theorem own_out (R : Rel cx E σ a w) {ids : List Nat} (ho : outOk σ ids) {r g : Nat} {v : Value} (h : RdT E w (.own r g) v) (hg : (rowV σ r g).2.2) (hf : (V.res σ ids (.own r g)).fresh = true) : RdV (outE cx.W w E ids) w (V.res σ ids (.own r g)) [v] := by
  obtain ⟨e', lv, s', l, xs, q1, q2, q3, q4, q5, q6, q7, q8, q9, q10, q11⟩ := rd_own R h hg
  have hv1 : v.oneCell' = true := by simp only [RdT, RdV] at h; obtain ⟨v', e, h, _⟩ := h; simp at e; subst e; exact h
  simp only [V.res] at hf ⊢
  cases hi : ids.idxOf? r with
  | some i =>
    simp only [RdV]
    have hir := List.idxOf?_eq_some_iff.1 hi
    refine ⟨v, rfl, hv1, ?_, fun gc u hu => ?_⟩
    · obtain ⟨h1, h2⟩ := hir
      simp [outE]
      exact h1
    · obtain ⟨h1, h2, _⟩ := hir
      have : (outE cx.W w E ids).ref[i]? = some (0, v) := by simp [outE, h1, h2, q4]
      rw [this] at hu
      injection hu with hu
      injection hu with hu1 hu2
      subst hu1
      exact ⟨Nat.le_refl _, fun _ => hu2⟩
  | none =>
    simp only [hi, q2, q3, V.fresh, Bool.and_eq_true] at hf
    simp only [q2, q3, RdV]
    refine ⟨q5, q6, ?_⟩
    rcases q9.2 with ⟨rfl, hn⟩ | ⟨b, cap, cur, rfl, m1, m2, m3, m4, m5, m6⟩
    · exact ⟨none, 0, by rw [hn], by omega, by omega, fun h0 => by omega⟩
    · refine ⟨_, cap, rfl, m3, q8, fun h0 => ⟨b, 0, xs, rfl, ⟨m1, heap_lt m2, fun r' hr' g' u' hu' hbu' => ?_⟩, fun _ => m1, freshs_rd (outB R ho) (fun b hb => (R.fr b).1 hb) q5 hf.2 q10, fun j v hv => ?_⟩⟩
      · obtain ⟨e2, g2, s2, l2, k1, _⟩ := ho.2 r' hr'
        have hne : r ≠ r' := by
          rintro rfl
          exact List.idxOf?_eq_none_iff.1 hi hr'
        obtain ⟨u2, k2, k3⟩ := R.ob r' _ k1
        rw [hu'] at k2
        injection k2 with k2
        injection k2 with _ k2
        subst k2
        cases lv with
        | true => exact R.sep r r' _ _ g g' _ u' b hne q1 k1 rfl rfl q4 hu' rfl hbu'
        | false =>
          have := q11 b rfl
          simp only [Bool.false_eq_true, if_false] at this
          exact k3.live_B rfl hbu' this
      · rw [← m6, List.getElem?_take] at hv
        split at hv
        · simpa [World.cell?, m2] using hv
        · cases hv
mutual
theorem out_rd (R : Rel cx E σ a w) {ids : List Nat} (ho : outOk σ ids) : ∀ {x : V} {cs : List Value}, V.resOk σ x → (x.res σ ids).fresh = true → RdV E w x cs → RdV (outE cx.W w E ids) w (x.res σ ids) cs
  | .int k n, cs, _, _, h => by simp only [RdV, V.res] at h ⊢; exact h
  | .bool b, cs, _, _, h => by simp only [RdV, V.res] at h ⊢; exact h
  | .str b, cs, _, _, h => by simp only [RdV, V.res] at h ⊢; exact h
  | .nilS, cs, _, _, h => by simp only [RdV, V.res] at h ⊢; exact h
  | .agg l, cs, hp, hf, h => by simp only [V.resOk] at hp; simp only [V.res, V.fresh] at hf; simp only [RdV, V.res] at h ⊢; exact outs_rd R ho hp hf h
  | .arr s l, cs, hp, hf, h => by simp only [V.res] at hf ⊢; exact fresh_rd (outB R ho) (fun b hb => (R.fr b).1 hb) (by simpa [V.resOk, V.pure] using hp) hf h
  | .sl t s l, cs, hp, hf, h => by simp only [V.res] at hf ⊢; exact fresh_rd (outB R ho) (fun b hb => (R.fr b).1 hb) rfl hf h
  | .own r g, cs, hp, hf, h => by
    have h' := h
    simp only [RdV] at h'
    obtain ⟨v, rfl, _⟩ := h'
    simp only [V.resOk] at hp
    exact own_out R ho (by simpa only [RdT] using h) hp hf
  | .ptr r g p o, cs, hp, _, h => by simp [V.resOk] at hp
  | .rp x, cs, hp, _, h => by simp [V.resOk] at hp
  | .fn f, cs, hp, _, h => by simp only [RdV, V.res] at h ⊢; exact h
  | .tup l, cs, hp, _, h => by simp only [RdV] at h
  | .junk, cs, hp, _, h => by simp only [RdV] at h
theorem outs_rd (R : Rel cx E σ a w) {ids : List Nat} (ho : outOk σ ids) : ∀ {l : List V} {cs : List Value}, V.ressOk σ l → V.freshs (V.ress σ ids l) = true → RdL E w l cs → RdL (outE cx.W w E ids) w (V.ress σ ids l) cs
  | [], xs, _, _, h => by simp only [RdL, V.ress] at h ⊢; exact h
  | a :: l, xs, hp, hf, h => by
    simp only [V.ressOk] at hp
    simp only [V.ress, V.freshs, Bool.and_eq_true] at hf
    simp only [RdL, V.ress] at h ⊢
    obtain ⟨c, ys, h1, h2, h3⟩ := h
    exact ⟨c, ys, h1, out_rd R ho hp.1 hf.1 h2, outs_rd R ho hp.2 hf.2 h3⟩
end
mutual
theorem outT_rd (R : Rel cx E σ a w) {ids : List Nat} (ho : outOk σ ids) : ∀ {x : V} {v : Value}, V.resOk σ x → (x.res σ ids).fresh = true → RdT E w x v → RdT (outE cx.W w E ids) w (x.res σ ids) v
  | .int k n, v, hp, hf, h => by have := out_rd R ho hp hf (by simpa only [RdT] using h); simpa only [RdT, V.res] using this
  | .bool b, v, hp, hf, h => by have := out_rd R ho hp hf (by simpa only [RdT] using h); simpa only [RdT, V.res] using this
  | .str b, v, hp, hf, h => by have := out_rd R ho hp hf (by simpa only [RdT] using h); simpa only [RdT, V.res] using this
  | .nilS, v, hp, hf, h => by have := out_rd R ho hp hf (by simpa only [RdT] using h); simpa only [RdT, V.res] using this
  | .agg l, v, hp, hf, h => by
    simp only [RdT] at h
    obtain ⟨cs, rfl, h⟩ := h
    have := out_rd R ho hp hf h
    simp only [V.res] at this ⊢
    simp only [RdT]
    exact ⟨cs, rfl, this⟩
  | .arr s l, v, hp, hf, h => by
    simp only [RdT] at h
    obtain ⟨cs, rfl, h⟩ := h
    have := out_rd R ho hp hf h
    simp only [V.res] at this ⊢
    simp only [RdT]
    exact ⟨cs, rfl, this⟩
  | .sl t s l, v, hp, hf, h => by have := out_rd R ho hp hf (by simpa only [RdT] using h); simpa only [RdT, V.res] using this
  | .own r g, v, hp, hf, h => by
    have := out_rd R ho hp hf (by simpa only [RdT] using h)
    simp only [V.res] at this ⊢
    cases hi : ids.idxOf? r with
    | some i => rw [hi] at this; simpa only [RdT] using this
    | none => rw [hi] at this; simpa only [RdT] using this
  | .ptr r g p o, v, hp, _, h => by simp [V.resOk] at hp
  | .rp x, v, hp, _, h => by simp [V.resOk] at hp
  | .fn f, v, hp, hf, h => by have := out_rd R ho hp hf (by simpa only [RdT] using h); simpa only [RdT, V.res] using this
  | .tup l, v, hp, hf, h => by
    simp only [V.resOk] at hp
    simp only [V.res, V.fresh] at hf
    simp only [RdT, V.res] at h ⊢
    obtain ⟨vs, h1, h2⟩ := h
    exact ⟨vs, h1, outsT_rd R ho hp hf h2⟩
  | .junk, v, hp, _, h => by simp [V.resOk] at hp
theorem outsT_rd (R : Rel cx E σ a w) {ids : List Nat} (ho : outOk σ ids) : ∀ {l : List V} {vs : List Value}, V.ressOk σ l → V.freshs (V.ress σ ids l) = true → RdTs E w l vs → RdTs (outE cx.W w E ids) w (V.ress σ ids l) vs
  | [], xs, _, _, h => by simp only [RdTs, V.ress] at h ⊢; exact h
  | a :: l, xs, hp, hf, h => by
    simp only [V.ressOk] at hp
    simp only [V.ress, V.freshs, Bool.and_eq_true] at hf
    simp only [RdTs, V.ress] at h ⊢
    obtain ⟨c, ys, h1, h2, h3⟩ := h
    exact ⟨c, ys, h1, outT_rd R ho hp.1 hf.1 h2, outsT_rd R ho hp.2 hf.2 h3⟩
end
def outObs (σ : AS) (ids : List Nat) : List Ob := ids.map fun r => match σ.ob[r]? with | some o => { o with g := 0 } | none => ⟨.row 0, true, 0, .junk⟩
/-- A call goes home. -/
theorem Rel.out {W : World} (R : Rel ⟨W, fun _ => False⟩ E σ a w) {ids : List Nat} (ho : outOk σ ids) {x : V} {v : Value} (hx : RdT E w x v) (hp : V.resOk σ x) (hf : (x.res σ ids).fresh = true) : ResOk W w (x.res σ ids) (outObs σ ids) v := by
  have hob : ∀ (r : Nat) (o : Ob), (outObs σ ids)[r]? = some o → ∃ q, ids[r]? = some q ∧ ∃ e g s l u, σ.ob[q]? = some ⟨.row e, true, g, .arr s l⟩ ∧ o = ⟨.row e, true, 0, .arr s l⟩ ∧ V.freshs l = true ∧ E.ref[q]? = some (g, u) ∧ (outE W w E ids).ref[r]? = some (0, u) ∧ OkO ⟨W, fun _ => False⟩ E w ⟨.row e, true, g, .arr s l⟩ u := by
    intro r o hr
    simp only [outObs, List.getElem?_map, Option.map_eq_some_iff] at hr
    obtain ⟨q, hq, hr⟩ := hr
    obtain ⟨e, g, s, l, h1, h2⟩ := ho.2 q (List.mem_of_getElem? hq)
    rw [h1] at hr
    obtain ⟨u, k1, k2⟩ := R.ob q _ h1
    exact ⟨q, hq, e, g, s, l, u, h1, hr.symm, h2, k1, by simp [outE, hq, k1], k2⟩
  refine ⟨outE W w E ids, fun b hb => hb.1, fun o hor => ?_, rfl, rfl, fun i => ?_, by simp [outE, outObs], fun r o hr => ?_, fun r r' o o' g g' u u' b h1 h2 h3 h4 h5 h6 h7 h8 h9 => ?_, fun b hb => hb.2.1, fun b => Iff.rfl, R.keep⟩
  · obtain ⟨r, hr⟩ := List.getElem?_of_mem hor
    obtain ⟨q, _, e, g, s, l, u, _, rfl, _⟩ := hob r o hr
    exact ⟨rfl, rfl⟩
  · cases i with
    | zero =>
      simp only [slotV, if_true]
      have := outT_rd R ho hp hf hx
      simpa using this
    | succ i =>
      have : slotV [(0, x.res σ ids)] (i + 1) = .junk := by simp [slotV]
      rw [this]
      simp only [RdT]
  · obtain ⟨q, hq, e, g, s, l, u, k1, rfl, k3, k4, k5, k6⟩ := hob r o hr
    refine ⟨u, k5, ?_⟩
    unfold OkO at k6 ⊢
    simp only at k6 ⊢
    obtain ⟨s', l', xs, m1, m2, m3, m4, m5, m6, m7, m8⟩ := k6
    injection m1 with m1 m1'
    subst m1 m1'
    refine ⟨_, _, xs, rfl, m2, m3, m4, m5, m6, freshs_rd (outB R ho) (fun b hb => (R.fr b).1 hb) m2 k3 m7, fun b hb => ?_⟩
    simp only [if_true]
    intro hB
    exact hB.2.2 q (List.mem_of_getElem? hq) g u k4 hb
  · obtain ⟨q, hq, e, g1, s, l, u1, k1, rfl, k3, k4, k5, k6⟩ := hob r o h2
    obtain ⟨q', hq', e', g2, s', l', u2, m1, rfl, m3, m4, m5, m6⟩ := hob r' o' h3
    rw [k5] at h6
    rw [m5] at h7
    injection h6 with h6
    injection h6 with _ h6
    injection h7 with h7
    injection h7 with _ h7
    subst h6 h7
    refine R.sep q q' _ _ g1 g2 u1 u2 b (fun e => ?_) k1 m1 rfl rfl k4 m4 h8 h9
    subst e
    exact h1 ((List.getElem?_inj (List.getElem?_eq_some_iff.1 hq).1 ho.1).1 (hq.trans hq'.symm))
end
end Rdn.Dp
