/- What a function returns: out of its own frame. Over any program. -/
import Derived.Test.YtkfpcgkmemfdaaaDc
namespace Rdn.Dp
open Go Go.RowKit Rdn
set_option linter.unusedVariables false
section
variable {cx : Cx} {E : Env} {σ : AS} {a : Act} {w : World}
/-- How what goes out is read: through the caller's blocks S and what is new, but for the rows that go out. -/
def outE (W w : World) (E : Env) (ids : List Nat) : Env :=
  ⟨fun b => E.B b ∨ (W.heap.size ≤ b ∧ b < w.heap.size ∧ ∀ r ∈ ids, ∀ g u, E.ref[r]? = some (g, u) → blk u ≠ some b), fun b => W.heap.size ≤ b, ids.map fun r => (0, ((E.ref[r]?).map (·.2)).getD undef)⟩
/-- The objects that go out: rows that may be written. -/
def outOk (σ : AS) (ids : List Nat) : Prop := ids.Nodup ∧ ∀ r ∈ ids, ∃ e g s l, σ.ob[r]? = some ⟨.row e, true, g, .arr s l⟩
theorem outF (R : Rel cx E σ a w) {ids : List Nat} : ∀ b, E.F b → (outE cx.W w E ids).F b := fun b hb => (R.fr b).1 hb
theorem own_out (R : Rel cx E σ a w) {ids : List Nat} (ho : outOk σ ids) {r g : Nat} {v : Value} (h : RdT E w (.own r g) v) (hg : (rowV σ r g).2.2) : RdV (outE cx.W w E ids) w (V.res σ ids (.own r g)) [v] := by
  obtain ⟨e', lv, s', l, xs, q1, q2, q3, q4, q5, q6, q7, q8, q9, q10, q11⟩ := rd_own R h hg
  have hv1 : v.oneCell' = true := by simp only [RdT, RdV] at h; obtain ⟨v', e, h, _⟩ := h; simp at e; subst e; exact h
  simp only [V.res]
  cases hi : ids.idxOf? r with
  | some i =>
    simp only [RdV]
    have hir := List.idxOf?_eq_some_iff.1 hi
    refine ⟨v, rfl, hv1, ?_, fun gc u hu => ?_⟩
    · obtain ⟨h1, h2⟩ := hir
      simp [outE]
      exact h1
    · obtain ⟨h1, h2, _⟩ := hir
      have : (outE cx.W w E ids).ref[i]? = some (0, v) := by simp [outE, h1, h2, q4]
      rw [this] at hu
      injection hu with hu
      injection hu with hu1 hu2
      subst hu1
      exact ⟨Nat.le_refl _, fun _ => hu2⟩
  | none =>
    simp only [q2, q3, RdV]
    refine ⟨q5, q6, ?_⟩
    rcases q9.2 with ⟨rfl, hn⟩ | ⟨b, cap, cur, rfl, m1, m2, m3, m4, m5, m6⟩
    · exact ⟨none, 0, by rw [hn], by omega, by omega, fun h0 => by omega⟩
    · refine ⟨_, cap, rfl, m3, q8, fun h0 => ⟨b, 0, xs, rfl, .inr ⟨m1, heap_lt m2, fun r' hr' g' u' hu' hbu' => ?_⟩, fun _ => m1, pures_rd (E0 := outE cx.W w E ids) (fun b hb => .inl hb) (outF R) q5 q10, fun j v hv => ?_⟩⟩
      · obtain ⟨e2, g2, s2, l2, k1⟩ := ho.2 r' hr'
        have hne : r ≠ r' := by
          rintro rfl
          exact List.idxOf?_eq_none_iff.1 hi hr'
        obtain ⟨u2, k2, k3⟩ := R.ob r' _ k1
        rw [hu'] at k2
        injection k2 with k2
        injection k2 with _ k2
        subst k2
        cases lv with
        | true => exact R.sep r r' _ _ g g' _ u' b hne q1 k1 rfl rfl q4 hu' rfl hbu'
        | false =>
          have := q11 b rfl
          simp only [Bool.false_eq_true, if_false] at this
          exact k3.live_B rfl hbu' this
      · rw [← m6, List.getElem?_take] at hv
        split at hv
        · simpa [World.cell?, m2] using hv
        · cases hv
mutual
theorem out_rd (R : Rel cx E σ a w) {ids : List Nat} (ho : outOk σ ids) : ∀ {x : V} {cs : List Value}, V.resOk σ x → RdV E w x cs → RdV (outE cx.W w E ids) w (x.res σ ids) cs
  | .int k n, cs, _, h => by simp only [RdV, V.res] at h ⊢; exact h
  | .bool b, cs, _, h => by simp only [RdV, V.res] at h ⊢; exact h
  | .str b, cs, _, h => by simp only [RdV, V.res] at h ⊢; exact h
  | .nilS, cs, _, h => by simp only [RdV, V.res] at h ⊢; exact h
  | .agg l, cs, hp, h => by simp only [V.resOk] at hp; simp only [RdV, V.res] at h ⊢; exact outs_rd R ho hp h
  | .arr s l, cs, hp, h => by simp only [V.res]; exact pure_rd (E0 := outE cx.W w E ids) (fun b hb => .inl hb) (outF R) (by simpa [V.resOk, V.pure] using hp) h
  | .sl t s l, cs, hp, h => by simp only [V.res]; exact pure_rd (E0 := outE cx.W w E ids) (fun b hb => .inl hb) (outF R) rfl h
  | .own r g, cs, hp, h => by
    have h' := h
    simp only [RdV] at h'
    obtain ⟨v, rfl, _⟩ := h'
    simp only [V.resOk] at hp
    exact own_out R ho (by simpa only [RdT] using h) hp
  | .ptr r g p o, cs, hp, h => by simp [V.resOk] at hp
  | .rp x, cs, hp, h => by
    simp only [RdV, V.res] at h ⊢
    obtain ⟨h1, b, o, xs, h2, h3, h4, h5⟩ := h
    exact ⟨h1, b, o, xs, h2, .inl h3, pure_rd (E0 := outE cx.W w E ids) (fun b hb => .inl hb) (outF R) h1 h4, h5⟩
  | .fn f, cs, hp, h => by simp only [RdV, V.res] at h ⊢; exact h
  | .tup l, cs, hp, h => by simp only [RdV] at h
  | .clo f l, cs, hp, h => by simp only [RdV] at h
  | .junk, cs, hp, h => by simp only [RdV] at h
theorem outs_rd (R : Rel cx E σ a w) {ids : List Nat} (ho : outOk σ ids) : ∀ {l : List V} {cs : List Value}, V.ressOk σ l → RdL E w l cs → RdL (outE cx.W w E ids) w (V.ress σ ids l) cs
  | [], xs, _, h => by simp only [RdL, V.ress] at h ⊢; exact h
  | a :: l, xs, hp, h => by
    simp only [V.ressOk] at hp
    simp only [RdL, V.ress] at h ⊢
    obtain ⟨c, ys, h1, h2, h3⟩ := h
    exact ⟨c, ys, h1, out_rd R ho hp.1 h2, outs_rd R ho hp.2 h3⟩
end
mutual
theorem outT_rd (R : Rel cx E σ a w) {ids : List Nat} (ho : outOk σ ids) : ∀ {x : V} {v : Value}, V.resOk σ x → RdT E w x v → RdT (outE cx.W w E ids) w (x.res σ ids) v
  | .int k n, v, hp, h => by have := out_rd R ho hp (by simpa only [RdT] using h); simpa only [RdT, V.res] using this
  | .bool b, v, hp, h => by have := out_rd R ho hp (by simpa only [RdT] using h); simpa only [RdT, V.res] using this
  | .str b, v, hp, h => by have := out_rd R ho hp (by simpa only [RdT] using h); simpa only [RdT, V.res] using this
  | .nilS, v, hp, h => by have := out_rd R ho hp (by simpa only [RdT] using h); simpa only [RdT, V.res] using this
  | .agg l, v, hp, h => by
    simp only [RdT] at h
    obtain ⟨cs, rfl, h⟩ := h
    have := out_rd R ho hp h
    simp only [V.res] at this ⊢
    simp only [RdT]
    exact ⟨cs, rfl, this⟩
  | .arr s l, v, hp, h => by
    simp only [RdT] at h
    obtain ⟨cs, rfl, h⟩ := h
    have := out_rd R ho hp h
    simp only [V.res] at this ⊢
    simp only [RdT]
    exact ⟨cs, rfl, this⟩
  | .sl t s l, v, hp, h => by have := out_rd R ho hp (by simpa only [RdT] using h); simpa only [RdT, V.res] using this
  | .own r g, v, hp, h => by
    have := out_rd R ho hp (by simpa only [RdT] using h)
    simp only [V.res] at this ⊢
    cases hi : ids.idxOf? r with
    | some i => rw [hi] at this; simpa only [RdT] using this
    | none => rw [hi] at this; simpa only [RdT] using this
  | .ptr r g p o, v, hp, h => by simp [V.resOk] at hp
  | .rp x, v, hp, h => by have := out_rd R ho hp (by simpa only [RdT] using h); simpa only [RdT, V.res] using this
  | .fn f, v, hp, h => by have := out_rd R ho hp (by simpa only [RdT] using h); simpa only [RdT, V.res] using this
  | .tup l, v, hp, h => by
    simp only [V.resOk] at hp
    simp only [RdT, V.res] at h ⊢
    obtain ⟨vs, h1, h2⟩ := h
    exact ⟨vs, h1, outsT_rd R ho hp h2⟩
  | .clo f l, v, hp, h => by
    simp only [V.resOk] at hp
    simp only [RdT, V.res] at h ⊢
    obtain ⟨vs, h1, h2⟩ := h
    exact ⟨vs, h1, outsT_rd R ho hp.1 h2⟩
  | .junk, v, hp, h => by simp [V.resOk] at hp
theorem outsT_rd (R : Rel cx E σ a w) {ids : List Nat} (ho : outOk σ ids) : ∀ {l : List V} {vs : List Value}, V.ressOk σ l → RdTs E w l vs → RdTs (outE cx.W w E ids) w (V.ress σ ids l) vs
  | [], xs, _, h => by simp only [RdTs, V.ress] at h ⊢; exact h
  | a :: l, xs, hp, h => by
    simp only [V.ressOk] at hp
    simp only [RdTs, V.ress] at h ⊢
    obtain ⟨c, ys, h1, h2, h3⟩ := h
    exact ⟨c, ys, h1, outT_rd R ho hp.1 h2, outsT_rd R ho hp.2 h3⟩
end
def outObs (σ : AS) (ids : List Nat) : List Ob := ids.map fun r => match σ.ob[r]? with | some o => { o with g := 0 } | none => ⟨.row 0, true, 0, .junk⟩
/-- The rows that go out, as a state of their own. -/
theorem Rel.outG (R : Rel cx E σ a w) {ids : List Nat} (ho : outOk σ ids) {x : V} {v : Value} (hx : RdT E w x v) (hp : V.resOk σ x) {lent : Nat → Prop} (hk : Keep lent cx.W w) : (∀ o ∈ outObs σ ids, o.live = true ∧ o.g = 0 ∧ ∃ e, o.k = .row e) ∧ Rel ⟨cx.W, lent, cx.S⟩ (outE cx.W w E ids) ⟨1, [(0, x.res σ ids)], outObs σ ids⟩ ⟨#[v], []⟩ w := by
  have hob : ∀ (r : Nat) (o : Ob), (outObs σ ids)[r]? = some o → ∃ q, ids[r]? = some q ∧ ∃ e g s l u, σ.ob[q]? = some ⟨.row e, true, g, .arr s l⟩ ∧ o = ⟨.row e, true, 0, .arr s l⟩ ∧ E.ref[q]? = some (g, u) ∧ (outE cx.W w E ids).ref[r]? = some (0, u) ∧ OkO cx E w ⟨.row e, true, g, .arr s l⟩ u := by
    intro r o hr
    simp only [outObs, List.getElem?_map, Option.map_eq_some_iff] at hr
    obtain ⟨q, hq, hr⟩ := hr
    obtain ⟨e, g, s, l, h1⟩ := ho.2 q (List.mem_of_getElem? hq)
    rw [h1] at hr
    obtain ⟨u, k1, k2⟩ := R.ob q _ h1
    exact ⟨q, hq, e, g, s, l, u, h1, hr.symm, k1, by simp [outE, hq, k1], k2⟩
  refine ⟨fun o hor => ?_, rfl, rfl, fun i => ?_, by simp [outE, outObs], fun r o hr => ?_, fun r r' o o' g g' u u' b h1 h2 h3 h4 h5 h6 h7 h8 h9 => ?_, fun b hb => ?_, fun b => Iff.rfl, fun b hb hlt => ?_, hk⟩
  · obtain ⟨r, hr⟩ := List.getElem?_of_mem hor
    obtain ⟨q, _, e, g, s, l, u, _, rfl, _⟩ := hob r o hr
    exact ⟨rfl, rfl, e, rfl⟩
  · cases i with
    | zero =>
      simp only [slotV, if_true]
      have := outT_rd R ho hp hx
      simpa using this
    | succ i =>
      have : slotV [(0, x.res σ ids)] (i + 1) = .junk := by simp [slotV]
      rw [this]
      simp only [RdT]
  · obtain ⟨q, hq, e, g, s, l, u, k1, rfl, k4, k5, k6⟩ := hob r o hr
    refine ⟨u, k5, ?_⟩
    have hlv := fun b hb => k6.live_B (b := b) rfl hb
    unfold OkO at k6 ⊢
    simp only at k6 ⊢
    obtain ⟨s', l', xs, m1, m2, m3, m4, m5, m6, m7, m8⟩ := k6
    injection m1 with m1 m1'
    subst m1 m1'
    refine ⟨_, _, xs, rfl, m2, m3, m4, m5, m6, pures_rd (E0 := outE cx.W w E ids) (fun b hb => .inl hb) (outF R) m2 m7, fun b hb => ?_⟩
    simp only [if_true]
    intro hB
    rcases hB with hB | hB
    · exact hlv b hb hB
    · exact hB.2.2 q (List.mem_of_getElem? hq) g u k4 hb
  · obtain ⟨q, hq, e, g1, s, l, u1, k1, rfl, k4, k5, k6⟩ := hob r o h2
    obtain ⟨q', hq', e', g2, s', l', u2, m1, rfl, m4, m5, m6⟩ := hob r' o' h3
    have h6 : (outE cx.W w E ids).ref[r]? = some (g, u) := h6
    have h7 : (outE cx.W w E ids).ref[r']? = some (g', u') := h7
    rw [k5] at h6
    rw [m5] at h7
    injection h6 with h6
    injection h6 with _ h6
    injection h7 with h7
    injection h7 with _ h7
    subst h6 h7
    refine R.sep q q' _ _ g1 g2 u1 u2 b (fun e => ?_) k1 m1 rfl rfl k4 m4 h8 h9
    subst e
    exact h1 ((List.getElem?_inj (List.getElem?_eq_some_iff.1 hq).1 ho.1).1 (hq.trans hq'.symm))
  · rcases hb with hb | hb
    · exact R.lt b hb
    · exact hb.2.1
  · rcases hb with hb | hb
    · exact R.old b hb hlt
    · have := hb.1
      have hlt : b < cx.W.heap.size := hlt
      omega
theorem outE_B (R : Rel cx E σ a w) {ids : List Nat} : ∀ b, (outE cx.W w E ids).B b → cx.S b ∨ cx.W.heap.size ≤ b := by
  intro b hb
  rcases hb with hb | hb
  · by_cases h : b < cx.W.heap.size
    · exact .inl (R.old b hb h)
    · exact .inr (by omega)
  · exact .inr hb.1
/-- A call goes home. -/
theorem Rel.out {W : World} {S : Nat → Prop} (R : Rel ⟨W, fun _ => False, S⟩ E σ a w) {ids : List Nat} (ho : outOk σ ids) {x : V} {v : Value} (hx : RdT E w x v) (hp : V.resOk σ x) : ResOk W w S (x.res σ ids) (outObs σ ids) v :=
  ⟨_, outE_B R, fun o h => ⟨((R.outG ho hx hp R.keep).1 o h).1, ((R.outG ho hx hp R.keep).1 o h).2.1⟩, (R.outG ho hx hp R.keep).2⟩
/-- A call that made a variable goes home with a pointer to it. -/
theorem Rel.outP {W : World} {S : Nat → Prop} (R : Rel ⟨W, fun _ => False, S⟩ E σ a w) {r g : Nat} {T : TypeId} {c : V} (h0 : σ.ob[r]? = some ⟨.box false T, true, g, c⟩) (hc : c.pure = true) {v : Value} (hx : RdT E w (.ptr r g [] 0) v) : ResOk W w S (.ptr 0 0 [] 0) [⟨.box false T, true, 0, c⟩] v := by
  obtain ⟨u0, p1, p2⟩ := R.ob r _ h0
  have p3 := p2
  unfold OkO at p3
  obtain ⟨b, cs, rfl, m2, m3, m4, m5⟩ := p3
  simp only [Bool.false_eq_true, if_false, if_true] at m4 m5
  have hv : v = .pointer (some ⟨b, 0, none⟩) := by
    simp only [RdT, RdV] at hx
    obtain ⟨v', e, _, _, h⟩ := hx
    simp at e
    subst e
    obtain ⟨_, h2⟩ := h g _ p1
    obtain ⟨b', e1, e2⟩ := h2 rfl
    simp only [blk, Option.some.injEq] at e1
    subst e1
    exact e2
  subst hv
  have hB : ∀ b', (E.B b') → S b' ∨ W.heap.size ≤ b' := fun b' hb => by
    by_cases h : b' < W.heap.size
    · exact .inl (R.old b' hb h)
    · exact .inr (by omega)
  refine ⟨⟨E.B, fun b => W.heap.size ≤ b, [(0, .pointer (some ⟨b, 0, none⟩))]⟩, hB, fun o ho => ?_, rfl, rfl, fun i => ?_, rfl, fun r o hr => ?_, fun r r' o o' g g' u u' b hne hr hr' => ?_, R.lt, fun b => Iff.rfl, R.old, R.keep⟩
  · simp at ho; subst ho; exact ⟨rfl, rfl⟩
  · cases i with
    | zero =>
      simp only [slotV, if_true, RdT, RdV]
      refine ⟨_, rfl, rfl, by simp, fun gc u h => ?_⟩
      simp at h
      obtain ⟨h1, h2⟩ := h
      subst h1 h2
      exact ⟨Nat.le_refl _, fun _ => ⟨b, rfl, rfl⟩⟩
    | succ i =>
      have : slotV [(0, V.ptr 0 0 [] 0)] (i + 1) = .junk := by simp [slotV]
      rw [this]
      simp only [RdT]
  · cases r with
    | zero =>
      simp only [List.getElem?_cons_zero, Option.some.injEq] at hr
      subst hr
      refine ⟨_, rfl, ?_⟩
      unfold OkO
      exact ⟨b, cs, rfl, m2, pure_rd (E1 := E) (E0 := ⟨E.B, fun b => W.heap.size ≤ b, [(0, .pointer (some ⟨b, 0, none⟩))]⟩) (fun _ h => h) (fun b hb => (R.fr b).1 hb) hc m3, by simpa using m4, by simpa using m5⟩
    | succ r => simp at hr
  · have h1 := (List.getElem?_eq_some_iff.1 hr).1
    have h2 := (List.getElem?_eq_some_iff.1 hr').1
    simp at h1 h2
    omega
end
end Rdn.Dp
