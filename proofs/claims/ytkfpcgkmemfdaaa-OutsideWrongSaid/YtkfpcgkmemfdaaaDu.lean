/- Operations by what they touch: what they yield hangs on their operands and on the objects that these refer to alone; new objects at kept places. Over any program. -/
import Derived.Test.YtkfpcgkmemfdaaaDh
namespace Rdn.Dp
open Go Go.RowKit Rdn
set_option linter.unusedVariables false

/-! ### Readings refer to objects that are there -/
mutual
theorem V.scp_pure (m : Nat) : ∀ x : V, x.pure = true → x.scp m = true
  | .sl t s l, _ => rfl
  | .agg l, h => by simp only [V.pure] at h; simp only [V.scp, V.scps_pure m l h]
  | .arr s l, h => by simp only [V.pure] at h; simp only [V.scp, V.scps_pure m l h]
  | .tup l, h => by simp [V.pure] at h
  | .clo f l, h => by simp [V.pure] at h
  | .int k n, _ => rfl
  | .bool b, _ => rfl
  | .str s, _ => rfl
  | .nilS, _ => rfl
  | .own r g, h => by simp [V.pure] at h
  | .ptr r g p o, h => by simp [V.pure] at h
  | .rp x, h => by simp [V.pure] at h
  | .fn f, _ => rfl
  | .junk, _ => rfl
theorem V.scps_pure (m : Nat) : ∀ l : List V, V.pures l = true → V.scps m l = true
  | [], _ => rfl
  | x :: l, h => by simp only [V.pures, Bool.and_eq_true] at h; simp only [V.scps, V.scp_pure m x h.1, V.scps_pure m l h.2, Bool.and_self]
end
section
variable {E : Env} {w : World}
mutual
theorem RdV.scp : ∀ {x : V} {cs : List Value}, RdV E w x cs → x.scp E.ref.length = true
  | .sl t s l, cs, h => rfl
  | .agg l, cs, h => by simp only [RdV] at h; simp only [V.scp]; exact h.scp
  | .arr s l, cs, h => by simp only [RdV] at h; simp only [V.scp]; exact h.1.scp
  | .tup l, cs, h => by simp only [RdV] at h
  | .clo f l, cs, h => by simp only [RdV] at h
  | .int k n, cs, h => rfl
  | .bool b, cs, h => rfl
  | .str s, cs, h => rfl
  | .nilS, cs, h => rfl
  | .own r g, cs, h => by simp only [RdV] at h; obtain ⟨v, _, _, h3, _⟩ := h; simpa [V.scp] using h3
  | .ptr r g p o, cs, h => by simp only [RdV] at h; obtain ⟨v, _, _, h3, _⟩ := h; simpa [V.scp] using h3
  | .rp x, cs, h => by simp only [RdV] at h; simpa only [V.scp] using h.1
  | .fn f, cs, h => rfl
  | .junk, cs, h => rfl
theorem RdL.scp : ∀ {l : List V} {cs : List Value}, RdL E w l cs → V.scps E.ref.length l = true
  | [], cs, h => rfl
  | a :: l, cs, h => by
    simp only [RdL] at h
    obtain ⟨c, ys, _, h1, h2⟩ := h
    simp only [V.scps, h1.scp, h2.scp, Bool.and_self]
end
mutual
theorem RdT.scp : ∀ {x : V} {v : Value}, RdT E w x v → x.scp E.ref.length = true
  | .sl t s l, cs, h => rfl
  | .agg l, cs, h => by simp only [RdT] at h; obtain ⟨_, _, h⟩ := h; exact h.scp
  | .arr s l, cs, h => by simp only [RdT] at h; obtain ⟨_, _, h⟩ := h; exact h.scp
  | .tup l, cs, h => by simp only [RdT] at h; obtain ⟨_, _, h⟩ := h; simp only [V.scp]; exact h.scp
  | .clo f l, cs, h => by simp only [RdT] at h; obtain ⟨_, _, h⟩ := h; simp only [V.scp]; exact h.scp
  | .int k n, cs, h => rfl
  | .bool b, cs, h => rfl
  | .str s, cs, h => rfl
  | .nilS, cs, h => rfl
  | .own r g, cs, h => by simp only [RdT] at h; exact h.scp
  | .ptr r g p o, cs, h => by simp only [RdT] at h; exact h.scp
  | .rp x, cs, h => by simp only [RdT] at h; exact h.scp
  | .fn f, cs, h => rfl
  | .junk, cs, h => rfl
theorem RdTs.scp : ∀ {l : List V} {vs : List Value}, RdTs E w l vs → V.scps E.ref.length l = true
  | [], cs, h => rfl
  | a :: l, cs, h => by
    simp only [RdTs] at h
    obtain ⟨c, ys, _, h1, h2⟩ := h
    simp only [V.scps, h1.scp, h2.scp, Bool.and_self]
end
end
section
variable {cx : Cx} {E E' : Env} {σ : AS} {a : Act} {w w' : World} {P : Program}
theorem OkO.scp {o : Ob} {u : Value} (h : OkO cx E w o u) : o.scp E.ref.length = true := by
  unfold OkO at h
  unfold Ob.scp
  split at h
  · obtain ⟨b, cs, _, _, h3, _⟩ := h
    exact h3.scp
  · rfl
  · obtain ⟨_, s, l, xs, h1, _, _, _, _, h7, _⟩ := h
    rw [h1]
    simp only [V.scp]
    exact h7.scp
/-- A place that is kept for an object that is to come. -/
def resv : Ob := ⟨.row 0, true, 0, .arr 1 []⟩
/-- The newest object is put at a place that was kept. -/
theorem Rel.place (R : Rel cx E σ a w) (L : Leads E w E' w') {o : Ob} (R' : Rel cx E' { σ with ob := σ.ob ++ [o] } a w') (hl : o.live = true) (hg : o.g = 0) (ho : o.scp σ.ob.length = true) {r : Nat} (hr : σ.ob[r]? = some resv) :
    ∃ E'' u, E'.ref[σ.ob.length]? = some (0, u) ∧ E''.ref[r]? = some (1, u) ∧ Leads E w E'' w' ∧ Rel cx E'' { σ with ob := σ.ob.set r { o with g := 1 } } a w' := by
  obtain ⟨u, hu, hok⟩ := R'.ob σ.ob.length o (by simp)
  rw [hg] at hu
  have hle : σ.ob.length ≤ E'.ref.length := by rw [R'.len]; simp
  have rl : r < σ.ob.length := (List.getElem?_eq_some_iff.1 hr).1
  have Rc := R'.cut σ.ob.length (by simp) (fun i => by have := (R.tm i).scp; rwa [R.len] at this) (fun o' ho' => by
    have ho' : o' ∈ σ.ob := by simpa using ho'
    obtain ⟨j, hj, e⟩ := List.mem_iff_getElem.1 ho'
    obtain ⟨u', _, k⟩ := R.ob j o' (by rw [List.getElem?_eq_getElem hj, e])
    have := k.scp
    rwa [R.len] at this)
  have Rc : Rel cx { E' with ref := E'.ref.take σ.ob.length } σ a w' := by
    have e : (σ.ob ++ [o]).take σ.ob.length = σ.ob := by simp
    simp only [e] at Rc
    exact Rc
  have hokc := hok.cut (m := σ.ob.length) hle ho
  have Lc : Leads E w { E' with ref := E'.ref.take σ.ob.length } w' := ⟨L.b, L.f, by simp only [List.length_take, R.len]; omega, fun q g v hq h => by
    refine L.ref q g v hq ?_
    rw [List.getElem?_take] at h
    split at h
    · exact h
    · cases h⟩
  have fr : ∀ q : Nat, q ≠ σ.ob.length → ∀ x, (E'.ref.take σ.ob.length)[q]? = some x → E'.ref[q]? = some x := by
    intro q _ x h
    rw [List.getElem?_take] at h
    split at h
    · exact h
    · cases h
  obtain ⟨u0, k1, k2⟩ := Rc.ob r resv hr
  generalize hEc : ({ E' with ref := E'.ref.take σ.ob.length } : Env) = Ec at *
  have hB : Ec.B = E'.B := by rw [← hEc]
  have hrr : Ec.ref = E'.ref.take σ.ob.length := by rw [← hEc]
  have hrl : r < Ec.ref.length := (List.getElem?_eq_some_iff.1 k1).1
  have k1 : Ec.ref[r]? = some (0, u0) := k1
  have L2 : Leads Ec w' { Ec with ref := Ec.ref.set r (1, u) } w' := by
    refine ⟨fun b hb => ⟨hb, rfl⟩, fun _ h => h, by simp, fun q g v hq h => ?_⟩
    by_cases e : r = q
    · subst e
      rw [List.getElem?_set_self hrl] at h
      injection h with h
      injection h with h1 h2
      subst h1
      exact ⟨0, u0, k1, by omega, fun e => by omega⟩
    · rw [List.getElem?_set_ne e] at h
      exact ⟨g, v, h, Nat.le_refl _, fun _ => rfl⟩
  refine ⟨{ Ec with ref := Ec.ref.set r (1, u) }, u, hu, by rw [List.getElem?_set_self hrl], Lc.trans L2, Rc.df, Rc.n, fun i => (Rc.tm i).mono L2, by simp [Rc.len], fun q o1 h1 => ?_, fun q1 q2 o1 o2 g1 g2 u1 u2 b h1 h2 h3 h4 h5 h6 h7 h8 h9 => ?_, Rc.lt, Rc.fr, Rc.old, Rc.keep⟩
  · by_cases e : r = q
    · subst e
      rw [List.getElem?_set_self rl] at h1
      obtain rfl := Option.some.inj h1
      exact ⟨u, by rw [List.getElem?_set_self hrl], hokc.keep L2 (fun _ _ => rfl) (fun _ _ _ h => h)⟩
    · rw [List.getElem?_set_ne e] at h1
      obtain ⟨v1, m1, m2⟩ := Rc.ob q o1 h1
      exact ⟨v1, by rw [List.getElem?_set_ne e]; exact m1, m2.keep L2 (fun _ _ => rfl) (fun _ _ _ h => h)⟩
  · have key : ∀ q o2 g2 u2, r ≠ q → (σ.ob.set r { o with g := 1 })[q]? = some o2 → o2.live = true → (Ec.ref.set r (1, u))[q]? = some (g2, u2) → blk u = some b → blk u2 = some b → False := by
      intro q o2 g2 u2 e h1 h2 h3 h4 h5
      rw [List.getElem?_set_ne e] at h1 h3
      have hq : q < σ.ob.length := (List.getElem?_eq_some_iff.1 h1).1
      refine R'.sep σ.ob.length q o o2 0 g2 u u2 b (by omega) (by simp) ?_ hl h2 hu (fr q (by omega) _ (by rw [← hrr]; exact h3)) h4 h5
      show (σ.ob ++ [o])[q]? = some o2
      rw [List.getElem?_append_left hq]
      exact h1
    by_cases e1 : r = q1
    · subst e1
      have e2 := h6
      rw [List.getElem?_set_self hrl] at e2
      injection e2 with e2
      injection e2 with _ e2
      subst e2
      exact key q2 o2 g2 u2 h1 h3 h5 h7 h8 h9
    · by_cases e2 : r = q2
      · subst e2
        have e3 := h7
        rw [List.getElem?_set_self hrl] at e3
        injection e3 with e3
        injection e3 with _ e3
        subst e3
        exact key q1 o1 g1 u1 e1 h2 h4 h6 h9 h8
      · rw [List.getElem?_set_ne e1] at h2 h6
        rw [List.getElem?_set_ne e2] at h3 h7
        exact Rc.sep q1 q2 o1 o2 g1 g2 u1 u2 b h1 h2 h3 h4 h5 h6 h7 h8 h9
theorem Rel.placeRow (R : Rel cx E σ a w) (L : Leads E w E' w') {o : Ob} {v : Value} (hv : RdT E' w' (.own σ.ob.length 0) v) (R' : Rel cx E' { σ with ob := σ.ob ++ [o] } a w') (hl : o.live = true) (hg : o.g = 0) (ho : o.scp σ.ob.length = true) {r : Nat} (hr : σ.ob[r]? = some resv) :
    ∃ E'', Leads E w E'' w' ∧ RdT E'' w' (.own r 1) v ∧ Rel cx E'' { σ with ob := σ.ob.set r { o with g := 1 } } a w' := by
  obtain ⟨E'', u, k1, k2, k3, k4⟩ := R.place L R' hl hg ho hr
  refine ⟨E'', k3, ?_, k4⟩
  simp only [RdT, RdV] at hv ⊢
  obtain ⟨v', m1, m2, m3, m4⟩ := hv
  obtain rfl := (m4 0 u k1).2 rfl
  refine ⟨v', m1, m2, (List.getElem?_eq_some_iff.1 k2).1, fun gc u' h => ?_⟩
  rw [k2] at h
  injection h with h
  injection h with h1 h2
  subst h1 h2
  exact ⟨Nat.le_refl _, fun _ => rfl⟩
/-- A new row, or variable, at a kept place. -/
theorem leaves_row (R : Rel cx E σ a w) {oo : Oper} {o : Ob} (h : Leads E w E w → Leaves P cx E a w oo (.own σ.ob.length 0) { σ with ob := σ.ob ++ [o] }) (hl : o.live = true) (hg : o.g = 0) (ho : o.scp σ.ob.length = true) {r : Nat} (hr : σ.ob[r]? = some resv) :
    Leaves P cx E a w oo (.own r 1) { σ with ob := σ.ob.set r { o with g := 1 } } := by
  obtain ⟨v, w', E', hrun, L, hv, R'⟩ := h (Leads.refl _ _)
  obtain ⟨E'', k3, k5, k4⟩ := R.placeRow L hv R' hl hg ho hr
  exact ⟨v, w', E'', hrun, k3, k5, k4⟩
theorem leaves_box (R : Rel cx E σ a w) {oo : Oper} {o : Ob} (h : Leads E w E w → Leaves P cx E a w oo (.ptr σ.ob.length 0 [] 0) { σ with ob := σ.ob ++ [o] }) (hl : o.live = true) (hg : o.g = 0) (ho : o.scp σ.ob.length = true) {r : Nat} (hr : σ.ob[r]? = some resv) :
    Leaves P cx E a w oo (.ptr r 1 [] 0) { σ with ob := σ.ob.set r { o with g := 1 } } := by
  obtain ⟨v, w', E', hrun, L, hv, R'⟩ := h (Leads.refl _ _)
  obtain ⟨E'', u, k1, k2, k3, k4⟩ := R.place L R' hl hg ho hr
  refine ⟨v, w', E'', hrun, k3, ?_, k4⟩
  simp only [RdT, RdV] at hv ⊢
  obtain ⟨v', m1, m2, m3, m4⟩ := hv
  have m5 := (m4 0 u k1).2 rfl
  refine ⟨v', m1, m2, (List.getElem?_eq_some_iff.1 k2).1, fun gc u' h => ?_⟩
  rw [k2] at h
  injection h with h
  injection h with h1 h2
  subst h1 h2
  exact ⟨Nat.le_refl _, fun _ => m5⟩
/-- A new row that nobody will write. -/
theorem leaves_ro (R : Rel cx E σ a w) {oo : Oper} {e s : Nat} {l : List V} (h : Leaves P cx E a w oo (.own σ.ob.length 0) { σ with ob := σ.ob ++ [⟨.row e, true, 0, .arr s l⟩] }) : Leaves P cx E a w oo (.sl true s l) σ := by
  obtain ⟨v, w', E', hrun, L, hv, R'⟩ := h
  obtain ⟨e', lv, s', l', xs, q1, q2, q3, q4, q5, q6, q7, q8, q9, q10, q11⟩ := rd_own R' hv (by simp [rowV])
  simp at q1
  obtain ⟨rfl, rfl, rfl, rfl⟩ := q1
  have hlt := q9.lt
  have hsl : ∃ A c, v = .slice A l.length c ∧ l.length ≤ c := by
    rcases q9.2 with ⟨hv, hn⟩ | ⟨b, cap, cur, hv, _, _, hc, _⟩
    · exact ⟨none, 0, by rw [hv, hn], by omega⟩
    · exact ⟨_, _, hv, hc⟩
  obtain ⟨A, c, e1, hc⟩ := hsl
  have hbk : ∀ b, blk v = some b → v.ownBlock = some b := by
    intro b hb
    rw [e1] at hb ⊢
    cases A with
    | none => simp [blk] at hb
    | some aa => simpa [blk, Value.ownBlock] using hb
  obtain ⟨L2, R2⟩ := R'.freeze (r := σ.ob.length) (o := ⟨.row e, true, 0, .arr s l⟩) (by simp) q4 (fun b hb => ⟨(hlt b (hbk b hb)).1, trivial⟩)
  have hle : σ.ob.length ≤ E'.ref.length := by rw [R'.len]; simp
  have hup : (({ σ with ob := σ.ob ++ [⟨.row e, true, 0, .arr s l⟩] } : AS).upd σ.ob.length Ob.freeze).ob.take σ.ob.length = σ.ob := by
    simp [AS.upd]
  have R3 := R2.cut σ.ob.length (by simp [AS.upd]) (fun i => by have := (R.tm i).scp; rwa [R.len] at this) (fun o' ho' => by
    rw [hup] at ho'
    obtain ⟨j, hj, e⟩ := List.mem_iff_getElem.1 ho'
    obtain ⟨u', _, k⟩ := R.ob j o' (by rw [List.getElem?_eq_getElem hj, e])
    have := k.scp
    rwa [R.len] at this)
  have R4 : Rel cx { E' with B := fun b => E'.B b ∨ blk v = some b, ref := E'.ref.take σ.ob.length } σ a w' := by
    simp only [hup] at R3
    exact R3
  have L3 : Leads E w { E' with B := fun b => E'.B b ∨ blk v = some b, ref := E'.ref.take σ.ob.length } w' := ⟨fun b hb => ⟨.inl (L.b b hb).1, (L.b b hb).2⟩, L.f, by simp only [List.length_take, R.len]; omega, fun q g v hq h => by
    refine L.ref q g v hq ?_
    rw [List.getElem?_take] at h
    split at h
    · exact h
    · cases h⟩
  refine ⟨v, w', _, hrun, L3, ?_, R4⟩
  simp only [RdT, RdV]
  refine ⟨q5, q6, A, c, by rw [e1], hc, q8, fun h0 => ?_⟩
  rcases q9.2 with ⟨hv, hn⟩ | ⟨b, cap, cur, hv, m1, m2, m3, m4, m5, m6⟩
  · omega
  · rw [e1] at hv
    injection hv with hv1 hv2 hv3
    subst hv1
    refine ⟨b, 0, xs, rfl, .inr (by rw [e1]; rfl), fun _ => (R'.fr b).2 m1, RdL.cutp q5 ((q10.mono L2)), fun j v hv => ?_⟩
    rw [← m6, List.getElem?_take] at hv
    split at hv
    · simpa [World.cell?, m2] using hv
    · cases hv
end
end Rdn.Dp
