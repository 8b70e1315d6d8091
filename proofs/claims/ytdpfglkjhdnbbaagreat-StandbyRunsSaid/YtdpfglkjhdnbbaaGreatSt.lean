/- Calls that read rows of one's own, and of whose result slices nothing is told. Over any program. -/
import Derived.Test.YtdpfglkjhdnbbaaGreatFi
namespace Rdn.Dp
open Go Go.RowKit Rdn
set_option linter.unusedVariables false
mutual
/-- Of slices nothing is told: they stand as references to what object r was at growth g. -/
def V.stl (r g : Nat) : V → V
  | .sl t s l => .own r g
  | .agg l => .agg (V.stls r g l)
  | .tup l => .tup (V.stls r g l)
  | .nilS => .own r g
  | .int k n => .int k n
  | .bool b => .bool b
  | .arr s l => .junk
  | .str s => .junk
  | .own r g => .junk
  | .ptr r g p o => .junk
  | .osl r g s a b => .junk
  | .rp x => .junk
  | .fn f => .junk
  | .clo f l => .junk
  | .junk => .junk
def V.stls (r g : Nat) : List V → List V
  | [] => []
  | x :: l => x.stl r g :: V.stls r g l
end
mutual
def V.stOk : V → Bool
  | .sl t s l => true
  | .agg l => V.stOks l
  | .tup l => V.stOks l
  | .nilS => true
  | .int k n => true
  | .bool b => true
  | .arr s l => false
  | .str s => false
  | .own r g => false
  | .ptr r g p o => false
  | .osl r g s a b => false
  | .rp x => false
  | .fn f => false
  | .clo f l => false
  | .junk => false
def V.stOks : List V → Bool
  | [] => true
  | x :: l => x.stOk && V.stOks l
end
section
variable {E E0 : Env} {w w0 : World} {r g : Nat}
mutual
theorem stl_rd {gc : Nat} {u : Value} (hr : E0.ref[r]? = some (gc, u)) (hg : g < gc) : ∀ {x : V} {cs : List Value}, x.stOk = true → RdV E w x cs → RdV E0 w0 (x.stl r g) cs
  | .sl t s l, cs, hk, h => by
    simp only [RdV] at h
    obtain ⟨_, _, A, c, rfl, _⟩ := h
    simp only [V.stl, RdV]
    refine ⟨_, rfl, rfl, (List.getElem?_eq_some_iff.1 hr).1, fun gc' u' h => ?_⟩
    rw [hr] at h
    injection h with h
    injection h with e1 e2
    subst e1 e2
    exact ⟨by omega, fun e => by omega⟩
  | .nilS, cs, hk, h => by
    simp only [RdV] at h
    subst h
    simp only [V.stl, RdV]
    refine ⟨_, rfl, rfl, (List.getElem?_eq_some_iff.1 hr).1, fun gc' u' h => ?_⟩
    rw [hr] at h
    injection h with h
    injection h with e1 e2
    subst e1 e2
    exact ⟨by omega, fun e => by omega⟩
  | .agg l, cs, hk, h => by simp only [V.stOk] at hk; simp only [RdV, V.stl] at h ⊢; exact stls_rd hr hg hk h
  | .tup l, cs, hk, h => by simp only [RdV] at h
  | .int k n, cs, hk, h => by simp only [RdV, V.stl] at h ⊢; exact h
  | .bool b, cs, hk, h => by simp only [RdV, V.stl] at h ⊢; exact h
  | .arr s l, cs, hk, h => by simp [V.stOk] at hk
  | .str s, cs, hk, h => by simp [V.stOk] at hk
  | .own r g, cs, hk, h => by simp [V.stOk] at hk
  | .ptr r g p o, cs, hk, h => by simp [V.stOk] at hk
  | .osl r g s a b, cs, hk, h => by simp [V.stOk] at hk
  | .rp x, cs, hk, h => by simp [V.stOk] at hk
  | .fn f, cs, hk, h => by simp [V.stOk] at hk
  | .clo f l, cs, hk, h => by simp [V.stOk] at hk
  | .junk, cs, hk, h => by simp [V.stOk] at hk
theorem stls_rd {gc : Nat} {u : Value} (hr : E0.ref[r]? = some (gc, u)) (hg : g < gc) : ∀ {l : List V} {cs : List Value}, V.stOks l = true → RdL E w l cs → RdL E0 w0 (V.stls r g l) cs
  | [], cs, _, h => by simp only [RdL, V.stls] at h ⊢; exact h
  | x :: l, cs, hk, h => by
    simp only [V.stOks, Bool.and_eq_true] at hk
    simp only [RdL, V.stls] at h ⊢
    obtain ⟨c, ys, h1, h2, h3⟩ := h
    exact ⟨c, ys, h1, stl_rd hr hg hk.1 h2, stls_rd hr hg hk.2 h3⟩
end
mutual
theorem stlT_rd {gc : Nat} {u : Value} (hr : E0.ref[r]? = some (gc, u)) (hg : g < gc) : ∀ {x : V} {v : Value}, x.stOk = true → RdT E w x v → RdT E0 w0 (x.stl r g) v
  | .sl t s l, v, hk, h => by
    have := stl_rd (w0 := w0) (x := .sl t s l) (cs := [v]) hr hg hk (by simpa only [RdT] using h)
    simpa only [V.stl, RdT] using this
  | .nilS, v, hk, h => by
    have := stl_rd (w0 := w0) (x := .nilS) (cs := [v]) hr hg hk (by simpa only [RdT] using h)
    simpa only [V.stl, RdT] using this
  | .agg l, v, hk, h => by
    simp only [RdT] at h
    obtain ⟨cs, h1, h2⟩ := h
    have := stl_rd (w0 := w0) hr hg hk h2
    simp only [V.stl] at this
    simp only [RdT, V.stl]
    exact ⟨cs, h1, this⟩
  | .tup l, v, hk, h => by
    simp only [V.stOk] at hk
    simp only [RdT, V.stl] at h ⊢
    obtain ⟨vs, h1, h2⟩ := h
    exact ⟨vs, h1, stlTs_rd hr hg hk h2⟩
  | .int k n, v, hk, h => by simp only [RdT, RdV, V.stl] at h ⊢; exact h
  | .bool b, v, hk, h => by simp only [RdT, RdV, V.stl] at h ⊢; exact h
  | .arr s l, v, hk, h => by simp [V.stOk] at hk
  | .str s, v, hk, h => by simp [V.stOk] at hk
  | .own r g, v, hk, h => by simp [V.stOk] at hk
  | .ptr r g p o, v, hk, h => by simp [V.stOk] at hk
  | .osl r g s a b, v, hk, h => by simp [V.stOk] at hk
  | .rp x, v, hk, h => by simp [V.stOk] at hk
  | .fn f, v, hk, h => by simp [V.stOk] at hk
  | .clo f l, v, hk, h => by simp [V.stOk] at hk
  | .junk, v, hk, h => by simp [V.stOk] at hk
theorem stlTs_rd {gc : Nat} {u : Value} (hr : E0.ref[r]? = some (gc, u)) (hg : g < gc) : ∀ {l : List V} {vs : List Value}, V.stOks l = true → RdTs E w l vs → RdTs E0 w0 (V.stls r g l) vs
  | [], vs, _, h => by simp only [RdTs, V.stls] at h ⊢; exact h
  | x :: l, vs, hk, h => by
    simp only [V.stOks, Bool.and_eq_true] at hk
    simp only [RdTs, V.stls] at h ⊢
    obtain ⟨v, ys, h1, h2, h3⟩ := h
    exact ⟨v, ys, h1, stlT_rd hr hg hk.1 h2, stlTs_rd hr hg hk.2 h3⟩
end
end
section
variable {P : Program} {cx : Cx} {N : Nat} {Q : Exit → Act → World → Prop} {k : List It} {n : Nat} {t : List (Nat × V)} {ob : List Ob} {l : List RO} {gd : Option (Nat × Bool)} {f : FuncId} {xs : List X} {ys : List V} {x : V} {E : Env} {a : Act} {w : World}
def isRow : OK → Bool
  | .row _ => true
  | .rows _ _ => true
  | .box _ _ => false
def regT (r g : Nat) (t : List (Nat × V)) : List Nat → List (Nat × V)
  | [] => t
  | j :: js => (j, .own r (g + 1)) :: regT r g t js
def regOk (r g : Nat) (t : List (Nat × V)) : List Nat → Prop
  | [] => True
  | j :: js => slotV t j = .own r g ∧ regOk r g t js
theorem regT_at {r g : Nat} {t : List (Nat × V)} {i : Nat} : ∀ {js : List Nat}, regOk r g t js → (slotV (regT r g t js) i = .own r (g + 1) ∧ slotV t i = .own r g) ∨ slotV (regT r g t js) i = slotV t i
  | [], _ => .inr rfl
  | j :: js, h => by
    simp only [regT, slotV]
    by_cases e : j = i
    · subst e; rw [if_pos rfl]; exact .inl ⟨rfl, h.1⟩
    · rw [if_neg e]; exact regT_at h.2
theorem Rel.regen (R : Rel cx E ⟨n, t, ob⟩ a w) {r g : Nat} {kk : OK} {v : V} {js : List Nat} (hr : ob[r]? = some ⟨kk, true, g, v⟩) (hk : isRow kk = true) (hj : regOk r g t js) : ∃ E', Rel cx E' ⟨n, regT r g t js, ob.set r ⟨kk, true, g + 1, v⟩⟩ a w := by
  obtain ⟨u, k1, k2⟩ := R.ob r _ hr
  have k1 : E.ref[r]? = some (g, u) := k1
  have hrl := (List.getElem?_eq_some_iff.1 k1).1
  have L0 : Leads E w { E with ref := E.ref.set r (g + 1, u) } w := by
    refine ⟨fun b hb' => ⟨hb', rfl⟩, fun _ h => h, by simp, fun r' g' v hr' h => ?_⟩
    by_cases e : r = r'
    · subst e
      rw [List.getElem?_set_self hrl] at h
      injection h with h
      injection h with h1 h2
      subst h1 h2
      exact ⟨g, u, k1, by omega, fun e => by omega⟩
    · rw [List.getElem?_set_ne e] at h
      exact ⟨g', v, h, Nat.le_refl _, fun _ => rfl⟩
  have ho : OkO cx { E with ref := E.ref.set r (g + 1, u) } w ⟨kk, true, g + 1, v⟩ u := by
    have := k2.keep L0 (fun _ _ => rfl) (fun _ _ _ h => h)
    unfold OkO at this ⊢
    cases kk <;> exact this
  obtain ⟨L, R'⟩ := R.touch (o' := ⟨kk, true, g + 1, v⟩) (u' := u) hr rfl k1 (Keep.refl _ _) rfl (.inr rfl) (fun _ hb => .inl hb) ho
  refine ⟨_, R'.df, R'.n, fun i => ?_, R'.len, R'.ob, R'.sep, R'.lt, R'.fr, R'.old, R'.keep⟩
  show RdT _ w (slotV (regT r g t js) i) _
  rcases regT_at (i := i) hj with ⟨h1, h2⟩ | h
  · rw [h1]
    have := R.tm i
    rw [show slotV (⟨n, t, ob⟩ : AS).t i = .own r g from h2] at this
    simp only [RdT, RdV] at this ⊢
    obtain ⟨v', m1, m2, m3, m4⟩ := this
    refine ⟨v', m1, m2, by simpa using hrl, fun gc u' h => ?_⟩
    have h : (E.ref.set r (g + 1, u))[r]? = some (gc, u') := h
    rw [List.getElem?_set_self hrl] at h
    injection h with h
    injection h with e1 e2
    subst e1 e2
    exact ⟨Nat.le_refl _, fun _ => (m4 g u k1).2 rfl⟩
  · rw [h]; exact R'.tm i
theorem evr_regen (r : Nat) (js : List Nat) {g : Nat} {kk : OK} {v : V} (hr : ob[r]? = some ⟨kk, true, g, v⟩) (hk : isRow kk = true) (hj : regOk r g t js) (h : EvR P cx N Q k l ⟨n, regT r g t js, ob.set r ⟨kk, true, g + 1, v⟩⟩) : EvR P cx N Q k l ⟨n, t, ob⟩ := by
  refine ⟨fun hn E a w R => ?_⟩
  obtain ⟨E', R'⟩ := R.regen hr hk hj
  exact h.h hn E' a w R'
theorem callS {i : Nat} (r g : Nat) (hF : Fnc P f ys fun y obs => y = x ∧ obs = []) (h : wants ⟨n, t, ob⟩ gd = some true ∧ (∀ y ∈ xs.map (X.ev ⟨n, t, ob⟩), dp3Ok ⟨n, t, ob⟩ y) ∧ (xs.map (X.ev ⟨n, t, ob⟩)).map (dp3 ⟨n, t, ob⟩) = ys ∧ x.stOk = true ∧ (match ob[r]? with | some o => g < o.g | none => False) ∧ evalR (EvR P cx N Q k) [(), (), (), (), (), (), (), ()] l ⟨n, (i, x.stl r g) :: t, ob⟩) : EvR P cx N Q k (⟨some i, gd, .call f xs⟩ :: l) ⟨n, t, ob⟩ := by
  obtain ⟨hw, hok, hy, hst, hg, h⟩ := h
  have h := ev_all h
  subst hy
  refine ⟨fun hn E a w R ops os hcc => ?_⟩
  obtain ⟨o, os', rfl, h1, h2⟩ := compL_cons hcc
  obtain ⟨k1, k2, k3, k4⟩ := compR_some h1
  unfold wpList
  rw [if_pos (wants_ok R k2 hw)]
  refine .inl ?_
  obtain ⟨aas, hxs, hrun⟩ := compK_call k1 a
  unfold Oper.wp
  rw [hrun w, Oper.upon_enter]
  have hargs := dp3s_rd R hok (compXs_rd0 R hxs)
  refine (hF w (fun b => b < w.heap.size) _ (fun _ h => h) hargs).mono ?_
  rintro e w' ⟨y, obs, v, ⟨rfl, rfl⟩, rfl, E1, _, _, R1⟩
  have hx := R1.tm 0
  simp only [slotV, if_true] at hx
  have hx : RdT E1 w' y v := by simpa using hx
  have hb : Below w.heap.size w w' := ⟨R1.keep.os, R1.keep.tape, R1.keep.output, R1.keep.size, fun b hb => R1.keep.block b hb (fun h => h)⟩
  have R2 := R.grow hb
  split at hg
  · rename_i o0 ho
    obtain ⟨u, m1, _⟩ := R.ob r o0 ho
    have hx' := stlT_rd (E0 := E) (w0 := w') m1 hg hst hx
    show wpList P ops (onX P cx N Q k) os' (a.put o.dst v) w'
    rw [show o.dst = some i from k3]
    exact h.h hn E _ w' (R2.put (d := some i) (fun j hj => by show j < n; rw [show n = N from hn]; exact k4 j hj) hx') ops os' h2
  · exact hg.elim
end
attribute [go_sem] V.stl V.stls V.stOk V.stOks isRow regT regOk
end Rdn.Dp
