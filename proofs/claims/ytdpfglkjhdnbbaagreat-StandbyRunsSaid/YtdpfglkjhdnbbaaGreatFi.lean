/- Functions that get a pointer to a variable that holds rows of the caller's own: what they leave is told of all these objects. Over any program. -/
import Derived.Test.YtdpfglkjhdnbbaaGreatPt
namespace Rdn.Dp
open Go Go.RowKit Rdn
set_option linter.unusedVariables false
mutual
/-- The tree with its objects renamed; nothing is told of when slices were made. -/
def V.mv (ρ : Nat → Nat × Nat) : V → V
  | .own r g => .own (ρ r).1 (ρ r).2
  | .ptr r g p o => .ptr (ρ r).1 (ρ r).2 p o
  | .agg l => .agg (V.mvs ρ l)
  | .arr s l => .arr s (V.mvs ρ l)
  | .tup l => .tup (V.mvs ρ l)
  | .sl t s l => .sl false s (V.lows l)
  | .int k n => .int k n
  | .bool b => .bool b
  | .str s => .str s
  | .nilS => .nilS
  | .osl r g s a b => .osl r g s a b
  | .rp x => .rp x.low
  | .fn f => .fn f
  | .clo f l => .clo f l
  | .junk => .junk
def V.mvs (ρ : Nat → Nat × Nat) : List V → List V
  | [] => []
  | x :: l => x.mv ρ :: V.mvs ρ l
end
mutual
/-- All references are to objects as they are now. -/
def V.now (γ : Nat → Option Nat) : V → Prop
  | .own r g => γ r = some g
  | .ptr r g _ _ => γ r = some g
  | .agg l => V.nows γ l
  | .arr _ l => V.nows γ l
  | .tup l => V.nows γ l
  | .sl _ _ _ => True
  | .int _ _ => True
  | .bool _ => True
  | .str _ => True
  | .nilS => True
  | .osl _ _ _ _ _ => False
  | .rp _ => True
  | .fn _ => True
  | .clo _ _ => False
  | .junk => False
def V.nows (γ : Nat → Option Nat) : List V → Prop
  | [] => True
  | x :: l => x.now γ ∧ V.nows γ l
end
theorem mvs_map (ρ : Nat → Nat × Nat) (l : List V) : V.mvs ρ l = l.map (V.mv ρ) := by
  induction l with
  | nil => rfl
  | cons a l ih => simp only [V.mvs, ih, List.map_cons]
mutual
theorem V.mv_size (ρ : Nat → Nat × Nat) : ∀ x : V, (x.mv ρ).size = x.size
  | .own r g => rfl
  | .ptr r g p o => rfl
  | .agg l => by simp only [V.mv, V.size]; exact V.mvs_size ρ l
  | .arr s l => by simp only [V.mv, V.size, mvs_map, List.length_map]
  | .tup l => rfl
  | .sl t s l => rfl
  | .int k n => rfl
  | .bool b => rfl
  | .str s => rfl
  | .nilS => rfl
  | .osl r g s a b => rfl
  | .rp x => rfl
  | .fn f => rfl
  | .clo f l => rfl
  | .junk => rfl
theorem V.mvs_size (ρ : Nat → Nat × Nat) : ∀ l : List V, V.sizes (V.mvs ρ l) = V.sizes l
  | [] => rfl
  | x :: l => by simp only [V.mvs, V.sizes, V.mv_size ρ x, V.mvs_size ρ l]
end
theorem unif_mvs {ρ : Nat → Nat × Nat} {s : Nat} {l : List V} (h : Unif s l) : Unif s (V.mvs ρ l) := fun x hx => by
  rw [mvs_map] at hx
  obtain ⟨y, hy, rfl⟩ := List.mem_map.1 hx
  rw [V.mv_size]
  exact h y hy
mutual
theorem V.mv_pure (ρ : Nat → Nat × Nat) : ∀ x : V, x.pure = true → x.mv ρ = x.low
  | .own r g, h => by simp [V.pure] at h
  | .ptr r g p o, h => by simp [V.pure] at h
  | .agg l, h => by simp only [V.pure] at h; simp only [V.mv, V.low, V.mvs_pure ρ l h]
  | .arr s l, h => by simp only [V.pure] at h; simp only [V.mv, V.low, V.mvs_pure ρ l h]
  | .tup l, h => by simp [V.pure] at h
  | .sl t s l, h => rfl
  | .int k n, h => rfl
  | .bool b, h => rfl
  | .str s, h => rfl
  | .nilS, h => rfl
  | .osl r g s a b, h => by simp [V.pure] at h
  | .rp x, h => by simp [V.pure] at h
  | .fn f, h => by simp [V.pure] at h
  | .clo f l, h => by simp [V.pure] at h
  | .junk, h => by simp [V.pure] at h
theorem V.mvs_pure (ρ : Nat → Nat × Nat) : ∀ l : List V, V.pures l = true → V.mvs ρ l = V.lows l
  | [], _ => rfl
  | x :: l, h => by
    simp only [V.pures, Bool.and_eq_true] at h
    simp only [V.mvs, V.lows, V.mv_pure ρ x h.1, V.mvs_pure ρ l h.2]
end
mutual
theorem V.now_pure (γ : Nat → Option Nat) : ∀ x : V, x.pure = true → x.now γ
  | .own r g, h => by simp [V.pure] at h
  | .ptr r g p o, h => by simp [V.pure] at h
  | .agg l, h => by simp only [V.pure] at h; simp only [V.now]; exact V.nows_pure γ l h
  | .arr s l, h => by simp only [V.pure] at h; simp only [V.now]; exact V.nows_pure γ l h
  | .tup l, h => by simp [V.pure] at h
  | .sl t s l, h => trivial
  | .int k n, h => trivial
  | .bool b, h => trivial
  | .str s, h => trivial
  | .nilS, h => trivial
  | .osl r g s a b, h => by simp [V.pure] at h
  | .rp x, h => by simp [V.pure] at h
  | .fn f, h => by simp [V.pure] at h
  | .clo f l, h => by simp [V.pure] at h
  | .junk, h => by simp [V.pure] at h
theorem V.nows_pure (γ : Nat → Option Nat) : ∀ l : List V, V.pures l = true → V.nows γ l
  | [], _ => trivial
  | x :: l, h => by
    simp only [V.pures, Bool.and_eq_true] at h
    exact ⟨V.now_pure γ x h.1, V.nows_pure γ l h.2⟩
end
section
variable {E E0 : Env} {w : World} {ρ : Nat → Nat × Nat} {γ : Nat → Option Nat}
mutual
theorem mv_rd (hB : ∀ b, E.B b → E0.B b) (hr : ∀ r g u, γ r = some g → E.ref[r]? = some (g, u) → E0.ref[(ρ r).1]? = some ((ρ r).2, u)) (hγ : ∀ r g, γ r = some g → ∃ u, E.ref[r]? = some (g, u)) : ∀ {x : V} {cs : List Value}, x.now γ → RdV E w x cs → RdV E0 w (x.mv ρ) cs
  | .own r g, cs, hn, h => by
    simp only [V.now] at hn
    simp only [RdV, V.mv] at h ⊢
    obtain ⟨v, rfl, h1, h2, h3⟩ := h
    obtain ⟨u, hu⟩ := hγ r g hn
    obtain rfl := (h3 g u hu).2 rfl
    have := hr r g _ hn hu
    refine ⟨_, rfl, h1, (List.getElem?_eq_some_iff.1 this).1, fun gc u' h => ?_⟩
    rw [this] at h
    injection h with h
    injection h with e1 e2
    subst e1 e2
    exact ⟨Nat.le_refl _, fun _ => rfl⟩
  | .ptr r g p o, cs, hn, h => by
    simp only [V.now] at hn
    simp only [RdV, V.mv] at h ⊢
    obtain ⟨v, rfl, h1, h2, h3⟩ := h
    obtain ⟨u, hu⟩ := hγ r g hn
    obtain ⟨b, k1, k2⟩ := (h3 g u hu).2 rfl
    have := hr r g _ hn hu
    refine ⟨_, rfl, h1, (List.getElem?_eq_some_iff.1 this).1, fun gc u' h => ?_⟩
    rw [this] at h
    injection h with h
    injection h with e1 e2
    subst e1 e2
    exact ⟨Nat.le_refl _, fun _ => ⟨b, k1, k2⟩⟩
  | .agg l, cs, hn, h => by simp only [V.now] at hn; simp only [RdV, V.mv] at h ⊢; exact mvs_rd hB hr hγ hn h
  | .arr s l, cs, hn, h => by simp only [V.now] at hn; simp only [RdV, V.mv] at h ⊢; exact ⟨mvs_rd hB hr hγ hn h.1, unif_mvs h.2⟩
  | .tup l, cs, hn, h => by simp only [RdV] at h
  | .sl t s l, cs, hn, h => low_rdS hB (x := .sl t s l) rfl h
  | .int k n, cs, hn, h => by simp only [RdV, V.mv] at h ⊢; exact h
  | .bool b, cs, hn, h => by simp only [RdV, V.mv] at h ⊢; exact h
  | .str s, cs, hn, h => by simp only [RdV, V.mv] at h ⊢; exact h
  | .nilS, cs, hn, h => by simp only [RdV, V.mv] at h ⊢; exact h
  | .osl r g s a b, cs, hn, h => by simp only [V.now] at hn
  | .rp x, cs, hn, h => by
    simp only [RdV, V.mv] at h ⊢
    obtain ⟨h1, b, o, xs, h2, h3, h4, h5⟩ := h
    exact ⟨by rw [V.low_pure]; exact h1, b, o, xs, h2, hB b h3, low_rdS hB h1 h4, h5⟩
  | .fn f, cs, hn, h => by simp only [RdV, V.mv] at h ⊢; exact h
  | .clo f l, cs, hn, h => by simp only [V.now] at hn
  | .junk, cs, hn, h => by simp only [V.now] at hn
theorem mvs_rd (hB : ∀ b, E.B b → E0.B b) (hr : ∀ r g u, γ r = some g → E.ref[r]? = some (g, u) → E0.ref[(ρ r).1]? = some ((ρ r).2, u)) (hγ : ∀ r g, γ r = some g → ∃ u, E.ref[r]? = some (g, u)) : ∀ {l : List V} {cs : List Value}, V.nows γ l → RdL E w l cs → RdL E0 w (V.mvs ρ l) cs
  | [], cs, hn, h => by simp only [RdL, V.mvs] at h ⊢; exact h
  | x :: l, cs, hn, h => by
    simp only [V.nows] at hn
    simp only [RdL, V.mvs] at h ⊢
    obtain ⟨c, ys, h1, h2, h3⟩ := h
    exact ⟨c, ys, h1, mv_rd hB hr hγ hn.1 h2, mvs_rd hB hr hγ hn.2 h3⟩
end
mutual
theorem mvT_rd (hB : ∀ b, E.B b → E0.B b) (hr : ∀ r g u, γ r = some g → E.ref[r]? = some (g, u) → E0.ref[(ρ r).1]? = some ((ρ r).2, u)) (hγ : ∀ r g, γ r = some g → ∃ u, E.ref[r]? = some (g, u)) : ∀ {x : V} {v : Value}, x.now γ → RdT E w x v → RdT E0 w (x.mv ρ) v
  | .own r g, v, hn, h => by
    have := mv_rd (x := .own r g) (cs := [v]) hB hr hγ hn (by simpa only [RdT] using h)
    simpa only [V.mv, RdT] using this
  | .ptr r g p o, v, hn, h => by
    have := mv_rd (x := .ptr r g p o) (cs := [v]) hB hr hγ hn (by simpa only [RdT] using h)
    simpa only [V.mv, RdT] using this
  | .agg l, v, hn, h => by
    simp only [RdT] at h
    obtain ⟨cs, h1, h2⟩ := h
    have := mv_rd hB hr hγ hn h2
    simp only [V.mv] at this
    simp only [RdT, V.mv]
    exact ⟨cs, h1, this⟩
  | .arr s l, v, hn, h => by
    simp only [RdT] at h
    obtain ⟨cs, h1, h2⟩ := h
    have := mv_rd hB hr hγ hn h2
    simp only [V.mv] at this
    simp only [RdT, V.mv]
    exact ⟨cs, h1, this⟩
  | .tup l, v, hn, h => by
    simp only [V.now] at hn
    simp only [RdT, V.mv] at h ⊢
    obtain ⟨vs, h1, h2⟩ := h
    exact ⟨vs, h1, mvTs_rd hB hr hγ hn h2⟩
  | .sl t s l, v, hn, h => lowT_rdS hB (x := .sl t s l) rfl h
  | .int k n, v, hn, h => by simp only [RdT, RdV, V.mv] at h ⊢; exact h
  | .bool b, v, hn, h => by simp only [RdT, RdV, V.mv] at h ⊢; exact h
  | .str s, v, hn, h => by simp only [RdT, RdV, V.mv] at h ⊢; exact h
  | .nilS, v, hn, h => by simp only [RdT, RdV, V.mv] at h ⊢; exact h
  | .osl r g s a b, v, hn, h => by simp only [V.now] at hn
  | .rp x, v, hn, h => by
    have := mv_rd (x := .rp x) (cs := [v]) hB hr hγ hn (by simpa only [RdT] using h)
    simpa only [V.mv, RdT] using this
  | .fn f, v, hn, h => by simp only [RdT, RdV, V.mv] at h ⊢; exact h
  | .clo f l, v, hn, h => by simp only [V.now] at hn
  | .junk, v, hn, h => by simp only [V.now] at hn
theorem mvTs_rd (hB : ∀ b, E.B b → E0.B b) (hr : ∀ r g u, γ r = some g → E.ref[r]? = some (g, u) → E0.ref[(ρ r).1]? = some ((ρ r).2, u)) (hγ : ∀ r g, γ r = some g → ∃ u, E.ref[r]? = some (g, u)) : ∀ {l : List V} {vs : List Value}, V.nows γ l → RdTs E w l vs → RdTs E0 w (V.mvs ρ l) vs
  | [], vs, hn, h => by simp only [RdTs, V.mvs] at h ⊢; exact h
  | x :: l, vs, hn, h => by
    simp only [V.nows] at hn
    simp only [RdTs, V.mvs] at h ⊢
    obtain ⟨v, ys, h1, h2, h3⟩ := h
    exact ⟨v, ys, h1, mvT_rd hB hr hγ hn.1 h2, mvTs_rd hB hr hγ hn.2 h3⟩
end
end
def FncI (P : Program) (f : FuncId) (ob : List Ob) (xs : List V) (R : V → List Ob → Prop) : Prop :=
  ∀ (w : World) (S lent : Nat → Prop) (E : Env) (vs : List Value), vs.length = xs.length → Rel ⟨w, lent, S⟩ E ⟨xs.length, ents 0 xs, ob⟩ ⟨vs.toArray, []⟩ w →
    Calls P f vs.toArray w fun e w' => ∃ x ob' v E', R x ob' ∧ e = .returned v ∧ Rel ⟨w, lent, S⟩ E' ⟨1, [(0, x)], ob'⟩ ⟨#[v], []⟩ w'
def postI (P : Program) (f : FuncId) (W : World) (lent S : Nat → Prop) (R0 : V → List Ob → Prop) : Exit → Act → World → Prop := fun e a w =>
  ∀ fn, P.funcs[f]? = some fn → bodyPost P fn (fun e w' => ∃ x ob' v E', R0 x ob' ∧ e = .returned v ∧ Rel ⟨W, lent, S⟩ E' ⟨1, [(0, x)], ob'⟩ ⟨#[v], []⟩ w') e a w
section
variable {P : Program} {cx : Cx} {E : Env} {σ : AS} {a : Act} {w : World}
theorem FncI.intro {f : FuncId} {n : Nat} {m : MC} {rs : List POp} {ob : List Ob} {xs : List V} {R0 : V → List Ob → Prop} (hc : compF P f = some (n, m, rs)) (hx : xs.length ≤ n)
    (h : ∀ W lent S, Ev P ⟨W, lent, S⟩ n (postI P f W lent S R0) [.code m] ⟨n, ents 0 xs, ob⟩) : FncI P f ob xs R0 := by
  intro W S lent E vs hl R0'
  have hc' := hc
  unfold compF at hc
  split at hc
  · rename_i fn hfn
    split at hc
    · rename_i c hb
      split at hc
      · rename_i h1 h2
        simp only [Option.some.injEq, Prod.mk.injEq] at hc
        obtain ⟨rfl, rfl, rfl⟩ := hc
        refine calls_of_wp hfn hb ?_
        have R : Rel ⟨W, lent, S⟩ E ⟨fn.ntmps, ents 0 xs, ob⟩ { tmps := vs.toArray ++ Array.replicate (fn.ntmps - vs.toArray.size) undef, defers := [] } W := by
          refine ⟨rfl, by simp [hl]; omega, fun j => ?_, R0'.len, R0'.ob, R0'.sep, R0'.lt, R0'.fr, R0'.old, R0'.keep⟩
          have h1 := R0'.tm j
          by_cases hj : j < vs.length
          · have e : (vs.toArray ++ Array.replicate (fn.ntmps - vs.toArray.size) undef).getD j undef = vs.toArray.getD j undef := by
              have hj' : j < vs.toArray.size := by simpa using hj
              simp only [Array.getD_eq_getD_getElem?, Array.getElem?_append, hj', if_true]
            rw [e]; exact h1
          · have e : slotV (ents 0 xs) j = .junk := by
              rw [slotV_ents, if_pos (Nat.zero_le _), Nat.sub_zero]
              simp [List.getD_eq_getElem?_getD, List.getElem?_eq_none (show xs.length ≤ j by omega)]
            show RdT E W (slotV (ents 0 xs) j) _
            rw [e]
            simp only [RdT]
        have := (h W lent S).h rfl _ _ _ R
        rw [wpS_code] at this
        refine wp_mono (this c h1) fun e a w hq => ?_
        cases e with
        | normal => simp only [onX, wpS] at hq; exact hq fn hfn
        | exit id => simp only [onX, exitS] at hq; exact hq fn hfn
        | goto l => exact hq fn hfn
        | ret => exact hq fn hfn
        | panic c => exact hq fn hfn
        | outgrown => exact hq fn hfn
      · cases hc
    · cases hc
  · cases hc
theorem Rel.lowObs {x : V} {ob : List Ob} {v : Value} (R : Rel cx E ⟨1, [(0, x)], ob⟩ ⟨#[v], []⟩ w) : Rel cx E ⟨1, [(0, x.low)], ob.map Ob.low⟩ ⟨#[v], []⟩ w := by
  have ol : ∀ (r : Nat) (o : Ob), (ob.map Ob.low)[r]? = some o → ∃ o1, ob[r]? = some o1 ∧ o = o1.low := by
    intro r o h
    rw [List.getElem?_map, Option.map_eq_some_iff] at h
    obtain ⟨o1, h, rfl⟩ := h
    exact ⟨o1, h, rfl⟩
  refine ⟨R.df, R.n, fun i => ?_, by have := R.len; simpa using this, fun r o hr => ?_, fun r r' o o' g g' u u' b k1 k2 k3 k4 k5 k6 k7 k8 k9 => ?_, R.lt, R.fr, R.old, R.keep⟩
  · have := R.tm i
    cases i with
    | zero =>
      simp only [slotV, if_true] at this ⊢
      exact lowET_rd this
    | succ i =>
      have e : slotV [(0, x.low)] (i + 1) = .junk := by simp [slotV]
      show RdT _ _ (slotV [(0, x.low)] (i + 1)) _
      rw [e]
      simp only [RdT]
  · obtain ⟨o1, h, rfl⟩ := ol r o hr
    obtain ⟨u, k1, k2⟩ := R.ob r o1 h
    refine ⟨u, k1, ?_⟩
    unfold OkO at k2 ⊢
    simp only [Ob.low]
    split at k2
    · rename_i q T hk
      obtain ⟨b, cs, m1, m2, m3, m4, m5⟩ := k2
      exact ⟨b, cs, m1, m2, lowE_rd m3, m4, by rw [V.low_pure]; exact m5⟩
    · obtain ⟨s, l, xs, m1, m2, m3, m4, m5, m6, m7, m8⟩ := k2
      have hl : (V.lows l).length = l.length := by simp [lows_map]
      exact ⟨s, V.lows l, xs, by rw [m1]; rfl, by rw [V.lows_pures]; exact m2, unif_lows m3, m4, by omega, by rw [hl]; exact m6, lowsE_rd m7, m8⟩
    · obtain ⟨m0, s, l, xs, m1, m3, m4, m5, m6, m7, m8⟩ := k2
      have hl : (V.lows l).length = l.length := by simp [lows_map]
      exact ⟨m0, s, V.lows l, xs, by rw [m1]; rfl, unif_lows m3, m4, by omega, by rw [hl]; exact m6, lowsE_rd m7, m8⟩
  · obtain ⟨o1, q1, rfl⟩ := ol r o k2
    obtain ⟨o2, q2, rfl⟩ := ol r' o' k3
    exact R.sep r r' o1 o2 g g' u u' b k1 q1 q2 k4 k5 k6 k7 k8 k9
theorem Rel.one {n : Nat} {t : List (Nat × V)} {ob : List Ob} (R : Rel cx E ⟨n, t, ob⟩ a w) {y : V} {v : Value} (k2 : RdT E w y v) : Rel cx E ⟨1, [(0, y)], ob⟩ ⟨#[v], []⟩ w := by
  refine ⟨rfl, rfl, fun i => ?_, R.len, R.ob, R.sep, R.lt, R.fr, R.old, R.keep⟩
  cases i with
  | zero => simpa [slotV] using k2
  | succ i =>
    show RdT E w (slotV [(0, _)] (i + 1)) _
    simp only [slotV]
    rw [if_neg (by omega)]
    simp only [RdT]
theorem ev_retI {f : FuncId} {W : World} {lent S : Nat → Prop} {R0 : V → List Ob → Prop} {n0 N n : Nat} {m : MC} {rs : List POp} {k : List It} {t : List (Nat × V)} {ob : List Ob} (q : Nat) (hc : compF P f = some (n0, m, rs)) (h : (retV ⟨n, t, ob⟩ rs).2 ∧ q ≤ ob.length ∧ (retV ⟨n, t, ob⟩ rs).1.scp q = true ∧ scpO q (ob.take q) = true ∧ R0 (retV ⟨n, t, ob⟩ rs).1.low ((ob.take q).map Ob.low)) : Ev P ⟨W, lent, S⟩ N (postI P f W lent S R0) (.code .ret :: k) ⟨n, t, ob⟩ := by
  obtain ⟨hcc, hq, hsy, hso, h⟩ := h
  refine ev_ret fun E a w R fn hfn => ?_
  unfold compF at hc
  rw [hfn] at hc
  simp only at hc
  split at hc
  · split at hc
    · rename_i h1 h2
      simp only [Option.some.injEq, Prod.mk.injEq] at hc
      obtain ⟨_, _, rfl⟩ := hc
      obtain ⟨v, k1, k2⟩ := ret_sound R h2 hcc
      exact bodyPost_ret k1 R.df ⟨_, _, v, _, h, rfl, (((R.one k2).cut q hq (fun i => by cases i with
        | zero => simpa [slotV] using hsy
        | succ i => simp [slotV, V.scp]) (scpO_all hso)).lowObs)⟩
    · cases hc
  · cases hc
theorem ev_endI {f : FuncId} {W : World} {lent S : Nat → Prop} {R0 : V → List Ob → Prop} {n0 N n : Nat} {m : MC} {rs : List POp} {t : List (Nat × V)} {ob : List Ob} (q : Nat) (hc : compF P f = some (n0, m, rs)) (h : (retV ⟨n, t, ob⟩ rs).2 ∧ q ≤ ob.length ∧ (retV ⟨n, t, ob⟩ rs).1.scp q = true ∧ scpO q (ob.take q) = true ∧ R0 (retV ⟨n, t, ob⟩ rs).1.low ((ob.take q).map Ob.low)) : Ev P ⟨W, lent, S⟩ N (postI P f W lent S R0) [] ⟨n, t, ob⟩ := by
  obtain ⟨hcc, hq, hsy, hso, h⟩ := h
  refine ⟨fun _ E a w R => ?_⟩
  simp only [wpS]
  intro fn hfn
  unfold compF at hc
  rw [hfn] at hc
  simp only at hc
  split at hc
  · split at hc
    · rename_i h1 h2
      simp only [Option.some.injEq, Prod.mk.injEq] at hc
      obtain ⟨_, _, rfl⟩ := hc
      obtain ⟨v, k1, k2⟩ := ret_sound R h2 hcc
      change bodyPost P _ (fun e w' => ∃ x ob' v E', R0 x ob' ∧ e = .returned v ∧ Rel ⟨W, lent, S⟩ E' ⟨1, [(0, x)], ob'⟩ ⟨#[v], []⟩ w') .ret a w
      exact bodyPost_ret k1 R.df ⟨_, _, v, _, h, rfl, (((R.one k2).cut q hq (fun i => by cases i with
        | zero => simpa [slotV] using hsy
        | succ i => simp [slotV, V.scp]) (scpO_all hso)).lowObs)⟩
    · cases hc
  · cases hc
end
def posO : List Nat → Nat → Nat
  | [], _ => 0
  | q :: l, r => if q = r then 0 else posO l r + 1
def gensO (ob : List Ob) (r : Nat) : Option Nat := match ob[r]? with | some o => some o.g | none => none
def gensS (σ : AS) (rs : List Nat) (r : Nat) : Option Nat := if rs.contains r = true then gensO σ.ob r else none
def sendK : OK → OK
  | .box _ T => .box true T
  | .row e => .rows true e
  | .rows _ e => .rows true e
def sendO (σ : AS) (rs : List Nat) : List Nat → List Ob
  | [] => []
  | r :: l => (match σ.ob[r]? with | some o => ⟨sendK o.k, true, 0, o.v.mv fun q => (posO rs q, 0)⟩ | none => ⟨.row 0, true, 0, .junk⟩) :: sendO σ rs l
def sendOk (σ : AS) (rs : List Nat) : List Nat → Prop
  | [] => True
  | r :: l => l.contains r = false ∧ (match σ.ob[r]? with | some o => o.live = true ∧ o.v.now (gensS σ rs) | none => False) ∧ sendOk σ rs l
def noVar (σ : AS) : List Nat → Prop
  | [] => True
  | r :: l => (match σ.ob[r]? with | some ⟨.box _ _, _, _, _⟩ => False | _ => True) ∧ noVar σ l
def freshK : OK → Bool
  | .box q _ => !q
  | .row _ => true
  | .rows q _ => !q
def freshO (σ : AS) : List Nat → Bool
  | [] => true
  | r :: l => (match σ.ob[r]? with | some o => freshK o.k | none => false) && freshO σ l
def kindsB (σ : AS) : List Nat → List Ob → Prop
  | [], _ => True
  | r :: l, o :: os => (match σ.ob[r]? with | some o0 => o.k = sendK o0.k | none => False) ∧ o.live = true ∧ kindsB σ l os
  | _ :: _, [] => False
def newK : OK → Bool
  | .box q _ => !q
  | .row _ => true
  | .rows q _ => !q
def obsNow (γ : Nat → Option Nat) : List Ob → Prop
  | [] => True
  | o :: l => o.v.now γ ∧ obsNow γ l
def newOk : Nat → List Ob → Prop
  | _, [] => True
  | 0, o :: l => newK o.k = true ∧ newOk 0 l
  | n + 1, _ :: l => newOk n l
def newG (σ : AS) (r : Nat) : Nat := match σ.ob[r]? with
  | some ⟨.box _ _, _, g, _⟩ => g
  | some ⟨_, _, g, _⟩ => g + 1
  | none => 0
def backK (q : Bool) : OK → OK
  | .box q' T => .box q' T
  | .row e => .rows q e
  | .rows _ e => .rows q e
def backR (σ : AS) (rs : List Nat) (ob1 : List Ob) (p : Nat) : Nat × Nat := match rs[p]? with
  | some r => (r, newG σ r)
  | none => (σ.ob.length + (p - rs.length), (gensO ob1 p).getD 0)
def setL {α : Type} (f : Nat → α → α) (h : α → α) : List Nat → List α → List α → List α
  | [], us, acc => acc ++ us.map h
  | r :: l, u :: us, acc => setL f h l us (acc.set r (f r u))
  | _ :: _, [], acc => acc
def bkO (σ : AS) (rs : List Nat) (ob1 : List Ob) (r : Nat) (o : Ob) : Ob := match σ.ob[r]? with
  | some o0 => ⟨backK (!freshO σ rs) o0.k, true, newG σ r, o.v.mv (backR σ rs ob1)⟩
  | none => o
def bkN (σ : AS) (rs : List Nat) (ob1 : List Ob) (o : Ob) : Ob := ⟨o.k, o.live, o.g, o.v.mv (backR σ rs ob1)⟩
def backO (σ : AS) (rs : List Nat) (ob1 : List Ob) : List Ob := setL (bkO σ rs ob1) (bkN σ rs ob1) rs ob1 σ.ob
section
variable {α : Type} {f : Nat → α → α} {h : α → α}
theorem setL_old : ∀ {rs : List Nat} {us acc : List α} {i : Nat}, i < acc.length → i ∉ rs → (setL f h rs us acc)[i]? = acc[i]?
  | [], us, acc, i, hi, _ => by rw [setL, List.getElem?_append_left hi]
  | r :: l, [], acc, i, hi, _ => rfl
  | r :: l, u :: us, acc, i, hi, hn => by
    rw [setL, setL_old (by simpa using hi) (fun hm => hn (by simp [hm])), List.getElem?_set_ne (fun e => hn (by simp [e]))]
theorem setL_at : ∀ {rs : List Nat} {us acc : List α} {p i : Nat} {u : α}, rs.Nodup → i < acc.length → rs[p]? = some i → us[p]? = some u → (setL f h rs us acc)[i]? = some (f i u)
  | [], us, acc, p, i, u, _, hi, hp, _ => by simp at hp
  | r :: l, [], acc, p, i, u, _, hi, hp, hu => by simp at hu
  | r :: l, v :: us, acc, 0, i, u, hd, hi, hp, hu => by
    simp only [List.getElem?_cons_zero, Option.some.injEq] at hp hu
    subst hp hu
    rw [setL, setL_old (by simpa using hi) (List.nodup_cons.1 hd).1, List.getElem?_set_self hi]
  | r :: l, v :: us, acc, p + 1, i, u, hd, hi, hp, hu => by
    simp only [List.getElem?_cons_succ] at hp hu
    rw [setL]
    exact setL_at (List.nodup_cons.1 hd).2 (by simpa using hi) hp hu
theorem setL_new : ∀ {rs : List Nat} {us acc : List α} {j : Nat}, rs.length ≤ us.length → (setL f h rs us acc)[acc.length + j]? = (us[rs.length + j]?).map h
  | [], us, acc, j, _ => by rw [setL, List.getElem?_append_right (by omega)]; simp
  | r :: l, [], acc, j, hl => by simp at hl
  | r :: l, u :: us, acc, j, hl => by
    have := setL_new (rs := l) (us := us) (acc := acc.set r (f r u)) (j := j) (by simpa using hl)
    rw [List.length_set] at this
    rw [setL, this, List.length_cons, show l.length + 1 + j = (l.length + j) + 1 by omega, List.getElem?_cons_succ]
theorem setL_len : ∀ {rs : List Nat} {us acc : List α}, rs.length ≤ us.length → (setL f h rs us acc).length = acc.length + (us.length - rs.length)
  | [], us, acc, _ => by rw [setL]; simp
  | r :: l, [], acc, hl => by simp at hl
  | r :: l, u :: us, acc, hl => by rw [setL, setL_len (by simpa using hl)]; simp
end
theorem posO_at : ∀ {rs : List Nat} {r : Nat}, r ∈ rs → rs[posO rs r]? = some r
  | [], r, h => by simp at h
  | q :: l, r, h => by
    rw [posO]
    split
    · rename_i e; subst e; rfl
    · rename_i e
      rw [List.getElem?_cons_succ]
      exact posO_at ((List.mem_cons.1 h).resolve_left fun h => e h.symm)
section
variable {σ : AS}
theorem sendOk_at {rs : List Nat} : ∀ {l : List Nat}, sendOk σ rs l → ∀ r ∈ l, ∃ o : Ob, σ.ob[r]? = some o ∧ o.live = true ∧ o.v.now (gensS σ rs)
  | [], _, r, hr => by simp at hr
  | q :: l, h, r, hr => by
    obtain ⟨_, h2, h3⟩ := h
    rcases List.mem_cons.1 hr with rfl | hr
    · split at h2
      · rename_i o ho; exact ⟨o, ho, h2⟩
      · exact h2.elim
    · exact sendOk_at h3 r hr
theorem sendOk_nd {rs : List Nat} : ∀ {l : List Nat}, sendOk σ rs l → l.Nodup
  | [], _ => List.nodup_nil
  | q :: l, h => by
    obtain ⟨h1, _, h3⟩ := h
    exact List.nodup_cons.2 ⟨fun hm => (by rw [List.contains_iff_mem.2 hm] at h1; cases h1), sendOk_nd h3⟩
theorem sendO_at {rs : List Nat} : ∀ {l : List Nat} {p r : Nat} {o : Ob}, l[p]? = some r → σ.ob[r]? = some o → (sendO σ rs l)[p]? = some ⟨sendK o.k, true, 0, o.v.mv fun q => (posO rs q, 0)⟩
  | [], p, r, o, h, _ => by simp at h
  | q :: l, 0, r, o, h, ho => by
    simp only [List.getElem?_cons_zero, Option.some.injEq] at h
    subst h
    simp only [sendO, ho, List.getElem?_cons_zero]
  | q :: l, p + 1, r, o, h, ho => by
    rw [List.getElem?_cons_succ] at h
    simp only [sendO, List.getElem?_cons_succ]
    exact sendO_at h ho
theorem sendO_len {rs : List Nat} : ∀ {l : List Nat}, (sendO σ rs l).length = l.length
  | [] => rfl
  | q :: l => by simp only [sendO, List.length_cons, sendO_len]
theorem noVar_at : ∀ {l : List Nat}, noVar σ l → ∀ r ∈ l, ∀ q T lv g v, σ.ob[r]? ≠ some ⟨.box q T, lv, g, v⟩
  | [], _, r, hr => by simp at hr
  | p :: l, h, r, hr => by
    obtain ⟨h1, h2⟩ := h
    rcases List.mem_cons.1 hr with rfl | hr
    · intro q T lv g v e
      rw [e] at h1
      exact h1
    · exact noVar_at h2 r hr
theorem freshO_at : ∀ {l : List Nat}, freshO σ l = true → ∀ r ∈ l, ∀ o : Ob, σ.ob[r]? = some o → freshK o.k = true
  | [], _, r, hr => by simp at hr
  | p :: l, h, r, hr => by
    simp only [freshO, Bool.and_eq_true] at h
    intro o ho
    rcases List.mem_cons.1 hr with rfl | hr
    · have := h.1
      rw [ho] at this
      exact this
    · exact freshO_at h.2 r hr o ho
theorem kindsB_at : ∀ {l : List Nat} {os : List Ob}, kindsB σ l os → ∀ (p r : Nat), l[p]? = some r → ∃ (o o0 : Ob), os[p]? = some o ∧ σ.ob[r]? = some o0 ∧ o.k = sendK o0.k ∧ o.live = true
  | [], os, _, p, r, h => by simp at h
  | q :: l, [], h, p, r, _ => h.elim
  | q :: l, o :: os, h, p, r, hp => by
    obtain ⟨h1, h2, h3⟩ := h
    cases p with
    | zero =>
      simp only [List.getElem?_cons_zero, Option.some.injEq] at hp
      subst hp
      split at h1
      · rename_i o0 ho; exact ⟨o, o0, rfl, ho, h1, h2⟩
      · exact h1.elim
    | succ p =>
      rw [List.getElem?_cons_succ] at hp
      simpa using kindsB_at h3 p r hp
theorem kindsB_len : ∀ {l : List Nat} {os : List Ob}, kindsB σ l os → l.length ≤ os.length
  | [], os, _ => by simp
  | q :: l, [], h => h.elim
  | q :: l, o :: os, h => by have := kindsB_len h.2.2; simp; omega
theorem obsNow_at {γ : Nat → Option Nat} : ∀ {l : List Ob}, obsNow γ l → ∀ o ∈ l, o.v.now γ
  | [], _, o, h => by simp at h
  | q :: l, h, o, ho => by
    rcases List.mem_cons.1 ho with rfl | ho
    · exact h.1
    · exact obsNow_at h.2 o ho
theorem newOk_at : ∀ {n : Nat} {l : List Ob}, newOk n l → ∀ (p : Nat) (o : Ob), n ≤ p → l[p]? = some o → newK o.k = true
  | n, [], _, p, o, _, h => by simp at h
  | 0, q :: l, h, p, o, _, ho => by
    cases p with
    | zero => simp only [List.getElem?_cons_zero, Option.some.injEq] at ho; subst ho; exact h.1
    | succ p => rw [List.getElem?_cons_succ] at ho; exact newOk_at (n := 0) h.2 p o (Nat.zero_le _) ho
  | n + 1, q :: l, h, p, o, hn, ho => by
    cases p with
    | zero => omega
    | succ p => rw [List.getElem?_cons_succ] at ho; exact newOk_at (n := n) h p o (by omega) ho
end
section
variable {P : Program} {cx : Cx} {E : Env} {σ : AS} {a : Act} {w w' : World}
theorem OkO.wrF {o : Ob} {u : Value} (h : OkO cx E w o u) (hk : freshK o.k = true) {b : Nat} (hb : blk u = some b) : cx.W.heap.size ≤ b := by
  unfold OkO at h
  split at h
  · rename_i q T hk'
    obtain ⟨b', cs, rfl, h2, _, h4, h5⟩ := h
    simp only [blk, Option.some.injEq] at hb
    subst hb
    rw [hk'] at hk
    cases q with
    | true => simp [freshK] at hk
    | false => simpa using h4
  · obtain ⟨s, l, xs, h1, h2, h3, h4, h5, h6, h7, h8⟩ := h
    rcases h6.2 with ⟨rfl, _⟩ | ⟨g, cap, cur, rfl, k1, k2, k3⟩
    · simp [blk] at hb
    · simp only [blk, Option.some.injEq] at hb
      subst hb
      exact k1
  · rename_i q e hk'
    obtain ⟨h0, s, l, xs, h1, h3, h4, h5, h6, h7, h8⟩ := h
    rw [hk'] at hk
    cases q with
    | true => simp [freshK] at hk
    | false =>
      rcases h6.2 with ⟨rfl, _⟩ | ⟨g, cap, cur, rfl, k1, k2, k3⟩
      · simp [blk] at hb
      · simp only [blk, Option.some.injEq] at hb
        subst hb
        exact k1
def lentI (E : Env) (rs : List Nat) (b : Nat) : Prop := ∃ r ∈ rs, ∃ g u, E.ref[r]? = some (g, u) ∧ blk u = some b
def pinI (E : Env) (σ : AS) (rs : List Nat) (b : Nat) : Prop := ∃ r ∈ rs, ∃ q T lv g v u, σ.ob[r]? = some ⟨.box q T, lv, g, v⟩ ∧ E.ref[r]? = some (g, u) ∧ blk u = some b
def frzI (E : Env) (σ : AS) (w : World) (rs : List Nat) (c : Nat) : Prop := E.B c ∨ (w.heap.size ≤ c ∧ ¬ ∃ b, c = w.heap.size + b ∧ pinI E σ rs b)
def envI (E : Env) (w : World) (rs : List Nat) : Env := ⟨E.B, fun b => w.heap.size ≤ b, rs.map fun r => (0, (E.ref.getD r (0, undef)).2)⟩
theorem envI_ref {rs : List Nat} {p r g : Nat} {u : Value} (hp : rs[p]? = some r) (hu : E.ref[r]? = some (g, u)) : (envI E w rs).ref[p]? = some (0, u) := by
  simp [envI, List.getElem?_map, hp, List.getD_eq_getElem?_getD, hu]
theorem gensS_mem {rs : List Nat} {r g : Nat} (h : gensS σ rs r = some g) : r ∈ rs ∧ ∃ o, σ.ob[r]? = some o ∧ o.g = g := by
  unfold gensS at h
  split at h
  · rename_i hc
    refine ⟨List.contains_iff_mem.1 hc, ?_⟩
    unfold gensO at h
    split at h
    · rename_i o ho
      exact ⟨o, ho, Option.some.inj h⟩
    · cases h
  · cases h
theorem gensO_at {ob : List Ob} {r g : Nat} (h : gensO ob r = some g) : ∃ o, ob[r]? = some o ∧ o.g = g := by
  unfold gensO at h
  split at h
  · rename_i o ho
    exact ⟨o, ho, Option.some.inj h⟩
  · cases h
theorem Rel.sendI (R : Rel cx E σ a w) {rs : List Nat} (hs : sendOk σ rs rs) {xs : List V} {vs : List Value} (hx : RdTs E w xs vs) (hn : V.nows (gensS σ rs) xs) :
    Rel ⟨w, lentI E rs, frzI E σ w rs⟩ (envI E w rs) ⟨(V.mvs (fun q => (posO rs q, 0)) xs).length, ents 0 (V.mvs (fun q => (posO rs q, 0)) xs), sendO σ rs rs⟩ ⟨vs.toArray, []⟩ w := by
  have hr : ∀ r g u, gensS σ rs r = some g → E.ref[r]? = some (g, u) → (envI E w rs).ref[((fun q => (posO rs q, 0)) r : Nat × Nat).1]? = some (((fun q => (posO rs q, 0)) r : Nat × Nat).2, u) := fun r g u h hu => envI_ref (posO_at (gensS_mem h).1) hu
  have hγ : ∀ (r g : Nat), gensS σ rs r = some g → ∃ u : Value, E.ref[r]? = some (g, u) := fun r g h => by
    obtain ⟨_, o, ho, rfl⟩ := gensS_mem h
    obtain ⟨u, h1, _⟩ := R.ob r o ho
    exact ⟨u, h1⟩
  have hB : ∀ b, E.B b → (envI E w rs).B b := fun _ h => h
  have hall := mvTs_rd (E0 := envI E w rs) hB hr hγ hn hx
  have hl := rdTs_len hall
  have at_ : ∀ (p : Nat) (o : Ob), (sendO σ rs rs)[p]? = some o → ∃ (r : Nat) (o0 : Ob) (u : Value), rs[p]? = some r ∧ σ.ob[r]? = some o0 ∧ o0.live = true ∧ o0.v.now (gensS σ rs) ∧ o = ⟨sendK o0.k, true, 0, o0.v.mv fun q => (posO rs q, 0)⟩ ∧ E.ref[r]? = some (o0.g, u) ∧ OkO cx E w o0 u := by
    intro p o h
    have hp : p < rs.length := by
      have := (List.getElem?_eq_some_iff.1 h).1
      rwa [sendO_len] at this
    obtain ⟨o0, h1, h2, h3⟩ := sendOk_at hs rs[p] (List.getElem_mem hp)
    have hp' : rs[p]? = some rs[p] := List.getElem?_eq_getElem hp
    have := sendO_at (rs := rs) hp' h1
    rw [h] at this
    obtain ⟨u, k1, k2⟩ := R.ob _ _ h1
    exact ⟨_, o0, u, hp', h1, h2, h3, Option.some.inj this, k1, k2⟩
  refine ⟨rfl, by simpa using hl, fun j => ?_, by simp [envI, sendO_len], fun p o hp => ?_, fun p p' o o' g g' u u' b hne hp hp' _ _ hu hu' hb hb' => ?_, R.lt, fun b => Iff.rfl, fun b hb _ => .inl hb, Keep.refl _ _⟩
  · show RdT _ w (slotV (ents 0 (V.mvs (fun q => (posO rs q, 0)) xs)) j) _
    rw [slotV_ents, if_pos (Nat.zero_le _), Nat.sub_zero]
    have := rdTs_get j hall
    have e : vs.toArray.getD j undef = vs.getD j undef := by simp [Array.getD_eq_getD_getElem?, List.getD_eq_getElem?_getD]
    rw [e]; exact this
  · obtain ⟨r, o0, u, h1, h2, h3, h4, rfl, h6, h7⟩ := at_ p o hp
    have hm : r ∈ rs := List.mem_of_getElem? h1
    refine ⟨u, envI_ref h1 h6, ?_⟩
    have hnB := fun b hb => h7.live_B (b := b) h3 hb
    have hln : ∀ b, blk u = some b → lentI E rs b := fun b hb => ⟨r, hm, _, u, h6, hb⟩
    unfold OkO at h7 ⊢
    split at h7
    · rename_i q T hk
      obtain ⟨b, cs, rfl, m2, m3, m4, m5⟩ := h7
      rw [hk]
      obtain ⟨kk, lv, g, v⟩ := o0
      dsimp only at hk
      subst hk
      have key : lentI E rs b ∧ ¬ frzI E σ w rs (w.heap.size + b) := by
        refine ⟨hln b rfl, fun hf => ?_⟩
        rcases hf with hf | ⟨_, hf⟩
        · have h8 : w.heap.size + b < w.heap.size := R.lt _ hf
          omega
        · exact hf ⟨b, rfl, r, hm, q, T, lv, g, v, _, h2, h6, rfl⟩
      exact ⟨b, cs, rfl, m2, mv_rd (E0 := envI E w rs) hB hr hγ h4 m3, by rw [if_pos rfl]; exact key, by rw [if_pos rfl]; exact hnB b rfl⟩
    · rename_i e hk
      obtain ⟨s, l, ys, m1, m2, m3, m4, m5, m6, m7, m8⟩ := h7
      rw [hk]
      have hlen : (V.mvs (fun q => (posO rs q, 0)) l).length = l.length := by rw [mvs_map, List.length_map]
      rw [m1] at h4
      refine ⟨rfl, s, V.mvs (fun q => (posO rs q, 0)) l, ys, by dsimp only; rw [m1]; rfl, unif_mvs m3, m4, by omega, by rw [hlen]; exact own_base m6 fun _ _ => Nat.zero_le _, mvs_rd (E0 := envI E w rs) hB hr hγ (by simpa only [V.now] using h4) m7, fun b hb => ⟨hnB b hb, .inr (hln b hb)⟩⟩
    · rename_i q e hk
      obtain ⟨m0, s, l, ys, m1, m3, m4, m5, m6, m7, m8⟩ := h7
      rw [hk]
      have hlen : (V.mvs (fun q => (posO rs q, 0)) l).length = l.length := by rw [mvs_map, List.length_map]
      rw [m1] at h4
      refine ⟨rfl, s, V.mvs (fun q => (posO rs q, 0)) l, ys, by dsimp only; rw [m1]; rfl, unif_mvs m3, m4, by omega, by rw [hlen]; exact own_base m6 fun _ _ => Nat.zero_le _, mvs_rd (E0 := envI E w rs) hB hr hγ (by simpa only [V.now] using h4) m7, fun b hb => ⟨hnB b hb, .inr (hln b hb)⟩⟩
  · obtain ⟨r, o0, v, h1, h2, h3, h4, rfl, h6, h7⟩ := at_ p o hp
    obtain ⟨r', o0', v', k1, k2, k3, k4, rfl, k6, k7⟩ := at_ p' o' hp'
    rw [envI_ref h1 h6] at hu
    rw [envI_ref k1 k6] at hu'
    simp only [Option.some.injEq, Prod.mk.injEq] at hu hu'
    obtain ⟨_, rfl⟩ := hu
    obtain ⟨_, rfl⟩ := hu'
    refine R.sep r r' o0 o0' _ _ _ _ b (fun e => hne ?_) h2 k2 h3 k3 h6 k6 hb hb'
    subst e
    have q1 := (List.getElem?_eq_some_iff.1 h1).1
    exact (List.getElem?_inj q1 (sendOk_nd hs)).1 (h1.trans k1.symm)
theorem Rel.backI (R : Rel cx E σ a w) {r0 : Nat} {rl : List Nat} {rs : List Nat} (hrs : rs = r0 :: rl) (hs : sendOk σ rs rs) (hv : noVar σ rl) {E' : Env} {x : V} {ob1 : List Ob} {v : Value} (R' : Rel ⟨w, lentI E rs, frzI E σ w rs⟩ E' ⟨1, [(0, x)], ob1⟩ ⟨#[v], []⟩ w') (hk : kindsB σ rs ob1) (hn : obsNow (gensO ob1) ob1) (hw : newOk rs.length ob1) (hx : x.now (gensO ob1)) :
    ∃ E'', Leads E w E'' w' ∧ RdT E'' w' (x.mv (backR σ rs ob1)) v ∧ Rel cx E'' { σ with ob := backO σ rs ob1 } a w' := by
  have nd := sendOk_nd hs
  have len' : E'.ref.length = ob1.length := R'.len
  have hlen := kindsB_len hk
  have ltO : ∀ r ∈ rs, r < σ.ob.length := fun r hr => by
    obtain ⟨o, h, _⟩ := sendOk_at hs r hr
    exact (List.getElem?_eq_some_iff.1 h).1
  have ltR : ∀ r ∈ rs, r < E.ref.length := fun r hr => by rw [R.len]; exact ltO r hr
  have hwW : cx.W.heap.size ≤ w.heap.size := R.keep.size
  have hnlB : ∀ b, E.B b → ¬ lentI E rs b := fun b hb ⟨r, hr, g, u, hu, hbu⟩ => by
    obtain ⟨o, h1, h2, _⟩ := sendOk_at hs r hr
    obtain ⟨u', k1, k2⟩ := R.ob r o h1
    rw [hu] at k1
    simp only [Option.some.injEq, Prod.mk.injEq] at k1
    obtain ⟨_, rfl⟩ := k1
    exact k2.live_B h2 hbu hb
  have hBk : ∀ b, b < w.heap.size → ¬ lentI E rs b → w'.heap[b]? = w.heap[b]? := fun b hb hn => R'.keep.block b hb hn
  have hB' : ∀ b, E'.B b → E.B b ∨ w.heap.size ≤ b := fun b hb => by
    by_cases c : b < w.heap.size
    · rcases R'.old b hb c with h | h
      · exact .inl h
      · exact .inr h.1
    · exact .inr (by omega)
  obtain ⟨RF, hRF⟩ : ∃ RF, RF = setL (fun r (gu : Nat × Value) => (newG σ r, gu.2)) id rs E'.ref E.ref := ⟨_, rfl⟩
  have rOld : ∀ i, i < σ.ob.length → i ∉ rs → RF[i]? = E.ref[i]? := fun i hi hm => by rw [hRF]; exact setL_old (by rw [R.len]; exact hi) hm
  have rAt : ∀ (p r : Nat) (gu : Nat × Value), rs[p]? = some r → E'.ref[p]? = some gu → RF[r]? = some (newG σ r, gu.2) := fun p r gu h1 h2 => by rw [hRF]; exact setL_at nd (ltR r (List.mem_of_getElem? h1)) h1 h2
  have rNew : ∀ j, RF[σ.ob.length + j]? = E'.ref[rs.length + j]? := fun j => by
    rw [hRF, ← R.len, setL_new (by rw [len']; exact hlen)]
    simp
  have rLen : RF.length = σ.ob.length + (ob1.length - rs.length) := by
    rw [hRF, setL_len (by rw [len']; exact hlen), R.len, len']
  have oOld : ∀ i, i < σ.ob.length → i ∉ rs → (backO σ rs ob1)[i]? = σ.ob[i]? := fun i hi hm => setL_old hi hm
  have oAt : ∀ (p r : Nat) (o : Ob), rs[p]? = some r → ob1[p]? = some o → (backO σ rs ob1)[r]? = some (bkO σ rs ob1 r o) := fun p r o h1 h2 => setL_at nd (ltO r (List.mem_of_getElem? h1)) h1 h2
  have oNew : ∀ j, (backO σ rs ob1)[σ.ob.length + j]? = (ob1[rs.length + j]?).map (bkN σ rs ob1) := fun j => setL_new hlen
  have oLen : (backO σ rs ob1).length = σ.ob.length + (ob1.length - rs.length) := setL_len hlen
  have hr : ∀ p g u, gensO ob1 p = some g → E'.ref[p]? = some (g, u) → RF[(backR σ rs ob1 p).1]? = some ((backR σ rs ob1 p).2, u) := fun p g u h1 h2 => by
    unfold backR
    split
    · rename_i r hp
      exact rAt p r _ hp h2
    · rename_i hp
      have hp : rs.length ≤ p := List.getElem?_eq_none_iff.1 hp
      dsimp only
      rw [rNew, h1, show rs.length + (p - rs.length) = p by omega, h2]
      rfl
  have hγ : ∀ (p g : Nat), gensO ob1 p = some g → ∃ u : Value, E'.ref[p]? = some (g, u) := fun p g h => by
    obtain ⟨o, ho, rfl⟩ := gensO_at h
    obtain ⟨u, h1, _⟩ := R'.ob p o ho
    exact ⟨u, h1⟩
  have wrI : ∀ (p : Nat) (o : Ob) (u : Value) (b : Nat), ob1[p]? = some o → E'.ref[p]? = some (o.g, u) → blk u = some b → w.heap.size ≤ b ∨ lentI E rs b := fun p o u b h1 h2 h3 => by
    obtain ⟨u', k1, k2⟩ := R'.ob p o h1
    have k1 : E'.ref[p]? = some (o.g, u') := k1
    rw [h2] at k1
    simp only [Option.some.injEq, Prod.mk.injEq, true_and] at k1
    subst k1
    exact k2.wr h3
  -- a variable stays where it is
  have var : ∀ (p r : Nat) (q : Bool) (T : TypeId) (lv : Bool) (g : Nat) (v : V) (o1 : Ob) (u1 : Value), rs[p]? = some r → σ.ob[r]? = some ⟨.box q T, lv, g, v⟩ → ob1[p]? = some o1 → E'.ref[p]? = some (o1.g, u1) → E.ref[r]? = some (g, u1) := by
    intro p r q T lv g v o1 u1 h1 h2 h3 h4
    obtain ⟨u', k1, k2⟩ := R'.ob p o1 h3
    have k1 : E'.ref[p]? = some (o1.g, u') := k1
    rw [h4] at k1
    simp only [Option.some.injEq, Prod.mk.injEq, true_and] at k1
    subst k1
    obtain ⟨o, o0, m1, m2, m3, m4⟩ := kindsB_at hk p r h1
    rw [h3] at m1
    obtain rfl := Option.some.inj m1
    rw [h2] at m2
    obtain rfl := Option.some.inj m2
    unfold OkO at k2
    rw [m3] at k2
    simp only [sendK] at k2
    obtain ⟨b1, cs, rfl, n2, n3, n4, n5⟩ := k2
    rw [if_pos trivial] at n4
    have n6 : ∃ b, w.heap.size + b1 = w.heap.size + b ∧ pinI E σ rs b := Classical.byContradiction fun hc => n4.2 (.inr ⟨by show w.heap.size ≤ w.heap.size + b1; omega, hc⟩)
    obtain ⟨b, e, r', hm', q', T', lv', g', v', u', p1, p2, p3⟩ := n6
    have e : b = b1 := by omega
    subst e
    have is0 : ∀ r ∈ rs, ∀ q T lv g v, σ.ob[r]? = some ⟨.box q T, lv, g, v⟩ → r = r0 := fun r hr q T lv g v h => by
      rw [hrs] at hr
      rcases List.mem_cons.1 hr with h' | h'
      · exact h'
      · exact absurd h (noVar_at hv r h' q T lv g v)
    have e1 := is0 r (List.mem_of_getElem? h1) _ _ _ _ _ h2
    have e2 := is0 r' hm' _ _ _ _ _ p1
    rw [e2, ← e1] at p1 p2
    rw [h2] at p1
    injection p1 with p1
    injection p1 with a1 a2 a3 a4
    subst a3
    rw [p2]
    obtain ⟨u0, q1, q2⟩ := R.ob r _ h2
    rw [p2] at q1
    simp only [Option.some.injEq, Prod.mk.injEq, true_and] at q1
    subst q1
    unfold OkO at q2
    obtain ⟨b', cs', rfl, _⟩ := q2
    simp only [blk, Option.some.injEq] at p3
    subst p3
    rfl
  have L : Leads E w ⟨fun b => E.B b ∨ E'.B b, E.F, RF⟩ w' := by
    refine ⟨fun b hb => ⟨.inl hb, hBk b (R.lt b hb) (hnlB b hb)⟩, fun _ h => h, by show E.ref.length ≤ RF.length; rw [rLen, R.len]; omega, fun r g u hlt h => ?_⟩
    have h : RF[r]? = some (g, u) := h
    by_cases hm : r ∈ rs
    · obtain ⟨p, hp⟩ := List.mem_iff_getElem?.1 hm
      obtain ⟨o1, o0, m1, m2, m3, m4⟩ := kindsB_at hk p r hp
      obtain ⟨u1, k1, k2⟩ := R'.ob p o1 m1
      have k1 : E'.ref[p]? = some (o1.g, u1) := k1
      obtain ⟨u0, j1, j2⟩ := R.ob r o0 m2
      rw [rAt p r _ hp k1] at h
      simp only [Option.some.injEq, Prod.mk.injEq] at h
      obtain ⟨rfl, rfl⟩ := h
      obtain ⟨kk, lv, g0, v0⟩ := o0
      refine ⟨g0, u0, j1, ?_, fun e => ?_⟩
      · unfold newG; rw [m2]; cases kk <;> simp
      · cases kk with
        | box q T =>
          have := var p r q T lv g0 v0 o1 u1 hp m2 m1 k1
          rw [j1] at this
          simpa using this
        | row e' => unfold newG at e; rw [m2] at e; simp only at e; omega
        | rows q e' => unfold newG at e; rw [m2] at e; simp only at e; omega
    · rw [rOld r (by rw [← R.len]; exact hlt) hm] at h
      exact ⟨g, u, h, Nat.le_refl _, fun _ => rfl⟩
  have hBB : ∀ b, E'.B b → (⟨fun b => E.B b ∨ E'.B b, E.F, RF⟩ : Env).B b := fun b hb => .inr hb
  have nB : ∀ b, ¬ E'.B b → (w.heap.size ≤ b ∨ lentI E rs b) → ¬ (E.B b ∨ E'.B b) := fun b h1 h2 h => by
    rcases h with h | h
    · rcases h2 with h2 | h2
      · have := R.lt b h; omega
      · exact hnlB b h h2
    · exact h1 h
  have lentW : ∀ b, lentI E rs b → cx.W.heap.size ≤ b ∨ cx.lent b := fun b ⟨r, hr, g, u, hu, hbu⟩ => by
    obtain ⟨o, h1, h2, _⟩ := sendOk_at hs r hr
    obtain ⟨u', k1, k2⟩ := R.ob r o h1
    rw [hu] at k1
    simp only [Option.some.injEq, Prod.mk.injEq] at k1
    obtain ⟨_, rfl⟩ := k1
    exact k2.wr hbu
  have lentF : freshO σ rs = true → ∀ b, lentI E rs b → cx.W.heap.size ≤ b := fun hf b ⟨r, hr, g, u, hu, hbu⟩ => by
    obtain ⟨o, h1, h2, _⟩ := sendOk_at hs r hr
    obtain ⟨u', k1, k2⟩ := R.ob r o h1
    rw [hu] at k1
    simp only [Option.some.injEq, Prod.mk.injEq] at k1
    obtain ⟨_, rfl⟩ := k1
    exact k2.wrF (freshO_at hf r hr o h1) hbu
  -- where an object of the new state comes from
  have from_ : ∀ (i : Nat) (o : Ob), (backO σ rs ob1)[i]? = some o → (i < σ.ob.length ∧ i ∉ rs ∧ σ.ob[i]? = some o ∧ RF[i]? = E.ref[i]?) ∨ (∃ (p : Nat) (o1 : Ob) (u1 : Value), ob1[p]? = some o1 ∧ E'.ref[p]? = some (o1.g, u1) ∧ OkO ⟨w, lentI E rs, frzI E σ w rs⟩ E' w' o1 u1 ∧ (o1.live = true ∨ o1.live = o.live) ∧ RF[i]? = some (o.g, u1) ∧ (i = (backR σ rs ob1 p).1) ∧
      ((∃ (r : Nat) (o0 : Ob), i = r ∧ rs[p]? = some r ∧ σ.ob[r]? = some o0 ∧ o1.k = sendK o0.k ∧ o1.live = true ∧ o = bkO σ rs ob1 r o1) ∨ (rs.length ≤ p ∧ i = σ.ob.length + (p - rs.length) ∧ newK o1.k = true ∧ o = bkN σ rs ob1 o1))) := by
    intro i o h
    by_cases hi : i < σ.ob.length
    · by_cases hm : i ∈ rs
      · obtain ⟨p, hp⟩ := List.mem_iff_getElem?.1 hm
        obtain ⟨o1, o0, m1, m2, m3, m4⟩ := kindsB_at hk p i hp
        obtain ⟨u1, k1, k2⟩ := R'.ob p o1 m1
        have k1 : E'.ref[p]? = some (o1.g, u1) := k1
        rw [oAt p i o1 hp m1] at h
        obtain rfl := Option.some.inj h
        have eg : (bkO σ rs ob1 i o1).g = newG σ i := by unfold bkO; rw [m2]
        refine .inr ⟨p, o1, u1, m1, k1, k2, .inl m4, by rw [rAt p i _ hp k1, eg], by unfold backR; rw [hp], .inl ⟨i, o0, rfl, hp, m2, m3, m4, rfl⟩⟩
      · rw [oOld i hi hm] at h
        exact .inl ⟨hi, hm, h, rOld i hi hm⟩
    · obtain ⟨j, rfl⟩ : ∃ j, i = σ.ob.length + j := ⟨i - σ.ob.length, by omega⟩
      rw [oNew, Option.map_eq_some_iff] at h
      obtain ⟨o1, h1, rfl⟩ := h
      obtain ⟨u1, k1, k2⟩ := R'.ob _ o1 h1
      have k1 : E'.ref[rs.length + j]? = some (o1.g, u1) := k1
      refine .inr ⟨rs.length + j, o1, u1, h1, k1, k2, .inr rfl, by rw [rNew, k1]; rfl, ?_, .inr ⟨by omega, by omega, newOk_at hw _ _ (by omega) h1, rfl⟩⟩
      unfold backR
      rw [List.getElem?_eq_none (by omega)]
      dsimp only
      omega
  refine ⟨⟨fun b => E.B b ∨ E'.B b, E.F, RF⟩, L, ?_, R.df, R.n, fun i => (R.tm i).mono L, by show RF.length = (backO σ rs ob1).length; rw [rLen, oLen], fun i o hi => ?_, fun i i' o o' g g' u u' b hne hi hi' hl hl' hu hu' hb hb' => ?_, fun b hb => ?_, R.fr, fun b hb hlt => ?_, ⟨R'.keep.os.trans R.keep.os, R'.keep.tape.trans R.keep.tape, R'.keep.output.trans R.keep.output, Nat.le_trans R.keep.size R'.keep.size, fun k hk' hn' => (R'.keep.block k (Nat.lt_of_lt_of_le hk' R.keep.size) (fun hlk => ?_)).trans (R.keep.block k hk' hn')⟩⟩
  · have := R'.tm 0
    simp only [slotV, if_true] at this
    exact mvT_rd (E0 := ⟨fun b => E.B b ∨ E'.B b, E.F, RF⟩) hBB hr hγ hx (by simpa using this)
  · rcases from_ i o hi with ⟨h1, h2, h3, h4⟩ | ⟨p, o1, u1, h1, h2, h3, h4, h5, h6, h7⟩
    · obtain ⟨u, k1, k2⟩ := R.ob i o h3
      refine ⟨u, by show RF[i]? = _; rw [h4]; exact k1, k2.keep L (fun b hb => ?_) (fun hl b hb hnb hB => ?_)⟩
      · refine hBk b (k2.blk_lt hb) fun ⟨r, hr', g, u', hu, hbu⟩ => ?_
        obtain ⟨or, q1, q2, _⟩ := sendOk_at hs r hr'
        obtain ⟨ur, q3, q4⟩ := R.ob r or q1
        rw [hu] at q3
        simp only [Option.some.injEq, Prod.mk.injEq] at q3
        obtain ⟨_, rfl⟩ := q3
        have hne : r ≠ i := fun e => h2 (e ▸ hr')
        cases hlo : o.live with
        | true => exact R.sep r i or o _ _ _ _ b hne q1 h3 q2 hlo hu k1 hbu hb
        | false =>
          refine q4.live_B q2 hbu ?_
          unfold OkO at k2
          split at k2
          · obtain ⟨b', cs, rfl, j2, _, _, j5⟩ := k2
            simp only [blk, Option.some.injEq] at hb
            subst hb
            rw [hlo] at j5
            simp only [Bool.false_eq_true, if_false] at j5
            exact j5.1
          · obtain ⟨s, l, xs, j1, j2, j3, j4, j5, j6, j7, j8⟩ := k2
            have := j8 b hb
            rw [hlo] at this
            simpa using this
          · rw [k2.1] at hlo; cases hlo
      · rcases hB with hB | hB
        · exact hnb hB
        · rcases hB' b hB with h | h
          · exact hnb h
          · have := k2.blk_lt hb; omega
    · refine ⟨u1, h5, ?_⟩
      have hob := obsNow_at hn o1 (List.mem_of_getElem? h1)
      have hwr : ∀ b, blk u1 = some b → w.heap.size ≤ b ∨ lentI E rs b := fun b hb => wrI p o1 u1 b h1 h2 hb
      rcases h7 with ⟨r, o0, rfl, hp, m2, m3, m4, rfl⟩ | ⟨hp, he, hnk, rfl⟩
      · obtain ⟨kk, lv, g0, v0⟩ := o0
        have eo : bkO σ rs ob1 i o1 = ⟨backK (!freshO σ rs) kk, true, newG σ i, o1.v.mv (backR σ rs ob1)⟩ := by unfold bkO; rw [m2]
        rw [eo]
        have nb1 : ∀ b, blk u1 = some b → ¬ E'.B b := fun b hb => h3.live_B m4 hb
        obtain ⟨u0, j1, j2⟩ := R.ob i _ m2
        have base : ∀ e b, blk u1 = some b → (OK.rows (!freshO σ rs) e).base cx.W.heap.size ≤ b := fun e b hb => by
          cases hf : freshO σ rs with
          | false => exact Nat.zero_le _
          | true =>
            rcases hwr b hb with h | h
            · exact Nat.le_trans hwW h
            · exact lentF hf b h
        have hln : ∀ b, blk u1 = some b → cx.W.heap.size ≤ b ∨ cx.lent b := fun b hb => by
          rcases hwr b hb with h | h
          · exact .inl (Nat.le_trans hwW h)
          · exact lentW b h
        cases kk with
        | box q T =>
          have e := var p i q T lv g0 v0 o1 u1 hp m2 h1 h2
          rw [j1] at e
          simp only [Option.some.injEq, Prod.mk.injEq, true_and] at e
          subst e
          unfold OkO at h3 j2 ⊢
          rw [m3] at h3
          simp only [sendK] at h3
          simp only [backK]
          obtain ⟨b, cs, rfl, n2, n3, n4, n5⟩ := h3
          obtain ⟨b', cs', e', n2', n3', n4', n5'⟩ := j2
          simp only [Value.pointer.injEq, Option.some.injEq, Addr.mk.injEq, and_true] at e'
          subst e'
          refine ⟨b, cs, rfl, n2, mv_rd (E0 := ⟨fun b => E.B b ∨ E'.B b, E.F, RF⟩) hBB hr hγ hob n3, n4', ?_⟩
          rw [if_pos trivial]
          exact nB b (nb1 b rfl) (hwr b rfl)
        | row e' =>
          unfold OkO at h3 ⊢
          rw [m3] at h3
          simp only [sendK] at h3
          simp only [backK]
          obtain ⟨n0, s, l, xs, n1, n3, n4, n5, n6, n7, n8⟩ := h3
          have hl1 : (V.mvs (backR σ rs ob1) l).length = l.length := by rw [mvs_map, List.length_map]
          rw [n1] at hob
          refine ⟨trivial, s, V.mvs (backR σ rs ob1) l, xs, by rw [n1]; rfl, unif_mvs n3, n4, by omega, by rw [hl1]; exact own_base n6 (base _), mvs_rd (E0 := ⟨fun b => E.B b ∨ E'.B b, E.F, RF⟩) hBB hr hγ (by simpa only [V.now] using hob) n7, fun b hb => ⟨nB b (nb1 b hb) (hwr b hb), hln b hb⟩⟩
        | rows q e' =>
          unfold OkO at h3 ⊢
          rw [m3] at h3
          simp only [sendK] at h3
          simp only [backK]
          obtain ⟨n0, s, l, xs, n1, n3, n4, n5, n6, n7, n8⟩ := h3
          have hl1 : (V.mvs (backR σ rs ob1) l).length = l.length := by rw [mvs_map, List.length_map]
          rw [n1] at hob
          refine ⟨trivial, s, V.mvs (backR σ rs ob1) l, xs, by rw [n1]; rfl, unif_mvs n3, n4, by omega, by rw [hl1]; exact own_base n6 (base _), mvs_rd (E0 := ⟨fun b => E.B b ∨ E'.B b, E.F, RF⟩) hBB hr hγ (by simpa only [V.now] using hob) n7, fun b hb => ⟨nB b (nb1 b hb) (hwr b hb), hln b hb⟩⟩
      · have hl : ∀ b, blk u1 = some b → ¬ E'.B b → ¬ (E.B b ∨ E'.B b) := fun b hb h => nB b h (hwr b hb)
        unfold OkO at h3 ⊢
        simp only [bkN]
        split at h3
        · rename_i q T hkk
          obtain ⟨b, cs, rfl, n2, n3, n4, n5⟩ := h3
          rw [hkk] at hnk
          cases q with
          | true => simp [newK] at hnk
          | false =>
            simp only [Bool.false_eq_true, if_false] at n4 ⊢
            refine ⟨b, cs, rfl, n2, mv_rd (E0 := ⟨fun b => E.B b ∨ E'.B b, E.F, RF⟩) hBB hr hγ hob n3, Nat.le_trans hwW n4, ?_⟩
            show (if o1.live = true then ¬(E.B b ∨ E'.B b) else (E.B b ∨ E'.B b) ∧ E.F b ∧ (V.mv (backR σ rs ob1) o1.v).pure = true)
            by_cases hlv : o1.live = true
            · rw [if_pos hlv] at n5 ⊢
              exact hl b rfl n5
            · rw [if_neg hlv] at n5 ⊢
              obtain ⟨n5, n6, n7⟩ := n5
              exact ⟨.inr n5, (R.fr b).2 (Nat.le_trans hwW n4), by rw [V.mv_pure _ _ n7, V.low_pure]; exact n7⟩
        · obtain ⟨s, l, xs, n1, n2, n3, n4, n5, n6, n7, n8⟩ := h3
          have hl1 : (V.mvs (backR σ rs ob1) l).length = l.length := by rw [mvs_map, List.length_map]
          have hge : ∀ b, blk u1 = some b → cx.W.heap.size ≤ b := fun b hb => by
            rcases n6.2 with ⟨rfl, _⟩ | ⟨g, cap, cur, rfl, k1, k2, k3⟩
            · simp [blk] at hb
            · simp only [blk, Option.some.injEq] at hb
              subst hb
              exact Nat.le_trans hwW k1
          refine ⟨s, V.mvs (backR σ rs ob1) l, xs, by rw [n1]; rfl, by rw [V.mvs_pure _ _ n2, V.lows_pures]; exact n2, unif_mvs n3, n4, by omega, by rw [hl1]; exact own_base n6 hge, mvs_rd (E0 := ⟨fun b => E.B b ∨ E'.B b, E.F, RF⟩) hBB hr hγ (V.nows_pure _ _ n2) n7, fun b hb => ?_⟩
          have := n8 b hb
          show (if o1.live = true then ¬(E.B b ∨ E'.B b) else (E.B b ∨ E'.B b))
          by_cases hlv : o1.live = true
          · rw [if_pos hlv] at this ⊢
            exact hl b hb this
          · rw [if_neg hlv] at this ⊢
            exact .inr this
        · rename_i q e' hkk
          obtain ⟨n0, s, l, xs, n1, n3, n4, n5, n6, n7, n8⟩ := h3
          rw [hkk] at hnk
          cases q with
          | true => simp [newK] at hnk
          | false =>
            have hl1 : (V.mvs (backR σ rs ob1) l).length = l.length := by rw [mvs_map, List.length_map]
            have hge : ∀ b, blk u1 = some b → cx.W.heap.size ≤ b := fun b hb => by
              rcases n6.2 with ⟨rfl, _⟩ | ⟨g, cap, cur, rfl, k1, k2, k3⟩
              · simp [blk] at hb
              · simp only [blk, Option.some.injEq] at hb
                subst hb
                exact Nat.le_trans hwW k1
            rw [n1] at hob
            exact ⟨n0, s, V.mvs (backR σ rs ob1) l, xs, by rw [n1]; rfl, unif_mvs n3, n4, by omega, by rw [hl1]; exact own_base n6 hge, mvs_rd (E0 := ⟨fun b => E.B b ∨ E'.B b, E.F, RF⟩) hBB hr hγ (by simpa only [V.now] using hob) n7, fun b hb => ⟨hl b hb (n8 b hb).1, .inl (hge b hb)⟩⟩
  · -- apart
    have hu : RF[i]? = some (g, u) := hu
    have hu' : RF[i']? = some (g', u') := hu'
    have oldNew : ∀ (i : Nat) (o : Ob) (g : Nat) (u : Value), i < σ.ob.length → i ∉ rs → σ.ob[i]? = some o → o.live = true → E.ref[i]? = some (g, u) → blk u = some b → (w.heap.size ≤ b ∨ lentI E rs b) → False := by
      intro i o g u h1 h2 h3 h4 h5 h6 h7
      obtain ⟨u2, q3, q4⟩ := R.ob i o h3
      rw [h5] at q3
      simp only [Option.some.injEq, Prod.mk.injEq] at q3
      obtain ⟨_, rfl⟩ := q3
      rcases h7 with h7 | ⟨r, hr', gr, ur, e1, e2⟩
      · have := q4.blk_lt h6; omega
      · obtain ⟨or, p1, p2, _⟩ := sendOk_at hs r hr'
        exact R.sep i r o or g gr u ur b (fun e => h2 (e ▸ hr')) h3 p1 h4 p2 h5 e1 h6 e2
    rcases from_ i o hi with ⟨h1, h2, h3, h4⟩ | ⟨p, o1, u1, h1, h2, h3, h4, h5, h6, h7⟩
    · rw [h4] at hu
      rcases from_ i' o' hi' with ⟨k1, k2, k3, k4⟩ | ⟨p', o1', u1', k1, k2, k3, k4, k5, k6, k7⟩
      · rw [k4] at hu'
        exact R.sep i i' o o' g g' u u' b hne h3 k3 hl hl' hu hu' hb hb'
      · rw [k5] at hu'
        simp only [Option.some.injEq, Prod.mk.injEq] at hu'
        obtain ⟨_, rfl⟩ := hu'
        exact oldNew i o g u h1 h2 h3 hl hu hb (wrI p' o1' _ b k1 k2 hb')
    · rw [h5] at hu
      simp only [Option.some.injEq, Prod.mk.injEq] at hu
      obtain ⟨_, rfl⟩ := hu
      rcases from_ i' o' hi' with ⟨k1, k2, k3, k4⟩ | ⟨p', o1', u1', k1, k2, k3, k4, k5, k6, k7⟩
      · rw [k4] at hu'
        exact oldNew i' o' g' u' k1 k2 k3 hl' hu' hb' (wrI p o1 _ b h1 h2 hb)
      · rw [k5] at hu'
        simp only [Option.some.injEq, Prod.mk.injEq] at hu'
        obtain ⟨_, rfl⟩ := hu'
        exact R'.sep p p' o1 o1' _ _ _ _ b (fun e => hne (by rw [h6, k6, e])) h1 k1 (h4.elim id fun h => h.trans hl) (k4.elim id fun h => h.trans hl') h2 k2 hb hb'
  · rcases hb with hb | hb
    · exact Nat.lt_of_lt_of_le (R.lt b hb) R'.keep.size
    · exact R'.lt b hb
  · rcases hb with hb | hb
    · exact R.old b hb hlt
    · rcases hB' b hb with h | h
      · exact R.old b h hlt
      · omega
  · rcases lentW k hlk with h | h
    · omega
    · exact hn' h
theorem callI_run (R : Rel cx E σ a w) {f : FuncId} {aas : List Operand} {xs : List X} (hxs : compXs aas = some xs) {r0 : Nat} {rl : List Nat} {ws ys : List V} {ob0 : List Ob} {R0 : V → List Ob → Prop} (hF : FncI P f ob0 ys R0) (hx : xs.map (X.ev σ) = ws) (hs : sendOk σ (r0 :: rl) (r0 :: rl)) (hv : noVar σ rl) (hn : V.nows (gensS σ (r0 :: rl)) ws)
    (hy : V.mvs (fun q => (posO (r0 :: rl) q, 0)) ws = ys) (hob : sendO σ (r0 :: rl) (r0 :: rl) = ob0) :
    Calls P f (aas.map a.eval).toArray w fun e w' => ∃ x ob1 v, R0 x ob1 ∧ e = .returned v ∧ (kindsB σ (r0 :: rl) ob1 → obsNow (gensO ob1) ob1 → newOk (r0 :: rl).length ob1 → x.now (gensO ob1) → ∃ E', Leads E w E' w' ∧ RdT E' w' (x.mv (backR σ (r0 :: rl) ob1)) v ∧ Rel cx E' { σ with ob := backO σ (r0 :: rl) ob1 } a w') := by
  subst hx hy hob
  have hr := compXs_rd0 R hxs
  have R1 := R.sendI hs hr hn
  have hl := rdTs_len hr
  refine (hF w _ _ _ _ ?_ R1).mono ?_
  · simpa [mvs_map] using hl
  · rintro e w' ⟨x, ob1, v, E', h1, rfl, R2⟩
    exact ⟨x, ob1, v, h1, rfl, fun k1 k2 k3 k4 => R.backI rfl hs hv R2 k1 k2 k3 k4⟩
theorem callI {N : Nat} {Q : Exit → Act → World → Prop} {k : List It} {n : Nat} {t : List (Nat × V)} {ob : List Ob} {lr : List RO} {gd : Option (Nat × Bool)} {i : Nat} {f : FuncId} {xs : List X} (r0 : Nat) (rl : List Nat) {ys : List V} {ob0 ob1 : List Ob} {x : V} (hF : FncI P f ob0 ys fun y o => y = x ∧ o = ob1)
    (h : wants ⟨n, t, ob⟩ gd = some true ∧ sendOk ⟨n, t, ob⟩ (r0 :: rl) (r0 :: rl) ∧ noVar ⟨n, t, ob⟩ rl ∧ V.nows (gensS ⟨n, t, ob⟩ (r0 :: rl)) (xs.map (X.ev ⟨n, t, ob⟩)) ∧ V.mvs (fun q => (posO (r0 :: rl) q, 0)) (xs.map (X.ev ⟨n, t, ob⟩)) = ys ∧ sendO ⟨n, t, ob⟩ (r0 :: rl) (r0 :: rl) = ob0 ∧ kindsB ⟨n, t, ob⟩ (r0 :: rl) ob1 ∧ obsNow (gensO ob1) ob1 ∧ newOk (r0 :: rl).length ob1 ∧ x.now (gensO ob1) ∧
      evalR (EvR P cx N Q k) [(), (), (), (), (), (), (), ()] lr ⟨n, (i, x.mv (backR ⟨n, t, ob⟩ (r0 :: rl) ob1)) :: t, backO ⟨n, t, ob⟩ (r0 :: rl) ob1⟩) : EvR P cx N Q k (⟨some i, gd, .call f xs⟩ :: lr) ⟨n, t, ob⟩ := by
  obtain ⟨hw, hs, hv, hn, hy, hob, c1, c2, c3, c4, h⟩ := h
  have h := ev_all h
  refine ⟨fun hN E a w R ops os hcc => ?_⟩
  obtain ⟨o, os', rfl, h1, h2⟩ := compL_cons hcc
  obtain ⟨k1, k2, k3, k4⟩ := compR_some h1
  obtain ⟨aas, hxs, hrun⟩ := compK_call k1 a
  unfold wpList
  rw [if_pos (wants_ok R k2 hw)]
  refine .inl ?_
  unfold Oper.wp
  rw [hrun w, Oper.upon_enter]
  refine (callI_run R hxs hF rfl hs hv hn hy hob).mono ?_
  rintro e w' ⟨x', ob', v, ⟨rfl, rfl⟩, rfl, hb⟩
  obtain ⟨E', L, hx', R'⟩ := hb c1 c2 c3 c4
  show wpList P ops (onX P cx N Q k) os' (a.put o.dst v) w'
  rw [show o.dst = some i from k3]
  exact h.h hN E' _ w' (R'.put (d := some i) (fun j hj => by show j < n; rw [show n = N from hN]; exact k4 j hj) hx') ops os' h2
end
def V.pr : V → Bool
  | .rp _ => true
  | x => x.pure
theorem pr_rd {E E0 : Env} {w : World} (hB : ∀ b, E.B b → E0.B b) {x : V} {v : Value} (hp : x.pr = true) (h : RdT E w x v) : RdT E0 w x.low v := by
  unfold V.pr at hp
  split at hp
  · simp only [RdT, RdV, V.low] at h ⊢
    obtain ⟨h1, b, o, xs, h2, h3, h4, h5⟩ := h
    exact ⟨by rw [V.low_pure]; exact h1, b, o, xs, h2, hB b h3, low_rdS hB h1 h4, h5⟩
  · exact lowT_rdS hB hp h
theorem prs_rd {E E0 : Env} {w : World} (hB : ∀ b, E.B b → E0.B b) : ∀ {l : List V} {vs : List Value}, l.all V.pr = true → RdTs E w l vs → RdTs E0 w (l.map V.low) vs
  | [], vs, _, h => by simp only [RdTs, List.map_nil] at h ⊢; exact h
  | x :: l, vs, hp, h => by
    simp only [List.all_cons, Bool.and_eq_true] at hp
    simp only [RdTs, List.map_cons] at h ⊢
    obtain ⟨v, ys, h1, h2, h3⟩ := h
    exact ⟨v, ys, h1, pr_rd hB hp.1 h2, prs_rd hB hp.2 h3⟩
theorem gen_callV {P : Program} {σ : AS} {f : FuncId} {x0 : X} {xs : List X} {cs ys : List V} {x : V} (hF : Fnc P f ys fun y obs => y = x ∧ obs = []) (hf : okF P f = true) (hv : calleeV (x0.ev σ) = some (f, cs)) (hp : (xs.map (X.ev σ) ++ cs).all V.pr = true) (hy : (xs.map (X.ev σ) ++ cs).map V.low = ys) (hx : V.pureT x = true) :
    Gen P σ (.callv x0 xs) x [] none := by
  subst hy
  refine ⟨fun _ _ h => (by cases h), ?_⟩
  intro σ' hev _ _ cx E a w o R hc S hS
  have e0 : x0.ev σ' = x0.ev σ := hev x0 (by simp [xsK])
  have e1 : xs.map (X.ev σ') = xs.map (X.ev σ) := List.map_congr_left fun y hy => hev y (by simp [xsK, hy])
  obtain ⟨i, aas, ats, e2, rfl, hxs⟩ := compK_callv (o := o) hc
  rw [← e0] at hv
  obtain ⟨us, hu, hus⟩ := callee_rd hv (R.tm i)
  unfold okF at hf
  split at hf
  · rename_i fn hfn
    simp only [Bool.and_eq_true] at hf
    have hr : (execOp a.eval o).run P w = .ok (.enter f (aas.map a.eval ++ us.toArray)) w := by
      simp only [execOp, e2, resolve, Act.eval, hu, Deferred.ofValue, Sem.run_bind, Sem.run_pure, Result.andThen_ok, invoke]
      rw [run_callv hfn hf.1 hf.2]
      simp
    unfold relAt relUpon
    rw [hr]
    show Calls P f (aas.map a.eval ++ us.toArray) w _
    have hargs := (compXs_rd0 R hxs).app hus
    rw [e1] at hargs
    have hC := hF w E.B _ (fun b hb => R.lt b hb) (prs_rd (E := E) (E0 := argS E.B) (fun _ h => h) hp hargs)
    have e3 : (aas.toList.map a.eval ++ us).toArray = aas.map a.eval ++ us.toArray := by
      rw [← Array.toList_map]
      simp
    rw [e3] at hC
    refine hC.mono ?_
    rintro e w' ⟨y, obs, v, ⟨rfl, rfl⟩, rfl, hres⟩
    obtain ⟨E', L, hx', R'⟩ := R.backC (ws := []) (fun _ _ h => h) (.inl rfl) hres
    rw [V.shift_pureT _ _ hx] at hx'
    rw [List.map_nil, List.append_nil] at R'
    exact ⟨v, rfl, hS v w' E' L hx' R'⟩
  · cases hf
attribute [go_sem] V.pr
theorem nows_lo {α : Type} (γ : Nat → Option Nat) (f : α → V) {g : α → V} [h : Lo f g] (l : List α) : V.nows γ (l.map f) = True := eq_true (V.nows_pure _ _ (pures_lo f l))
theorem mvs_lo {α : Type} (ρ : Nat → Nat × Nat) (f : α → V) {g : α → V} [h : Lo f g] (l : List α) : V.mvs ρ (l.map f) = l.map g := by rw [V.mvs_pure _ _ (pures_lo f l), lows_lo]
attribute [go_sem] nows_lo mvs_lo
attribute [go_sem] V.mv V.mvs V.now V.nows posO gensO gensS sendK sendO sendOk noVar freshK freshO kindsB newK obsNow newOk newG backK backR setL bkO bkN backO
end Rdn.Dp
