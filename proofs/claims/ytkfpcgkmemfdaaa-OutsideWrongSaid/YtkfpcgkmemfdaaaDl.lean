/- Functions that get a pointer to a variable that they may write. Over any program. -/
import Derived.Test.YtkfpcgkmemfdaaaDy
namespace Rdn.Dp
open Go Go.RowKit Rdn
set_option linter.unusedVariables false

/-- What a call with a pointer leaves: the result, new rows, the variable's content. -/
def ResOkM (w w' : World) (S : Nat → Prop) (b0 : Nat) (T : TypeId) (x : V) (obs : List Ob) (d : V) (v : Value) : Prop :=
  ∃ E', (∀ b, E'.B b → S b ∨ w.heap.size ≤ b) ∧ ¬ E'.B b0 ∧ (∀ o ∈ obs, o.live = true ∧ o.g = 0 ∧ ∃ e, o.k = .row e) ∧ Rel ⟨w, (· = b0), S⟩ E' ⟨1, [(0, x)], obs⟩ ⟨#[v], []⟩ w' ∧ d.pure = true ∧ ∃ cs : List Value, w'.heap[b0]? = some (.cells cs.toArray T (0, 0)) ∧ RdV E' w' d cs
/-- The contract of a function that gets, first, a pointer to a variable of type T that holds d. -/
def FncM (P : Program) (f : FuncId) (T : TypeId) (d : V) (xs : List V) (R : V → List Ob → V → Prop) : Prop :=
  ∀ (w : World) (S : Nat → Prop) (b0 : Nat), (∀ b, S b → b < w.heap.size ∧ b ≠ b0) → ∀ cs : List Value, w.heap[b0]? = some (.cells cs.toArray T (0, 0)) → RdV (argS S) w d cs → ∀ vs, RdTs (argS S) w xs vs →
    Calls P f (.pointer (some ⟨b0, 0, none⟩) :: vs).toArray w fun e w' => ∃ x obs d' v, R x obs d' ∧ e = .returned v ∧ ResOkM w w' S b0 T x obs d' v
section
variable {cx : Cx} {E : Env} {σ : AS} {a : Act} {w w' : World} {P : Program}
theorem OkO.wrRow {o : Ob} {u : Value} (h : OkO cx E w o u) {e : TypeId} (hk : o.k = .row e) {b : Nat} (hb : blk u = some b) : cx.W.heap.size ≤ b := by
  unfold OkO at h
  rw [hk] at h
  obtain ⟨s, l, xs, h1, h2, h3, h4, h5, h6, h7, h8⟩ := h
  rcases h6.2 with ⟨rfl, _⟩ | ⟨g, cap, cur, rfl, k1, k2, k3⟩
  · simp [blk] at hb
  · simp only [blk, Option.some.injEq] at hb
    subst hb
    exact k1
/-- A call with a pointer comes back. -/
theorem Rel.backM (R : Rel cx E σ a w) {r : Nat} {o : Ob} {q : Bool} {T : TypeId} (hr : σ.ob[r]? = some o) (hk : o.k = .box q T) (hl : o.live = true) {u0 : Value} (hu : E.ref[r]? = some (o.g, u0)) {b0 : Nat} (hb0 : blk u0 = some b0) {x d : V} {obs : List Ob} {v : Value} (h : ResOkM w w' E.B b0 T x obs d v) :
    ∃ E', Leads E w E' w' ∧ RdT E' w' (x.shift σ.ob.length) v ∧ Rel cx E' { σ with ob := σ.ob.set r { o with v := d } ++ obs.map (Ob.shift σ.ob.length) } a w' := by
  obtain ⟨E1, hE1, hnb, hobs, R1, hdp, cs', hh', hd'⟩ := h
  have hlen1 : E1.ref.length = obs.length := R1.len
  obtain ⟨u1, p1, p2⟩ := R.ob r o hr
  rw [hu] at p1
  injection p1 with p1
  injection p1 with _ p1
  subst p1
  have hEb : ¬ E.B b0 := p2.live_B hl hb0
  have hbk : ∀ b, b < w.heap.size → b ≠ b0 → w'.heap[b]? = w.heap[b]? := fun b hb hne => R1.keep.block b hb hne
  have hBk : ∀ b, E.B b → w'.heap[b]? = w.heap[b]? := fun b hb => hbk b (R.lt b hb) (fun e => hEb (e ▸ hb))
  have L : Leads E w ⟨fun b => E.B b ∨ E1.B b, E.F, E.ref ++ E1.ref⟩ w' := by
    refine ⟨fun b hb => ⟨.inl hb, hBk b hb⟩, fun _ h => h, by simp, fun r g u hr h => ⟨g, u, ?_, Nat.le_refl _, fun _ => rfl⟩⟩
    have h : (E.ref ++ E1.ref)[r]? = some (g, u) := h
    rw [List.getElem?_append_left hr] at h
    exact h
  have hwW : cx.W.heap.size ≤ w.heap.size := R.keep.size
  have hF : ∀ b, E1.F b → E.F b := fun b hb => by
    have := (R1.fr b).1 hb
    exact (R.fr b).2 (Nat.le_trans hwW this)
  have hrr : ∀ r, r < E1.ref.length → (E.ref ++ E1.ref)[σ.ob.length + r]? = E1.ref[r]? := fun r hr => by
    rw [List.getElem?_append_right (by rw [R.len]; omega), R.len, Nat.add_sub_cancel_left]
  have rl : r < σ.ob.length := (List.getElem?_eq_some_iff.1 hr).1
  -- the objects
  have oldo : ∀ (r' : Nat) (o' : Ob), r' < σ.ob.length → r ≠ r' → (σ.ob.set r { o with v := d } ++ obs.map (Ob.shift σ.ob.length))[r']? = some o' → σ.ob[r']? = some o' := by
    intro r' o' hlt hne h
    rw [List.getElem?_append_left (by simpa using hlt), List.getElem?_set_ne hne] at h
    exact h
  have same : ∀ (o' : Ob), (σ.ob.set r { o with v := d } ++ obs.map (Ob.shift σ.ob.length))[r]? = some o' → o' = { o with v := d } := by
    intro o' h
    rw [List.getElem?_append_left (by simpa using rl), List.getElem?_set_self rl] at h
    exact (Option.some.inj h).symm
  have newo : ∀ (r' : Nat) (o' : Ob), ¬ r' < σ.ob.length → (σ.ob.set r { o with v := d } ++ obs.map (Ob.shift σ.ob.length))[r']? = some o' → ∃ o1, obs[r' - σ.ob.length]? = some o1 ∧ o' = o1.shift σ.ob.length := by
    intro r' o' hlt h
    rw [List.getElem?_append_right (by simp; omega), List.getElem?_map, Option.map_eq_some_iff, List.length_set] at h
    obtain ⟨o1, h, rfl⟩ := h
    exact ⟨o1, h, rfl⟩
  have refo : ∀ (r' : Nat) x, r' < σ.ob.length → (E.ref ++ E1.ref)[r']? = some x → E.ref[r']? = some x := by
    intro r' x hlt h
    rwa [List.getElem?_append_left (by rw [R.len]; exact hlt)] at h
  have refn : ∀ (r' : Nat) x, ¬ r' < σ.ob.length → (E.ref ++ E1.ref)[r']? = some x → E1.ref[r' - σ.ob.length]? = some x := by
    intro r' x hlt h
    rwa [List.getElem?_append_right (by rw [R.len]; omega), R.len] at h
  refine ⟨⟨fun b => E.B b ∨ E1.B b, E.F, E.ref ++ E1.ref⟩, L, ?_, R.df, R.n, fun i => (R.tm i).mono L, by simp [R.len, hlen1], fun r' o' hr' => ?_, fun r1 r2 o1 o2 g1 g2 u1 u2 b h1 h2 h3 h4 h5 h6 h7 h8 h9 => ?_, fun b hb => ?_, R.fr, fun b hb hlt => ?_, ⟨R1.keep.os.trans R.keep.os, R1.keep.tape.trans R.keep.tape, R1.keep.output.trans R.keep.output, Nat.le_trans R.keep.size R1.keep.size, fun k hk' hn => (R1.keep.block k (Nat.lt_of_lt_of_le hk' R.keep.size) (fun e => ?_)).trans (R.keep.block k hk' hn)⟩⟩
  · have := R1.tm 0
    simp only [slotV, if_true] at this
    exact shiftT_rd (E0 := ⟨fun b => E.B b ∨ E1.B b, E.F, E.ref ++ E1.ref⟩) (fun b hb => .inr hb) hF (by simp [R.len]) hrr (by simpa using this)
  · by_cases hlt : r' < σ.ob.length
    · by_cases e : r = r'
      · subst e
        obtain rfl := same o' hr'
        refine ⟨u0, by rw [List.getElem?_append_left (by rw [R.len]; exact hlt)]; exact hu, ?_⟩
        unfold OkO at p2 ⊢
        rw [hk] at p2
        simp only [hk]
        obtain ⟨b, cs, rfl, m1, m2, m3, m4⟩ := p2
        simp only [blk, Option.some.injEq] at hb0
        subst hb0
        refine ⟨b, cs', rfl, hh', pure_rd (E0 := ⟨fun b => E.B b ∨ E1.B b, E.F, E.ref ++ E1.ref⟩) (fun b hb => .inr hb) hF hdp hd', m3, ?_⟩
        rw [if_pos hl]
        exact fun h => h.elim hEb hnb
      · have h0 := oldo r' o' hlt e hr'
        obtain ⟨u, k1, k2⟩ := R.ob r' o' h0
        refine ⟨u, by rw [List.getElem?_append_left (by rw [R.len]; exact hlt)]; exact k1, k2.keep L (fun b hb => ?_) (fun hl' b hb hn hB => ?_)⟩
        · refine hbk b (k2.blk_lt hb) (fun eb => ?_)
          subst eb
          cases hl1 : o'.live with
          | true => exact R.sep r r' o o' o.g o'.g u0 u b e hr h0 hl hl1 hu k1 hb0 hb
          | false =>
            refine hEb ?_
            unfold OkO at k2
            split at k2
            · obtain ⟨b', cs, rfl, q2, _, _, q5⟩ := k2
              simp only [blk, Option.some.injEq] at hb
              subst hb
              rw [hl1] at q5
              simp only [Bool.false_eq_true, if_false] at q5
              exact q5.1
            · obtain ⟨s, l, xs, q1, q2, q3, q4, q5, q6, q7, q8⟩ := k2
              have := q8 b hb
              rw [hl1] at this
              simpa using this
            · rw [k2.1] at hl1; cases hl1
        · rcases hB with hB | hB
          · exact hn hB
          · rcases hE1 b hB with h | h
            · exact hn h
            · have := k2.blk_lt hb
              omega
    · obtain ⟨o1, h0, rfl⟩ := newo r' o' hlt hr'
      obtain ⟨u, k1, k2⟩ := R1.ob _ o1 h0
      refine ⟨u, by rw [List.getElem?_append_right (by rw [R.len]; omega), R.len]; exact k1, ?_⟩
      obtain ⟨hl1, hg1, e, hke⟩ := hobs o1 (List.mem_of_getElem? h0)
      have hwr : ∀ b, blk u = some b → w.heap.size ≤ b := fun b hb => k2.wrRow hke hb
      have hnB : ∀ b, blk u = some b → ¬ E1.B b → ¬ (E.B b ∨ E1.B b) := by
        intro b hb hn hB
        rcases hB with hB | hB
        · have := R.lt b hB
          have := hwr b hb
          omega
        · exact hn hB
      unfold OkO at k2 ⊢
      rw [hke] at k2
      simp only [Ob.shift, hke]
      obtain ⟨s, l, xs, m1, m2, m3, m4, m5, m6, m7, m8⟩ := k2
      refine ⟨s, l, xs, by rw [m1]; simp only [V.shift, V.shifts_pure _ l m2], m2, m3, m4, m5, ⟨m6.1, ?_⟩, pures_rd (E0 := ⟨fun b => E.B b ∨ E1.B b, E.F, E.ref ++ E1.ref⟩) (fun b hb => .inr hb) hF m2 m7, fun b hb => ?_⟩
      · rcases m6.2 with h | ⟨g, cap, cur, e1, e2, e3⟩
        · exact .inl h
        · exact .inr ⟨g, cap, cur, e1, Nat.le_trans hwW e2, e3⟩
      · have := m8 b hb
        rw [hl1] at this
        simp only [if_true] at this
        rw [if_pos hl1]
        exact hnB b hb this
  · -- apart
    have info : ∀ (r1 : Nat) (o1 : Ob) (g1 : Nat) (u1 : Value), (σ.ob.set r { o with v := d } ++ obs.map (Ob.shift σ.ob.length))[r1]? = some o1 → (E.ref ++ E1.ref)[r1]? = some (g1, u1) →
        (r1 < σ.ob.length ∧ ∃ o', σ.ob[r1]? = some o' ∧ o'.live = o1.live ∧ E.ref[r1]? = some (g1, u1)) ∨ (¬ r1 < σ.ob.length ∧ ∃ o', obs[r1 - σ.ob.length]? = some o' ∧ o'.live = o1.live ∧ E1.ref[r1 - σ.ob.length]? = some (g1, u1)) := by
      intro r1 o1 g1 u1 q1 q2
      by_cases hlt : r1 < σ.ob.length
      · by_cases e : r = r1
        · subst e
          obtain rfl := same o1 q1
          exact .inl ⟨hlt, o, hr, rfl, refo _ _ hlt q2⟩
        · exact .inl ⟨hlt, o1, oldo _ _ hlt e q1, rfl, refo _ _ hlt q2⟩
      · obtain ⟨o', k1, rfl⟩ := newo _ _ hlt q1
        exact .inr ⟨hlt, o', k1, rfl, refn _ _ hlt q2⟩
    have oldlt : ∀ (r1 : Nat) (o' : Ob) (g1 : Nat) (u1 : Value), σ.ob[r1]? = some o' → E.ref[r1]? = some (g1, u1) → blk u1 = some b → b < w.heap.size := by
      intro r1 o' g1 u1 q1 q2 q3
      obtain ⟨u2, e1, e2⟩ := R.ob r1 o' q1
      rw [q2] at e1
      injection e1 with e1
      injection e1 with _ e1
      subst e1
      exact e2.blk_lt q3
    have newge : ∀ (r1 : Nat) (o' : Ob) (g1 : Nat) (u1 : Value), obs[r1]? = some o' → E1.ref[r1]? = some (g1, u1) → blk u1 = some b → w.heap.size ≤ b := by
      intro r1 o' g1 u1 q1 q2 q3
      obtain ⟨u2, e1, e2⟩ := R1.ob r1 o' q1
      rw [q2] at e1
      injection e1 with e1
      injection e1 with _ e1
      subst e1
      obtain ⟨_, _, e, hke⟩ := hobs o' (List.mem_of_getElem? q1)
      exact e2.wrRow hke q3
    rcases info r1 o1 g1 u1 h2 h6 with ⟨c1, o1', d1, d2, d3⟩ | ⟨c1, o1', d1, d2, d3⟩
    · rcases info r2 o2 g2 u2 h3 h7 with ⟨c2, o2', f1, f2, f3⟩ | ⟨c2, o2', f1, f2, f3⟩
      · exact R.sep r1 r2 o1' o2' g1 g2 u1 u2 b h1 d1 f1 (by rw [d2]; exact h4) (by rw [f2]; exact h5) d3 f3 h8 h9
      · have := oldlt _ _ _ _ d1 d3 h8
        have := newge _ _ _ _ f1 f3 h9
        omega
    · rcases info r2 o2 g2 u2 h3 h7 with ⟨c2, o2', f1, f2, f3⟩ | ⟨c2, o2', f1, f2, f3⟩
      · have := newge _ _ _ _ d1 d3 h8
        have := oldlt _ _ _ _ f1 f3 h9
        omega
      · exact R1.sep _ _ o1' o2' g1 g2 u1 u2 b (by omega) d1 f1 (by rw [d2]; exact h4) (by rw [f2]; exact h5) d3 f3 h8 h9
  · rcases hb with hb | hb
    · exact Nat.lt_of_lt_of_le (R.lt b hb) R1.keep.size
    · exact R1.lt b hb
  · rcases hb with hb | hb
    · exact R.old b hb hlt
    · rcases hE1 b hb with h | h
      · exact R.old b h hlt
      · omega
  · subst e
    rcases p2.wr hb0 with h | h
    · omega
    · exact hn h
/-- A call with a pointer goes home. -/
theorem Rel.outM {W : World} {S : Nat → Prop} {b0 : Nat} (R : Rel ⟨W, (· = b0), S⟩ E σ a w) (hb0 : b0 < W.heap.size) {T : TypeId} {g0 : Nat} {d : V} (h0 : σ.ob[0]? = some ⟨.box true T, true, g0, d⟩) (hd : d.pure = true) {ids : List Nat} (ho : outOk σ ids) {x : V} {v : Value} (hx : RdT E w x v) (hp : V.resOk σ x) : ResOkM W w S b0 T (x.res σ ids) (outObs σ ids) d v := by
  obtain ⟨u0, p1, p2⟩ := R.ob 0 _ h0
  have hbox : ∃ cs : List Value, u0 = .pointer (some ⟨b0, 0, none⟩) ∧ w.heap[b0]? = some (.cells cs.toArray T (0, 0)) ∧ RdV E w d cs ∧ ¬ E.B b0 := by
    unfold OkO at p2
    obtain ⟨b, cs, m1, m2, m3, m4, m5⟩ := p2
    simp only [if_true] at m4 m5
    have m4 : b = b0 := m4
    subst m4
    exact ⟨cs, m1, m2, m3, m5⟩
  obtain ⟨cs0, rfl, q1, q2, q3⟩ := hbox
  refine ⟨_, outE_B R, fun hb => ?_, (R.outG ho hx hp R.keep).1, (R.outG ho hx hp R.keep).2, hd, cs0, q1, ?_⟩
  · rcases hb with hb | hb
    · exact q3 hb
    · have hb : W.heap.size ≤ b0 := hb.1
      omega
  · exact pure_rd (E0 := outE W w E ids) (fun b hb => .inl hb) (outF R) hd q2
def postM (P : Program) (f : FuncId) (W : World) (S : Nat → Prop) (b0 : Nat) (T : TypeId) (R0 : V → List Ob → V → Prop) : Exit → Act → World → Prop := fun e a w =>
  ∀ fn, P.funcs[f]? = some fn → bodyPost P fn (fun e w' => ∃ x obs d v, R0 x obs d ∧ e = .returned v ∧ ResOkM W w' S b0 T x obs d v) e a w
/-- A function with a pointer returns. -/
theorem st_returnM {f : FuncId} {W : World} {S : Nat → Prop} {b0 : Nat} {T : TypeId} {R0 : V → List Ob → V → Prop} {n0 N n : Nat} {m : MC} {rs : List POp} {k : List It} {t : List (Nat × V)} {ob : List Ob} {y z d : V} {g0 : Nat} {c : Prop} {obs : List Ob} (hb0 : b0 < W.heap.size) (hc : compF P f = some (n0, m, rs)) (ids : List Nat) (hv : retV ⟨n, t, ob⟩ rs = (y, c)) (hcc : c) (ho : outOk ⟨n, t, ob⟩ ids) (hp : V.resOk ⟨n, t, ob⟩ y) (hz : y.res ⟨n, t, ob⟩ ids = z)
    (hobs : outObs ⟨n, t, ob⟩ ids = obs) (h0 : ob[0]? = some ⟨.box true T, true, g0, d⟩) (hd : d.pure = true) (h : R0 z obs d) : Ev P ⟨W, (· = b0), S⟩ N (postM P f W S b0 T R0) (.code .ret :: k) ⟨n, t, ob⟩ := by
  subst hz hobs
  refine ev_ret fun E a w R fn hfn => ?_
  unfold compF at hc
  rw [hfn] at hc
  simp only at hc
  split at hc
  · split at hc
    · rename_i h1 h2
      simp only [Option.some.injEq, Prod.mk.injEq] at hc
      obtain ⟨_, _, rfl⟩ := hc
      obtain ⟨v, k1, k2⟩ := ret_sound R h2 (by rw [hv]; exact hcc)
      rw [hv] at k2
      exact bodyPost_ret k1 R.df ⟨_, _, _, v, h, rfl, R.outM hb0 h0 hd ho k2 hp⟩
    · cases hc
  · cases hc
theorem FncM.intro {f : FuncId} {n : Nat} {m : MC} {rs : List POp} {T : TypeId} {d : V} {xs : List V} {R0 : V → List Ob → V → Prop} (hc : compF P f = some (n, m, rs)) (hx : xs.length + 1 ≤ n)
    (h : ∀ W S b0, b0 < W.heap.size → Ev P ⟨W, (· = b0), S⟩ n (postM P f W S b0 T R0) [.code m] ⟨n, ents 0 (.ptr 0 0 [] 0 :: xs), [⟨.box true T, true, 0, d⟩]⟩) : FncM P f T d xs R0 := by
  intro W S b0 hS cs hcs hdr vs hvs
  have hc' := hc
  unfold compF at hc
  split at hc
  · rename_i fn hfn
    split at hc
    · rename_i c hb
      split at hc
      · rename_i h1 h2
        simp only [Option.some.injEq, Prod.mk.injEq] at hc
        obtain ⟨rfl, rfl, rfl⟩ := hc
        refine calls_of_wp hfn hb ?_
        have hl := rdTs_len hvs
        have L : Leads (argS S) W ⟨S, fun b => W.heap.size ≤ b, [(0, .pointer (some ⟨b0, 0, none⟩))]⟩ W := ⟨fun b hb => ⟨hb, rfl⟩, fun _ h => h.elim, by simp [argS], fun r g u hr => by simp [argS] at hr⟩
        have hptr : RdT ⟨S, fun b => W.heap.size ≤ b, [(0, .pointer (some ⟨b0, 0, none⟩))]⟩ W (.ptr 0 0 [] 0) (.pointer (some ⟨b0, 0, none⟩)) := mk_ptr (g' := 0) (u := .pointer (some ⟨b0, 0, none⟩)) rfl rfl
        have hall : RdTs ⟨S, fun b => W.heap.size ≤ b, [(0, .pointer (some ⟨b0, 0, none⟩))]⟩ W (.ptr 0 0 [] 0 :: xs) (.pointer (some ⟨b0, 0, none⟩) :: vs) := by
          simp only [RdTs]
          exact ⟨_, _, rfl, hptr, hvs.mono L⟩
        have R : Rel ⟨W, (· = b0), S⟩ ⟨S, fun b => W.heap.size ≤ b, [(0, .pointer (some ⟨b0, 0, none⟩))]⟩ ⟨fn.ntmps, ents 0 (.ptr 0 0 [] 0 :: xs), [⟨.box true T, true, 0, d⟩]⟩ { tmps := (Value.pointer (some ⟨b0, 0, none⟩) :: vs).toArray ++ Array.replicate (fn.ntmps - (Value.pointer (some ⟨b0, 0, none⟩) :: vs).toArray.size) undef, defers := [] } W := by
          refine ⟨rfl, by simp [hl]; omega, fun j => ?_, rfl, fun r o hr => ?_, fun r r' o o' g g' u u' b hne hr hr' => ?_, fun b hb => (hS b hb).1, fun b => Iff.rfl, fun b hb _ => hb, Keep.refl _ _⟩
          · rw [slotV_ents, if_pos (Nat.zero_le _), Nat.sub_zero]
            have := rdTs_get j hall
            by_cases hj : j < (Value.pointer (some ⟨b0, 0, none⟩) :: vs).length
            · have e : ((Value.pointer (some ⟨b0, 0, none⟩) :: vs).toArray ++ Array.replicate (fn.ntmps - (Value.pointer (some ⟨b0, 0, none⟩) :: vs).toArray.size) undef).getD j undef = (Value.pointer (some ⟨b0, 0, none⟩) :: vs).getD j undef := by
                have hj' : j < (Value.pointer (some ⟨b0, 0, none⟩) :: vs).toArray.size := by simpa using hj
                simp only [Array.getD_eq_getD_getElem?, Array.getElem?_append, hj', if_true]
                simp [List.getD_eq_getElem?_getD]
              rw [e]; exact this
            · have e : (V.ptr 0 0 [] 0 :: xs).getD j .junk = .junk := by
                have : xs.length + 1 ≤ j := by simp at hj; omega
                simp [List.getD_eq_getElem?_getD, List.getElem?_eq_none (show (V.ptr 0 0 [] 0 :: xs).length ≤ j by simpa using this)]
              simp only
              rw [e]
              simp only [RdT]
          · cases r with
            | zero =>
              simp only [List.getElem?_cons_zero, Option.some.injEq] at hr
              subst hr
              refine ⟨_, rfl, ?_⟩
              unfold OkO
              exact ⟨b0, cs, rfl, hcs, hdr.mono L, rfl, by simp only [if_true]; exact fun hb => (hS b0 hb).2 rfl⟩
            | succ r => simp at hr
          · have h1 := (List.getElem?_eq_some_iff.1 hr).1
            have h2 := (List.getElem?_eq_some_iff.1 hr').1
            simp at h1 h2
            omega
        have := (h W S b0 (heap_lt hcs)).h rfl _ _ _ R
        rw [wpS_code] at this
        refine wp_mono (this c h1) fun e a w hq => ?_
        cases e with
        | normal => simp only [onX, wpS] at hq; exact hq fn hfn
        | exit id => simp only [onX, exitS] at hq; exact hq fn hfn
        | goto l => exact hq fn hfn
        | ret => exact hq fn hfn
        | panic c => exact hq fn hfn
        | outgrown => exact hq fn hfn
      · cases hc
    · cases hc
  · cases hc
/-- What a call with a pointer needs and leaves. -/
theorem callM_run (R : Rel cx E σ a w) {f : FuncId} {as : List Operand} {xs : List X} (hxs : compXs as = some xs) {r g : Nat} {ws ys : List V} {q : Bool} {T : TypeId} {dc d : V} {R0 : V → List Ob → V → Prop} (hF : FncM P f T d ys R0) (hx : xs.map (X.ev σ) = .ptr r g [] 0 :: ws) (hob : σ.ob[r]? = some ⟨.box q T, true, g, dc⟩)
    (hdp : dc.pure = true) (hd : dc.low = d) (hwp : V.pures ws = true) (hys : V.lows ws = ys) :
    Calls P f (as.map a.eval).toArray w fun e w' => ∃ x obs d' v, R0 x obs d' ∧ e = .returned v ∧ ∃ E', Leads E w E' w' ∧ RdT E' w' (x.shift σ.ob.length) v ∧ Rel cx E' { σ with ob := σ.ob.set r ⟨.box q T, true, g, d'⟩ ++ obs.map (Ob.shift σ.ob.length) } a w' := by
  subst hd hys
  have hr := compXs_rd0 R hxs
  rw [hx] at hr
  simp only [RdTs] at hr
  obtain ⟨v0, vs, he, h1, h2⟩ := hr
  rw [he]
  obtain ⟨ob, u, b, zs, k1, k2, k3, k4, k5, k6, k7, k8, k9⟩ := rd_ptr R h1 (by simp [obV, hob])
  rw [hob] at k1
  obtain rfl := Option.some.inj k1
  have k10 := k5
  unfold OkO at k5
  simp only at k5
  obtain ⟨b', cs, rfl, m1, m2, m3, m4⟩ := k5
  simp only [blk, Option.some.injEq] at k6
  subst k6
  simp only [if_true] at m4
  subst k7
  have hS : ∀ b, E.B b → b < w.heap.size ∧ b ≠ b' := fun b hb => ⟨R.lt b hb, fun e => m4 (e ▸ hb)⟩
  refine (hF w E.B b' hS cs m1 (low_rdS (E := E) (E0 := argS E.B) (fun _ h => h) hdp m2) vs (lowTs_rdS (E := E) (E0 := argS E.B) (fun _ h => h) hwp h2)).mono ?_
  rintro e w' ⟨x, obs, d', v, hR, rfl, hres⟩
  obtain ⟨E', L, hx', R'⟩ := R.backM hob rfl rfl k4 (b0 := b') rfl hres
  exact ⟨x, obs, d', v, hR, rfl, E', L, hx', R'⟩
theorem st_callM {N : Nat} {Q : Exit → Act → World → Prop} {k : List It} {n : Nat} {t : List (Nat × V)} {ob : List Ob} {l : List RO} {gd : Option (Nat × Bool)} {i : Nat} {f : FuncId} {xs : List X} {r g : Nat} {ws ys : List V} {q : Bool} {T : TypeId} {dc d : V} {R0 : V → List Ob → V → Prop} (hF : FncM P f T d ys R0) (hw : wants ⟨n, t, ob⟩ gd = some true)
    (hx : xs.map (X.ev ⟨n, t, ob⟩) = .ptr r g [] 0 :: ws) (hob : ob[r]? = some ⟨.box q T, true, g, dc⟩) (hdp : dc.pure = true) (hd : dc.low = d) (hwp : V.pures ws = true) (hys : V.lows ws = ys)
    (h : ∀ x obs d', R0 x obs d' → EvR P cx N Q k l ⟨n, (i, x.shift ob.length) :: t, ob.set r ⟨.box q T, true, g, d'⟩ ++ obs.map (Ob.shift ob.length)⟩) : EvR P cx N Q k (⟨some i, gd, .call f xs⟩ :: l) ⟨n, t, ob⟩ := by
  refine ⟨fun hn E a w R ops os hcc => ?_⟩
  obtain ⟨o, os', rfl, h1, h2⟩ := compL_cons hcc
  obtain ⟨k1, k2, k3, k4⟩ := compR_some h1
  obtain ⟨as, hxs, hrun⟩ := compK_call k1 a
  unfold wpList
  rw [if_pos (wants_ok R k2 hw)]
  refine .inl ?_
  unfold Oper.wp
  rw [hrun w, Oper.upon_enter]
  refine (callM_run R hxs hF hx hob hdp hd hwp hys).mono ?_
  rintro e w' ⟨x, obs, d', v, hR, rfl, E', L, hx', R'⟩
  show wpList P ops (onX P cx N Q k) os' (a.put o.dst v) w'
  rw [show o.dst = some i from k3]
  exact (h x obs d' hR).h hn E' _ w' (R'.put (d := some i) (fun j hj => by show j < n; rw [show n = N from hn]; exact k4 j hj) hx') ops os' h2
/-- A row of one's own that nobody will write any more. -/
theorem Rel.froze {n : Nat} {t : List (Nat × V)} {ob : List Ob} (R : Rel cx E ⟨n, t, ob⟩ a w) {i r g e s : Nat} {q : List V} (hi : slotV t i = .own r g) (ho : ob[r]? = some ⟨.row e, true, g, .arr s q⟩) : ∃ E', Rel cx E' ⟨n, (i, .sl true s q) :: t, ob.set r ⟨.row e, false, g, .arr s q⟩⟩ a w := by
  have hv : RdT E w (slotV t i) (a.tmps.getD i undef) := R.tm i
  rw [hi] at hv
  obtain ⟨e', lv, s', l, xs, q1, q2, q3, q4, q5, q6, q7, q8, q9, q10, q11⟩ := rd_own R hv (by simp [rowV, ho])
  have q1 : ob[r]? = some ⟨.row e', lv, g, .arr s' l⟩ := q1
  rw [ho] at q1
  injection q1 with q1
  injection q1 with h1 h2 h3 h4
  injection h1 with h1
  injection h4 with h4 h5
  subst h1 h2 h4 h5
  have hlt := q9.lt
  have hsl : ∃ A c, a.tmps.getD i undef = .slice A q.length c ∧ q.length ≤ c := by
    rcases q9.2 with ⟨hv, hn⟩ | ⟨b, cap, cur, hv, _, _, hc, _⟩
    · exact ⟨none, 0, by rw [hv, hn], by omega⟩
    · exact ⟨_, _, hv, hc⟩
  obtain ⟨A, c, e1, hc⟩ := hsl
  have hbk : ∀ b, blk (a.tmps.getD i undef) = some b → (a.tmps.getD i undef).ownBlock = some b := by
    intro b hb
    rw [e1] at hb ⊢
    cases A with
    | none => simp [blk] at hb
    | some aa => simpa [blk, Value.ownBlock] using hb
  obtain ⟨L, R'⟩ := R.freeze (r := r) (o := ⟨.row e, true, g, .arr s q⟩) ho q4 (fun b hb => ⟨(hlt b (hbk b hb)).1, trivial⟩)
  have hup : ((⟨n, t, ob⟩ : AS).upd r Ob.freeze) = ⟨n, t, ob.set r ⟨.row e, false, g, .arr s q⟩⟩ := by simp [AS.upd, ho, Ob.freeze]
  rw [hup] at R'
  refine ⟨_, R'.df, R'.n, fun j => ?_, R'.len, R'.ob, R'.sep, R'.lt, R'.fr, R'.old, R'.keep⟩
  simp only [slotV]
  split
  · rename_i ej
    subst ej
    simp only [RdT, RdV]
    refine ⟨q5, q6, A, c, by rw [e1], hc, q8, fun h0 => ?_⟩
    rcases q9.2 with ⟨hv, hn⟩ | ⟨b, cap, cur, hv, m1, m2, m3, m4, m5, m6⟩
    · omega
    · rw [e1] at hv
      injection hv with hv1 hv2 hv3
      subst hv1
      refine ⟨b, 0, xs, rfl, .inr (by rw [e1]; rfl), fun _ => (R.fr b).2 m1, q10.mono L, fun j v hv => ?_⟩
      rw [← m6, List.getElem?_take] at hv
      split at hv
      · simpa [World.cell?, m2] using hv
      · cases hv
  · exact R'.tm j
theorem evr_freeze {N : Nat} {Q : Exit → Act → World → Prop} {k : List It} {n : Nat} {t : List (Nat × V)} {ob : List Ob} {l : List RO} (i : Nat) {r g e s : Nat} {q : List V} (hi : slotV t i = .own r g) (ho : ob[r]? = some ⟨.row e, true, g, .arr s q⟩) (h : EvR P cx N Q k l ⟨n, (i, .sl true s q) :: t, ob.set r ⟨.row e, false, g, .arr s q⟩⟩) : EvR P cx N Q k l ⟨n, t, ob⟩ := by
  refine ⟨fun hn E a w R => ?_⟩
  obtain ⟨E', R'⟩ := R.froze hi ho
  exact h.h hn E' a w R'
theorem ev_freeze {N : Nat} {Q : Exit → Act → World → Prop} {k : List It} {n : Nat} {t : List (Nat × V)} {ob : List Ob} (i : Nat) {r g e s : Nat} {q : List V} (hi : slotV t i = .own r g) (ho : ob[r]? = some ⟨.row e, true, g, .arr s q⟩) (h : Ev P cx N Q k ⟨n, (i, .sl true s q) :: t, ob.set r ⟨.row e, false, g, .arr s q⟩⟩) : Ev P cx N Q k ⟨n, t, ob⟩ := by
  refine ⟨fun hn E a w R => ?_⟩
  obtain ⟨E', R'⟩ := R.froze hi ho
  exact h.h hn E' a w R'
end
end Rdn.Dp
