/- What a walk knows of a frame and of the memory that its call has made: the state, and how it may change. Over any program. -/
import Derived.Test.YtkfpcgkmemfdaaaDv
namespace Rdn.Dp
open Go Go.RowKit Rdn
set_option linter.unusedVariables false

inductive OK where
  | box (q : Bool) (T : TypeId)
  | row (e : TypeId)
  | rows (e : TypeId)
/-- An object: a variable in memory (q: the caller's, lent), or the elements of a slice; live: it may be written; g: how often it has grown; v: what it holds (a row: an arr). -/
structure Ob where
  k : OK
  live : Bool
  g : Nat
  v : V
/-- A row holds no reference; rows: a row that may hold rows of one's own. -/
def Ob.scp (m : Nat) (o : Ob) : Bool := match o.k with | .box _ _ => o.v.scp m | .row _ => true | .rows _ => o.v.scp m
/-- n: the frame's slots; t: what is known of them (the first entry counts); ob: the objects. -/
structure AS where
  n : Nat
  t : List (Nat × V)
  ob : List Ob
def slotV : List (Nat × V) → Nat → V
  | [], _ => .junk
  | (j, x) :: l, i => if j = i then x else slotV l i
def AS.put (σ : AS) (d : Option Nat) (x : V) : AS := match d with
  | none => σ
  | some i => { σ with t := (i, x) :: σ.t }
/-- W: the world as the call began; lent: older blocks that it may write; S: older blocks that it may read. -/
structure Cx where
  W : World
  lent : Nat → Prop
  S : Nat → Prop
def OkO (cx : Cx) (E : Env) (w : World) (o : Ob) (u : Value) : Prop :=
  match o.k with
  | .box q T => ∃ b cs, u = .pointer (some ⟨b, 0, none⟩) ∧ w.heap[b]? = some (.cells cs.toArray T (0, 0)) ∧ RdV E w o.v cs ∧ (if q then cx.lent b else cx.W.heap.size ≤ b) ∧ (if o.live then ¬ E.B b else E.B b ∧ E.F b ∧ o.v.pure = true)
  | .row e => ∃ s l xs, o.v = .arr s l ∧ V.pures l = true ∧ Unif s l ∧ 0 < s ∧ l.length ≤ 140737488355328 ∧ w.ownsRow cx.W.heap.size e s u l.length xs ∧ RdL E w l xs ∧ (∀ b, blk u = some b → if o.live then ¬ E.B b else E.B b)
  | .rows e => o.live = true ∧ ∃ s l xs, o.v = .arr s l ∧ Unif s l ∧ 0 < s ∧ l.length ≤ 140737488355328 ∧ w.ownsRow cx.W.heap.size e s u l.length xs ∧ RdL E w l xs ∧ (∀ b, blk u = some b → ¬ E.B b)
structure Rel (cx : Cx) (E : Env) (σ : AS) (a : Act) (w : World) : Prop where
  df : a.defers = []
  n : a.tmps.size = σ.n
  tm : ∀ i, RdT E w (slotV σ.t i) (a.tmps.getD i undef)
  len : E.ref.length = σ.ob.length
  ob : ∀ (r : Nat) (o : Ob), σ.ob[r]? = some o → ∃ u, E.ref[r]? = some (o.g, u) ∧ OkO cx E w o u
  sep : ∀ (r r' : Nat) (o o' : Ob) (g g' : Nat) (u u' : Value) (b : Nat), r ≠ r' → σ.ob[r]? = some o → σ.ob[r']? = some o' → o.live = true → o'.live = true → E.ref[r]? = some (g, u) → E.ref[r']? = some (g', u') → blk u = some b → blk u' = some b → False
  lt : ∀ b, E.B b → b < w.heap.size
  fr : ∀ b, E.F b ↔ cx.W.heap.size ≤ b
  old : ∀ b, E.B b → b < cx.W.heap.size → cx.S b
  keep : Keep cx.lent cx.W w

theorem getD_put (a : Act) (i : Nat) (v : Value) (j : Nat) (hi : i < a.tmps.size) : (a.put (some i) v).tmps.getD j undef = if i = j then v else a.tmps.getD j undef := by
  simp only [Act.put, Array.getD_eq_getD_getElem?, Array.getElem?_setIfInBounds]
  split
  · rename_i h; subst h; simp
  · rfl
theorem slotV_put (σ : AS) (i : Nat) (x : V) (j : Nat) : slotV (σ.put (some i) x).t j = if i = j then x else slotV σ.t j := rfl

section
variable {cx : Cx} {E E' : Env} {σ : AS} {a : Act} {w w' : World}
theorem Rel.put (R : Rel cx E σ a w) {d : Option Nat} {x : V} {v : Value} (hd : ∀ i, d = some i → i < σ.n) (h : RdT E w x v) : Rel cx E (σ.put d x) (a.put d v) w := by
  cases d with
  | none => exact R
  | some i =>
    have hi : i < a.tmps.size := by rw [R.n]; exact hd i rfl
    refine ⟨R.df, by show (a.tmps.setIfInBounds i v).size = σ.n; simp [R.n], fun j => ?_, R.len, R.ob, R.sep, R.lt, R.fr, R.old, R.keep⟩
    rw [getD_put a i v j hi, slotV_put]
    split
    · exact h
    · exact R.tm j
theorem Rel.skip (R : Rel cx E σ a w) {d : Option Nat} (hd : ∀ i, d = some i → i < σ.n) : Rel cx E (σ.put d .junk) (a.put d undef) w := R.put hd (by simp only [RdT])
/-- Less is known. -/
theorem Rel.less (R : Rel cx E σ a w) {t : List (Nat × V)} (h : ∀ i, slotV t i = .junk ∨ slotV t i = slotV σ.t i) : Rel cx E { σ with t := t } a w :=
  ⟨R.df, R.n, fun i => by rcases h i with h | h <;> rw [h]; · simp only [RdT]
                          exact R.tm i, R.len, R.ob, R.sep, R.lt, R.fr, R.old, R.keep⟩
/-- The last objects are forgotten. -/
theorem OkO.cut {m : Nat} {o : Ob} {u : Value} (hm : m ≤ E.ref.length) (hs : o.scp m = true) (h : OkO cx E w o u) : OkO cx { E with ref := E.ref.take m } w o u := by
  unfold OkO at h ⊢
  split at h
  · rename_i hk
    simp only [Ob.scp, hk] at hs
    obtain ⟨b, cs, h1, h2, h3, h4, h5⟩ := h
    exact ⟨b, cs, h1, h2, h3.cut hm hs, h4, h5⟩
  · obtain ⟨s, l, xs, h1, h2, h3, h4, h5, h6, h7, h8⟩ := h
    exact ⟨s, l, xs, h1, h2, h3, h4, h5, h6, RdL.cutp h2 h7, h8⟩
  · rename_i hk
    simp only [Ob.scp, hk] at hs
    obtain ⟨h0, s, l, xs, h1, h3, h4, h5, h6, h7, h8⟩ := h
    rw [h1] at hs
    exact ⟨h0, s, l, xs, h1, h3, h4, h5, h6, h7.cut hm (by simpa only [V.scp] using hs), h8⟩
theorem Rel.cut (R : Rel cx E σ a w) (m : Nat) (hm : m ≤ σ.ob.length) (ht : ∀ i, (slotV σ.t i).scp m = true) (ho : ∀ o ∈ σ.ob.take m, o.scp m = true) : Rel cx { E with ref := E.ref.take m } { σ with ob := σ.ob.take m } a w := by
  have hm' : m ≤ E.ref.length := by rw [R.len]; exact hm
  refine ⟨R.df, R.n, fun i => (R.tm i).cut hm' (ht i), by simp [R.len], fun r o hr => ?_, fun r r' o o' g g' u u' b h1 h2 h3 h4 h5 h6 h7 h8 h9 => ?_, R.lt, R.fr, R.old, R.keep⟩
  · have hrm : r < m := by
      have := (List.getElem?_eq_some_iff.1 hr).1
      simp at this; omega
    have hr' : σ.ob[r]? = some o := by simpa [List.getElem?_take, hrm] using hr
    obtain ⟨u, k1, k2⟩ := R.ob r o hr'
    exact ⟨u, by simp [hrm, k1], k2.cut hm' (ho o (List.mem_of_getElem? hr))⟩
  · have tk : ∀ {α : Type} {l : List α} {j : Nat} {x : α}, (l.take m)[j]? = some x → l[j]? = some x := by
      intro α l j x h
      rw [List.getElem?_take] at h
      split at h
      · exact h
      · cases h
    exact R.sep r r' o o' g g' u u' b h1 (tk h2) (tk h3) h4 h5 (tk h6) (tk h7) h8 h9

theorem Leads.heap (hw : ∀ b, E.B b → w'.heap[b]? = w.heap[b]?) : Leads E w E w' := ⟨fun b hb => ⟨hb, hw b hb⟩, fun _ h => h, Nat.le_refl _, fun _ g u _ h => ⟨g, u, h, Nat.le_refl _, fun _ => rfl⟩⟩
theorem ownsRow_block {base : Nat} {e : TypeId} {s n : Nat} {u : Value} {xs : List Value} (h : w.ownsRow base e s u n xs) (hb : ∀ b, blk u = some b → w'.heap[b]? = w.heap[b]?) : w'.ownsRow base e s u n xs := by
  refine ⟨h.1, ?_⟩
  rcases h.2 with hn | ⟨g, cap, cur, rfl, h1, h2, h3⟩
  · exact .inl hn
  · exact .inr ⟨g, cap, cur, rfl, h1, (hb g rfl).trans h2, h3⟩
/-- An object that nobody has touched. -/
theorem OkO.keep {o : Ob} {u : Value} (L : Leads E w E' w') (h : OkO cx E w o u) (hb : ∀ b, blk u = some b → w'.heap[b]? = w.heap[b]?) (hB : o.live = true → ∀ b, blk u = some b → ¬ E.B b → ¬ E'.B b) : OkO cx E' w' o u := by
  unfold OkO at h ⊢
  split at h
  · obtain ⟨b, cs, h1, h2, h3, h4, h5⟩ := h
    subst h1
    refine ⟨b, cs, rfl, (hb b rfl).trans h2, h3.mono L, h4, ?_⟩
    cases hl : o.live with
    | true => rw [hl] at h5; simpa using hB hl b rfl (by simpa using h5)
    | false => rw [hl] at h5; simp only [Bool.false_eq_true, if_false] at h5 ⊢; exact ⟨(L.b b h5.1).1, L.f b h5.2.1, h5.2.2⟩
  · obtain ⟨s, l, xs, h1, h2, h3, h4, h5, h6, h7, h8⟩ := h
    refine ⟨s, l, xs, h1, h2, h3, h4, h5, ownsRow_block h6 hb, h7.mono L, fun b hbb => ?_⟩
    have := h8 b hbb
    cases hl : o.live with
    | true => rw [hl] at this; simpa using hB hl b hbb (by simpa using this)
    | false => rw [hl] at this; simp only [Bool.false_eq_true, if_false] at this ⊢; exact (L.b b this).1
  · obtain ⟨h0, s, l, xs, h1, h3, h4, h5, h6, h7, h8⟩ := h
    exact ⟨h0, s, l, xs, h1, h3, h4, h5, ownsRow_block h6 hb, h7.mono L, fun b hbb => hB h0 b hbb (h8 b hbb)⟩
/-- A live object's block is not among those that nobody writes; a block that exists. -/
theorem OkO.blk_lt {o : Ob} {u : Value} (h : OkO cx E w o u) {b : Nat} (hb : blk u = some b) : b < w.heap.size := by
  unfold OkO at h
  split at h
  · obtain ⟨b', cs, rfl, h2, _⟩ := h
    simp only [blk, Option.some.injEq] at hb
    subst hb
    exact heap_lt h2
  · obtain ⟨s, l, xs, h1, h2, h3, h4, h5, h6, h7, h8⟩ := h
    rcases h6.2 with ⟨rfl, _⟩ | ⟨g, cap, cur, rfl, k1, k2, k3⟩
    · simp [blk] at hb
    · simp only [blk, Option.some.injEq] at hb
      subst hb
      exact heap_lt k2
  · obtain ⟨h0, s, l, xs, h1, h3, h4, h5, h6, h7, h8⟩ := h
    rcases h6.2 with ⟨rfl, _⟩ | ⟨g, cap, cur, rfl, k1, k2, k3⟩
    · simp [blk] at hb
    · simp only [blk, Option.some.injEq] at hb
      subst hb
      exact heap_lt k2
theorem OkO.live_B {o : Ob} {u : Value} (h : OkO cx E w o u) (hl : o.live = true) {b : Nat} (hb : blk u = some b) : ¬ E.B b := by
  unfold OkO at h
  split at h
  · obtain ⟨b', cs, rfl, h2, _, _, h5⟩ := h
    simp only [blk, Option.some.injEq] at hb
    subst hb
    rw [hl] at h5
    simpa using h5
  · obtain ⟨s, l, xs, h1, h2, h3, h4, h5, h6, h7, h8⟩ := h
    have := h8 b hb
    rw [hl] at this
    simpa using this
  · obtain ⟨h0, s, l, xs, h1, h3, h4, h5, h6, h7, h8⟩ := h
    exact h8 b hb
theorem OkO.wr {o : Ob} {u : Value} (h : OkO cx E w o u) {b : Nat} (hb : blk u = some b) : cx.W.heap.size ≤ b ∨ cx.lent b := by
  unfold OkO at h
  split at h
  · obtain ⟨b', cs, rfl, h2, _, h4, h5⟩ := h
    simp only [blk, Option.some.injEq] at hb
    subst hb
    split at h4
    · exact .inr h4
    · exact .inl h4
  · obtain ⟨s, l, xs, h1, h2, h3, h4, h5, h6, h7, h8⟩ := h
    rcases h6.2 with ⟨rfl, _⟩ | ⟨g, cap, cur, rfl, k1, k2, k3⟩
    · simp [blk] at hb
    · simp only [blk, Option.some.injEq] at hb
      subst hb
      exact .inl k1
  · obtain ⟨h0, s, l, xs, h1, h3, h4, h5, h6, h7, h8⟩ := h
    rcases h6.2 with ⟨rfl, _⟩ | ⟨g, cap, cur, rfl, k1, k2, k3⟩
    · simp [blk] at hb
    · simp only [blk, Option.some.injEq] at hb
      subst hb
      exact .inl k1

/-- The world has moved on: what existed is as it was. -/
theorem Rel.grow (R : Rel cx E σ a w) (hk : Below w.heap.size w w') : Rel cx E σ a w' := by
  have L : Leads E w E w' := Leads.heap fun b hb => hk.block b (R.lt b hb)
  refine ⟨R.df, R.n, fun i => (R.tm i).mono L, R.len, fun r o hr => ?_, R.sep, fun b hb => Nat.lt_of_lt_of_le (R.lt b hb) hk.size, R.fr, R.old, ?_⟩
  · obtain ⟨u, k1, k2⟩ := R.ob r o hr
    exact ⟨u, k1, k2.keep L (fun b hb => hk.block b (k2.blk_lt hb)) (fun _ _ _ h => h)⟩
  · exact R.keep.trans ((Keep.of_below (S := cx.lent) hk))
theorem Rel.drew (R : Rel cx E σ a w) : Rel cx E σ a { w with drawn := w.drawn + 1 } := R.grow ⟨rfl, rfl, rfl, Nat.le_refl _, fun _ _ => rfl⟩

/-- A new object. -/
theorem Rel.new (R : Rel cx E σ a w) {o : Ob} {u : Value} (hb : Below w.heap.size w w') (hbl : ∀ b, blk u = some b → w.heap.size ≤ b)
    (hg : o.g = 0) (hl : o.live = true) (ho : OkO cx { E with ref := E.ref ++ [(0, u)] } w' o u) :
    Leads E w { E with ref := E.ref ++ [(0, u)] } w' ∧ Rel cx { E with ref := E.ref ++ [(0, u)] } { σ with ob := σ.ob ++ [o] } a w' := by
  have L : Leads E w { E with ref := E.ref ++ [(0, u)] } w' := by
    refine ⟨fun b hb' => ⟨hb', hb.block b (R.lt b hb')⟩, fun _ h => h, by simp, fun r g u' hr h => ⟨g, u', ?_, Nat.le_refl _, fun _ => rfl⟩⟩
    rw [List.getElem?_append_left hr] at h
    exact h
  have old : ∀ r o', (σ.ob ++ [o])[r]? = some o' → (r < σ.ob.length ∧ σ.ob[r]? = some o') ∨ (r = σ.ob.length ∧ o' = o) := by
    intro r o' h
    rw [List.getElem?_append] at h
    split at h
    · exact .inl ⟨‹_›, h⟩
    · rename_i hr
      cases hd : r - σ.ob.length with
      | zero => rw [hd] at h; simp at h; exact .inr ⟨by omega, h.symm⟩
      | succ k => rw [hd] at h; simp at h
  refine ⟨L, R.df, R.n, fun i => (R.tm i).mono L, by simp [R.len], fun r o' hr => ?_, fun r r' o1 o2 g g' u1 u2 b h1 h2 h3 h4 h5 h6 h7 h8 h9 => ?_, fun b hb' => Nat.lt_of_lt_of_le (R.lt b hb') hb.size, R.fr, R.old, R.keep.trans (Keep.of_below (S := cx.lent) hb)⟩
  · rcases old r o' hr with ⟨hlt, h⟩ | ⟨rfl, rfl⟩
    · obtain ⟨u', k1, k2⟩ := R.ob r o' h
      refine ⟨u', by rw [List.getElem?_append_left (by rw [R.len]; exact hlt)]; exact k1, k2.keep L (fun b hbb => hb.block b (k2.blk_lt hbb)) (fun _ _ _ h => h)⟩
    · exact ⟨u, by rw [← R.len, List.getElem?_append_right (Nat.le_refl _)]; simp [hg], ho⟩
  · have refs : ∀ r g u', (E.ref ++ [(0, u)])[r]? = some (g, u') → (r < σ.ob.length → E.ref[r]? = some (g, u')) ∧ (r = σ.ob.length → u' = u) := by
      intro r g u' h
      refine ⟨fun hr => by rwa [List.getElem?_append_left (by rw [R.len]; exact hr)] at h, fun hr => ?_⟩
      subst hr
      rw [← R.len, List.getElem?_append_right (Nat.le_refl _)] at h
      simp at h
      exact h.2.symm
    rcases old r o1 h2 with ⟨hlt, k⟩ | ⟨hr, rfl⟩
    · rcases old r' o2 h3 with ⟨hlt', k'⟩ | ⟨hr', rfl⟩
      · exact R.sep r r' o1 o2 g g' u1 u2 b h1 k k' h4 h5 ((refs _ _ _ h6).1 hlt) ((refs _ _ _ h7).1 hlt') h8 h9
      · obtain rfl := (refs _ _ _ h7).2 hr'
        have := hbl b h9
        obtain ⟨u0, m1, m2⟩ := R.ob r o1 k
        have e := (refs _ _ _ h6).1 hlt
        rw [m1] at e
        injection e with e
        injection e with _ e
        subst e
        have := m2.blk_lt h8
        omega
    · rcases old r' o2 h3 with ⟨hlt', k'⟩ | ⟨hr', rfl⟩
      · obtain rfl := (refs _ _ _ h6).2 hr
        have := hbl b h8
        obtain ⟨u0, m1, m2⟩ := R.ob r' o2 k'
        have e := (refs _ _ _ h7).1 hlt'
        rw [m1] at e
        injection e with e
        injection e with _ e
        subst e
        have := m2.blk_lt h9
        omega
      · omega

/-- A live object is written, or grows. -/
theorem Rel.touch (R : Rel cx E σ a w) {r : Nat} {o o' : Ob} {u u' : Value} (hr : σ.ob[r]? = some o) (hl : o.live = true) (hu : E.ref[r]? = some (o.g, u))
    (hk : Keep (fun b => blk u = some b) w w') (hl' : o'.live = true) (hg : (o'.g = o.g ∧ u' = u) ∨ o'.g = o.g + 1)
    (hb : ∀ b, blk u' = some b → blk u = some b ∨ w.heap.size ≤ b)
    (ho : OkO cx { E with ref := E.ref.set r (o'.g, u') } w' o' u') :
    Leads E w { E with ref := E.ref.set r (o'.g, u') } w' ∧ Rel cx { E with ref := E.ref.set r (o'.g, u') } { σ with ob := σ.ob.set r o' } a w' := by
  have hrl : r < E.ref.length := (List.getElem?_eq_some_iff.1 hu).1
  obtain ⟨u0, k1, k2⟩ := R.ob r o hr
  rw [hu] at k1
  injection k1 with k1
  injection k1 with _ k1
  subst k1
  have hBk : ∀ b, E.B b → w'.heap[b]? = w.heap[b]? := fun b hb' => hk.block b (R.lt b hb') (fun e => k2.live_B hl e hb')
  have L : Leads E w { E with ref := E.ref.set r (o'.g, u') } w' := by
    refine ⟨fun b hb' => ⟨hb', hBk b hb'⟩, fun _ h => h, by simp, fun r' g v hr' h => ?_⟩
    by_cases e : r = r'
    · subst e
      rw [List.getElem?_set_self hrl] at h
      injection h with h
      injection h with h1 h2
      subst h1 h2
      refine ⟨o.g, u, hu, by omega, fun e => ?_⟩
      rcases hg with ⟨_, rfl⟩ | hg
      · rfl
      · omega
    · rw [List.getElem?_set_ne e] at h
      exact ⟨g, v, h, Nat.le_refl _, fun _ => rfl⟩
  have rl : r < σ.ob.length := (List.getElem?_eq_some_iff.1 hr).1
  refine ⟨L, R.df, R.n, fun i => (R.tm i).mono L, by simp [R.len], fun r' o1 h1 => ?_, fun r1 r2 o1 o2 g1 g2 u1 u2 b h1 h2 h3 h4 h5 h6 h7 h8 h9 => ?_, fun b hb' => Nat.lt_of_lt_of_le (R.lt b hb') hk.size, R.fr, R.old, ⟨hk.os.trans R.keep.os, hk.tape.trans R.keep.tape, hk.output.trans R.keep.output, Nat.le_trans R.keep.size hk.size, fun k hk' hn => (hk.block k (Nat.lt_of_lt_of_le hk' R.keep.size) (fun e => ?_)).trans (R.keep.block k hk' hn)⟩⟩
  · by_cases e : r = r'
    · subst e
      rw [List.getElem?_set_self rl] at h1
      obtain rfl := Option.some.inj h1
      exact ⟨u', by rw [List.getElem?_set_self hrl], ho⟩
    · rw [List.getElem?_set_ne e] at h1
      obtain ⟨u1, m1, m2⟩ := R.ob r' o1 h1
      refine ⟨u1, by rw [List.getElem?_set_ne e]; exact m1, m2.keep L (fun b hbb => ?_) (fun _ _ _ h => h)⟩
      refine hk.block b (m2.blk_lt hbb) (fun e' => ?_)
      cases hl1 : o1.live with
      | true => exact R.sep r r' o o1 o.g o1.g u u1 b e hr h1 hl hl1 hu m1 e' hbb
      | false =>
        have : E.B b := by
          unfold OkO at m2
          split at m2
          · obtain ⟨b', cs, rfl, q2, _, _, q5⟩ := m2
            simp only [blk, Option.some.injEq] at hbb
            subst hbb
            rw [hl1] at q5
            simp only [Bool.false_eq_true, if_false] at q5
            exact q5.1
          · obtain ⟨s, l, xs, q1, q2, q3, q4, q5, q6, q7, q8⟩ := m2
            have := q8 b hbb
            rw [hl1] at this
            simpa using this
          · rw [m2.1] at hl1; cases hl1
        exact k2.live_B hl e' this
  · have key : ∀ r2 o2 g2 u2, r ≠ r2 → (σ.ob.set r o')[r2]? = some o2 → o2.live = true → (E.ref.set r (o'.g, u'))[r2]? = some (g2, u2) → blk u2 = some b → blk u' = some b → False := by
      intro r2 o2 g2 u2 e q1 q2 q3 q4 q5
      rw [List.getElem?_set_ne e] at q1 q3
      rcases hb b q5 with q | q
      · exact R.sep r r2 o o2 o.g g2 u u2 b e hr q1 hl q2 hu q3 q q4
      · obtain ⟨u3, m1, m2⟩ := R.ob r2 o2 q1
        rw [q3] at m1
        injection m1 with m1
        injection m1 with _ m1
        subst m1
        have := m2.blk_lt q4
        omega
    by_cases e1 : r = r1
    · subst e1
      have e2 := h6
      rw [List.getElem?_set_self hrl] at e2
      injection e2 with e2
      injection e2 with _ e2
      subst e2
      exact key r2 o2 g2 u2 h1 h3 h5 h7 h9 h8
    · by_cases e2 : r = r2
      · subst e2
        have e3 := h7
        rw [List.getElem?_set_self hrl] at e3
        injection e3 with e3
        injection e3 with _ e3
        subst e3
        exact key r1 o1 g1 u1 e1 h2 h4 h6 h8 h9
      · rw [List.getElem?_set_ne e1] at h2 h6
        rw [List.getElem?_set_ne e2] at h3 h7
        exact R.sep r1 r2 o1 o2 g1 g2 u1 u2 b h1 h2 h3 h4 h5 h6 h7 h8 h9
  · rcases k2.wr e with h | h
    · omega
    · exact hn h
end
end Rdn.Dp
