/- Less is told of a value. -/
import Derived.Test.YtkfpcgkmemfdaaaDd
namespace Go.Proofs.Ytkfpcgkmemfdaaa
open Go Go.RowKit Rdn Rdn.Dp
set_option linter.unusedVariables false
set_option linter.unusedSimpArgs false
theorem subVs_len : ∀ {l m : List V}, SubVs l m → m.length = l.length
  | [], [], _ => rfl
  | x :: l, y :: m, h => by simp [subVs_len h.2]
  | [], y :: m, h => h.elim
  | x :: l, [], h => h.elim
theorem subV_sl {t : Bool} {s : Nat} {l m : List V} (h : SubVs l m) (hp : V.pures m = true) (hu : Unif s m) : SubV (.sl t s l) (.sl false s m) := by
  intro E w cs hr
  have hl := subVs_len h
  simp only [RdV] at hr ⊢
  obtain ⟨_, _, A, c, e, h1, h2, h3⟩ := hr
  refine ⟨hp, hu, A, c, by rw [hl]; exact e, by omega, by omega, fun h0 => ?_⟩
  obtain ⟨b, o, xs, k1, k2, k3, k4, k5⟩ := h3 (by omega)
  exact ⟨b, o, xs, k1, k2, (fun h => by cases h), h.rd k4, k5⟩
theorem subVs_map {α : Type} {f g : α → V} (h : ∀ a, SubV (f a) (g a)) : ∀ l : List α, SubVs (l.map f) (l.map g)
  | [] => trivial
  | a :: l => ⟨h a, subVs_map h l⟩
theorem subVs_rep {x y : V} (h : SubV x y) : ∀ n : Nat, SubVs (List.replicate n x) (List.replicate n y)
  | 0 => trivial
  | n + 1 => ⟨h, subVs_rep h n⟩
theorem unif_map {α : Type} {s : Nat} {f : α → V} (h : ∀ a, (f a).size = s) (l : List α) : Unif s (l.map f) := fun x hx => by
  obtain ⟨a, _, rfl⟩ := List.mem_map.1 hx
  exact h a
theorem ev_slotSub {P : Program} {cx : Cx} {N : Nat} {Q : Exit → Act → World → Prop} {k : List It} {n : Nat} {t : List (Nat × V)} {ob : List Ob} (i : Nat) {x : V} (y : V) (hi : slotV t i = x) (hs : ∀ E w v, RdT E w x v → RdT E w y v) (h : Ev P cx N Q k ⟨n, (i, y) :: t, ob⟩) : Ev P cx N Q k ⟨n, t, ob⟩ := by
  refine ⟨fun hn E a w R => h.h hn E a w ⟨R.df, R.n, fun j => ?_, R.len, R.ob, R.sep, R.lt, R.fr, R.old, R.keep⟩⟩
  simp only [slotV]
  split
  · rename_i e
    subst e
    have := R.tm i
    have this : RdT E w (slotV t i) (a.tmps.getD i undef) := this
    rw [hi] at this
    exact hs _ _ _ this
  · exact R.tm j
/-- A row of one's own is not written any more, and less is told of it. -/
theorem ev_frzSub {P : Program} {cx : Cx} {N : Nat} {Q : Exit → Act → World → Prop} {k : List It} {n : Nat} {t : List (Nat × V)} {ob : List Ob} (i : Nat) {r g e s : Nat} {q : List V} (q' : List V) (hi : slotV t i = .own r g) (ho : ob[r]? = some ⟨.row e, true, g, .arr s q⟩) (hs : SubVs q q') (hp : V.pures q' = true) (hu : Unif s q') (h : Ev P cx N Q k ⟨n, (i, .sl false s q') :: (i, .sl true s q) :: t, ob.set r ⟨.row e, false, g, .arr s q⟩⟩) : Ev P cx N Q k ⟨n, t, ob⟩ :=
  ev_freeze i hi ho (ev_slotSub i (x := .sl true s q) _ (by simp [slotV]) (fun E w v hr => by
    simp only [RdT] at hr ⊢
    exact subV_sl hs hp hu _ _ _ hr) h)
theorem subV_flag (t : Bool) (s : Nat) (l : List V) : SubV (.sl t s l) (.sl false s l) := by
  intro E w cs hr
  simp only [RdV] at hr ⊢
  obtain ⟨h1, h2, A, c, e, h3, h4, h5⟩ := hr
  refine ⟨h1, h2, A, c, e, h3, h4, fun h0 => ?_⟩
  obtain ⟨b, o, xs, k1, k2, k3, k4, k5⟩ := h5 h0
  exact ⟨b, o, xs, k1, k2, (fun h => by cases h), k4, k5⟩
/-- A slice in a slot is told less of. -/
theorem ev_lowS {P : Program} {cx : Cx} {N : Nat} {Q : Exit → Act → World → Prop} {k : List It} {n : Nat} {t : List (Nat × V)} {ob : List Ob} (i : Nat) {b : Bool} {s : Nat} {l : List V} (hi : slotV t i = .sl b s l) (h : Ev P cx N Q k ⟨n, (i, .sl false s l) :: t, ob⟩) : Ev P cx N Q k ⟨n, t, ob⟩ :=
  ev_slotSub i (x := .sl b s l) _ hi (fun E w v hr => by
    simp only [RdT] at hr ⊢
    exact subV_flag _ _ _ _ _ _ hr) h
theorem subVs_set : ∀ {l m : List V} (k : Nat) {x y : V}, SubVs l m → SubV x y → SubVs (l.set k x) (m.set k y)
  | [], [], _, _, _, _, _ => trivial
  | a :: l, b :: m, 0, _, _, h, hx => ⟨hx, h.2⟩
  | a :: l, b :: m, k + 1, _, _, h, hx => ⟨h.1, subVs_set k h.2 hx⟩
  | [], b :: m, _, _, _, h, _ => h.elim
  | a :: l, [], _, _, _, h, _ => h.elim
theorem subVs_setnil {α : Type} (t : Bool) (s : Nat) (f : α → V) (l : List (List α)) (k : Nat) : SubVs ((l.map (slV' t s f)).set k .nilS) ((l.set k []).map (slV' t s f)) := by
  rw [List.map_set]
  exact subVs_set k (SubVs.refl _) (SubV.nil _ _)
end Go.Proofs.Ytkfpcgkmemfdaaa
