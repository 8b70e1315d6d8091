/- Sockets: all steps. -/
import Derived.Test.YtibfpmochioopaaK7
import Derived.Test.YtibfpmochioopaaK6
import Derived.Test.YtibfpmochioopaaG4
namespace Go.Proofs.Ytibfpmochioopaa
open Go Go.RowKit Rdn Rdn.Dp
set_option linter.unusedVariables false
set_option linter.unusedSimpArgs false
theorem subVs_len : ∀ {l m : List V}, SubVs l m → m.length = l.length
  | [], [], _ => rfl
  | x :: l, y :: m, h => by simp [subVs_len h.2]
  | [], y :: m, h => h.elim
  | x :: l, [], h => h.elim
theorem subV_sl {t : Bool} {s : Nat} {l m : List V} (h : SubVs l m) (hp : V.pures m = true) (hu : Unif s m) : SubV (.sl t s l) (.sl false s m) := by
  intro E w cs hr
  have hl := subVs_len h
  simp only [RdV] at hr ⊢
  obtain ⟨_, _, A, c, e, h1, h2, h3⟩ := hr
  refine ⟨hp, hu, A, c, by rw [hl]; exact e, by omega, by omega, fun h0 => ?_⟩
  obtain ⟨b, o, xs, k1, k2, k3, k4, k5⟩ := h3 (by omega)
  exact ⟨b, o, xs, k1, k2, (fun h => by cases h), h.rd k4, k5⟩
theorem subVs_map {α : Type} {f g : α → V} (h : ∀ a, SubV (f a) (g a)) : ∀ l : List α, SubVs (l.map f) (l.map g)
  | [] => trivial
  | a :: l => ⟨h a, subVs_map h l⟩
theorem subVs_rep {x y : V} (h : SubV x y) : ∀ n : Nat, SubVs (List.replicate n x) (List.replicate n y)
  | 0 => trivial
  | n + 1 => ⟨h, subVs_rep h n⟩
theorem unif_map {α : Type} {s : Nat} {f : α → V} (h : ∀ a, (f a).size = s) (l : List α) : Unif s (l.map f) := fun x hx => by
  obtain ⟨a, _, rfl⟩ := List.mem_map.1 hx
  exact h a
theorem ev_slotSub {P : Program} {cx : Cx} {N : Nat} {Q : Exit → Act → World → Prop} {k : List It} {n : Nat} {t : List (Nat × V)} {ob : List Ob} (i : Nat) {x : V} (y : V) (hi : slotV t i = x) (hs : ∀ E w v, RdT E w x v → RdT E w y v) (h : Ev P cx N Q k ⟨n, (i, y) :: t, ob⟩) : Ev P cx N Q k ⟨n, t, ob⟩ := by
  refine ⟨fun hn E a w R => h.h hn E a w ⟨R.df, R.n, fun j => ?_, R.len, R.ob, R.sep, R.lt, R.fr, R.old, R.keep⟩⟩
  simp only [slotV]
  split
  · rename_i e
    subst e
    have := R.tm i
    have this : RdT E w (slotV t i) (a.tmps.getD i undef) := this
    rw [hi] at this
    exact hs _ _ _ this
  · exact R.tm j
/-- A row of one's own is not written any more, and less is told of it. -/
theorem ev_frzSub {P : Program} {cx : Cx} {N : Nat} {Q : Exit → Act → World → Prop} {k : List It} {n : Nat} {t : List (Nat × V)} {ob : List Ob} (i : Nat) {r g e s : Nat} {q : List V} (q' : List V) (hi : slotV t i = .own r g) (ho : ob[r]? = some ⟨.row e, true, g, .arr s q⟩) (hs : SubVs q q') (hp : V.pures q' = true) (hu : Unif s q') (h : Ev P cx N Q k ⟨n, (i, .sl false s q') :: (i, .sl true s q) :: t, ob.set r ⟨.row e, false, g, .arr s q⟩⟩) : Ev P cx N Q k ⟨n, t, ob⟩ :=
  ev_freeze i hi ho (ev_slotSub i (x := .sl true s q) _ (by simp [slotV]) (fun E w v hr => by
    simp only [RdT] at hr ⊢
    exact subV_sl hs hp hu _ _ _ hr) h)
theorem subV_flag (t : Bool) (s : Nat) (l : List V) : SubV (.sl t s l) (.sl false s l) := by
  intro E w cs hr
  simp only [RdV] at hr ⊢
  obtain ⟨h1, h2, A, c, e, h3, h4, h5⟩ := hr
  refine ⟨h1, h2, A, c, e, h3, h4, fun h0 => ?_⟩
  obtain ⟨b, o, xs, k1, k2, k3, k4, k5⟩ := h5 h0
  exact ⟨b, o, xs, k1, k2, (fun h => by cases h), k4, k5⟩
theorem subV_out (t : Bool) (o : Output) : SubV (outputV t o) (outputV false o) := SubV.agg ⟨SubV.refl _, SubV.refl _, subV_flag _ _ _, trivial⟩
abbrev osV (l : List Output) : V := slV' false 3 (outputV false) l
theorem subV_outs (t u : Bool) (l : List Output) : SubV (.sl t 3 (l.map (outputV u))) (osV l) := subV_sl (subVs_map (subV_out u) l) (pures_lo _ l) (unif_map (f := outputV false) (s := 3) (fun _ => rfl) l)
theorem subV_long (t : Bool) (n : Nat) : SubV (.sl t 3 (List.replicate n (.agg [.int .i64 0, .int .i64 0, .nilS]))) (osV (List.replicate n ⟨0, 0, []⟩)) := by
  have h : SubV (.agg [.int .i64 0, .int .i64 0, .nilS]) (outputV false ⟨0, 0, []⟩) := SubV.agg ⟨SubV.refl _, SubV.refl _, SubV.nil _ _, trivial⟩
  refine subV_sl (m := (List.replicate n (⟨0, 0, []⟩ : Output)).map (outputV false)) ?_ (pures_lo _ _) (unif_map (f := outputV false) (s := 3) (fun _ => rfl) _)
  rw [List.map_replicate]
  exact subVs_rep h n
theorem rep_canon (n : Nat) : List.replicate n (V.agg [.int .u8 0, .int .u16 0, .int .i64 0, .int .i64 0]) = (List.replicate n (⟨0, 0, 0, 0⟩ : Canon)).map canonV := by rw [List.map_replicate]
theorem rsame_refl (a : List Output) : Fnc Try.prog 13 [.sl false 3 (a.map (outputV false)), .sl false 3 (a.map (outputV false))] (fun x obs => x = .bool true ∧ obs = []) := by
  have h := rsameo_fn a a
  rwa [eqB_T rfl] at h
theorem scanon_refl (a : List Canon) : Fnc Try.prog 14 [.sl false 4 (a.map canonV), .sl false 4 (a.map canonV)] (fun x obs => x = .bool true ∧ obs = []) := by
  have h := samecanon_fn a a
  rwa [decT rfl] at h
theorem subV_rep (t : Bool) (n : Nat) : SubV (.sl t 4 (List.replicate n (.agg [.int .u8 0, .int .u16 0, .int .i64 0, .int .i64 0]))) (slV' false 4 canonV (List.replicate n ⟨0, 0, 0, 0⟩)) := by
  rw [rep_canon]
  exact subV_flag t 4 _
theorem sRecv_num (wss : List (List Int)) (s n : Int) : (sRecv wss s n).1.length = wss.length := by
  unfold sRecv
  split <;> simp
theorem sRecv_len {wss : List (List Int)} (hw : ∀ w ∈ wss, w.length ≤ 100000) (s n : Int) : ∀ w ∈ (sRecv wss s n).1, w.length ≤ 100000 := by
  unfold sRecv
  split
  · exact hw
  · rename_i h
    intro w hx
    rcases List.mem_or_eq_of_mem_set hx with hx | rfl
    · exact hw w hx
    · rw [List.length_drop]
      have := hw _ (mem_at (l := wss) (k := s.toNat) (by omega))
      omega
end Go.Proofs.Ytibfpmochioopaa
