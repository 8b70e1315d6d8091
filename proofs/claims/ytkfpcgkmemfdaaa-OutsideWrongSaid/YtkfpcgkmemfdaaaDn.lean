/- The operations that make memory or write it: each does what is told of it. Over any program. -/
import Derived.Test.YtkfpcgkmemfdaaaDm
import Derived.Laws.MakeOwn
import Derived.Great.BuildSlice
namespace Rdn.Dp
open Go Go.RowKit Rdn
set_option linter.unusedVariables false

theorem seg_set : ∀ (c : List Value) (off k : Nat) (cells : Array Value) (pre old post : List Value), cells.toList = pre ++ (old ++ post) → old.length = c.length → pre.length = off + k →
    ((c.zipIdx k).foldl (fun cs x => cs.setIfInBounds (off + x.2) x.1) cells).toList = pre ++ (c ++ post)
  | [], off, k, cells, pre, old, post, h, hl, _ => by
    obtain rfl := List.eq_nil_of_length_eq_zero hl
    simpa using h
  | x :: c, off, k, cells, pre, old, post, h, hl, hp => by
    cases old with
    | nil => simp at hl
    | cons y old =>
      rw [List.zipIdx_cons, List.foldl_cons]
      have := seg_set c off (k + 1) (cells.setIfInBounds (off + k) x) (pre ++ [x]) old post (by
        rw [Array.toList_setIfInBounds, h, ← hp, List.set_append_right _ _ (Nat.le_refl _)]; simp) (by simpa using hl) (by simp; omega)
      simpa using this
theorem size_setD {l : List V} {i : Nat} {x : V} (hi : i < l.length) (hx : x.size = (l.getD i .junk).size) (j : Nat) : V.sizes ((l.set i x).take j) = V.sizes (l.take j) ∧ ((l.set i x).getD j .junk).size = (l.getD j .junk).size := by
  rw [getD_lt hi] at hx
  constructor
  · by_cases hij : i < j
    · rw [List.take_set]
      refine sizes_set (by rw [List.length_take]; omega) ?_
      rw [hx, List.getElem_take]
    · rw [List.take_set_of_le (by omega)]
  · simp only [List.getD_eq_getElem?_getD, List.getElem?_set]
    split
    · rename_i e
      subst e
      simp [hi, hx]
    · rfl
def Parts (E : Env) (w : World) : List (Nat × V) → List (Nat × Value) → Prop
  | [], vs => vs = []
  | p :: ps, vs => ∃ v vs', vs = (p.1, v) :: vs' ∧ RdT E w p.2 v ∧ Parts E w ps vs'
theorem fill_rd {E : Env} {w : World} {place : Nat → Option (Nat × Nat)} : ∀ (ps : List (Nat × V)) (vs : List (Nat × Value)) (l : List V) (cells : Array Value), RdL E w l cells.toList → fits l ps → Parts E w ps vs →
    (∀ i, i < l.length → place i = some (V.sizes (l.take i), (l.getD i .junk).size)) → ∃ r, Instr.fill place cells vs = some r ∧ RdL E w (setps l ps) r.toList
  | [], vs, l, cells, h, _, hp, _ => by
    simp only [Parts] at hp
    subst hp
    exact ⟨cells, rfl, h⟩
  | (i, x) :: ps, vs, l, cells, h, hf, hp, hpl => by
    simp only [fits] at hf
    obtain ⟨hi, hs, h0, hf⟩ := hf
    simp only [Parts] at hp
    obtain ⟨v, vs, rfl, hv, hp⟩ := hp
    have hV := hv.toV h0
    have hvl := hV.len
    obtain ⟨pre, c, post, e, h1, h2, h3⟩ := h.part hi
    have hcl := h2.len
    rw [getD_lt hi] at hs
    have hcs : cells.size = pre.length + (c.length + post.length) := by rw [← Array.length_toList, e]; simp
    have hvs : v.cells.size = c.length := by rw [hcl, ← hs, ← hvl]; simp
    have hseg := seg_set v.cells.toList pre.length 0 cells pre c post e (by simp [hvs]) rfl
    obtain ⟨r, k1, k2⟩ := fill_rd (place := place) ps vs (l.set i x) (v.cells.zipIdx.foldl (fun cs x => cs.setIfInBounds (pre.length + x.2) x.1) cells) (by
      rw [← Array.foldl_toList, Array.toList_zipIdx, hseg]
      exact h3 (fun _ _ h => h) x _ hV) hf hp (fun j hj => by
        have := size_setD (x := x) hi (by rw [getD_lt hi]; exact hs) j
        rw [this.1, this.2]
        exact hpl j (by simpa using hj))
    refine ⟨r, ?_, k2⟩
    unfold Instr.fill
    rw [hpl i hi]
    simp only [getD_lt hi, ← h1]
    rw [if_neg (by simp [hvs, hcs, hcl])]
    exact k1

section
variable {P : Program} {cx : Cx} {E : Env} {σ : AS} {a : Act} {w : World}
theorem compPs_rd (R : Rel cx E σ a w) : ∀ {ps : List (Nat × Operand)} {qs : List (Nat × X)}, compPs ps = some qs → Parts E w (evs σ qs) (ps.map fun (p : Nat × Operand) => (p.1, a.eval p.2))
  | [], qs, h => by simp only [compPs, Option.some.injEq] at h; subst h; simp [evs, Parts]
  | (i, x) :: l, qs, h => by
    simp only [compPs] at h
    split at h
    · rename_i y m h1 h2
      cases h
      simp only [evs, List.map_cons, Parts]
      exact ⟨_, _, rfl, compX_rd R h1, compPs_rd R h2⟩
    · cases h
/-- What an operation leaves. -/
def Leaves (P : Program) (cx : Cx) (E : Env) (a : Act) (w : World) (o : Oper) (x : V) (σ' : AS) : Prop :=
  ∃ v w' E', ((execOp a.eval o).run P w = .ok (.value v) w' ∨ ((execOp a.eval o).run P w = .ok .skip w' ∧ v = undef)) ∧ Leads E w E' w' ∧ RdT E' w' x v ∧ Rel cx E' σ' a w'
theorem blk_row {g n c : Nat} : blk (.slice (some ⟨g, 0, none⟩) n c) = some g := rfl
/-- A new row. -/
theorem new_row (R : Rel cx E σ a w) {e s : Nat} {l : List V} {cs : Array Value} {n c : Nat} (hn : n = l.length) (hc : n ≤ c) (hcs : cs.size = c * s) (hs : 0 < s) (hm : c ≤ 140737488355328) (hp : V.pures l = true) (hU : Unif s l)
    (hr : RdL E w l (cs.toList.take (n * s))) :
    Leads E w { E with ref := E.ref ++ [(0, .slice (some ⟨w.heap.size, 0, none⟩) n c)] } (w.alloc (.cells cs e)) ∧
      RdT { E with ref := E.ref ++ [(0, .slice (some ⟨w.heap.size, 0, none⟩) n c)] } (w.alloc (.cells cs e)) (.own σ.ob.length 0) (.slice (some ⟨w.heap.size, 0, none⟩) n c) ∧
      Rel cx { E with ref := E.ref ++ [(0, .slice (some ⟨w.heap.size, 0, none⟩) n c)] } { σ with ob := σ.ob ++ [⟨.row e, true, 0, .arr s l⟩] } a (w.alloc (.cells cs e)) := by
  subst hn
  have hB : Below w.heap.size w (w.alloc (.cells cs e)) := (Below.refl _ _).alloc (Nat.le_refl _) _
  have L : Leads E w { E with ref := E.ref ++ [(0, .slice (some ⟨w.heap.size, 0, none⟩) l.length c)] } (w.alloc (.cells cs e)) := by
    refine ⟨fun b hb => ⟨hb, hB.block b (R.lt b hb)⟩, fun _ h => h, by simp, fun r g u hr h => ⟨g, u, ?_, Nat.le_refl _, fun _ => rfl⟩⟩
    rw [List.getElem?_append_left hr] at h
    exact h
  obtain ⟨_, R'⟩ := R.new (w' := w.alloc (.cells cs e)) (o := ⟨.row e, true, 0, .arr s l⟩) (u := .slice (some ⟨w.heap.size, 0, none⟩) l.length c) hB (fun b hb => by simp [blk] at hb; omega) rfl rfl (by
    unfold OkO
    refine ⟨s, l, cs.toList.take (l.length * s), rfl, hp, hU, hs, by omega, ⟨?_, .inr ⟨w.heap.size, c, cs, rfl, R.keep.size, heap_alloc_new _ _, hc, by simp [maxLen]; omega, hcs, rfl⟩⟩, hr.mono L, fun b hb => ?_⟩
    · have : l.length * s ≤ c * s := Nat.mul_le_mul_right _ hc
      have h2 : cs.toList.length = c * s := by rw [Array.length_toList, hcs]
      rw [List.length_take, h2]
      exact Nat.min_eq_left this
    · simp only [blk, Option.some.injEq] at hb
      subst hb
      simp only [if_true]
      intro hb
      have := R.lt _ hb
      omega)
  refine ⟨L, ?_, R'⟩
  simp only [RdT, RdV]
  refine ⟨_, rfl, rfl, by simp [R.len], fun gc u h => ?_⟩
  rw [← R.len, List.getElem?_append_right (Nat.le_refl _)] at h
  simp at h
  obtain ⟨h1, h2⟩ := h
  subst h1
  exact ⟨Nat.le_refl _, fun _ => h2⟩
/-- A new row that may hold rows. -/
theorem new_rows (R : Rel cx E σ a w) {e s : Nat} {l : List V} {cs : Array Value} {n c : Nat} (hn : n = l.length) (hc : n ≤ c) (hcs : cs.size = c * s) (hs : 0 < s) (hm : c ≤ 140737488355328) (hU : Unif s l)
    (hr : RdL E w l (cs.toList.take (n * s))) :
    Leads E w { E with ref := E.ref ++ [(0, .slice (some ⟨w.heap.size, 0, none⟩) n c)] } (w.alloc (.cells cs e)) ∧
      RdT { E with ref := E.ref ++ [(0, .slice (some ⟨w.heap.size, 0, none⟩) n c)] } (w.alloc (.cells cs e)) (.own σ.ob.length 0) (.slice (some ⟨w.heap.size, 0, none⟩) n c) ∧
      Rel cx { E with ref := E.ref ++ [(0, .slice (some ⟨w.heap.size, 0, none⟩) n c)] } { σ with ob := σ.ob ++ [⟨.rows e, true, 0, .arr s l⟩] } a (w.alloc (.cells cs e)) := by
  subst hn
  have hB : Below w.heap.size w (w.alloc (.cells cs e)) := (Below.refl _ _).alloc (Nat.le_refl _) _
  have L : Leads E w { E with ref := E.ref ++ [(0, .slice (some ⟨w.heap.size, 0, none⟩) l.length c)] } (w.alloc (.cells cs e)) := by
    refine ⟨fun b hb => ⟨hb, hB.block b (R.lt b hb)⟩, fun _ h => h, by simp, fun r g u hr h => ⟨g, u, ?_, Nat.le_refl _, fun _ => rfl⟩⟩
    rw [List.getElem?_append_left hr] at h
    exact h
  obtain ⟨_, R'⟩ := R.new (w' := w.alloc (.cells cs e)) (o := ⟨.rows e, true, 0, .arr s l⟩) (u := .slice (some ⟨w.heap.size, 0, none⟩) l.length c) hB (fun b hb => by simp [blk] at hb; omega) rfl rfl (by
    unfold OkO
    refine ⟨rfl, s, l, cs.toList.take (l.length * s), rfl, hU, hs, by omega, ⟨?_, .inr ⟨w.heap.size, c, cs, rfl, R.keep.size, heap_alloc_new _ _, hc, by simp [maxLen]; omega, hcs, rfl⟩⟩, hr.mono L, fun b hb => ?_⟩
    · have : l.length * s ≤ c * s := Nat.mul_le_mul_right _ hc
      have h2 : cs.toList.length = c * s := by rw [Array.length_toList, hcs]
      rw [List.length_take, h2]
      exact Nat.min_eq_left this
    · simp only [blk, Option.some.injEq] at hb
      subst hb
      intro hb
      have := R.lt _ hb
      omega)
  refine ⟨L, ?_, R'⟩
  simp only [RdT, RdV]
  refine ⟨_, rfl, rfl, by simp [R.len], fun gc u h => ?_⟩
  rw [← R.len, List.getElem?_append_right (Nat.le_refl _)] at h
  simp at h
  obtain ⟨h1, h2⟩ := h
  subst h1
  exact ⟨Nat.le_refl _, fun _ => h2⟩
/-- A new variable. -/
theorem new_box (R : Rel cx E σ a w) {T : TypeId} {x : V} {cs : Array Value} (hx : RdV E w x cs.toList) :
    Leads E w { E with ref := E.ref ++ [(0, .pointer (some ⟨w.heap.size, 0, none⟩))] } (w.alloc (.cells cs T)) ∧
      RdT { E with ref := E.ref ++ [(0, .pointer (some ⟨w.heap.size, 0, none⟩))] } (w.alloc (.cells cs T)) (.ptr σ.ob.length 0 [] 0) (.pointer (some ⟨w.heap.size, 0, none⟩)) ∧
      Rel cx { E with ref := E.ref ++ [(0, .pointer (some ⟨w.heap.size, 0, none⟩))] } { σ with ob := σ.ob ++ [⟨.box false T, true, 0, x⟩] } a (w.alloc (.cells cs T)) := by
  have hB : Below w.heap.size w (w.alloc (.cells cs T)) := (Below.refl _ _).alloc (Nat.le_refl _) _
  have L : Leads E w { E with ref := E.ref ++ [(0, .pointer (some ⟨w.heap.size, 0, none⟩))] } (w.alloc (.cells cs T)) := by
    refine ⟨fun b hb => ⟨hb, hB.block b (R.lt b hb)⟩, fun _ h => h, by simp, fun r g u hr h => ⟨g, u, ?_, Nat.le_refl _, fun _ => rfl⟩⟩
    rw [List.getElem?_append_left hr] at h
    exact h
  obtain ⟨_, R'⟩ := R.new (w' := w.alloc (.cells cs T)) (o := ⟨.box false T, true, 0, x⟩) (u := .pointer (some ⟨w.heap.size, 0, none⟩)) hB (fun b hb => by simp [blk] at hb; omega) rfl rfl (by
    unfold OkO
    refine ⟨w.heap.size, cs.toList, rfl, by simpa using heap_alloc_new _ _, hx.mono L, by simpa using R.keep.size, ?_⟩
    simp only [if_true]
    intro hb
    have := R.lt _ hb
    omega)
  refine ⟨L, ?_, R'⟩
  refine mk_ptr (g' := 0) (u := .pointer (some ⟨w.heap.size, 0, none⟩)) ?_ rfl
  rw [← R.len, List.getElem?_append_right (Nat.le_refl _)]
  simp
/-- From now on nobody writes the object. -/
theorem Rel.freeze (R : Rel cx E σ a w) {r : Nat} {o : Ob} {u : Value} (hr : σ.ob[r]? = some o) (hu : E.ref[r]? = some (o.g, u)) (hk : ∀ b, blk u = some b → cx.W.heap.size ≤ b ∧ ((match o.k with | .box _ _ => o.v.pure = true | _ => True))) (hr0 : ∀ e, o.k ≠ .rows e := by intro e h; cases h) :
    Leads E w { E with B := fun b => E.B b ∨ blk u = some b } w ∧ Rel cx { E with B := fun b => E.B b ∨ blk u = some b } (σ.upd r Ob.freeze) a w := by
  have L : Leads E w { E with B := fun b => E.B b ∨ blk u = some b } w := ⟨fun b hb => ⟨.inl hb, rfl⟩, fun _ h => h, Nat.le_refl _, fun _ g u _ h => ⟨g, u, h, Nat.le_refl _, fun _ => rfl⟩⟩
  obtain ⟨u0, k1, k2⟩ := R.ob r o hr
  rw [hu] at k1
  injection k1 with k1
  injection k1 with _ k1
  subst k1
  have rl : r < σ.ob.length := (List.getElem?_eq_some_iff.1 hr).1
  have hupd : (σ.upd r Ob.freeze).ob = σ.ob.set r o.freeze := by simp [AS.upd, hr]
  refine ⟨L, R.df, R.n, fun i => (R.tm i).mono L, by rw [hupd]; simp [R.len], fun r' o1 h1 => ?_, fun r1 r2 o1 o2 g1 g2 u1 u2 b h1 h2 h3 h4 h5 h6 h7 h8 h9 => ?_, fun b hb => ?_, R.fr, fun b hb hlt => ?_, R.keep⟩
  · rw [hupd] at h1
    by_cases e : r = r'
    · subst e
      rw [List.getElem?_set_self rl] at h1
      obtain rfl := Option.some.inj h1
      refine ⟨u, hu, ?_⟩
      unfold OkO at k2 ⊢
      simp only [Ob.freeze]
      split at k2
      · rename_i q T hkk
        obtain ⟨b, cs, rfl, m1, m2, m3, m4⟩ := k2
        obtain ⟨n1, n2⟩ := hk b rfl
        rw [hkk] at n2
        refine ⟨b, cs, rfl, m1, m2.mono L, m3, ?_⟩
        simp only [Bool.false_eq_true, if_false]
        exact ⟨.inr rfl, (R.fr b).2 n1, n2⟩
      · obtain ⟨s, l, xs, m1, m2, m3, m4, m5, m6, m7, m8⟩ := k2
        exact ⟨s, l, xs, m1, m2, m3, m4, m5, m6, m7.mono L, fun b hb => by simp only [Bool.false_eq_true, if_false]; exact .inr hb⟩
      · rename_i e hkk
        exact (hr0 e hkk).elim
    · rw [List.getElem?_set_ne e] at h1
      obtain ⟨u1, m1, m2⟩ := R.ob r' o1 h1
      refine ⟨u1, m1, m2.keep L (fun _ _ => rfl) (fun hl b hb hnb hb' => ?_)⟩
      rcases hb' with hb' | hb'
      · exact hnb hb'
      · cases hl0 : o.live with
        | true => exact R.sep r r' o o1 o.g o1.g u u1 b e hr h1 hl0 hl hu m1 hb' hb
        | false =>
          refine hnb ?_
          unfold OkO at k2
          split at k2
          · obtain ⟨b', cs, rfl, _, _, _, m4⟩ := k2
            simp only [blk, Option.some.injEq] at hb'
            subst hb'
            rw [hl0] at m4
            simp only [Bool.false_eq_true, if_false] at m4
            exact m4.1
          · obtain ⟨s, l, xs, n1, n2, n3, n4, n5, n6, n7, n8⟩ := k2
            have := n8 b hb'
            rw [hl0] at this
            simpa using this
          · rw [k2.1] at hl0; cases hl0
  · rw [hupd] at h2 h3
    by_cases e1 : r = r1
    · subst e1
      rw [List.getElem?_set_self rl] at h2
      obtain rfl := Option.some.inj h2
      simp [Ob.freeze] at h4
    · by_cases e2 : r = r2
      · subst e2
        rw [List.getElem?_set_self rl] at h3
        obtain rfl := Option.some.inj h3
        simp [Ob.freeze] at h5
      · rw [List.getElem?_set_ne e1] at h2
        rw [List.getElem?_set_ne e2] at h3
        exact R.sep r1 r2 o1 o2 g1 g2 u1 u2 b h1 h2 h3 h4 h5 h6 h7 h8 h9
  · rcases hb with hb | hb
    · exact R.lt b hb
    · exact k2.blk_lt hb
  · rcases hb with hb | hb
    · exact R.old b hb hlt
    · have := (hk b hb).1; omega
end
end Rdn.Dp
