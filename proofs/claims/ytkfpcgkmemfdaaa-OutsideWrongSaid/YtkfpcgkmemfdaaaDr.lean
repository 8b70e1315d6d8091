/- A store, a slice of a slice, append: each does what is told of it. Over any program. -/
import Derived.Test.YtkfpcgkmemfdaaaDq
namespace Rdn.Dp
open Go Go.RowKit Rdn
set_option linter.unusedVariables false
section
variable {P : Program} {cx : Cx} {E : Env} {σ : AS} {a : Act} {w : World}
theorem set_self' {α : Type} {l : List α} {r : Nat} {x : α} (h : l[r]? = some x) : l.set r x = l := by
  apply List.ext_getElem?
  intro i
  rw [List.getElem?_set]
  split
  · rename_i e; subst e; rw [h]; simp [(List.getElem?_eq_some_iff.1 h).1]
  · rfl
/-- An object's block, whole; and the object with other cells. -/
theorem OkO.heap {o : Ob} {u : Value} (h : OkO cx E w o u) {b : Nat} (hb : blk u = some b) : ∃ cur t xs rest, w.heap[b]? = some (.cells cur t (0, 0)) ∧ cur.toList = xs ++ rest ∧ RdV E w o.v xs ∧
    ∀ {w' : World} {v' : V} {xs' : List Value}, w'.heap[b]? = some (.cells (xs' ++ rest).toArray t (0, 0)) → xs'.length = xs.length → RdV E w' v' xs' → (match o.k with | .box _ _ => True | .row _ => ∃ s l l', o.v = .arr s l ∧ v' = .arr s l' ∧ l'.length = l.length ∧ V.pures l' = true | .rows _ => ∃ s l l', o.v = .arr s l ∧ v' = .arr s l' ∧ l'.length = l.length) → (o.live = true) →
      OkO cx E w' { o with v := v' } u := by
  unfold OkO at h
  split at h
  · rename_i q T hk
    obtain ⟨b', cs, rfl, h1, h2, h3, h4⟩ := h
    simp only [blk, Option.some.injEq] at hb
    subst hb
    refine ⟨_, _, cs, [], h1, by simp, h2, fun {w' v' xs'} k1 k2 k3 _ hl => ?_⟩
    unfold OkO
    simp only [hk]
    refine ⟨b', xs', rfl, by simpa using k1, k3, h3, ?_⟩
    rw [hl] at h4 ⊢
    simpa using h4
  · rename_i e hk
    obtain ⟨s, l, xs, h1, h2, h3, h4, h5, h6, h7, h8⟩ := h
    rcases h6.2 with ⟨rfl, hn⟩ | ⟨g, cap, cur, rfl, m1, m2, m3, m4, m5, m6⟩
    · simp [blk] at hb
    simp only [blk, Option.some.injEq] at hb
    subst hb
    refine ⟨cur, e, xs, cur.toList.drop (l.length * s), m2, by rw [← m6, List.take_append_drop], by rw [h1]; simp only [RdV]; exact ⟨h7, h3⟩, fun {w' v' xs'} k1 k2 k3 k4 hl => ?_⟩
    rw [hk] at k4
    obtain ⟨s', l0, l', e1, rfl, e3, e4⟩ := k4
    rw [h1] at e1
    injection e1 with e1 e2
    subst e1 e2
    simp only [RdV] at k3
    unfold OkO
    simp only [hk]
    have hxl : xs.length = l.length * s := h6.1
    refine ⟨s, l', xs', rfl, e4, k3.2, h4, by omega, ?_, k3.1, fun b hb => ?_⟩
    · rw [e3]
      refine ⟨by omega, .inr ⟨g, cap, _, rfl, m1, k1, m3, m4, ?_, ?_⟩⟩
      · have : cur.toList.length = xs.length + (cur.toList.drop (l.length * s)).length := by rw [← List.length_append, ← m6, List.take_append_drop]
        simp only [List.size_toArray, List.length_append]
        rw [k2, ← this, Array.length_toList, m5]
      · simp only
        rw [List.take_left' (by omega)]
    · have := h8 b hb
      rw [hl] at this ⊢
      simpa using this
  · rename_i e hk
    obtain ⟨h0, s, l, xs, h1, h3, h4, h5, h6, h7, h8⟩ := h
    rcases h6.2 with ⟨rfl, hn⟩ | ⟨g, cap, cur, rfl, m1, m2, m3, m4, m5, m6⟩
    · simp [blk] at hb
    simp only [blk, Option.some.injEq] at hb
    subst hb
    refine ⟨cur, e, xs, cur.toList.drop (l.length * s), m2, by rw [← m6, List.take_append_drop], by rw [h1]; simp only [RdV]; exact ⟨h7, h3⟩, fun {w' v' xs'} k1 k2 k3 k4 hl => ?_⟩
    rw [hk] at k4
    obtain ⟨s', l0, l', e1, rfl, e3⟩ := k4
    rw [h1] at e1
    injection e1 with e1 e2
    subst e1 e2
    simp only [RdV] at k3
    unfold OkO
    simp only [hk]
    have hxl : xs.length = l.length * s := h6.1
    refine ⟨h0, s, l', xs', rfl, k3.2, h4, by omega, ?_, k3.1, h8⟩
    rw [e3]
    refine ⟨by omega, .inr ⟨g, cap, _, rfl, m1, k1, m3, m4, ?_, ?_⟩⟩
    · have : cur.toList.length = xs.length + (cur.toList.drop (l.length * s)).length := by rw [← List.length_append, ← m6, List.take_append_drop]
      simp only [List.size_toArray, List.length_append]
      rw [k2, ← this, Array.length_toList, m5]
    · simp only
      rw [List.take_left' (by omega)]
theorem keep_setRow {S : Nat → Prop} (w : World) (g : Nat) (cs : Array Value) (h : S g) : Keep S w (w.setRow g cs) :=
  ⟨rfl, rfl, rfl, by simp, fun k _ hn => setRow_other w g k cs (fun e => hn (e ▸ h))⟩
theorem store_sound (R : Rel cx E σ a w) {o : Oper} {T : TypeId} {x y : Operand} (ho : o.op = .store T x y) {i : TypeInfo} (hi : P.info? T = some i) {u v : V} (hu : RdT E w u (a.eval x)) (hv : RdT E w v (a.eval y)) (h : (storeV σ i.size v u).2.2) :
    Leaves P cx E a w o (storeV σ i.size v u).1 (storeV σ i.size v u).2.1 := by
  unfold storeV at h ⊢
  split at h
  · rename_i r g p off
    obtain ⟨hg, hl, h1, h2, h3, h4, h5, h6⟩ := h
    obtain ⟨ob, u0, b, _, k1, k2, k3, k4, k5, k6, k7, _, _⟩ := rd_ptr R hu hg
    subst k2
    have hlive : ob.live = true := by simpa [liveAt, k1] using hl
    obtain ⟨cur, t, xs, rest, m1, m2, m3, m4⟩ := k5.heap k6
    rw [k3] at h1 h2 h3
    obtain ⟨pre, c, post, e1, n1, n2, n3⟩ := nav_rd p 0 ob.v xs m3 h1
    have hV := hv.toV (.inl (by omega))
    have hvl := hV.len
    have hcl := n2.len
    have hoff : pre.length = off := by omega
    have hst : (Instr.storeAt T (.pointer (some ⟨b, off, none⟩)) (a.eval y)).run P w = .ok () (w.setRow b ((pre ++ ((a.eval y).cells.toList ++ post)) ++ rest).toArray) := by
      have hsz : (a.eval y).cells.size = i.size := by rw [← Array.length_toList, hvl, h4]
      have hcur : cur.toList = pre ++ (c ++ (post ++ rest)) := by rw [m2, e1]; simp
      have hlen : cur.size = pre.length + (c.length + (post.length + rest.length)) := by rw [← Array.length_toList, hcur]; simp
      have := run_storeCells_at P b off t (a.eval y).cells.toList 0 cur w m1 (by rw [hlen, hvl, hcl]; omega) (fun x hx => hV.one x hx)
      simp only [Instr.storeAt, Instr.sureAddr, Sem.run_bind, Sem.run_pure, Result.andThen_ok, storeVar, Go.sizeOf, typeInfo, run_program, hi, hsz, ne_eq, not_true_eq_false, if_false, this, Nat.add_zero]
      congr 2
      rw [hcur, ← hoff, List.take_left' rfl, show pre.length + (a.eval y).cells.toList.length = pre.length + c.length by rw [hvl, hcl]; omega, ← List.append_assoc pre c, List.drop_left' (by simp)]
      simp
    have hS : Keep (fun b' => blk u0 = some b') w (w.setRow b ((pre ++ ((a.eval y).cells.toList ++ post)) ++ rest).toArray) := keep_setRow w b _ k6
    have L : Leads E w E (w.setRow b ((pre ++ ((a.eval y).cells.toList ++ post)) ++ rest).toArray) := Leads.heap fun b' hb' => hS.block b' (R.lt b' hb') (fun e => k5.live_B hlive e hb')
    obtain ⟨q1, q2⟩ := n3 (fun _ _ h => h.mono L) v _ (by rw [h3, h4]) (hV.mono L)
    have hset := set_self' k4
    have hO := m4 (setRow_heap w b cur _ t (0, 0) m1) (by rw [e1]; simp [hvl, hcl, h3, h4]) q1 (by
      cases hk : ob.k with
      | box q T' => trivial
      | row e =>
        rw [k1] at h6
        obtain ⟨ok, lv, gg, vv⟩ := ob
        simp only at hk
        subst hk
        simp only at h6 k3 h1 q1 q2 m3 ⊢
        obtain ⟨hp, hne⟩ := h6
        unfold OkO at k5
        obtain ⟨s, l, xs', w1, w2, w3, _⟩ := k5
        simp only at w1
        subst w1
        cases p with
        | nil => exact absurd rfl hne
        | cons j p =>
          have := (nav_pure (j :: p) 0 (.arr s l) (by simpa [V.pure] using w2) h1).2 v hp
          simp only [setp, V.pure] at this ⊢
          exact ⟨s, l, _, rfl, rfl, by simp, this⟩
      | rows e =>
        rw [k1] at h6
        obtain ⟨ok, lv, gg, vv⟩ := ob
        simp only at hk
        subst hk
        simp only at h6 k3 h1 q1 q2 m3 ⊢
        unfold OkO at k5
        obtain ⟨w0, s, l, xs', w1, w2, w3, _⟩ := k5
        simp only at w1
        subst w1
        cases p with
        | nil => exact absurd rfl h6
        | cons j p => exact ⟨s, l, _, rfl, rfl, by simp⟩) hlive
    obtain ⟨L', R'⟩ := R.touch (o' := { ob with v := setp ob.v p v }) (u' := u0) k1 hlive k4 hS hlive (.inl ⟨rfl, rfl⟩) (fun b hb => .inl hb) (by
      rw [hset]; exact hO)
    rw [hset] at R' L'
    refine ⟨undef, _, E, .inr ⟨?_, rfl⟩, L', by simp only [RdT], ?_⟩
    · simp only [execOp, ho, k7, Sem.run_bind, hst, Result.andThen_ok, Sem.run_pure]
    · simpa [AS.upd, k1] using R'
  · exact h.elim

theorem bound_sound (R : Rel cx E σ a w) {x : Option Operand} {y : Option X} (hc : compO x = some y) {d : Int} (h : (boundV d σ y).2) :
    (x = none ∧ y = none ∧ (boundV d σ y).1 = d) ∨ ∃ op k, x = some op ∧ y.isSome = true ∧ a.eval op = .int k (boundV d σ y).1 := by
  cases x with
  | none => simp only [compO, Option.some.injEq] at hc; subst hc; exact .inl ⟨rfl, rfl, rfl⟩
  | some op =>
    simp only [compO, Option.map_eq_some_iff] at hc
    obtain ⟨z, hz, rfl⟩ := hc
    have hr := compX_rd R hz
    unfold boundV at h ⊢
    simp only at h ⊢
    split at h
    · rename_i k n e
      rw [e] at hr
      exact .inr ⟨op, k, rfl, rfl, (rd_int hr).1⟩
    · exact h.elim
theorem slice_bounds {q : Bool} {n c : Nat} {x y : Option Value} {lo hi : Int} (hx : (x = none ∧ lo = 0) ∨ ∃ k, x = some (.int k lo)) (hy : (y = none ∧ hi = n) ∨ ∃ k, y = some (.int k hi)) (h0 : 0 ≤ lo) (h1 : lo ≤ hi) (h2 : hi ≤ c) :
    (Instr.sliceBounds q n c x y none).run P w = .ok (lo.toNat, hi.toNat, c) w := by
  have sb : ∀ (k : IntKind) (n : Int) (c : Nat) (cd : BoundsCode), 0 ≤ n → n ≤ c → (Instr.sliceBound (.int k n) c cd).run P w = .ok n.toNat w := by
    intro k n c cd a1 a2
    simp [Instr.sliceBound, asIntOf, a1, a2]
  have e : ((hi.toNat : Nat) : Int) = hi := by omega
  rcases hx with ⟨rfl, rfl⟩ | ⟨k, rfl⟩ <;> rcases hy with ⟨rfl, rfl⟩ | ⟨k', rfl⟩
  · simp [Instr.sliceBounds]
  · simp [Instr.sliceBounds, sb k' hi c _ (by omega) h2]
  · simp [Instr.sliceBounds, sb k lo n _ h0 h1]
  · simp [Instr.sliceBounds, sb k' hi c _ (by omega) h2, sb k lo hi.toNat _ h0 (by omega)]
theorem slice_bounds3 {q : Bool} {n c : Nat} {x : Option Value} {k' k'' : IntKind} {lo hi mx : Int} (hx : (x = none ∧ lo = 0) ∨ ∃ k, x = some (.int k lo)) (h0 : 0 ≤ lo) (h1 : lo ≤ hi) (h2 : hi ≤ mx) (h3 : mx ≤ c) :
    (Instr.sliceBounds q n c x (some (.int k' hi)) (some (.int k'' mx))).run P w = .ok (lo.toNat, hi.toNat, mx.toNat) w := by
  have sb : ∀ (k : IntKind) (n : Int) (c : Nat) (cd : BoundsCode), 0 ≤ n → n ≤ c → (Instr.sliceBound (.int k n) c cd).run P w = .ok n.toNat w := by
    intro k n c cd a1 a2
    simp [Instr.sliceBound, asIntOf, a1, a2]
  rcases hx with ⟨rfl, rfl⟩ | ⟨k, rfl⟩
  · simp [Instr.sliceBounds, sb k'' mx c _ (by omega) h3, sb k' hi mx.toNat _ (by omega) (by omega)]
  · simp [Instr.sliceBounds, sb k'' mx c _ (by omega) h3, sb k' hi mx.toNat _ (by omega) (by omega), sb k lo hi.toNat _ h0 (by omega)]
/-- A part of a list in memory. -/
theorem sub_rd {t : Bool} {s : Nat} {l : List V} {A : Option Addr} {b o : Nat} {xs : List Value} (hp : V.pures l = true) (hU : Unif s l) (hm : l.length ≤ 140737488355328) (hB : 0 < l.length → E.B b) (hF : 0 < l.length → t = true → E.F b) (hr : RdL E w l xs) (ha : At w b o xs) (lo hi : Nat) (h1 : lo ≤ hi) (h2 : hi ≤ l.length) (c : Nat) (hc : hi - lo ≤ c)
    (hA : lo < hi → A = some ⟨b, o + lo * s, none⟩) : RdT E w (.sl t s ((l.take hi).drop lo)) (.slice A (hi - lo) c) := by
  have hl : ((l.take hi).drop lo).length = hi - lo := by rw [List.length_drop, List.length_take, Nat.min_eq_left h2]
  simp only [RdT, RdV]
  refine ⟨pures_iff.2 fun x hx => pures_iff.1 hp x (List.mem_of_mem_take (List.mem_of_mem_drop hx)), (hU.take hi).drop lo, A, c, by rw [hl], by omega, by omega, fun h0 => ?_⟩
  have e1 : l = (l.take hi) ++ l.drop hi := (List.take_append_drop hi l).symm
  have hr' : RdL E w ((l.take hi) ++ l.drop hi) xs := by rw [← e1]; exact hr
  obtain ⟨ys, zs, rfl, k1, k2⟩ := hr'.split
  have e2 : l.take hi = (l.take hi).take lo ++ (l.take hi).drop lo := (List.take_append_drop lo _).symm
  have k1' : RdL E w ((l.take hi).take lo ++ (l.take hi).drop lo) ys := by rw [← e2]; exact k1
  obtain ⟨ys1, ys2, rfl, m1, m2⟩ := k1'.split
  have hlen : ys1.length = lo * s := by
    rw [m1.len, sizes_unif ((hU.take hi).take lo), List.length_take, List.length_take, Nat.min_eq_left h2, Nat.min_eq_left h1, Nat.mul_comm]
  refine ⟨b, o + lo * s, ys2, hA (by omega), hB (by omega), hF (by omega), m2, ?_⟩
  have := ha.left.right
  rwa [hlen] at this
theorem bound_cases (R : Rel cx E σ a w) {x : Option Operand} {y : Option X} (hc : compO x = some y) {d : Int} (h : (boundV d σ y).2) :
    (x.map a.eval = none ∧ (boundV d σ y).1 = d) ∨ ∃ k, x.map a.eval = some (.int k (boundV d σ y).1) := by
  rcases bound_sound R hc h with ⟨rfl, _, h⟩ | ⟨op, k, rfl, _, h⟩
  · exact .inl ⟨rfl, h⟩
  · exact .inr ⟨k, by simp [h]⟩
/-- The slice expression's run, over a slice. -/
theorem run_slice (R : Rel cx E σ a w) {o : Oper} {T e : TypeId} {i : TypeInfo} {x : Operand} {lo hi mx : Option Operand} {lo' hi' mx' : Option X} (ho : o.op = .slice T x lo hi mx) (hT : P.underlying T = some (.slice e)) (he : P.info? e = some i) (hlo : compO lo = some lo') (hhi : compO hi = some hi') (hmx : compO mx = some mx')
    {A : Option Addr} {n c : Nat} (hx : a.eval x = .slice A n c) (hn : n ≤ c) (b1 : (boundV 0 σ lo').2) (b2 : (boundV n σ hi').2) (b3 : (boundV n σ mx').2) (h0 : 0 ≤ (boundV 0 σ lo').1) (h1 : (boundV 0 σ lo').1 ≤ (boundV n σ hi').1) (h2 : (boundV n σ hi').1 ≤ (boundV n σ mx').1) (h3 : (boundV n σ mx').1 ≤ n) (h4 : mx'.isSome = true → hi'.isSome = true) :
    ∃ A' c', (execOp a.eval o).run P w = .ok (.value (.slice A' ((boundV n σ hi').1.toNat - (boundV 0 σ lo').1.toNat) c')) w ∧ (boundV n σ hi').1.toNat - (boundV 0 σ lo').1.toNat ≤ c' ∧ ((boundV 0 σ lo').1 < (boundV n σ hi').1 → A' = A.map (·.add ((boundV 0 σ lo').1.toNat * i.size))) := by
  have B1 := bound_cases R hlo b1
  have B2 := bound_cases R hhi b2
  have B3 := bound_cases R hmx b3
  have key : ∀ m : Nat, (Instr.sliceBounds true n c (lo.map a.eval) (hi.map a.eval) (mx.map a.eval)).run P w = .ok ((boundV 0 σ lo').1.toNat, (boundV n σ hi').1.toNat, m) w → (boundV n σ hi').1.toNat ≤ m →
      ∃ A' c', (execOp a.eval o).run P w = .ok (.value (.slice A' ((boundV n σ hi').1.toNat - (boundV 0 σ lo').1.toNat) c')) w ∧ (boundV n σ hi').1.toNat - (boundV 0 σ lo').1.toNat ≤ c' ∧ ((boundV 0 σ lo').1 < (boundV n σ hi').1 → A' = A.map (·.add ((boundV 0 σ lo').1.toNat * i.size))) := by
    intro m hm hle
    refine ⟨if m = (boundV 0 σ lo').1.toNat then A else A.map (·.add ((boundV 0 σ lo').1.toNat * i.size)), m - (boundV 0 σ lo').1.toNat, ?_, by omega, fun hlt => ?_⟩
    · simp only [execOp, ho, hx, Instr.sliceAt, Instr.slice, Sem.run_bind, run_underlying hT, Result.andThen_ok, hm, Go.sizeOf, typeInfo, run_program, he, Sem.run_pure]
    · rw [if_neg (by omega)]
  rcases B3 with ⟨e3, q3⟩ | ⟨k3, e3⟩
  · rw [e3] at key
    refine key c (slice_bounds ?_ ?_ h0 h1 (by omega)) (by omega)
    · rcases B1 with ⟨e, q⟩ | ⟨k, e⟩
      · exact .inl ⟨e, q⟩
      · exact .inr ⟨k, e⟩
    · rcases B2 with ⟨e, q⟩ | ⟨k, e⟩
      · exact .inl ⟨e, q⟩
      · exact .inr ⟨k, e⟩
  · rcases B2 with ⟨e2, q2⟩ | ⟨k2, e2⟩
    · exfalso
      have hm : mx'.isSome = true := by
        rcases bound_sound R hmx b3 with ⟨rfl, _⟩ | ⟨_, _, _, h, _⟩
        · simp at e3
        · exact h
      have := h4 hm
      rcases bound_sound R hhi b2 with ⟨_, rfl, _⟩ | ⟨op, k, rfl, _, _⟩
      · cases this
      · simp at e2
    · rw [e3, e2] at key
      refine key (boundV n σ mx').1.toNat (slice_bounds3 ?_ h0 h1 h2 (by omega)) (by omega)
      rcases B1 with ⟨e, q⟩ | ⟨k, e⟩
      · exact .inl ⟨e, q⟩
      · exact .inr ⟨k, e⟩
theorem sl_sound (R : Rel cx E σ a w) {o : Oper} {T e : TypeId} {i : TypeInfo} {x : Operand} {lo hi mx : Option Operand} {lo' hi' mx' : Option X} (ho : o.op = .slice T x lo hi mx) (hT : P.underlying T = some (.slice e)) (he : P.info? e = some i) (hlo : compO lo = some lo') (hhi : compO hi = some hi') (hmx : compO mx = some mx')
    {u : V} (hu : RdT E w u (a.eval x)) (h : (slV σ i.size lo' hi' mx' u).2.2) : Leaves P cx E a w o (slV σ i.size lo' hi' mx' u).1 (slV σ i.size lo' hi' mx' u).2.1 := by
  unfold slV at h ⊢
  split at h
  · rename_i t s' l
    obtain ⟨hs, b1, b2, b3, h0, h1, h2, h3, h4⟩ := h
    subst hs
    simp only [RdT, RdV] at hu
    obtain ⟨hp, hU, A, c, e1, hc, hm, hh⟩ := hu
    simp at e1
    obtain ⟨A', c', k1, k2, k3⟩ := run_slice R ho hT he hlo hhi hmx e1 hc b1 b2 b3 h0 h1 h2 h3 h4
    refine leaves_same R k1 ?_
    by_cases hl0 : 0 < l.length
    · obtain ⟨b, oo, xs, rfl, m1, m2, m3, m4⟩ := hh hl0
      exact sub_rd hp hU hm (fun _ => m1) (fun _ => m2) m3 m4 _ _ (by omega) (by omega) _ k2 (fun hlt => by rw [k3 (by omega)]; simp [add_lit0])
    · have hl : l = [] := List.eq_nil_of_length_eq_zero (by omega)
      subst hl
      have e1 : (boundV (([] : List V).length : Int) σ hi').1.toNat - (boundV 0 σ lo').1.toNat = 0 := by simp at h2 h3 ⊢; omega
      rw [e1]
      simp only [RdT, RdV]
      exact ⟨by simp [V.pures], by simp [Unif], A', c', by simp, by simp, by simp, by simp⟩
  · rename_i r g
    obtain ⟨hg, hs, b1, b2, b3, h0, h1, h2, h3, h4⟩ := h
    obtain ⟨e', lv, s, l, xs, q1, q2, q3, q4, q5, q6, q7, q8, q9, q10, q11⟩ := rd_own R hu hg
    rw [q2] at hs
    subst hs
    rw [q3] at b2 b3 h1 h2 h3 ⊢
    have hv : ∃ A c, a.eval x = .slice A l.length c ∧ l.length ≤ c := by
      rcases q9.2 with ⟨hv, hn⟩ | ⟨b, cap, cur, hv, _, _, hc, _⟩
      · exact ⟨none, 0, by rw [hv, hn], by omega⟩
      · exact ⟨_, _, hv, hc⟩
    obtain ⟨A, c, e1, hc⟩ := hv
    obtain ⟨A', c', k1, k2, k3⟩ := run_slice R ho hT he hlo hhi hmx e1 hc b1 b2 b3 h0 h1 h2 h3 h4
    have hlt := q9.lt
    have hbk : ∀ b, blk (a.eval x) = some b → (a.eval x).ownBlock = some b := by
      intro b hb
      rw [e1] at hb ⊢
      cases A with
      | none => simp [blk] at hb
      | some aa => simpa [blk, Value.ownBlock] using hb
    obtain ⟨L, R'⟩ := R.freeze q1 q4 (fun b hb => ⟨(hlt b (hbk b hb)).1, trivial⟩)
    refine ⟨.slice A' ((boundV l.length σ hi').1.toNat - (boundV 0 σ lo').1.toNat) c', w, { E with B := fun b => E.B b ∨ blk (a.eval x) = some b }, .inl k1, L, ?_, R'⟩
    rcases q9.2 with ⟨hv, hn⟩ | ⟨b, cap, cur, hv, m1, m2, m3, m4, m5, m6⟩
    · have hl : l = [] := List.eq_nil_of_length_eq_zero (by omega)
      subst hl
      have e1 : (boundV (([] : List V).length : Int) σ hi').1.toNat - (boundV 0 σ lo').1.toNat = 0 := by simp at h2 h3 ⊢; omega
      rw [e1]
      simp only [RdT, RdV]
      exact ⟨by simp [V.pures], by simp [Unif], A', c', by simp, by simp, by simp, by simp⟩
    · rw [e1] at hv
      injection hv with hv1 hv2 hv3
      subst hv1
      have hb : blk (a.eval x) = some b := by rw [e1]; rfl
      refine sub_rd (E := { E with B := fun b => E.B b ∨ blk (a.eval x) = some b }) (A := A') (b := b) (o := 0) (xs := xs) q5 q6 q8 (fun _ => Or.inr hb) (fun _ _ => (R.fr b).2 m1) (q10.mono L) (fun j v hv => ?_) _ _ (by omega) (by omega) _ k2 (fun hlt => by rw [k3 (by omega)]; simp [add_lit0])
      rw [← m6, List.getElem?_take] at hv
      split at hv
      · simpa [World.cell?, m2] using hv
      · cases hv
  · exact h.elim
theorem slA_sound (R : Rel cx E σ a w) {o : Oper} {T e : TypeId} {m : Nat} {i : TypeInfo} {x : Operand} {lo hi mx : Option Operand} {lo' hi' mx' : Option X} (ho : o.op = .slice T x lo hi mx) (hT : P.underlying T = some (.array m e)) (he : P.info? e = some i) (hlo : compO lo = some lo') (hhi : compO hi = some hi') (hmx : compO mx = some mx')
    {u : V} (hu : RdT E w u (a.eval x)) (h : (slAV σ m i.size lo' hi' mx' u).2.2) : Leaves P cx E a w o (slAV σ m i.size lo' hi' mx' u).1 (slAV σ m i.size lo' hi' mx' u).2.1 := by
  unfold slAV at h ⊢
  split at h
  · rename_i r g
    split at h
    · rename_i s' l heq
      obtain ⟨hg, hbx, hs, hs0, hp, hlm, hm, b1, b2, h0, h1, h3, h4⟩ := h
      subst hs
      obtain ⟨ob, u0, b, xs, k1, k2, k3, k4, k5, k6, k7, k8, k9⟩ := rd_ptr R hu hg
      subst k2
      rw [k3] at heq
      have hmx0 : mx = none := by
        cases mx with
        | none => rfl
        | some q =>
          simp only [compO, Option.map_eq_some_iff] at hmx
          obtain ⟨_, _, rfl⟩ := hmx
          simp at h4
      subst hmx0
      have hbx' : ∃ T', ob.k = .box false T' := by
        rw [k1] at hbx
        obtain ⟨ok, lv, gg, vv⟩ := ob
        cases ok with
        | row e => simp at hbx
        | rows e => simp at hbx
        | box q T' => cases q <;> simp at hbx ⊢
      obtain ⟨T', hT'⟩ := hbx'
      have hbase : cx.W.heap.size ≤ b := by
        unfold OkO at k5
        rw [hT'] at k5
        obtain ⟨b', cs, e1, _, _, e2, _⟩ := k5
        rw [e1] at k6
        simp only [blk, Option.some.injEq] at k6
        subst k6
        simpa using e2
      obtain ⟨L, R'⟩ := R.freeze k1 k4 (fun b' hb' => by
        rw [k6] at hb'
        injection hb' with hb'
        subst hb'
        refine ⟨hbase, ?_⟩
        rw [hT']
        simp only [heq, V.pure]
        exact hp) (fun e h => by rw [hT'] at h; cases h)
      rw [heq] at k9
      simp only [RdV] at k9
      have B1 := bound_cases R hlo b1
      have B2 := bound_cases R hhi b2
      have hsb : (Instr.sliceBounds false m m (lo.map a.eval) (hi.map a.eval) none).run P w = .ok ((boundV 0 σ lo').1.toNat, (boundV m σ hi').1.toNat, m) w := by
        refine slice_bounds ?_ ?_ h0 h1 (by omega)
        · rcases B1 with ⟨e, q⟩ | ⟨k, e⟩
          · exact .inl ⟨e, q⟩
          · exact .inr ⟨k, e⟩
        · rcases B2 with ⟨e, q⟩ | ⟨k, e⟩
          · exact .inl ⟨e, q⟩
          · exact .inr ⟨k, e⟩
      refine ⟨.slice (some (if m = (boundV 0 σ lo').1.toNat then ⟨b, 0, none⟩ else (⟨b, 0, none⟩ : Addr).add ((boundV 0 σ lo').1.toNat * i.size))) ((boundV m σ hi').1.toNat - (boundV 0 σ lo').1.toNat) (m - (boundV 0 σ lo').1.toNat), w, { E with B := fun b => E.B b ∨ blk u0 = some b }, .inl (by
        simp only [execOp, ho, Option.map_none, k7, Instr.sliceAt, Instr.sureAddr, Sem.run_bind, run_underlying hT, Result.andThen_ok, hsb, Go.sizeOf, typeInfo, run_program, he, Sem.run_pure]), L, ?_, R'⟩
      refine sub_rd (E := { E with B := fun b => E.B b ∨ blk u0 = some b }) (b := b) (o := 0) (xs := xs) hp k9.2 (by omega) (fun _ => Or.inr k6) (fun _ _ => (R.fr b).2 hbase) (k9.1.mono L) k8 _ _ (by omega) (by omega) _ (by omega) (fun hlt => ?_)
      rw [if_neg (by omega)]
      simp [add_lit0]
    · exact h.elim
  · exact h.elim
end
end Rdn.Dp
