/- Parts of rows of one's own: cut out, written in place by append and copy, frozen. Over any program. -/
import Derived.Test.YtdpfglkjhdnbbaaC5
namespace Rdn.Dp
open Go Go.RowKit Rdn
set_option linter.unusedVariables false
section
variable {P : Program} {cx : Cx} {E E' : Env} {σ : AS} {a : Act} {w w' : World} {N : Nat} {Q : Exit → Act → World → Prop} {k : List It} {l : List RO} {n : Nat} {t : List (Nat × V)} {ob : List Ob}
/-- An operation whose soundness is told by Leaves. -/
theorem Gen.of {m : MOp} {x : V} {fp : List Nat} {wr : Option (Nat × Ob)} (wf : ∀ r o, wr = some (r, o) → r ∈ fp)
    (h : ∀ σ' : AS, (∀ y ∈ xsM m, y.ev σ' = y.ev σ) → (∀ q ∈ fp, σ'.ob[q]? = σ.ob[q]?) → ∀ {cx : Cx} {E : Env} {a : Act} {w : World} {o : Oper}, Rel cx E σ' a w → compM P o.op = some m → Leaves P cx E a w o x { σ' with ob := wrOb σ'.ob wr }) : Gen P σ (.m m) x fp wr :=
  ⟨wf, fun σ' h1 h2 _ {cx E a w o} R hc S hS => relAt_of (h σ' h1 h2 R (compK_m hc)) (fun v w' E' L hv R' => hS v w' E' L hv R')⟩
/-- A row of one's own, its content and its block. -/
theorem Rel.rowAt (R : Rel cx E σ a w) {r g s : Nat} {kk : OK} {q : List V} (hk : (∃ e, kk = .row e) ∨ ∃ p e, kk = .rows p e) (k1 : σ.ob[r]? = some ⟨kk, true, g, .arr s q⟩) :
    ∃ e u xs, (kk = .row e ∨ ∃ p, kk = .rows p e) ∧ E.ref[r]? = some (g, u) ∧ Unif s q ∧ 0 < s ∧ q.length ≤ 140737488355328 ∧ w.ownsRow (kk.base cx.W.heap.size) e s u q.length xs ∧ RdL E w q xs ∧ ((∃ e, kk = .row e) → V.pures q = true) ∧ (∀ b, blk u = some b → ¬ E.B b) := by
  obtain ⟨u, h1, h2⟩ := R.ob r _ k1
  unfold OkO at h2
  rcases hk with ⟨e, rfl⟩ | ⟨p, e, rfl⟩
  · obtain ⟨s', l', xs, q1, q2, q3, q4, q5, q6, q7, q8⟩ := h2
    injection q1 with q1 q1'
    subst q1 q1'
    exact ⟨e, u, xs, .inl rfl, h1, q3, q4, q5, q6, q7, fun _ => q2, fun b hb => by have := q8 b hb; simpa using this⟩
  · obtain ⟨_, s', l', xs, q1, q3, q4, q5, q6, q7, q8⟩ := h2
    injection q1 with q1 q1'
    subst q1 q1'
    exact ⟨e, u, xs, .inr ⟨p, rfl⟩, h1, q3, q4, q5, q6, q7, fun h => (by obtain ⟨_, h⟩ := h; cases h), fun b hb => (q8 b hb).1⟩
/-- Its elements are written: as many as before. -/
theorem Rel.rewr (R : Rel cx E σ a w) {r g s : Nat} {kk : OK} {q : List V} {u : Value} {b : Nat} (hk : (∃ e, kk = .row e) ∨ ∃ p e, kk = .rows p e) (k1 : σ.ob[r]? = some ⟨kk, true, g, .arr s q⟩) (k4 : E.ref[r]? = some (g, u)) (k6 : blk u = some b) :
    ∃ cur T xs rest, w.heap[b]? = some (.cells cur T (0, 0)) ∧ cur.toList = xs ++ rest ∧ RdL E w q xs ∧
      ∀ (q' : List V) (zs : List Value), q'.length = q.length → Unif s q' → RdL E w q' zs → ((∃ e, kk = .row e) → V.pures q' = true) →
        Leads E w E (w.setRow b (zs ++ rest).toArray) ∧ Rel cx E { σ with ob := σ.ob.set r ⟨kk, true, g, .arr s q'⟩ } a (w.setRow b (zs ++ rest).toArray) := by
  obtain ⟨u', h1, k5⟩ := R.ob r _ k1
  have h1 : E.ref[r]? = some (g, u') := h1
  rw [k4] at h1
  injection h1 with h1
  injection h1 with _ h1
  subst h1
  obtain ⟨cur, T, xs, rest, m1, m2, m3, m4⟩ := k5.heap k6
  simp only [RdV] at m3
  refine ⟨cur, T, xs, rest, m1, m2, m3.1, fun q' zs hl hU hz hp => ?_⟩
  have hS : Keep (fun b' => blk u = some b') w (w.setRow b (zs ++ rest).toArray) := keep_setRow w b _ k6
  have L : Leads E w E (w.setRow b (zs ++ rest).toArray) := Leads.heap fun b' hb' => hS.block b' (R.lt b' hb') (fun e => k5.live_B rfl e hb')
  have hset := set_self' k4
  have hlen : zs.length = xs.length := by rw [hz.len, m3.1.len, sizes_unif hU, sizes_unif m3.2, hl]
  have hO := m4 (v' := .arr s q') (setRow_heap w b cur _ T (0, 0) m1) hlen (by simp only [RdV]; exact ⟨hz.mono L, hU⟩) (by
    rcases hk with ⟨e, rfl⟩ | ⟨p, e, rfl⟩
    · exact ⟨s, q, q', rfl, rfl, hl, hp ⟨e, rfl⟩⟩
    · exact ⟨s, q, q', rfl, rfl, hl⟩) rfl
  obtain ⟨L', R'⟩ := R.touch (o' := ⟨kk, true, g, .arr s q'⟩) (u' := u) k1 rfl k4 hS rfl (.inl ⟨rfl, rfl⟩) (fun b hb => .inl hb) (by
    rw [show (⟨kk, true, g, .arr s q'⟩ : Ob).g = g from rfl, hset]; exact hO)
  rw [show (⟨kk, true, g, .arr s q'⟩ : Ob).g = g from rfl, hset] at R'
  exact ⟨L, R'⟩
/-- What a part of it is. -/
theorem rd_osl {r g s lo hi : Nat} {u v : Value} (h : RdT E w (.osl r g s lo hi) v) (hu : E.ref[r]? = some (g, u)) : partOf s lo hi u v := by
  simp only [RdT, RdV] at h
  obtain ⟨v', h1, _, _, h4⟩ := h
  simp only [List.cons.injEq, and_true] at h1
  subst h1
  exact (h4 g u hu).2 rfl
theorem mk_osl {r g s lo hi : Nat} {u v : Value} (hu : E.ref[r]? = some (g, u)) (h : partOf s lo hi u v) : RdT E w (.osl r g s lo hi) v := by
  simp only [RdT, RdV]
  refine ⟨v, rfl, ?_, (List.getElem?_eq_some_iff.1 hu).1, fun gc u' h' => ?_⟩
  · obtain ⟨A, n, c, A', _, rfl, _⟩ := h; rfl
  · rw [hu] at h'
    injection h' with h'
    injection h' with h1 h2
    subst h1 h2
    exact ⟨Nat.le_refl _, fun _ => h⟩
theorem own_slice {base n : Nat} {e : TypeId} {s : Nat} {v : Value} {xs : List Value} (h : w.ownsRow base e s v n xs) : ∃ A c, v = .slice A n c ∧ n ≤ c := by
  rcases h.2 with ⟨rfl, rfl⟩ | ⟨g, cap, cur, rfl, _, _, hc, _⟩
  · exact ⟨_, _, rfl, Nat.le_refl _⟩
  · exact ⟨_, _, rfl, hc⟩
/-- The slice expression over a slice, told exactly. -/
theorem run_sliceX (R : Rel cx E σ a w) {o : Oper} {T e : TypeId} {i : TypeInfo} {x : Operand} {lo hi : Option Operand} {lo' hi' : Option X} (ho : o.op = .slice T x lo hi none) (hT : P.underlying T = some (.slice e)) (he : P.info? e = some i) (hlo : compO lo = some lo') (hhi : compO hi = some hi')
    {A : Option Addr} {n c : Nat} (hx : a.eval x = .slice A n c) (hn : n ≤ c) (b1 : (boundV 0 σ lo').2) (b2 : (boundV n σ hi').2) (h0 : 0 ≤ (boundV 0 σ lo').1) (h1 : (boundV 0 σ lo').1 ≤ (boundV n σ hi').1) (h2 : (boundV n σ hi').1 ≤ n) :
    (execOp a.eval o).run P w = .ok (.value (.slice (if c = (boundV 0 σ lo').1.toNat then A else A.map (·.add ((boundV 0 σ lo').1.toNat * i.size))) ((boundV n σ hi').1.toNat - (boundV 0 σ lo').1.toNat) (c - (boundV 0 σ lo').1.toNat))) w := by
  have B1 := bound_cases R hlo b1
  have B2 := bound_cases R hhi b2
  have hm : (Instr.sliceBounds true n c (lo.map a.eval) (hi.map a.eval) none).run P w = .ok ((boundV 0 σ lo').1.toNat, (boundV n σ hi').1.toNat, c) w := by
    refine slice_bounds ?_ ?_ h0 h1 (by omega)
    · rcases B1 with ⟨e, q⟩ | ⟨k, e⟩
      · exact .inl ⟨e, q⟩
      · exact .inr ⟨k, e⟩
    · rcases B2 with ⟨e, q⟩ | ⟨k, e⟩
      · exact .inl ⟨e, q⟩
      · exact .inr ⟨k, e⟩
  simp only [execOp, ho, hx, Instr.sliceAt, Instr.slice, Sem.run_bind, run_underlying hT, Result.andThen_ok, Option.map_none, hm, Go.sizeOf, typeInfo, run_program, he, Sem.run_pure]
theorem compM_sl {op : Op} {s : Nat} {x : X} {lo hi : Option X} (hc : compM P op = some (.sl s x lo hi none)) : ∃ T y lo' hi' e i, op = .slice T y lo' hi' none ∧ P.underlying T = some (.slice e) ∧ P.info? e = some i ∧ compX y = some x ∧ compO lo' = some lo ∧ compO hi' = some hi ∧ s = i.size := by
  unfold compM at hc
  split at hc
  case h_6 T y0 lo0 hi0 mx0 =>
    split at hc
    · rename_i h1
      split at hc
      · rename_i h2
        simp only [Option.map_eq_some_iff, Option.bind_eq_some_iff] at hc
        obtain ⟨y, hx, l1, hlo, l2, hhi, l3, hmx, e⟩ := hc
        injection e with e1 e2 e3 e4 e5
        subst e1 e2 e3 e4 e5
        cases mx0 with
        | some z => simp [compO] at hmx
        | none => exact ⟨_, _, _, _, _, _, rfl, h1, h2, hx, hlo, hhi, rfl⟩
      · cases hc
    · split at hc
      · simp only [Option.map_eq_some_iff, Option.bind_eq_some_iff] at hc
        obtain ⟨_, _, _, _, _, _, _, _, e⟩ := hc
        cases e
      · cases hc
    · cases hc
  all_goals (repeat' split at hc) <;> first | (cases hc; done) | (simp [Option.bind_eq_some_iff] at hc; done)
/-- A part of a row of one's own, cut out. -/
theorem gen_sl {r g s e : Nat} {kk : OK} {q : List V} {x : X} {lo hi : Option X} (hx : x.ev σ = .own r g) (hk : kk = .row e ∨ ∃ p, kk = .rows p e) (k1 : σ.ob[r]? = some ⟨kk, true, g, .arr s q⟩) (b1 : (boundV 0 σ lo).2) (b2 : (boundV q.length σ hi).2) (h0 : 0 ≤ (boundV 0 σ lo).1) (h1 : (boundV 0 σ lo).1 ≤ (boundV q.length σ hi).1) (h2 : (boundV q.length σ hi).1 ≤ q.length) :
    Gen P σ (.m (.sl s x lo hi none)) (.osl r g s (boundV 0 σ lo).1.toNat (boundV q.length σ hi).1.toNat) [r] none := by
  have hkk : (∃ e, kk = .row e) ∨ ∃ p e, kk = .rows p e := by
    rcases hk with h | ⟨p, h⟩
    · exact .inl ⟨e, h⟩
    · exact .inr ⟨p, e, h⟩
  refine Gen.of (fun _ _ h => by cases h) (fun σ' hev hob {cx E a w o} R hc => ?_)
  obtain ⟨T, y, lo', hi', e', i, e1, e2, e3, e4, e5, e6, rfl⟩ := compM_sl hc
  have q1 : σ'.ob[r]? = some ⟨kk, true, g, .arr i.size q⟩ := by rw [hob r (by simp)]; exact k1
  obtain ⟨e0, u, xs, _, hu, hU, hs0, hql, hown, hrd, hpu, hB⟩ := R.rowAt hkk q1
  have hv := compX_rd R e4
  rw [hev x (by simp [xsM]), hx] at hv
  have hvu : a.eval y = u := by
    simp only [RdT, RdV] at hv
    obtain ⟨v', m1, _, _, m4⟩ := hv
    simp only [List.cons.injEq, and_true] at m1
    subst m1
    exact (m4 g u hu).2 rfl
  obtain ⟨A, c, hA, hnc⟩ := own_slice hown
  have bl : ∀ d, boundV d σ' lo = boundV d σ lo := fun d => boundV_loc fun z hz => hev z (by simp [xsM, hz])
  have bh : ∀ d, boundV d σ' hi = boundV d σ hi := fun d => boundV_loc fun z hz => hev z (by simp [xsM, hz])
  have hrun := run_sliceX (P := P) R e1 e2 e3 e5 e6 (hvu.trans hA) hnc (by rw [bl]; exact b1) (by rw [bh]; exact b2) (by rw [bl]; exact h0) (by rw [bl, bh]; exact h1) (by rw [bh]; exact h2)
  rw [bl, bh] at hrun
  refine ⟨_, w, E, .inl hrun, Leads.refl _ _, mk_osl hu ?_, R⟩
  subst hA
  exact ⟨A, q.length, c, _, rfl, rfl, by omega, by omega, hnc, fun h => by rw [if_neg (by omega)]⟩
/-- What is written from: a slice that nobody writes, or a part of the same row. -/
def srcP (r g s : Nat) (q : List V) : V → List V × Prop
  | .sl _ s' m => (m, m = [] ∨ s' = s)
  | .nilS => ([], True)
  | .osl r' g' s' lo hi => ((q.take hi).drop lo, r' = r ∧ g' = g ∧ s' = s)
  | _ => ([], False)
theorem srcP_rd {r g s : Nat} {q : List V} {u : Value} {base : Nat} {e : TypeId} {xs : List Value} (hu : E.ref[r]? = some (g, u)) (hU : Unif s q) (hown : w.ownsRow base e s u q.length xs) (hrd : RdL E w q xs) {y : V} {v : Value} (hv : RdT E w y v) (h : (srcP r g s q y).2) :
    ∃ A c ys, v = .slice A (srcP r g s q y).1.length c ∧ (V.pures q = true → V.pures (srcP r g s q y).1 = true) ∧ Unif s (srcP r g s q y).1 ∧ RdL E w (srcP r g s q y).1 ys ∧ (0 < (srcP r g s q y).1.length → ∃ b o, A = some ⟨b, o, none⟩ ∧ At w b o ys) ∧ (A = none → (srcP r g s q y).1 = []) := by
  unfold srcP at h ⊢
  split at h
  · rename_i t s' m
    simp only [RdT, RdV] at hv
    obtain ⟨h1, h2, A, c, h3, h4, h5, h6⟩ := hv
    simp only [List.cons.injEq, and_true] at h3
    subst h3
    by_cases h0 : 0 < m.length
    · obtain ⟨b, o, xs', hA, _, _, hr, ha⟩ := h6 h0
      have hs : s' = s := by
        rcases h with h | h
        · subst h; simp at h0
        · exact h
      subst hs
      exact ⟨A, c, xs', rfl, fun _ => h1, h2, hr, fun _ => ⟨b, o, hA, ha⟩, fun e => by rw [hA] at e; cases e⟩
    · have : m = [] := List.eq_nil_of_length_eq_zero (by omega)
      subst this
      exact ⟨A, c, [], rfl, fun _ => rfl, fun _ h => (by cases h), by simp [RdL], fun h => absurd h (by simp), fun _ => rfl⟩
  · simp only [RdT, RdV, List.cons.injEq, and_true] at hv
    subst hv
    exact ⟨none, 0, [], rfl, fun _ => rfl, fun _ h => (by cases h), by simp [RdL], fun h => absurd h (by simp), fun _ => rfl⟩
  · rename_i r' g' s' lo hi
    obtain ⟨rfl, rfl, rfl⟩ := h
    obtain ⟨A, n, c, A', e1, e2, e3, e4, e5, e6⟩ := rd_osl hv hu
    obtain ⟨A0, c0, f1, f2⟩ := own_slice hown
    rw [e1] at f1
    injection f1 with f1 f3 f4
    subst f1 f3 f4
    have hlen : ((q.take hi).drop lo).length = hi - lo := by rw [List.length_drop, List.length_take, Nat.min_eq_left e4]
    have e0 : q = (q.take hi) ++ q.drop hi := (List.take_append_drop hi q).symm
    have hrd' : RdL E w ((q.take hi) ++ q.drop hi) xs := by rw [← e0]; exact hrd
    obtain ⟨ys, zs, rfl, k1, k2⟩ := hrd'.split
    have e0' : q.take hi = (q.take hi).take lo ++ (q.take hi).drop lo := (List.take_append_drop lo _).symm
    have k1' : RdL E w ((q.take hi).take lo ++ (q.take hi).drop lo) ys := by rw [← e0']; exact k1
    obtain ⟨ys1, ys2, rfl, m1, m2⟩ := k1'.split
    have hl1 : ys1.length = lo * s' := by
      rw [m1.len, sizes_unif ((hU.take hi).take lo), List.length_take, List.length_take, Nat.min_eq_left e4, Nat.min_eq_left e3, Nat.mul_comm]
    refine ⟨A', c - lo, ys2, by rw [hlen]; exact e2, fun hp => pures_iff.2 fun x hx => pures_iff.1 hp x (List.mem_of_mem_take (List.mem_of_mem_drop hx)), (hU.take hi).drop lo, m2, fun h0 => ?_, fun hA => ?_⟩
    · rw [hlen] at h0
      have hlt : lo < c := by omega
      rcases hown.2 with ⟨f1, f2⟩ | ⟨gb, cap, cur, f1, f2, f3, f4, f5, f6, f7⟩
      · omega
      · rw [e1] at f1
        injection f1 with f1 _ f8
        subst f1 f8
        refine ⟨gb, lo * s', by rw [e6 hlt]; simp [Addr.add_lit], fun j v hj => ?_⟩
        have hjl : j < ys2.length := (List.getElem?_eq_some_iff.1 hj).1
        have hx : (ys1 ++ ys2 ++ zs)[lo * s' + j]? = some v := by
          rw [List.append_assoc, List.getElem?_append_right (by omega), hl1, Nat.add_sub_cancel_left, List.getElem?_append_left hjl]
          exact hj
        rw [← f7, List.getElem?_take] at hx
        split at hx
        · simpa [World.cell?, f3] using hx
        · cases hx
    · by_cases h0 : lo < hi
      · have hlt : lo < c := by omega
        rcases hown.2 with ⟨f1, f2⟩ | ⟨gb, cap, cur, f1, f2, f3, f4, f5, f6, f7⟩
        · omega
        · rw [e1] at f1
          injection f1 with f1 _ _
          subst f1
          have := e6 hlt
          rw [hA] at this
          cases this
      · exact List.eq_nil_of_length_eq_zero (by rw [hlen]; omega)
  · exact h.elim
theorem RdL.cutAt {s : Nat} {q : List V} {xs : List Value} (h : RdL E w q xs) (hU : Unif s q) (j : Nat) (hj : j ≤ q.length) : RdL E w (q.take j) (xs.take (j * s)) ∧ RdL E w (q.drop j) (xs.drop (j * s)) := by
  have e0 : q = (q.take j) ++ q.drop j := (List.take_append_drop j q).symm
  have h' : RdL E w ((q.take j) ++ q.drop j) xs := by rw [← e0]; exact h
  obtain ⟨ys, zs, rfl, k1, k2⟩ := h'.split
  have hl : ys.length = j * s := by rw [k1.len, sizes_unif (hU.take j), List.length_take, Nat.min_eq_left hj, Nat.mul_comm]
  rw [List.take_left' hl, List.drop_left' hl]
  exact ⟨k1, k2⟩
/-- A row of which a part is written. -/
def over (q : List V) (j : Nat) (m : List V) : List V := q.take j ++ m ++ q.drop (j + m.length)
theorem over_len {q m : List V} {j : Nat} (h : j + m.length ≤ q.length) : (over q j m).length = q.length := by
  simp only [over, List.length_append, List.length_take, List.length_drop]; omega
theorem over_rd {s : Nat} {q m : List V} {xs ys : List Value} {j : Nat} (h : RdL E w q xs) (hU : Unif s q) (hm : RdL E w m ys) (hUm : Unif s m) (hj : j + m.length ≤ q.length) :
    RdL E w (over q j m) (xs.take (j * s) ++ ys ++ xs.drop (j * s + ys.length)) ∧ Unif s (over q j m) := by
  have hyl : ys.length = m.length * s := by rw [hm.len, sizes_unif hUm, Nat.mul_comm]
  refine ⟨?_, fun x hx => ?_⟩
  · rw [hyl, ← Nat.add_mul]
    exact ((h.cutAt hU j (by omega)).1.app hm).app (h.cutAt hU (j + m.length) hj).2
  · simp only [over, List.mem_append] at hx
    rcases hx with (hx | hx) | hx
    · exact hU x (List.mem_of_mem_take hx)
    · exact hUm x hx
    · exact hU x (List.mem_of_mem_drop hx)
theorem over_pure {q m : List V} {j : Nat} (h : V.pures q = true) (k : V.pures m = true) : V.pures (over q j m) = true :=
  pures_iff.2 fun x hx => by
    simp only [over, List.mem_append] at hx
    rcases hx with (hx | hx) | hx
    · exact pures_iff.1 h x (List.mem_of_mem_take hx)
    · exact pures_iff.1 k x hx
    · exact pures_iff.1 h x (List.mem_of_mem_drop hx)
theorem over_nil (q : List V) (j : Nat) : over q j [] = q := by simp [over]
theorem over_cells {cur xs rest ys : List Value} {o : Nat} (h : cur = xs ++ rest) (hl : o + ys.length ≤ xs.length) : cur.take o ++ ys ++ cur.drop (o + ys.length) = (xs.take o ++ ys ++ xs.drop (o + ys.length)) ++ rest := by
  subst h
  rw [List.take_append_of_le_length (by omega), List.drop_append_of_le_length hl]
  simp [List.append_assoc]
/-- The elements of a row are written in place, from the j-th on. -/
theorem Rel.over (R : Rel cx E σ a w) {r g s : Nat} {kk : OK} {q m : List V} {u : Value} {ys : List Value} {j : Nat} (hk : (∃ e, kk = .row e) ∨ ∃ p e, kk = .rows p e) (k1 : σ.ob[r]? = some ⟨kk, true, g, .arr s q⟩) (k4 : E.ref[r]? = some (g, u)) (hU : Unif s q) (hm : RdL E w m ys) (hUm : Unif s m) (hp : (∃ e, kk = .row e) → V.pures (over q j m) = true) (hj : j + m.length ≤ q.length) (h0 : 0 < m.length) :
    ∃ b cur T c, u = .slice (some ⟨b, 0, none⟩) q.length c ∧ w.heap[b]? = some (.cells cur T (0, 0)) ∧ j * s + ys.length ≤ cur.size ∧ q.length ≤ c ∧ Leads E w E (w.setRow b (cur.toList.take (j * s) ++ ys ++ cur.toList.drop (j * s + ys.length)).toArray) ∧
      Rel cx E { σ with ob := σ.ob.set r ⟨kk, true, g, .arr s (Dp.over q j m)⟩ } a (w.setRow b (cur.toList.take (j * s) ++ ys ++ cur.toList.drop (j * s + ys.length)).toArray) := by
  obtain ⟨e, u', xs0, _, hu, _, hs0, hql, hown, hrd, hpu, hB⟩ := R.rowAt hk k1
  rw [k4] at hu
  injection hu with hu
  injection hu with _ hu
  subst hu
  rcases hown.2 with ⟨rfl, f2⟩ | ⟨gb, cap, cur0, rfl, f2, f3, f4, f5, f6, f7⟩
  · omega
  obtain ⟨cur, T, xs, rest, m1, m2, m3, m4⟩ := R.rewr (b := gb) hk k1 k4 rfl
  have hxl : xs.length = q.length * s := by rw [m3.len, sizes_unif hU, Nat.mul_comm]
  have hyl : ys.length = m.length * s := by rw [hm.len, sizes_unif hUm, Nat.mul_comm]
  have hle : j * s + ys.length ≤ xs.length := by rw [hyl, hxl, ← Nat.add_mul]; exact Nat.mul_le_mul_right _ hj
  obtain ⟨h1, h2⟩ := over_rd m3 hU hm hUm hj
  obtain ⟨L, R'⟩ := m4 _ _ (over_len hj) h2 h1 hp
  rw [← over_cells m2 hle] at L R'
  refine ⟨gb, cur, T, cap, rfl, m1, ?_, f4, L, R'⟩
  rw [← Array.length_toList, m2, List.length_append]
  omega
theorem compM_app {op : Op} {e s b : Nat} {x y : X} (hc : compM P op = some (.app e s b x y)) : ∃ x0 y0 t i z, op = .call { callee := .builtin .append, args := #[x0, y0], argTypes := #[t, t] } ∧ P.underlying t = some (.slice e) ∧ P.info? e = some i ∧ i.zero = some z ∧ z.cells.size = i.size ∧ 0 < i.size ∧ compX x0 = some x ∧ compX y0 = some y ∧ s = i.size ∧ b = i.bytes := by
  unfold compM at hc
  split at hc
  case h_8 b aas ts =>
    split at hc
    · rename_i x y t t' e1 e2
      obtain ⟨aas⟩ := aas
      obtain ⟨ts⟩ := ts
      have e1 : aas = [x, y] := e1
      have e2 : ts = [t, t'] := e2
      subst e1 e2
      split at hc
      · rename_i ht
        subst ht
        split at hc
        · rename_i h1
          split at hc
          · rename_i h2
            split at hc
            · rename_i h3
              split at hc
              · rename_i h4
                simp only [Option.map_eq_some_iff, Option.bind_eq_some_iff] at hc
                obtain ⟨x', hx, y', hy, e⟩ := hc
                injection e with e1 e2 e3 e4 e5
                subst e1 e2 e3 e4 e5
                exact ⟨_, _, _, _, _, rfl, h1, h2, h3, h4.1, h4.2, hx, hy, rfl, rfl⟩
              · cases hc
            · cases hc
          · cases hc
        · cases hc
      · (repeat' split at hc) <;> first | (cases hc; done) | (simp [Option.bind_eq_some_iff] at hc; done)
    · (repeat' split at hc) <;> first | (cases hc; done) | (simp [Option.bind_eq_some_iff] at hc; done)
    · cases hc
  all_goals (repeat' split at hc) <;> first | (cases hc; done) | (simp [Option.bind_eq_some_iff] at hc; done)
theorem compM_copy {op : Op} {e s : Nat} {x y : X} (hc : compM P op = some (.copy e s x y)) : ∃ x0 y0 t i, op = .call { callee := .builtin .copy, args := #[x0, y0], argTypes := #[t, t] } ∧ P.underlying t = some (.slice e) ∧ P.info? e = some i ∧ 0 < i.size ∧ compX x0 = some x ∧ compX y0 = some y ∧ s = i.size := by
  unfold compM at hc
  split at hc
  case h_8 b aas ts =>
    split at hc
    · (repeat' split at hc) <;> first | (cases hc; done) | (simp [Option.bind_eq_some_iff] at hc; done)
    · rename_i x y t t' e1 e2
      obtain ⟨aas⟩ := aas
      obtain ⟨ts⟩ := ts
      have e1 : aas = [x, y] := e1
      have e2 : ts = [t, t'] := e2
      subst e1 e2
      split at hc
      · rename_i ht
        subst ht
        split at hc
        · rename_i h1
          split at hc
          · rename_i h2
            split at hc
            · rename_i h4
              simp only [Option.map_eq_some_iff, Option.bind_eq_some_iff] at hc
              obtain ⟨x', hx, y', hy, e⟩ := hc
              injection e with e1 e2 e3 e4
              subst e1 e2 e3 e4
              exact ⟨_, _, _, _, rfl, h1, h2, h4, hx, hy, rfl⟩
            · cases hc
          · cases hc
        · cases hc
      · cases hc
    · cases hc
  all_goals (repeat' split at hc) <;> first | (cases hc; done) | (simp [Option.bind_eq_some_iff] at hc; done)
/-- Append to a part of a row from its beginning on: within the row, it writes in place. -/
theorem gen_app {r g s e b j : Nat} {kk : OK} {q : List V} {x y : X} (hx : x.ev σ = .osl r g s 0 j) (hk : kk = .row e ∨ ∃ p, kk = .rows p e) (k1 : σ.ob[r]? = some ⟨kk, true, g, .arr s q⟩) (hy : (srcP r g s q (y.ev σ)).2) (hle : j + (srcP r g s q (y.ev σ)).1.length ≤ q.length) :
    Gen P σ (.m (.app e s b x y)) (.osl r g s 0 (j + (srcP r g s q (y.ev σ)).1.length)) [r] (some (r, ⟨kk, true, g, .arr s (over q j (srcP r g s q (y.ev σ)).1)⟩)) := by
  have hkk : (∃ e, kk = .row e) ∨ ∃ p e, kk = .rows p e := by
    rcases hk with h | ⟨p, h⟩
    · exact .inl ⟨e, h⟩
    · exact .inr ⟨p, e, h⟩
  refine Gen.of (fun _ _ h => by injection h with h; injection h with h; subst h; simp) (fun σ' hev hob {cx E a w o} R hc => ?_)
  obtain ⟨x0, y0, t, i, z, e1, e2, e3, e4, e5, e6, e7, e8, rfl, rfl⟩ := compM_app hc
  have q1 : σ'.ob[r]? = some ⟨kk, true, g, .arr i.size q⟩ := by rw [hob r (by simp)]; exact k1
  have run : ∀ {v' w'}, (Builtin.append_ #[t, t] o.type #[a.eval x0, a.eval y0]).run P w = .ok v' w' → (execOp a.eval o).run P w = .ok (.value v') w' := by
    intro v' w' hr
    simp only [execOp, e1, resolve, invoke, builtin, Sem.run_bind, Sem.run_pure, Result.andThen_ok, List.map_toArray, List.map_cons, List.map_nil, hr]
  have hX := compX_rd R e7
  have hY := compX_rd R e8
  rw [hev x (by simp [xsM]), hx] at hX
  rw [hev y (by simp [xsM])] at hY
  obtain ⟨e0, u, xs, he0, hu, hU, hs0, hql, hown, hrd, hpu, hB⟩ := R.rowAt hkk q1
  obtain ⟨A, n, c, A', f1, f2, f3, f4, f5, f6⟩ := rd_osl hX hu
  obtain ⟨A2, c2, ys, g1, g2, g3, g4, g5, g6⟩ := srcP_rd hu hU hown hrd hY hy
  obtain ⟨A0, c0, h1, h2⟩ := own_slice hown
  rw [f1] at h1
  injection h1 with h1 h3 h4
  subst h1 h3 h4
  generalize hM : (srcP r g i.size q (y.ev σ)).1 = M at *
  by_cases h0 : 0 < M.length
  · obtain ⟨gb, cur, T, cap, d1, d2, d3, d4, L, R'⟩ := R.over (j := j) hkk q1 hu hU g4 g3 (fun hr => over_pure (hpu hr) (g2 (hpu hr))) hle h0
    rw [f1] at d1
    injection d1 with d1 _ d5
    subst d1 d5
    obtain ⟨b2, o2, rfl, ha⟩ := g5 h0
    have hA' : A' = some ⟨gb, 0, none⟩ := by rw [f6 (by omega)]; simp [Addr.add_lit]
    have hTe : T = e := by
      rcases hown.2 with ⟨rr, _⟩ | ⟨gb', cap', cur', rr, f2', f3', _⟩
      · rw [f1] at rr; cases rr
      · rw [f1] at rr
        injection rr with rr _ _
        injection rr with rr
        injection rr with rr
        subst rr
        rw [d2] at f3'
        injection f3' with f3'
        injection f3' with _ hT _
        rw [hT]
        rcases hk with rfl | ⟨p, rfl⟩
        · rcases he0 with he0 | ⟨_, he0⟩
          · injection he0 with he0; exact he0.symm
          · cases he0
        · rcases he0 with he0 | ⟨_, he0⟩
          · cases he0
          · injection he0 with _ he0; exact he0.symm
    subst hTe
    have hyl : ys.length = M.length * i.size := by rw [g4.len, sizes_unif g3, Nat.mul_comm]
    have hr := run_append_room (P := P) w t o.type T i e2 e3 gb j c cur d2 ⟨b2, o2, none⟩ M.length c2 ys hyl (fun j u hj => by rw [add_lit0]; exact ha j u hj) g4.one (by omega) d3
    refine ⟨.slice (some ⟨gb, 0, none⟩) (j + M.length) c, _, E, .inl (run ?_), L, mk_osl hu ?_, R'⟩
    · rw [f2, g1, hA']
      simpa using hr
    · exact ⟨_, q.length, c, _, f1, rfl, by omega, hle, f5, fun h => by simp [Addr.add_lit]⟩
  · have hM0 : M = [] := List.eq_nil_of_length_eq_zero (by omega)
    have hr := run_append_zero (P := P) w t o.type e i e2 e3 A' A2 j (c - 0) c2 (by omega)
    refine ⟨.slice A' j (c - 0), w, E, .inl (run ?_), Leads.refl _ _, mk_osl hu ?_, ?_⟩
    · rw [f2, g1, hM0]
      simpa using hr
    · rw [hM0]
      exact ⟨A, q.length, c, A', f1, by simp, by omega, by simpa using (by omega : j ≤ q.length), f5, f6⟩
    · rw [hM0, over_nil]
      show Rel cx E { σ' with ob := σ'.ob.set r _ } a w
      rw [set_self' q1]
      exact R
theorem run_copy_at (w : World) {t ty e : TypeId} {i : TypeInfo} (hu : P.underlying t = some (.slice e)) (hi : P.info? e = some i) (gb o dLen dCap : Nat) (ad : Addr) (m c : Nat) (cur : Array Value) (T : TypeId) (cs : List Value)
    (hg : w.heap[gb]? = some (.cells cur T (0, 0))) (hl : cs.length = Nat.min m dLen * i.size) (hsrc : ∀ j v, cs[j]? = some v → w.cell? (ad.add j) = some v) (hfit : o + cs.length ≤ cur.size) (h1 : ∀ v ∈ cs, v.oneCell' = true) :
    (Builtin.copy_ #[t, t] ty #[.slice (some ⟨gb, o, none⟩) dLen dCap, .slice (some ad) m c]).run P w =
      .ok (.int .i64 (Nat.min m dLen : Nat)) (w.setRow gb (cur.toList.take o ++ cs ++ cur.toList.drop (o + cs.length)).toArray) := by
  have hl' := run_firstCells_some (P := P) w i.size (Nat.min m dLen) ad m c cs hl hsrc
  have hst := run_storeCells_at P gb o T cs 0 cur w hg (by simpa using hfit) h1
  simp only [Nat.add_zero] at hst
  simp [Builtin.copy_, run_underlying hu, Builtin.lenOf, Go.sizeOf, typeInfo, hi, hl', hst, goInt]
theorem run_copy_zero (w : World) {t ty e : TypeId} {i : TypeInfo} (hu : P.underlying t = some (.slice e)) (hi : P.info? e = some i) (A A' : Option Addr) (dLen dCap m c : Nat) (h0 : Nat.min m dLen = 0) :
    (Builtin.copy_ #[t, t] ty #[.slice A dLen dCap, .slice A' m c]).run P w = .ok (.int .i64 0) w := by
  cases A <;> cases A' <;> simp [Builtin.copy_, run_underlying hu, Go.sizeOf, typeInfo, hi, Builtin.lenOf, Builtin.firstCells, loadCells, loadCellsFrom, storeCells, h0, goInt]
/-- Copy into a part of a row. -/
theorem gen_copy {r g s e lo hi : Nat} {kk : OK} {q : List V} {x y : X} (hx : x.ev σ = .osl r g s lo hi) (hk : kk = .row e ∨ ∃ p, kk = .rows p e) (k1 : σ.ob[r]? = some ⟨kk, true, g, .arr s q⟩) (hy : (srcP r g s q (y.ev σ)).2) (hlo : lo ≤ hi) (hhi : hi ≤ q.length) :
    Gen P σ (.m (.copy e s x y)) (.int .i64 (Nat.min (srcP r g s q (y.ev σ)).1.length (hi - lo) : Nat)) [r] (some (r, ⟨kk, true, g, .arr s (over q lo ((srcP r g s q (y.ev σ)).1.take (hi - lo)))⟩)) := by
  have hkk : (∃ e, kk = .row e) ∨ ∃ p e, kk = .rows p e := by
    rcases hk with h | ⟨p, h⟩
    · exact .inl ⟨e, h⟩
    · exact .inr ⟨p, e, h⟩
  refine Gen.of (fun _ _ h => by injection h with h; injection h with h; subst h; simp) (fun σ' hev hob {cx E a w o} R hc => ?_)
  obtain ⟨x0, y0, t, i, e1, e2, e3, e6, e7, e8, rfl⟩ := compM_copy hc
  have q1 : σ'.ob[r]? = some ⟨kk, true, g, .arr i.size q⟩ := by rw [hob r (by simp)]; exact k1
  have run : ∀ {v' w'}, (Builtin.copy_ #[t, t] o.type #[a.eval x0, a.eval y0]).run P w = .ok v' w' → (execOp a.eval o).run P w = .ok (.value v') w' := by
    intro v' w' hr
    simp only [execOp, e1, resolve, invoke, builtin, Sem.run_bind, Sem.run_pure, Result.andThen_ok, List.map_toArray, List.map_cons, List.map_nil, hr]
  have hX := compX_rd R e7
  have hY := compX_rd R e8
  rw [hev x (by simp [xsM]), hx] at hX
  rw [hev y (by simp [xsM])] at hY
  obtain ⟨e0, u, xs, he0, hu, hU, hs0, hql, hown, hrd, hpu, hB⟩ := R.rowAt hkk q1
  obtain ⟨A, n, c, A', f1, f2, f3, f4, f5, f6⟩ := rd_osl hX hu
  obtain ⟨A2, c2, ys, g1, g2, g3, g4, g5, g6⟩ := srcP_rd hu hU hown hrd hY hy
  generalize hM : (srcP r g i.size q (y.ev σ)).1 = M at *
  have hmin : (M.take (hi - lo)).length = Nat.min M.length (hi - lo) := by rw [List.length_take]; exact Nat.min_comm _ _
  by_cases h0 : 0 < (M.take (hi - lo)).length
  · have h0' := h0
    rw [List.length_take] at h0'
    have k := g4.cutAt g3 (Nat.min M.length (hi - lo)) (Nat.min_le_left _ _)
    have htk : M.take (Nat.min M.length (hi - lo)) = M.take (hi - lo) := by
      rcases Nat.le_total M.length (hi - lo) with h | h
      · rw [show Nat.min M.length (hi - lo) = M.length from Nat.min_eq_left h, List.take_of_length_le (Nat.le_refl _), List.take_of_length_le h]
      · rw [show Nat.min M.length (hi - lo) = hi - lo from Nat.min_eq_right h]
    rw [htk] at k
    obtain ⟨gb, cur, T, cap, d1, d2, d3, d4, L, R'⟩ := R.over (j := lo) hkk q1 hu hU k.1 (g3.take _) (fun hr => over_pure (hpu hr) (pures_iff.2 fun x hx => pures_iff.1 (g2 (hpu hr)) x (List.mem_of_mem_take hx))) (by rw [List.length_take]; omega) h0
    rw [f1] at d1
    injection d1 with d1 _ d5
    subst d1 d5
    obtain ⟨b2, o2, rfl, ha⟩ := g5 (by omega)
    have hA' : A' = some ⟨gb, lo * i.size, none⟩ := by rw [f6 (by omega)]; simp [Addr.add_lit]
    have hcl : (ys.take (Nat.min M.length (hi - lo) * i.size)).length = Nat.min M.length (hi - lo) * i.size := by
      rw [k.1.len, sizes_unif (g3.take _), hmin, Nat.mul_comm]
    have hr := run_copy_at (P := P) w (ty := o.type) e2 e3 gb (lo * i.size) (hi - lo) (c - lo) ⟨b2, o2, none⟩ M.length c2 cur T _ d2 hcl (fun j v hj => by
      rw [add_lit0]
      rw [List.getElem?_take] at hj
      split at hj
      · exact ha j v hj
      · cases hj) d3 k.1.one
    refine ⟨.int .i64 (Nat.min M.length (hi - lo) : Nat), _, E, .inl (run ?_), L, ?_, R'⟩
    · rw [f2, g1, hA']
      exact hr
    · refine rd_mk ⟨?_, ?_⟩
      · simp only [IntKind.min, IntKind.signed, IntKind.bits, if_true]; omega
      · have : Nat.min M.length (hi - lo) ≤ hi - lo := Nat.min_le_right _ _
        simp only [IntKind.max, IntKind.signed, IntKind.bits, if_true]; omega
  · have hM0 : M.take (hi - lo) = [] := List.eq_nil_of_length_eq_zero (by omega)
    have hz : Nat.min M.length (hi - lo) = 0 := by rw [← hmin, hM0]; rfl
    have hr := run_copy_zero (P := P) w (ty := o.type) e2 e3 A' A2 (hi - lo) (c - lo) M.length c2 hz
    refine ⟨.int .i64 (Nat.min M.length (hi - lo) : Nat), w, E, .inl (run ?_), Leads.refl _ _, ?_, ?_⟩
    · rw [f2, g1, hz]
      exact hr
    · rw [hz]
      exact rd_mk (by constructor <;> decide)
    · rw [hM0, over_nil]
      show Rel cx E { σ' with ob := σ'.ob.set r _ } a w
      rw [set_self' q1]
      exact R
/-- Append to a row, with what the old slice reads. -/
theorem app_keep {base : Nat} {t ty e : TypeId} {i : TypeInfo} {z : Value} (ht : P.underlying t = some (.slice e)) (hi : P.info? e = some i) (hz : i.zero = some z) (hzs : z.cells.size = i.size) (h0 : 0 < i.size)
    {v : Value} {n : Nat} {xs : List Value} (hown : w.ownsRow base e i.size v n xs) {A : Option Addr} {m c : Nat} {l : List V} {ys : List Value} (hm : m = l.length) (hU : Unif i.size l) (hr : RdL E w l ys) (hA : 0 < m → ∃ b o, A = some ⟨b, o, none⟩ ∧ At w b o ys)
    (hb : (n + m) * i.bytes ≤ 140737488355328) (h63 : n + m ≤ 140737488355328) (hbase : base ≤ w.heap.size) :
    ∃ v' w', (Builtin.append_ #[t, t] ty #[v, .slice A m c]).run P w = .ok v' w' ∧ w'.ownsRow base e i.size v' (n + m) (xs ++ ys) ∧ w'.ownsRow base e i.size v n xs ∧ Keep (fun b => v.ownBlock = some b) w w' ∧ (v'.ownBlock = v.ownBlock ∨ v'.ownBlock = some w.heap.size) := by
  have hyl : ys.length = m * i.size := by rw [hr.len, sizes_unif hU, hm, Nat.mul_comm]
  have h63' : n + m ≤ maxLen := by simp [maxLen]; omega
  have hlen : (xs ++ ys).length = (n + m) * i.size := by rw [List.length_append, hown.1, hyl, Nat.add_mul]
  by_cases hm0 : 0 < m
  · obtain ⟨b, o, rfl, ha⟩ := hA hm0
    have hcell : ∀ j u, ys[j]? = some u → w.cell? ((⟨b, o, none⟩ : Addr).add j) = some u := fun j u hu => by rw [add_lit0]; exact ha j u hu
    have grown : ∀ (old : Nat), old < n + m →
      (w.drew.alloc (.cells (xs.toArray ++ ys.toArray ++ Builtin.zeroCells z.cells (grownCap w (n + m) old e - (n + m))) e)).ownsRow base e i.size
        (.slice (some ⟨w.heap.size, 0, none⟩) (n + m) (grownCap w (n + m) old e)) (n + m) (xs ++ ys) := by
      intro old ho
      have hge := grownCap_ge w (n + m) old e
      have hcm : grownCap w (n + m) old e ≤ maxLen := grownCap_le_maxLen w (n + m) old e h63'
      refine ⟨hlen, .inr ⟨w.heap.size, _, _, rfl, hbase, heap_alloc_new w.drew _, hge, hcm, ?_, ?_⟩⟩
      · simp only [Array.size_append, List.size_toArray, size_zeroCells, hzs, hown.1, hyl, ← Nat.add_mul]
        congr 1
        omega
      · simp only [Array.toList_append, List.append_assoc]
        rw [← List.append_assoc, ← hlen]
        exact List.take_left
    rcases hown.2 with ⟨rfl, rfl⟩ | ⟨g, cap, cur, rfl, hbg, hg, hnc, hcm, hcs, htake⟩
    · have hx : xs = [] := List.eq_nil_of_length_eq_zero (by simpa using hown.1)
      subst hx
      have hr := run_append_nil (P := P) w t ty e i z ht hi hz ⟨b, o, none⟩ m c ys hyl hcell (by omega) (by omega) (by have hb := hb; simp only [Nat.zero_add] at hb; omega)
      have hgr := grown 0 (by omega)
      simp only [Nat.zero_add, List.nil_append, Array.empty_append] at hgr ⊢
      exact ⟨_, _, hr, hgr, World.ownsRow_nil _ base e i.size, ⟨rfl, rfl, rfl, by simp, fun k hk _ => heap_alloc_old w.drew _ hk⟩, .inr rfl⟩
    · by_cases hroom : n + m ≤ cap
      · have hfit : n * i.size + ys.length ≤ cur.size := by rw [hyl, hcs, ← Nat.add_mul]; exact Nat.mul_le_mul_right _ hroom
        have hr' := run_append_room (P := P) w t ty e i ht hi g n cap cur hg ⟨b, o, none⟩ m c ys hyl hcell hr.one hroom hfit
        have hsz : (cur.toList.take (n * i.size) ++ ys ++ cur.toList.drop (n * i.size + ys.length)).toArray.size = cap * i.size := by
          simp only [List.size_toArray, List.length_append, List.length_take, List.length_drop, Array.length_toList]
          omega
        refine ⟨_, _, hr', ⟨hlen, .inr ⟨g, cap, _, rfl, hbg, setRow_heap w g cur _ e _ hg, hroom, hcm, hsz, ?_⟩⟩, ⟨hown.1, .inr ⟨g, cap, _, rfl, hbg, setRow_heap w g cur _ e _ hg, hnc, hcm, hsz, ?_⟩⟩, keep_setRow w g _ rfl, .inl rfl⟩
        · rw [htake, ← hlen]
          exact List.take_left
        · rw [htake, ← hown.1, List.append_assoc]
          exact List.take_left
      · have holds : ∀ j u, xs[j]? = some u → w.cell? ((⟨g, 0, none⟩ : Addr).add j) = some u := hown.cells (g := g) rfl
        have hr' := run_append_grow (P := P) w t ty e i z ht hi hz ⟨g, 0, none⟩ n cap xs hown.1 holds ⟨b, o, none⟩ m c ys hyl hcell (by omega) (by omega) (growslice_fits (by omega) hb)
        refine ⟨_, _, hr', grown cap (by omega), ⟨hown.1, .inr ⟨g, cap, cur, rfl, hbg, (heap_alloc_old w.drew _ (heap_lt hg)).trans hg, hnc, hcm, hcs, htake⟩⟩, ⟨rfl, rfl, rfl, by simp, fun k hk _ => heap_alloc_old w.drew _ hk⟩, .inr rfl⟩
  · have hm1 : m = 0 := by omega
    subst hm1
    have hy : ys = [] := List.eq_nil_of_length_eq_zero (by simpa using hyl)
    subst hy
    rcases hown.2 with ⟨rfl, rfl⟩ | ⟨g, cap, cur, rfl, _, _, hc, _⟩
    · exact ⟨_, w, run_append_zero (P := P) w t ty e i ht hi none A 0 0 c (Nat.le_refl _), by simpa using hown, hown, Keep.refl _ _, .inl rfl⟩
    · exact ⟨_, w, run_append_zero (P := P) w t ty e i ht hi _ A n cap c hc, by simpa using hown, hown, Keep.refl _ _, .inl rfl⟩
/-- A new block that nobody writes is read from now on. -/
theorem Rel.addB (R : Rel cx E σ a w) {b : Nat} (h1 : cx.W.heap.size ≤ b) (h2 : b < w.heap.size) (h3 : ∀ (r : Nat) (o : Ob) (g : Nat) (u : Value), σ.ob[r]? = some o → o.live = true → E.ref[r]? = some (g, u) → blk u ≠ some b) :
    Leads E w { E with B := fun b' => E.B b' ∨ b' = b } w ∧ Rel cx { E with B := fun b' => E.B b' ∨ b' = b } σ a w := by
  have L : Leads E w { E with B := fun b' => E.B b' ∨ b' = b } w := ⟨fun b hb => ⟨.inl hb, rfl⟩, fun _ h => h, Nat.le_refl _, fun _ g u _ h => ⟨g, u, h, Nat.le_refl _, fun _ => rfl⟩⟩
  refine ⟨L, R.df, R.n, fun i => (R.tm i).mono L, R.len, fun r o hr => ?_, R.sep, fun b' hb => ?_, R.fr, fun b' hb hlt => ?_, R.keep⟩
  · obtain ⟨u, k1, k2⟩ := R.ob r o hr
    refine ⟨u, k1, k2.keep L (fun _ _ => rfl) (fun hl b' hb' hn hB => ?_)⟩
    rcases hB with hB | hB
    · exact hn hB
    · subst hB; exact h3 r o o.g u hr hl k1 hb'
  · rcases hb with hb | hb
    · exact R.lt b' hb
    · subst hb; exact h2
  · rcases hb with hb | hb
    · exact R.old b' hb hlt
    · omega
/-- Append to a row to which other values still refer: from now on nobody writes the row, nor what append gives. -/
theorem gen_appZ {r g s e b : Nat} {q m : List V} {x y : X} {fp : List Nat} (hx : x.ev σ = .own r g) (k1 : σ.ob[r]? = some ⟨.row e, true, g, .arr s q⟩) (hr0 : r ∈ fp) (hfp : ∀ p ∈ topId (y.ev σ), p ∈ fp) (hy : srcV σ r (y.ev σ) = (m, (srcV σ r (y.ev σ)).2.1, (srcV σ r (y.ev σ)).2.2)) (hyc : (srcV σ r (y.ev σ)).2.2) (hys : m = [] ∨ (srcV σ r (y.ev σ)).2.1 = s)
    (hb : (q.length + m.length) * b ≤ 140737488355328) (h63 : q.length + m.length ≤ 140737488355328) :
    Gen P σ (.m (.app e s b x y)) (.sl true s (q ++ m)) fp (some (r, ⟨.row e, false, g, .arr s q⟩)) := by
  refine Gen.of (fun _ _ h => by injection h with h; injection h with h; subst h; exact hr0) (fun σ' hev hob {cx E a w o} R hc => ?_)
  obtain ⟨x0, y0, t, i, z, e1, e2, e3, e4, e5, e6, e7, e8, rfl, rfl⟩ := compM_app hc
  have q1 : σ'.ob[r]? = some ⟨.row e, true, g, .arr i.size q⟩ := by rw [hob r hr0]; exact k1
  have run : ∀ {v' w'}, (Builtin.append_ #[t, t] o.type #[a.eval x0, a.eval y0]).run P w = .ok v' w' → (execOp a.eval o).run P w = .ok (.value v') w' := by
    intro v' w' hr
    simp only [execOp, e1, resolve, invoke, builtin, Sem.run_bind, Sem.run_pure, Result.andThen_ok, List.map_toArray, List.map_cons, List.map_nil, hr]
  have hX := compX_rd R e7
  have hY := compX_rd R e8
  rw [hev x (by simp [xsM]), hx] at hX
  rw [hev y (by simp [xsM])] at hY
  have hsv : srcV σ' r (y.ev σ) = srcV σ r (y.ev σ) := srcV_loc rfl (fun p hp => hob p (hfp p hp))
  rw [← hsv] at hyc hys hy
  obtain ⟨e0, u, xs, he0, hu, hU, hs0, hql, hown, hrd, hpu, hB⟩ := R.rowAt (.inl ⟨e, rfl⟩) q1
  have he : e0 = e := by
    rcases he0 with he0 | ⟨_, he0⟩
    · injection he0 with he0; exact he0.symm
    · cases he0
  subst he
  have hvu : a.eval x0 = u := by
    simp only [RdT, RdV] at hX
    obtain ⟨v', m1, _, _, m4⟩ := hX
    simp only [List.cons.injEq, and_true] at m1
    subst m1
    exact (m4 g u hu).2 rfl
  have hm1 : (srcV σ' r (y.ev σ)).1 = m := by rw [hy]
  obtain ⟨A, mm, c, ys, d1, d2, d3, d4, d5, d6, d7⟩ := src_rd R hY hyc (by rw [hm1]; exact hys)
  rw [hm1] at d2 d3 d4 d5
  have hWw : cx.W.heap.size ≤ w.heap.size := R.keep.size
  obtain ⟨v', w', k2, k3, k4, k5, k6⟩ := app_keep (P := P) (ty := o.type) (c := c) e2 e3 e4 e5 e6 hown d2 d4 d5 (by rw [d2] at d7 ⊢; exact d7) (by rw [d2]; exact hb) (by rw [d2]; exact h63) hWw
  rw [d2] at k3
  rw [← hvu, ← d1] at k2
  have hob1 : ∀ {base n : Nat} {e : TypeId} {s : Nat} {w : World} {v : Value} {xs : List Value}, w.ownsRow base e s v n xs → ∀ b, blk v = some b ↔ v.ownBlock = some b := by
    intro base n e s w v xs h b
    obtain ⟨A, c, rfl, _⟩ := own_slice h
    cases A <;> simp [blk, Value.ownBlock]
  have hS : Keep (fun b => blk u = some b) w w' := k5.mono (fun b _ hb => (hob1 hown b).2 hb)
  have hOld : OkO cx E w' ⟨.row e0, true, g, .arr i.size q⟩ u := by
    have L0 : Leads E w E w' := Leads.heap fun b hb => hS.block b (R.lt b hb) (fun eq => hB b eq hb)
    unfold OkO
    exact ⟨i.size, q, xs, rfl, hpu ⟨_, rfl⟩, hU, hs0, hql, k4, hrd.mono L0, fun b hb => by simpa using hB b hb⟩
  have hset := set_self' hu
  have hset2 := set_self' q1
  obtain ⟨L1, R1⟩ := R.touch (o' := ⟨.row e0, true, g, .arr i.size q⟩) (u' := u) q1 rfl hu hS rfl (.inl ⟨rfl, rfl⟩) (fun b hb => .inl hb) (by
    rw [show (⟨.row e0, true, g, .arr i.size q⟩ : Ob).g = g from rfl, hset]; exact hOld)
  rw [show (⟨.row e0, true, g, .arr i.size q⟩ : Ob).g = g from rfl, hset] at R1 L1
  rw [hset2] at R1
  have R1 : Rel cx E σ' a w' := R1
  obtain ⟨L2, R2⟩ := R1.freeze (r := r) (o := ⟨.row e0, true, g, .arr i.size q⟩) q1 hu (fun b hb => ⟨by
    rcases hown.2 with ⟨rfl, _⟩ | ⟨gb, cap, cur, rfl, f2, _⟩
    · simp [blk] at hb
    · simp only [blk, Option.some.injEq] at hb; subst hb; exact f2, trivial⟩)
  have hup : σ'.upd r Ob.freeze = { σ' with ob := σ'.ob.set r ⟨.row e0, false, g, .arr i.size q⟩ } := by simp [AS.upd, q1, Ob.freeze]
  rw [hup] at R2
  have hqm : RdL E w' (q ++ m) (xs ++ ys) := (hrd.mono L1).app (d5.mono L1)
  have hp : V.pures (q ++ m) = true := pures_app (hpu ⟨_, rfl⟩) d3
  obtain ⟨A', c', rfl, hnc⟩ := own_slice k3
  have fin : ∀ E2, Leads E w' E2 w' → (∀ b, blk (.slice A' (q.length + m.length) c') = some b → E2.B b) → (∀ b, cx.W.heap.size ≤ b → E2.F b) → RdT E2 w' (.sl true i.size (q ++ m)) (.slice A' (q.length + m.length) c') := by
    intro E2 L3 hE2 hF
    simp only [RdT, RdV]
    refine ⟨hp, hU.app d4, A', c', by rw [List.length_append], by rw [List.length_append]; exact hnc, by rw [List.length_append]; exact h63, fun h0 => ?_⟩
    rcases k3.2 with ⟨f1, f2⟩ | ⟨gb, cap, cur, f1, f2, f3, f4, f5, f6, f7⟩
    · rw [List.length_append] at h0; omega
    · injection f1 with f1 _ _
      subst f1
      refine ⟨gb, 0, xs ++ ys, rfl, hE2 gb rfl, fun _ => hF gb f2, hqm.mono L3, fun j v hj => ?_⟩
      rw [← f7, List.getElem?_take] at hj
      split at hj
      · rw [Nat.zero_add]
        simpa [World.cell?, f3] using hj
      · cases hj
  rcases k6 with k6 | k6
  · refine ⟨_, w', _, .inl (run k2), L1.trans L2, fin _ L2 (fun b hb => .inr ?_) (fun b hb => (R2.fr b).2 hb), R2⟩
    rw [hob1 hown, ← k6, ← hob1 k3]
    exact hb
  · by_cases h0 : ∃ b, blk (.slice A' (q.length + m.length) c') = some b
    · obtain ⟨b, hb⟩ := h0
      have hbe : b = w.heap.size := by
        have := (hob1 k3 b).1 hb
        rw [k6] at this
        exact (Option.some.inj this).symm
      have hlt : b < w'.heap.size := by
        rcases k3.2 with ⟨f1, f2⟩ | ⟨gb, cap, cur, f1, f2, f3, _⟩
        · rw [f1] at hb; simp [blk] at hb
        · rw [f1] at hb; simp only [blk, Option.some.injEq] at hb; subst hb; exact heap_lt f3
      obtain ⟨L3, R3⟩ := R2.addB (b := b) (by omega) hlt (fun r' o' g' u' h1 h2 h3 h4 => by
        have h1 : (σ'.ob.set r ⟨.row e0, false, g, .arr i.size q⟩)[r']? = some o' := h1
        by_cases er : r = r'
        · subst er
          rw [List.getElem?_set_self ((List.getElem?_eq_some_iff.1 q1).1)] at h1
          injection h1 with h1
          subst h1
          cases h2
        · rw [List.getElem?_set_ne er] at h1
          obtain ⟨u2, p1, p2⟩ := R.ob r' o' h1
          have h3 : E.ref[r']? = some (g', u') := h3
          rw [h3] at p1
          injection p1 with p1
          injection p1 with _ p1
          subst p1
          have := p2.blk_lt h4
          omega)
      refine ⟨_, w', _, .inl (run k2), L1.trans (L2.trans L3), fin _ (L2.trans L3) (fun b' hb' => .inr ?_) (fun b hb => (R3.fr b).2 hb), R3⟩
      rw [hb] at hb'
      exact (Option.some.inj hb').symm
    · exact ⟨_, w', _, .inl (run k2), L1.trans L2, fin _ L2 (fun b hb => absurd ⟨b, hb⟩ h0) (fun b hb => (R2.fr b).2 hb), R2⟩
/-- A part of a row, in the slot i: from now on nobody writes the row. -/
theorem Rel.frozeP (R : Rel cx E ⟨n, t, ob⟩ a w) {i r g e s lo hi : Nat} {q : List V} (hi' : slotV t i = .osl r g s lo hi) (ho : ob[r]? = some ⟨.row e, true, g, .arr s q⟩) : ∃ E', Rel cx E' ⟨n, (i, .sl true s ((q.take hi).drop lo)) :: t, ob.set r ⟨.row e, false, g, .arr s q⟩⟩ a w := by
  have hv : RdT E w (slotV t i) (a.tmps.getD i undef) := R.tm i
  rw [hi'] at hv
  obtain ⟨e0, u, xs, he0, hu, hU, hs0, hql, hown, hrd, hpu, hB⟩ := R.rowAt (.inl ⟨e, rfl⟩) ho
  obtain ⟨A, n', c, A', f1, f2, f3, f4, f5, f6⟩ := rd_osl hv hu
  have hbase : ∀ b, blk u = some b → cx.W.heap.size ≤ b := fun b hb => by
    rcases hown.2 with ⟨rfl, _⟩ | ⟨gb, cap, cur, rfl, f2, _⟩
    · simp [blk] at hb
    · simp only [blk, Option.some.injEq] at hb; subst hb; exact f2
  obtain ⟨L, R'⟩ := R.freeze (r := r) (o := ⟨.row e, true, g, .arr s q⟩) ho hu (fun b hb => ⟨hbase b hb, trivial⟩)
  have hup : ((⟨n, t, ob⟩ : AS).upd r Ob.freeze) = ⟨n, t, ob.set r ⟨.row e, false, g, .arr s q⟩⟩ := by simp [AS.upd, ho, Ob.freeze]
  rw [hup] at R'
  refine ⟨{ E with B := fun b => E.B b ∨ blk u = some b }, R'.slot ?_⟩
  rw [f2]
  rcases hown.2 with ⟨g1, g2⟩ | ⟨gb, cap, cur, g1, g2, g3, g4, g5, g6, g7⟩
  · have hq : q = [] := List.eq_nil_of_length_eq_zero g2
    subst hq
    rw [g1] at f1
    injection f1 with _ f1 _
    obtain rfl : lo = 0 := by omega
    obtain rfl : hi = 0 := by omega
    exact sub_rd (b := 0) (o := 0) (xs := []) rfl hU (by simp) (fun h => absurd h (by simp)) (fun h => absurd h (by simp)) (by simp [RdL]) (fun j v hj => by simp at hj) 0 0 (Nat.le_refl _) (Nat.le_refl _) _ (Nat.zero_le _) (fun h => by omega)
  · have hn : n' = q.length := by rw [g1] at f1; injection f1 with _ f1 _; exact f1.symm
    have hA : A = some ⟨gb, 0, none⟩ := by rw [g1] at f1; injection f1 with f1 _ _; exact f1.symm
    subst hn hA
    exact sub_rd (b := gb) (o := 0) (xs := xs) (hpu ⟨e, rfl⟩) hU hql (fun _ => Or.inr (by rw [g1]; rfl)) (fun _ _ => (R'.fr gb).2 (hbase gb (by rw [g1]; rfl))) (hrd.mono L) (fun j v hj => by
      rw [← g7, List.getElem?_take] at hj
      split at hj
      · simpa [World.cell?, g3] using hj
      · cases hj) lo hi f3 f4 _ (by omega) (fun h => by rw [f6 (by omega)]; simp [Addr.add_lit])
theorem ev_freezeP (i : Nat) {r g e s lo hi : Nat} {q : List V} (hi' : slotV t i = .osl r g s lo hi) (ho : ob[r]? = some ⟨.row e, true, g, .arr s q⟩) (h : Ev P cx N Q k ⟨n, (i, .sl true s ((q.take hi).drop lo)) :: t, ob.set r ⟨.row e, false, g, .arr s q⟩⟩) : Ev P cx N Q k ⟨n, t, ob⟩ :=
  ⟨fun hn E a w R => by
    obtain ⟨E', R'⟩ := R.frozeP hi' ho
    exact h.h hn E' a w R'⟩
attribute [go_sem] wrOb
end
end Rdn.Dp
