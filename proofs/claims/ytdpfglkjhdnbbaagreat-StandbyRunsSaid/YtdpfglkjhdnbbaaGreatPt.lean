/- Parts of rows of one's own: cut out, written in place by append and copy, frozen. Over any program. -/
import Derived.Test.YtdpfglkjhdnbbaaGreatC5
namespace Rdn.Dp
open Go Go.RowKit Rdn
set_option linter.unusedVariables false
section
variable {P : Program} {cx : Cx} {E E' : Env} {σ : AS} {a : Act} {w w' : World} {N : Nat} {Q : Exit → Act → World → Prop} {k : List It} {l : List RO} {n : Nat} {t : List (Nat × V)} {ob : List Ob}
theorem Gen.of {m : MOp} {x : V} {fp : List Nat} {wr : Option (Nat × Ob)} (wf : ∀ r o, wr = some (r, o) → r ∈ fp)
    (h : ∀ σ' : AS, (∀ y ∈ xsM m, y.ev σ' = y.ev σ) → (∀ q ∈ fp, σ'.ob[q]? = σ.ob[q]?) → ∀ {cx : Cx} {E : Env} {a : Act} {w : World} {o : Oper}, Rel cx E σ' a w → compM P o.op = some m → Leaves P cx E a w o x { σ' with ob := wrOb σ'.ob wr }) : Gen P σ (.m m) x fp wr :=
  ⟨wf, fun σ' h1 h2 _ {cx E a w o} R hc S hS => relAt_of (h σ' h1 h2 R (compK_m hc)) (fun v w' E' L hv R' => hS v w' E' L hv R')⟩
theorem Rel.rowAt (R : Rel cx E σ a w) {r g s : Nat} {kk : OK} {q : List V} (hk : (∃ e, kk = .row e) ∨ ∃ p e, kk = .rows p e) (k1 : σ.ob[r]? = some ⟨kk, true, g, .arr s q⟩) :
    ∃ e u xs, (kk = .row e ∨ ∃ p, kk = .rows p e) ∧ E.ref[r]? = some (g, u) ∧ Unif s q ∧ 0 < s ∧ q.length ≤ 140737488355328 ∧ w.ownsRow (kk.base cx.W.heap.size) e s u q.length xs ∧ RdL E w q xs ∧ ((∃ e, kk = .row e) → V.pures q = true) ∧ (∀ b, blk u = some b → ¬ E.B b) := by
  obtain ⟨u, h1, h2⟩ := R.ob r _ k1
  unfold OkO at h2
  rcases hk with ⟨e, rfl⟩ | ⟨p, e, rfl⟩
  · obtain ⟨s', l', xs, q1, q2, q3, q4, q5, q6, q7, q8⟩ := h2
    injection q1 with q1 q1'
    subst q1 q1'
    exact ⟨e, u, xs, .inl rfl, h1, q3, q4, q5, q6, q7, fun _ => q2, fun b hb => by have := q8 b hb; simpa using this⟩
  · obtain ⟨_, s', l', xs, q1, q3, q4, q5, q6, q7, q8⟩ := h2
    injection q1 with q1 q1'
    subst q1 q1'
    exact ⟨e, u, xs, .inr ⟨p, rfl⟩, h1, q3, q4, q5, q6, q7, fun h => (by obtain ⟨_, h⟩ := h; cases h), fun b hb => (q8 b hb).1⟩
theorem own_slice {base n : Nat} {e : TypeId} {s : Nat} {v : Value} {xs : List Value} (h : w.ownsRow base e s v n xs) : ∃ A c, v = .slice A n c ∧ n ≤ c := by
  rcases h.2 with ⟨rfl, rfl⟩ | ⟨g, cap, cur, rfl, _, _, hc, _⟩
  · exact ⟨_, _, rfl, Nat.le_refl _⟩
  · exact ⟨_, _, rfl, hc⟩
theorem compM_app {op : Op} {e s b : Nat} {x y : X} (hc : compM P op = some (.app e s b x y)) : ∃ x0 y0 t i z, op = .call { callee := .builtin .append, args := #[x0, y0], argTypes := #[t, t] } ∧ P.underlying t = some (.slice e) ∧ P.info? e = some i ∧ i.zero = some z ∧ z.cells.size = i.size ∧ 0 < i.size ∧ compX x0 = some x ∧ compX y0 = some y ∧ s = i.size ∧ b = i.bytes := by
  unfold compM at hc
  split at hc
  case h_8 b aas ts =>
    split at hc
    · rename_i x y t t' e1 e2
      obtain ⟨aas⟩ := aas
      obtain ⟨ts⟩ := ts
      have e1 : aas = [x, y] := e1
      have e2 : ts = [t, t'] := e2
      subst e1 e2
      split at hc
      · rename_i ht
        subst ht
        split at hc
        · rename_i h1
          split at hc
          · rename_i h2
            split at hc
            · rename_i h3
              split at hc
              · rename_i h4
                simp only [Option.map_eq_some_iff, Option.bind_eq_some_iff] at hc
                obtain ⟨x', hx, y', hy, e⟩ := hc
                injection e with e1 e2 e3 e4 e5
                subst e1 e2 e3 e4 e5
                exact ⟨_, _, _, _, _, rfl, h1, h2, h3, h4.1, h4.2, hx, hy, rfl, rfl⟩
              · cases hc
            · cases hc
          · cases hc
        · cases hc
      · (repeat' split at hc) <;> first | (cases hc; done) | (simp [Option.bind_eq_some_iff] at hc; done)
    · (repeat' split at hc) <;> first | (cases hc; done) | (simp [Option.bind_eq_some_iff] at hc; done)
    · cases hc
  all_goals (repeat' split at hc) <;> first | (cases hc; done) | (simp [Option.bind_eq_some_iff] at hc; done)
theorem app_keep {base : Nat} {t ty e : TypeId} {i : TypeInfo} {z : Value} (ht : P.underlying t = some (.slice e)) (hi : P.info? e = some i) (hz : i.zero = some z) (hzs : z.cells.size = i.size) (h0 : 0 < i.size)
    {v : Value} {n : Nat} {xs : List Value} (hown : w.ownsRow base e i.size v n xs) {A : Option Addr} {m c : Nat} {l : List V} {ys : List Value} (hm : m = l.length) (hU : Unif i.size l) (hr : RdL E w l ys) (hA : 0 < m → ∃ b o, A = some ⟨b, o, none⟩ ∧ At w b o ys)
    (hb : (n + m) * i.bytes ≤ 140737488355328) (h63 : n + m ≤ 140737488355328) (hbase : base ≤ w.heap.size) :
    ∃ v' w', (Builtin.append_ #[t, t] ty #[v, .slice A m c]).run P w = .ok v' w' ∧ w'.ownsRow base e i.size v' (n + m) (xs ++ ys) ∧ w'.ownsRow base e i.size v n xs ∧ Keep (fun b => v.ownBlock = some b) w w' ∧ (v'.ownBlock = v.ownBlock ∨ v'.ownBlock = some w.heap.size) := by
  have hyl : ys.length = m * i.size := by rw [hr.len, sizes_unif hU, hm, Nat.mul_comm]
  have h63' : n + m ≤ maxLen := by simp [maxLen]; omega
  have hlen : (xs ++ ys).length = (n + m) * i.size := by rw [List.length_append, hown.1, hyl, Nat.add_mul]
  by_cases hm0 : 0 < m
  · obtain ⟨b, o, rfl, ha⟩ := hA hm0
    have hcell : ∀ j u, ys[j]? = some u → w.cell? ((⟨b, o, none⟩ : Addr).add j) = some u := fun j u hu => by rw [add_lit0]; exact ha j u hu
    have grown : ∀ (old : Nat), old < n + m →
      (w.drew.alloc (.cells (xs.toArray ++ ys.toArray ++ Builtin.zeroCells z.cells (grownCap w (n + m) old e - (n + m))) e)).ownsRow base e i.size
        (.slice (some ⟨w.heap.size, 0, none⟩) (n + m) (grownCap w (n + m) old e)) (n + m) (xs ++ ys) := by
      intro old ho
      have hge := grownCap_ge w (n + m) old e
      have hcm : grownCap w (n + m) old e ≤ maxLen := grownCap_le_maxLen w (n + m) old e h63'
      refine ⟨hlen, .inr ⟨w.heap.size, _, _, rfl, hbase, heap_alloc_new w.drew _, hge, hcm, ?_, ?_⟩⟩
      · simp only [Array.size_append, List.size_toArray, size_zeroCells, hzs, hown.1, hyl, ← Nat.add_mul]
        congr 1
        omega
      · simp only [Array.toList_append, List.append_assoc]
        rw [← List.append_assoc, ← hlen]
        exact List.take_left
    rcases hown.2 with ⟨rfl, rfl⟩ | ⟨g, cap, cur, rfl, hbg, hg, hnc, hcm, hcs, htake⟩
    · have hx : xs = [] := List.eq_nil_of_length_eq_zero (by simpa using hown.1)
      subst hx
      have hr := run_append_nil (P := P) w t ty e i z ht hi hz ⟨b, o, none⟩ m c ys hyl hcell (by omega) (by omega) (by have hb := hb; simp only [Nat.zero_add] at hb; omega)
      have hgr := grown 0 (by omega)
      simp only [Nat.zero_add, List.nil_append, Array.empty_append] at hgr ⊢
      exact ⟨_, _, hr, hgr, World.ownsRow_nil _ base e i.size, ⟨rfl, rfl, rfl, by simp, fun k hk _ => heap_alloc_old w.drew _ hk⟩, .inr rfl⟩
    · by_cases hroom : n + m ≤ cap
      · have hfit : n * i.size + ys.length ≤ cur.size := by rw [hyl, hcs, ← Nat.add_mul]; exact Nat.mul_le_mul_right _ hroom
        have hr' := run_append_room (P := P) w t ty e i ht hi g n cap cur hg ⟨b, o, none⟩ m c ys hyl hcell hr.one hroom hfit
        have hsz : (cur.toList.take (n * i.size) ++ ys ++ cur.toList.drop (n * i.size + ys.length)).toArray.size = cap * i.size := by
          simp only [List.size_toArray, List.length_append, List.length_take, List.length_drop, Array.length_toList]
          omega
        refine ⟨_, _, hr', ⟨hlen, .inr ⟨g, cap, _, rfl, hbg, setRow_heap w g cur _ e _ hg, hroom, hcm, hsz, ?_⟩⟩, ⟨hown.1, .inr ⟨g, cap, _, rfl, hbg, setRow_heap w g cur _ e _ hg, hnc, hcm, hsz, ?_⟩⟩, keep_setRow w g _ rfl, .inl rfl⟩
        · rw [htake, ← hlen]
          exact List.take_left
        · rw [htake, ← hown.1, List.append_assoc]
          exact List.take_left
      · have holds : ∀ j u, xs[j]? = some u → w.cell? ((⟨g, 0, none⟩ : Addr).add j) = some u := hown.cells (g := g) rfl
        have hr' := run_append_grow (P := P) w t ty e i z ht hi hz ⟨g, 0, none⟩ n cap xs hown.1 holds ⟨b, o, none⟩ m c ys hyl hcell (by omega) (by omega) (growslice_fits (by omega) hb)
        refine ⟨_, _, hr', grown cap (by omega), ⟨hown.1, .inr ⟨g, cap, cur, rfl, hbg, (heap_alloc_old w.drew _ (heap_lt hg)).trans hg, hnc, hcm, hcs, htake⟩⟩, ⟨rfl, rfl, rfl, by simp, fun k hk _ => heap_alloc_old w.drew _ hk⟩, .inr rfl⟩
  · have hm1 : m = 0 := by omega
    subst hm1
    have hy : ys = [] := List.eq_nil_of_length_eq_zero (by simpa using hyl)
    subst hy
    rcases hown.2 with ⟨rfl, rfl⟩ | ⟨g, cap, cur, rfl, _, _, hc, _⟩
    · exact ⟨_, w, run_append_zero (P := P) w t ty e i ht hi none A 0 0 c (Nat.le_refl _), by simpa using hown, hown, Keep.refl _ _, .inl rfl⟩
    · exact ⟨_, w, run_append_zero (P := P) w t ty e i ht hi _ A n cap c hc, by simpa using hown, hown, Keep.refl _ _, .inl rfl⟩
theorem Rel.addB (R : Rel cx E σ a w) {b : Nat} (h1 : cx.W.heap.size ≤ b) (h2 : b < w.heap.size) (h3 : ∀ (r : Nat) (o : Ob) (g : Nat) (u : Value), σ.ob[r]? = some o → o.live = true → E.ref[r]? = some (g, u) → blk u ≠ some b) :
    Leads E w { E with B := fun b' => E.B b' ∨ b' = b } w ∧ Rel cx { E with B := fun b' => E.B b' ∨ b' = b } σ a w := by
  have L : Leads E w { E with B := fun b' => E.B b' ∨ b' = b } w := ⟨fun b hb => ⟨.inl hb, rfl⟩, fun _ h => h, Nat.le_refl _, fun _ g u _ h => ⟨g, u, h, Nat.le_refl _, fun _ => rfl⟩⟩
  refine ⟨L, R.df, R.n, fun i => (R.tm i).mono L, R.len, fun r o hr => ?_, R.sep, fun b' hb => ?_, R.fr, fun b' hb hlt => ?_, R.keep⟩
  · obtain ⟨u, k1, k2⟩ := R.ob r o hr
    refine ⟨u, k1, k2.keep L (fun _ _ => rfl) (fun hl b' hb' hn hB => ?_)⟩
    rcases hB with hB | hB
    · exact hn hB
    · subst hB; exact h3 r o o.g u hr hl k1 hb'
  · rcases hb with hb | hb
    · exact R.lt b' hb
    · subst hb; exact h2
  · rcases hb with hb | hb
    · exact R.old b' hb hlt
    · omega
theorem gen_appZ {r g s e b : Nat} {q m : List V} {x y : X} {fp : List Nat} (hx : x.ev σ = .own r g) (k1 : σ.ob[r]? = some ⟨.row e, true, g, .arr s q⟩) (hr0 : r ∈ fp) (hfp : ∀ p ∈ topId (y.ev σ), p ∈ fp) (hy : srcV σ r (y.ev σ) = (m, (srcV σ r (y.ev σ)).2.1, (srcV σ r (y.ev σ)).2.2)) (hyc : (srcV σ r (y.ev σ)).2.2) (hys : m = [] ∨ (srcV σ r (y.ev σ)).2.1 = s)
    (hb : (q.length + m.length) * b ≤ 140737488355328) (h63 : q.length + m.length ≤ 140737488355328) :
    Gen P σ (.m (.app e s b x y)) (.sl true s (q ++ m)) fp (some (r, ⟨.row e, false, g, .arr s q⟩)) := by
  refine Gen.of (fun _ _ h => by injection h with h; injection h with h; subst h; exact hr0) (fun σ' hev hob {cx E a w o} R hc => ?_)
  obtain ⟨x0, y0, t, i, z, e1, e2, e3, e4, e5, e6, e7, e8, rfl, rfl⟩ := compM_app hc
  have q1 : σ'.ob[r]? = some ⟨.row e, true, g, .arr i.size q⟩ := by rw [hob r hr0]; exact k1
  have run : ∀ {v' w'}, (Builtin.append_ #[t, t] o.type #[a.eval x0, a.eval y0]).run P w = .ok v' w' → (execOp a.eval o).run P w = .ok (.value v') w' := by
    intro v' w' hr
    simp only [execOp, e1, resolve, invoke, builtin, Sem.run_bind, Sem.run_pure, Result.andThen_ok, List.map_toArray, List.map_cons, List.map_nil, hr]
  have hX := compX_rd R e7
  have hY := compX_rd R e8
  rw [hev x (by simp [xsM]), hx] at hX
  rw [hev y (by simp [xsM])] at hY
  have hsv : srcV σ' r (y.ev σ) = srcV σ r (y.ev σ) := srcV_loc rfl (fun p hp => hob p (hfp p hp))
  rw [← hsv] at hyc hys hy
  obtain ⟨e0, u, xs, he0, hu, hU, hs0, hql, hown, hrd, hpu, hB⟩ := R.rowAt (.inl ⟨e, rfl⟩) q1
  have he : e0 = e := by
    rcases he0 with he0 | ⟨_, he0⟩
    · injection he0 with he0; exact he0.symm
    · cases he0
  subst he
  have hvu : a.eval x0 = u := by
    simp only [RdT, RdV] at hX
    obtain ⟨v', m1, _, _, m4⟩ := hX
    simp only [List.cons.injEq, and_true] at m1
    subst m1
    exact (m4 g u hu).2 rfl
  have hm1 : (srcV σ' r (y.ev σ)).1 = m := by rw [hy]
  obtain ⟨A, mm, c, ys, d1, d2, d3, d4, d5, d6, d7⟩ := src_rd R hY hyc (by rw [hm1]; exact hys)
  rw [hm1] at d2 d3 d4 d5
  have hWw : cx.W.heap.size ≤ w.heap.size := R.keep.size
  obtain ⟨v', w', k2, k3, k4, k5, k6⟩ := app_keep (P := P) (ty := o.type) (c := c) e2 e3 e4 e5 e6 hown d2 d4 d5 (by rw [d2] at d7 ⊢; exact d7) (by rw [d2]; exact hb) (by rw [d2]; exact h63) hWw
  rw [d2] at k3
  rw [← hvu, ← d1] at k2
  have hob1 : ∀ {base n : Nat} {e : TypeId} {s : Nat} {w : World} {v : Value} {xs : List Value}, w.ownsRow base e s v n xs → ∀ b, blk v = some b ↔ v.ownBlock = some b := by
    intro base n e s w v xs h b
    obtain ⟨A, c, rfl, _⟩ := own_slice h
    cases A <;> simp [blk, Value.ownBlock]
  have hS : Keep (fun b => blk u = some b) w w' := k5.mono (fun b _ hb => (hob1 hown b).2 hb)
  have hOld : OkO cx E w' ⟨.row e0, true, g, .arr i.size q⟩ u := by
    have L0 : Leads E w E w' := Leads.heap fun b hb => hS.block b (R.lt b hb) (fun eq => hB b eq hb)
    unfold OkO
    exact ⟨i.size, q, xs, rfl, hpu ⟨_, rfl⟩, hU, hs0, hql, k4, hrd.mono L0, fun b hb => by simpa using hB b hb⟩
  have hset := set_self' hu
  have hset2 := set_self' q1
  obtain ⟨L1, R1⟩ := R.touch (o' := ⟨.row e0, true, g, .arr i.size q⟩) (u' := u) q1 rfl hu hS rfl (.inl ⟨rfl, rfl⟩) (fun b hb => .inl hb) (by
    rw [show (⟨.row e0, true, g, .arr i.size q⟩ : Ob).g = g from rfl, hset]; exact hOld)
  rw [show (⟨.row e0, true, g, .arr i.size q⟩ : Ob).g = g from rfl, hset] at R1 L1
  rw [hset2] at R1
  have R1 : Rel cx E σ' a w' := R1
  obtain ⟨L2, R2⟩ := R1.freeze (r := r) (o := ⟨.row e0, true, g, .arr i.size q⟩) q1 hu (fun b hb => ⟨by
    rcases hown.2 with ⟨rfl, _⟩ | ⟨gb, cap, cur, rfl, f2, _⟩
    · simp [blk] at hb
    · simp only [blk, Option.some.injEq] at hb; subst hb; exact f2, trivial⟩)
  have hup : σ'.upd r Ob.freeze = { σ' with ob := σ'.ob.set r ⟨.row e0, false, g, .arr i.size q⟩ } := by simp [AS.upd, q1, Ob.freeze]
  rw [hup] at R2
  have hqm : RdL E w' (q ++ m) (xs ++ ys) := (hrd.mono L1).app (d5.mono L1)
  have hp : V.pures (q ++ m) = true := pures_app (hpu ⟨_, rfl⟩) d3
  obtain ⟨A', c', rfl, hnc⟩ := own_slice k3
  have fin : ∀ E2, Leads E w' E2 w' → (∀ b, blk (.slice A' (q.length + m.length) c') = some b → E2.B b) → (∀ b, cx.W.heap.size ≤ b → E2.F b) → RdT E2 w' (.sl true i.size (q ++ m)) (.slice A' (q.length + m.length) c') := by
    intro E2 L3 hE2 hF
    simp only [RdT, RdV]
    refine ⟨hp, hU.app d4, A', c', by rw [List.length_append], by rw [List.length_append]; exact hnc, by rw [List.length_append]; exact h63, fun h0 => ?_⟩
    rcases k3.2 with ⟨f1, f2⟩ | ⟨gb, cap, cur, f1, f2, f3, f4, f5, f6, f7⟩
    · rw [List.length_append] at h0; omega
    · injection f1 with f1 _ _
      subst f1
      refine ⟨gb, 0, xs ++ ys, rfl, hE2 gb rfl, fun _ => hF gb f2, hqm.mono L3, fun j v hj => ?_⟩
      rw [← f7, List.getElem?_take] at hj
      split at hj
      · rw [Nat.zero_add]
        simpa [World.cell?, f3] using hj
      · cases hj
  rcases k6 with k6 | k6
  · refine ⟨_, w', _, .inl (run k2), L1.trans L2, fin _ L2 (fun b hb => .inr ?_) (fun b hb => (R2.fr b).2 hb), R2⟩
    rw [hob1 hown, ← k6, ← hob1 k3]
    exact hb
  · by_cases h0 : ∃ b, blk (.slice A' (q.length + m.length) c') = some b
    · obtain ⟨b, hb⟩ := h0
      have hbe : b = w.heap.size := by
        have := (hob1 k3 b).1 hb
        rw [k6] at this
        exact (Option.some.inj this).symm
      have hlt : b < w'.heap.size := by
        rcases k3.2 with ⟨f1, f2⟩ | ⟨gb, cap, cur, f1, f2, f3, _⟩
        · rw [f1] at hb; simp [blk] at hb
        · rw [f1] at hb; simp only [blk, Option.some.injEq] at hb; subst hb; exact heap_lt f3
      obtain ⟨L3, R3⟩ := R2.addB (b := b) (by omega) hlt (fun r' o' g' u' h1 h2 h3 h4 => by
        have h1 : (σ'.ob.set r ⟨.row e0, false, g, .arr i.size q⟩)[r']? = some o' := h1
        by_cases er : r = r'
        · subst er
          rw [List.getElem?_set_self ((List.getElem?_eq_some_iff.1 q1).1)] at h1
          injection h1 with h1
          subst h1
          cases h2
        · rw [List.getElem?_set_ne er] at h1
          obtain ⟨u2, p1, p2⟩ := R.ob r' o' h1
          have h3 : E.ref[r']? = some (g', u') := h3
          rw [h3] at p1
          injection p1 with p1
          injection p1 with _ p1
          subst p1
          have := p2.blk_lt h4
          omega)
      refine ⟨_, w', _, .inl (run k2), L1.trans (L2.trans L3), fin _ (L2.trans L3) (fun b' hb' => .inr ?_) (fun b hb => (R3.fr b).2 hb), R3⟩
      rw [hb] at hb'
      exact (Option.some.inj hb').symm
    · exact ⟨_, w', _, .inl (run k2), L1.trans L2, fin _ L2 (fun b hb => absurd ⟨b, hb⟩ h0) (fun b hb => (R2.fr b).2 hb), R2⟩
attribute [go_sem] wrOb
end
end Rdn.Dp
