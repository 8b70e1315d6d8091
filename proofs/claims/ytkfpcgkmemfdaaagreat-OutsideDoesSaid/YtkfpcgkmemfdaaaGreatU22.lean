/- The outside: copies of which one list may be written. -/
import Derived.Test.YtkfpcgkmemfdaaaGreatUE
import Derived.Test.YtkfpcgkmemfdaaaGreatC5
namespace Go.Proofs.YtkfpcgkmemfdaaaGreat
open Go Go.RowKit Rdn Rdn.Dp
set_option linter.unusedVariables false
set_option linter.unusedSimpArgs false
end Go.Proofs.YtkfpcgkmemfdaaaGreat
namespace Rdn.Dp
open Go Go.RowKit Rdn
set_option linter.unusedVariables false
section
variable {P : Program} {cx : Cx} {N : Nat} {Q : Exit → Act → World → Prop} {k : List It} {σ : AS} {n : Nat} {t : List (Nat × V)} {ob : List Ob}
theorem ev_cut2 {J : AS → Prop} {x y z : MC} (rest : ∀ σ', J σ' → Ev P cx N Q (.code z :: k) σ') (h : Ev P cx N Q (.code x :: .code y :: .goal J :: .code z :: k) σ) : Ev P cx N Q (.code x :: .code (.seq y z) :: k) σ := by
  refine ⟨fun hn E a w R => ?_⟩
  have h1 := h.h hn E a w R
  rw [wpS_code] at h1 ⊢
  intro c hc
  refine wp_mono (h1 c hc) fun e a w hq => ?_
  cases e with
  | normal =>
    have hq : wpS P cx N Q (.code y :: .goal J :: .code z :: k) a w := hq
    show wpS P cx N Q (.code (.seq y z) :: k) a w
    rw [wpS_code] at hq ⊢
    intro c hc
    cases c <;> simp only [comp] at hc
    case seq c1 c2 =>
      split at hc
      · rename_i e1 e2
        cases hc
        refine wp_seq (wp_mono (hq c1 e1) fun e a w hq => ?_)
        cases e with
        | normal =>
          have hq : wpS P cx N Q (.goal J :: .code z :: k) a w := hq
          simp only [wpS] at hq
          obtain ⟨E1, σ1, hJ, hn1, R1⟩ := hq
          have := (rest σ1 hJ).h hn1 E1 _ _ R1
          rw [wpS_code] at this
          exact this c2 e2
        | exit id =>
          show exitS P cx N Q k id a w
          simpa only [onX, exitS] using hq
        | goto l => exact hq
        | ret => exact hq
        | panic c => exact hq
        | outgrown => exact hq
      · cases hc
    all_goals (first | cases hc | (split at hc <;> first | cases hc | (split at hc <;> first | cases hc | (split at hc <;> cases hc))) | (simp at hc))
  | exit id => simpa only [onX, exitS] using hq
  | goto l => exact hq
  | ret => exact hq
  | panic c => exact hq
  | outgrown => exact hq
theorem ev_cutK2 {ι : Type} (ks : List Nat) (U : ι → List (Nat × V)) (O : ι → List Ob) {tk : List (Nat × V)} {x y z : MC} (htk : keepT t ks = tk)
    (rest : ∀ i, Ev P cx N Q (.code z :: k) ⟨n, U i ++ tk, O i⟩)
    (h : ∀ J : Unit → AS → Prop, (∀ i y, 0 < 1 → J i ⟨n, U y ++ tk, O y⟩) → Ev P cx N Q (.code x :: .code y :: .goal (J ()) :: .code z :: k) ⟨n, t, ob⟩) : Ev P cx N Q (.code x :: .code (.seq y z) :: k) ⟨n, t, ob⟩ :=
  ev_cut2 (J := fun σ' => ∃ y, σ' = ⟨n, U y ++ tk, O y⟩) (fun σ' hJ => by obtain ⟨y, rfl⟩ := hJ; exact rest y) (h (fun _ σ' => ∃ y, σ' = ⟨n, U y ++ tk, O y⟩) fun _ y _ => ⟨y, rfl⟩)
end
section
variable {P : Program} {cx : Cx} {E E' : Env} {a : Act} {w w' : World} {N : Nat} {Q : Exit → Act → World → Prop} {k : List It} {l : List RO} {n : Nat} {t : List (Nat × V)} {ob : List Ob}
/-- A row that a field of a variable's field holds is not written any more. -/
theorem Rel.frzBox2 (R : Rel cx E ⟨n, t, ob⟩ a w) {r j j2 g r' g' e' s' : Nat} {qb : Bool} {T : TypeId} {q q2 q' : List V} (hr : ob[r]? = some ⟨.box qb T, true, g, .agg q⟩) (hj : q[j]? = some (.agg q2)) (hj2 : q2[j2]? = some (.own r' g')) (hr' : ob[r']? = some ⟨.row e', true, g', .arr s' q'⟩) : ∃ E', Rel cx E' ⟨n, t, (ob.set r' ⟨.row e', false, g', .arr s' q'⟩).set r ⟨.box qb T, true, g, .agg (q.set j (.agg (q2.set j2 (.sl true s' q'))))⟩⟩ a w := by
  have hne : r' ≠ r := by
    rintro rfl
    rw [hr] at hr'
    cases hr'
  obtain ⟨u, k1, k2⟩ := R.ob r' _ hr'
  obtain ⟨L, R1⟩ := R.freeze (r := r') hr' k1 (fun b hb => ⟨k2.wrRow (e := e') rfl hb, trivial⟩)
  have hup : ((⟨n, t, ob⟩ : AS).upd r' Ob.freeze) = ⟨n, t, ob.set r' ⟨.row e', false, g', .arr s' q'⟩⟩ := by simp [AS.upd, hr', Ob.freeze]
  rw [hup] at R1
  have rl' : r' < ob.length := (List.getElem?_eq_some_iff.1 hr').1
  have hjl := (List.getElem?_eq_some_iff.1 hj).1
  have hjv : q[j] = .agg q2 := (List.getElem?_eq_some_iff.1 hj).2
  have hjl2 := (List.getElem?_eq_some_iff.1 hj2).1
  have hjv2 : q2[j2] = .own r' g' := (List.getElem?_eq_some_iff.1 hj2).2
  refine ⟨_, R1.kind (r := r) (o := ⟨.box qb T, true, g, .agg q⟩) (by rw [List.getElem?_set_ne hne]; exact hr) rfl rfl fun u h => ?_⟩
  unfold OkO at h ⊢
  obtain ⟨b, cs, h1, h2, h3, h4, h5⟩ := h
  simp only [RdV] at h3
  obtain ⟨ys, c, zs, p1, p2, p3, p4⟩ := h3.part hjl
  rw [hjv] at p3
  simp only [RdV] at p3
  obtain ⟨ys2, c2, zs2, t1, t2, t3, t4⟩ := p3.part hjl2
  rw [hjv2] at t3
  have p3' := t3
  simp only [RdV] at p3'
  obtain ⟨v, rfl, _⟩ := p3'
  have hv := own_calm R1 (r := r') (g := g') (v := v) (by simpa only [RdT] using t3) (by simp [rowV, List.getElem?_set_self rl']) (fun o ho => by
    have ho : (ob.set r' ⟨.row e', false, g', .arr s' q'⟩)[r']? = some o := ho
    rw [List.getElem?_set_self rl'] at ho
    cases ho; rfl)
  have e1 : (rowV ⟨n, t, ob.set r' ⟨.row e', false, g', .arr s' q'⟩⟩ r' g').1 = s' := by simp [rowV, List.getElem?_set_self rl']
  have e2 : (rowV ⟨n, t, ob.set r' ⟨.row e', false, g', .arr s' q'⟩⟩ r' g').2.1 = q' := by simp [rowV, List.getElem?_set_self rl']
  rw [e1, e2] at hv
  refine ⟨b, cs, h1, h2, ?_, h4, h5⟩
  simp only [RdV]
  rw [p1]
  refine p4 (fun _ _ h => h) _ _ ?_
  simp only [RdV]
  rw [t1]
  exact t4 (fun _ _ h => h) _ _ hv
theorem ev_frzBox2 (r j j2 r' : Nat) {g g' e' s' : Nat} {qb : Bool} {T : TypeId} {q q2 q' : List V} (hr : ob[r]? = some ⟨.box qb T, true, g, .agg q⟩) (hr' : ob[r']? = some ⟨.row e', true, g', .arr s' q'⟩) (hj : q[j]? = some (.agg q2)) (hj2 : q2[j2]? = some (.own r' g')) (h : Ev P cx N Q k ⟨n, t, (ob.set r' ⟨.row e', false, g', .arr s' q'⟩).set r ⟨.box qb T, true, g, .agg (q.set j (.agg (q2.set j2 (.sl true s' q'))))⟩⟩) : Ev P cx N Q k ⟨n, t, ob⟩ := by
  refine ⟨fun hn E a w R => ?_⟩
  obtain ⟨E', R'⟩ := R.frzBox2 hr hj hj2 hr'
  exact h.h hn E' a w R'
end
end Rdn.Dp
namespace Go.Proofs.YtkfpcgkmemfdaaaGreat
open Go Go.RowKit Rdn Rdn.Dp
set_option linter.unusedVariables false
set_option linter.unusedSimpArgs false
attribute [local go_sem] List.take_length
set_option maxHeartbeats 8000000 in
theorem rcopyO_fn (f : Files) (F : LowF f) : Fnc Tryz.prog 23 [filV f] (fun x obs => x = .agg [.sl false 1 (f.data.map (slV' false 4 canonV)), .own 0 0] ∧ obs = [⟨.row 47, true, 0, .arr 3 (f.opens.map opnV)⟩]) := by
  refine Fnc.low ?_
  have h1 := F.d
  have h2 := F.o
  refine zgo m_rcopy_ok fun W S => ?_
  refine ev_adoptB 3 0 22 1 rfl rfl (by decide) rfl ?_
  refine ev_loopK [2, 3, 11, 12] (fun p : {p : Nat // p ≤ f.data.length} => [(13, .int .i64 p.1)]) (fun p => [⟨.box false 34, true, 0, filV f⟩, ⟨.box false 34, true, 0, .agg [.nilS, .nilS]⟩, ⟨.row 47, true, 0, .arr 3 (f.opens.map opnV)⟩, ⟨.box false 34, true, 0, .agg [.own 4 p.1, .own 2 0]⟩, ⟨.row 22, true, p.1, .arr 1 ((f.data.take p.1).map (slV' true 4 canonV))⟩]) (fun p => f.data.length - p.1) (⟨0, by simp⟩) 5 (by simp only [go_sem]; rfl) ?_ (by first | rfl | (simp only [go_sem]; done)) (by simp) (by first | rfl | (simp only [go_sem]; done)) (by first | rfl | (simp only [go_sem]; done)) (by first | rfl | (simp only [go_sem]; done)) ?_
  · (simp only [go_sem]; (try simp []); done)
  intro J hJ
  rintro ⟨k, hk0⟩
  by_cases hlt : k < f.data.length
  · have hs := take_snoc hlt
    have hb := F.len _ (mem_at hlt)
    have hl2 : (f.data.take k).length = k := by rw [List.length_take]; omega
    refine zst ?_
    exact zn5 (hJ _ (⟨k + 1, hlt⟩) (by first | omega | (dsimp only; omega) | (simp; omega))) hs
  · obtain rfl : k = f.data.length := by omega
    refine zst ?_
    refine ret m_rcopy_ok [2] ?_; (first | (simp only [go_sem]; done) | (simp only [go_sem]; ((try dsimp only); (repeat' (refine And.intro ?_ ?_)) <;> first | with_reducible rfl | (simp only [go_sem]; done) | (simp only [go_sem]; rfl) | (simp only [go_sem, List.take_length, Option.map_none]; done) | (simp only [List.take_length, Option.map_none]; (try simp only [go_sem]); first | done | rfl) | (simp only [go_sem]; simp [List.take_length, Option.map_none]; done) | (simp [List.take_length, Option.map_none]; done) | rfl)))
set_option maxHeartbeats 8000000 in
theorem rocpI_fn (o : Rdn.Outside) (F : FitO o) : Fnc Tryz.prog 7 [outsV o] (fun x obs => x = .agg [owV o.clock, owV o.random, .own 0 0, filV o.files, .sl false 3 (o.outputs.map (outputV false))] ∧ obs = [⟨.row 29, true, 0, .arr 1 (o.inputs.map (slV' false 1 (V.int .u16)))⟩]) := by
  refine Fnc.low ?_
  have h1 := F.c
  have h2 := F.r
  have h3 := F.i
  have h4 := F.n
  have f1 := copyinG_fn o.inputs (by omega) (fun w hw => by have := F.w w hw; omega)
  have f2 := rcopy_fr o.files F.f.low
  have f3 := srcpy_fr o.outputs (by omega) F.short
  refine Fnc.intro m_rocpy_ok (by simp) fun W S => ?_
  simp only [ents, Nat.zero_add, Nat.reduceAdd, Qm, Qc, Ql, QL, Qf, Qs, Qb, Qk, QB, Qn, Qe, Qx, Qt, Qu, Q0, Q1, Qp, Qw, Qq, Qr, Qi]
  refine zso ?_
  refine ev_draw (fu := fu8) mixed [8] 1 rfl (by kernel_rfl) ?_; simp only [go_sem]
  repeat (first | refine And.intro (by omega) ?_ | refine And.intro rfl ?_ | refine ev_ctl rfl rfl ?_ | refine evr_nil ?_ | refine evw_nil (by kernel_rfl) ?_ | (simp (disch := omega) only [takeAll, Nat.min_eq_left, Nat.min_eq_right, if_pos, if_neg, getD_map, wrapI64, modIn, fdivE, tmodE, tdivE, decT, decF, beqT, beqF, bneT, bneF, Int.toNat_natCast]; try simp only [go_sem]) | (refine ev_condTb rfl ?_ ?_; · (simp <;> omega)) | (refine ev_condFb rfl ?_ ?_; · (simp <;> omega)) | ((first | refine ev_region ?_ | refine evr_go rfl ?_ | refine evw_gom [8] rfl ?_ | refine ev_dr0 mixed rfl (by kernel_rfl) ?_ | refine ev_dr1 mixed rfl (by kernel_rfl) ?_ | refine ev_dr2 mixed rfl (by kernel_rfl) ?_); simp only [go_sem]))
  refine zcx (f1) ?_
  refine zcd (f2) ?_
  refine zcd (f3) ?_
  refine ret m_rocpy_ok [2] ?_; exact zfn
set_option maxHeartbeats 8000000 in
theorem rocpF_fn (o : Rdn.Outside) (F : FitO o) : Fnc Tryz.prog 7 [outsV o] (fun x obs => x = .agg [owV o.clock, owV o.random, .sl false 1 (o.inputs.map (slV' false 1 (V.int .u16))), .agg [.sl false 1 (o.files.data.map (slV' false 4 canonV)), .own 0 0], .sl false 3 (o.outputs.map (outputV false))] ∧ obs = [⟨.row 47, true, 0, .arr 3 (o.files.opens.map opnV)⟩]) := by
  refine Fnc.low ?_
  have h1 := F.c
  have h2 := F.r
  have h3 := F.i
  have h4 := F.n
  have f1 := copyinG_fr o.inputs (by omega) (fun w hw => by have := F.w w hw; omega)
  have f2 := rcopyO_fn o.files F.f.low
  have f3 := srcpy_fr o.outputs (by omega) F.short
  refine Fnc.intro m_rocpy_ok (by simp) fun W S => ?_
  simp only [ents, Nat.zero_add, Nat.reduceAdd, Qm, Qc, Ql, QL, Qf, Qs, Qb, Qk, QB, Qn, Qe, Qx, Qt, Qu, Q0, Q1, Qp, Qw, Qq, Qr, Qi]
  refine zso ?_
  refine ev_draw (fu := fu8) mixed [11] 1 rfl (by kernel_rfl) ?_; simp only [go_sem]
  repeat (first | refine And.intro (by omega) ?_ | refine And.intro rfl ?_ | refine ev_ctl rfl rfl ?_ | refine evr_nil ?_ | refine evw_nil (by kernel_rfl) ?_ | (simp (disch := omega) only [takeAll, Nat.min_eq_left, Nat.min_eq_right, if_pos, if_neg, getD_map, wrapI64, modIn, fdivE, tmodE, tdivE, decT, decF, beqT, beqF, bneT, bneF, Int.toNat_natCast]; try simp only [go_sem]) | (refine ev_condTb rfl ?_ ?_; · (simp <;> omega)) | (refine ev_condFb rfl ?_ ?_; · (simp <;> omega)) | ((first | refine ev_region ?_ | refine evr_go rfl ?_ | refine evw_gom [11] rfl ?_ | refine ev_dr0 mixed rfl (by kernel_rfl) ?_ | refine ev_dr1 mixed rfl (by kernel_rfl) ?_ | refine ev_dr2 mixed rfl (by kernel_rfl) ?_); simp only [go_sem]))
  refine zcd (f1) ?_
  refine zcx (f2) ?_
  refine zcd (f3) ?_
  refine ret m_rocpy_ok [2] ?_; exact zfn
set_option maxHeartbeats 8000000 in
theorem rocpO_fn (o : Rdn.Outside) (F : FitO o) : Fnc Tryz.prog 7 [outsV o] (fun x obs => x = .agg [owV o.clock, owV o.random, .sl false 1 (o.inputs.map (slV' false 1 (V.int .u16))), filV o.files, .own 0 0] ∧ obs = [⟨.row 45, true, 0, .arr 3 (o.outputs.map (outputV false))⟩]) := by
  refine Fnc.low ?_
  have h1 := F.c
  have h2 := F.r
  have h3 := F.i
  have h4 := F.n
  have f1 := copyinG_fr o.inputs (by omega) (fun w hw => by have := F.w w hw; omega)
  have f2 := rcopy_fr o.files F.f.low
  have f3 := srcpy_fn o.outputs (by omega) F.short
  refine Fnc.intro m_rocpy_ok (by simp) fun W S => ?_
  simp only [ents, Nat.zero_add, Nat.reduceAdd, Qm, Qc, Ql, QL, Qf, Qs, Qb, Qk, QB, Qn, Qe, Qx, Qt, Qu, Q0, Q1, Qp, Qw, Qq, Qr, Qi]
  refine zso ?_
  refine ev_draw (fu := fu8) mixed [14] 1 rfl (by kernel_rfl) ?_; simp only [go_sem]
  repeat (first | refine And.intro (by omega) ?_ | refine And.intro rfl ?_ | refine ev_ctl rfl rfl ?_ | refine evr_nil ?_ | refine evw_nil (by kernel_rfl) ?_ | (simp (disch := omega) only [takeAll, Nat.min_eq_left, Nat.min_eq_right, if_pos, if_neg, getD_map, wrapI64, modIn, fdivE, tmodE, tdivE, decT, decF, beqT, beqF, bneT, bneF, Int.toNat_natCast]; try simp only [go_sem]) | (refine ev_condTb rfl ?_ ?_; · (simp <;> omega)) | (refine ev_condFb rfl ?_ ?_; · (simp <;> omega)) | ((first | refine ev_region ?_ | refine evr_go rfl ?_ | refine evw_gom [14] rfl ?_ | refine ev_dr0 mixed rfl (by kernel_rfl) ?_ | refine ev_dr1 mixed rfl (by kernel_rfl) ?_ | refine ev_dr2 mixed rfl (by kernel_rfl) ?_); simp only [go_sem]))
  refine zcd (f1) ?_
  refine zcd (f2) ?_
  refine zcx (f3) ?_
  refine ret m_rocpy_ok [2] ?_; exact zfn
end Go.Proofs.YtkfpcgkmemfdaaaGreat
