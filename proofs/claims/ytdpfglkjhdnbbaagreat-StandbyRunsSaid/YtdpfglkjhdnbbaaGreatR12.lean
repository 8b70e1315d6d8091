/- Standby: pairs copied. -/
import Derived.Test.YtdpfglkjhdnbbaaGreatR11
import Derived.Test.YtdpfglkjhdnbbaaGreatC5
namespace Go.Proofs.YtdpfglkjhdnbbaaGreat
open Go Go.RowKit Rdn Rdn.Dp
set_option linter.unusedVariables false
set_option linter.unusedSimpArgs false
theorem m_clb_ok : compF Tryz.prog 74 = some (8, Qr ([Qp 2 (.mov (.c (.nilS)))])
 (.seq (Qr ([Qm 3 0, Qp 4 (.bin 2 .eql (.t 3) (.c (.nilS)))])
 (.cond (.t 4) (Qr ([Qp 2 (.mov (.c (.nilS)))])
 (.ret)) (.skip)))
 (Qr ([Qw 5 (.buildS 4 1 (.bool false) 0 []), Qm 6 0, Qw 7 (.app 4 1 1 (.t 5) (.t 6)), Qm 2 7])
 (.ret))), [.mov (.t 2)]) := by kernel_rfl
theorem m_clj_ok : compF Tryz.prog 75 = some (8, Qr ([Qp 2 (.mov (.c (.nilS)))])
 (.seq (Qr ([Qm 3 0, Qp 4 (.bin 2 .eql (.t 3) (.c (.nilS)))])
 (.cond (.t 4) (Qr ([Qp 2 (.mov (.c (.nilS)))])
 (.ret)) (.skip)))
 (Qr ([Qw 5 (.buildS 40 1 (.nilS) 0 []), Qm 6 0, Qw 7 (.app 40 1 24 (.t 5) (.t 6)), Qm 2 7])
 (.ret))), [.mov (.t 2)]) := by kernel_rfl
theorem m_cly_ok : compF Tryz.prog 76 = some (8, Qr ([Qp 2 (.mov (.c (.nilS)))])
 (.seq (Qr ([Qm 3 0, Qp 4 (.bin 2 .eql (.t 3) (.c (.nilS)))])
 (.cond (.t 4) (Qr ([Qp 2 (.mov (.c (.nilS)))])
 (.ret)) (.skip)))
 (Qr ([Qw 5 (.buildS 5 1 (.int .u8 0) 0 []), Qm 6 0, Qw 7 (.app 5 1 1 (.t 5) (.t 6)), Qm 2 7])
 (.ret))), [.mov (.t 2)]) := by kernel_rfl
theorem m_cgw_ok : compF Tryz.prog 77 = some (8, Qr ([Qw 1 (.box 31 (.t 0)), Qw 2 (.alloc 31 (.agg [.int .i64 0, .int .i64 0, .int .i64 0, .nilS]))])
 (Qr ([Qf 3 3 3 1, Ql 4 1 3, Qq 5 79 [(.t 4)], Qf 6 3 3 1, Qs 1 6 5])
 (Qr ([QL 7 4 1, Qs 4 2 7])
 (.ret))), [.load true 4 (.t 2)]) := by kernel_rfl
theorem m_cmb_ok : compF Tryz.prog 78 = some (8, Qr ([Qw 1 (.box 33 (.t 0)), Qw 2 (.alloc 33 (.agg [.int .i64 0, .int .i64 0, .nilS]))])
 (Qr ([Qf 3 2 2 1, Ql 4 1 3, Qq 5 79 [(.t 4)], Qf 6 2 2 1, Qs 1 6 5])
 (Qr ([QL 7 3 1, Qs 3 2 7])
 (.ret))), [.load true 3 (.t 2)]) := by kernel_rfl
theorem m_pcop_ok : compF Tryz.prog 38 = some (41, Qr ([Qw 1 (.box 35 (.t 0)), Qw 2 (.alloc 35 (.agg [.int .i64 0, .int .i64 0, .int .i64 0, .nilS, .nilS, .nilS, .agg [.int .i64 0, .int .i64 0, .int .i64 0, .nilS], .int .i64 0, .agg [.int .i64 0, .int .i64 0, .nilS]]))])
 (.seq (.dreg [Qf 5 3 3 1, Ql 6 1 5, Qq 7 74 [(.t 6)], Qf 8 4 4 1, Ql 9 1 8, Qq 10 74 [(.t 9)], Qf 11 5 5 1, Ql 12 1 11, Qq 13 75 [(.t 12)], Qf 14 3 3 1, Qs 1 14 7, Qf 15 4 4 1, Qs 1 15 10, Qf 16 5 5 1, Qs 1 16 13] [[], [0], [0, 1], [], [3], [0, 1, 2, 3, 4], [], [6], [0, 1, 2, 3, 4, 5, 6, 7], [0, 1, 2, 3, 4, 6, 7], [0, 1, 2, 3, 4, 5, 6, 7, 8, 9], [0, 1, 2, 3, 4, 5, 6, 7, 8, 9, 10], [0, 1, 2, 3, 4, 5, 6, 7, 8, 9, 10, 11], [0, 1, 2, 3, 4, 5, 6, 7, 8, 9, 10, 11, 12], [0, 1, 2, 3, 4, 5, 6, 7, 8, 9, 10, 11, 12, 13]])
 (.seq (Qr ([Qf 17 5 5 1, Ql 18 1 17, Qn 19 18, Qp 20 (.mov (Qi 0))])
 (.block 0 (.loop (Qr ([Qb 21 .lss 20 19])
 (.seq (.cond (.t 21) (.skip) (.exit 0))
 (.seq (.block 1 (Qr ([Qm 22 20, Qx 23 1 18 20, Ql 24 1 23, Qm 3 22, Qm 4 24])
 (.dreg [Qf 25 5 5 1, Ql 26 1 25, Qm 27 3, Qm 28 4, Qq 29 76 [(.t 28)], Qx 30 1 26 27, Qs 1 30 29] [[], [0], [], [], [3], [0, 1, 2, 3, 4], [0, 1, 2, 3, 4, 5]])))
 (.reg [Qk 31 .add 20 1, Qm 20 31])))))))
 (.seq (.dreg [Qf 32 6 6 1, QL 33 4 32, Qq 34 77 [(.t 33)], Qf 35 11 8 1, QL 36 3 35, Qq 37 78 [(.t 36)], Qf 38 6 6 1, Qs 4 38 34, Qf 39 11 8 1, Qs 3 39 37] [[], [0], [0, 1], [], [3], [0, 1, 2, 3, 4], [0, 1, 2, 3, 4], [0, 1, 2, 3, 4, 5, 6], [0, 1, 2, 3, 4, 5, 6, 7], [0, 1, 2, 3, 4, 5, 6, 7, 8]])
 (Qr ([QL 40 14 1, Qs 14 2 40])
 (.ret))))), [.load true 14 (.t 2)]) := by kernel_rfl
set_option maxHeartbeats 4000000 in
theorem clb_own (l : List Bool) (hb : l.length ≤ 140737488351232) : Fnc Tryz.prog 74 [.sl false 1 (l.map V.bool)] (fun x obs => x = .own 0 0 ∧ obs = [⟨.row 4, true, 0, .arr 1 (l.map V.bool)⟩]) := by
  refine Fnc.intro m_clb_ok (by simp) fun W S => ?_
  simp only [ents, Nat.zero_add, Nat.reduceAdd, Qm, Qc, Ql, QL, Qf, Qs, Qb, Qk, QB, Qn, Qe, Qx, Qt, Qu, Q0, Q1, Qp, Qw, Qq, Qr, Qi]
  refine zsu ?_
  refine zs1 ?_
  refine zsu ?_
  refine ev_reg ?_
  refine evr_p rfl trivial ?_
  refine evr_nilq rfl rfl fun b hb0 => ?_
  cases b with
  | false =>
    simp only [aopP, X.ev, slotV, AS.put, if_true]
    refine zst ?_
    refine ret m_clb_ok [0] ?_; exact zfn
  | true =>
    have hl : l = [] := by
      cases l with
      | nil => rfl
      | cons a l => exact absurd (hb0 (by simp)) (by simp)
    subst hl
    simp only [aopP, X.ev, slotV, AS.put, if_true]
    refine zsu ?_
    refine zs1 ?_
    refine zsu ?_
    refine ev_adopt (i := 2) (e := 4) (s := 1) rfl (by decide) ?_
    refine ret m_clb_ok [0] ?_; exact zfn
set_option maxHeartbeats 4000000 in
theorem clj_own (l : List (List Int)) (hb : l.length ≤ 5864062014634) : Fnc Tryz.prog 75 [.sl false 1 (l.map (slV' false 1 (V.int .u8)))] (fun x obs => x = .own 0 0 ∧ obs = [⟨.row 40, true, 0, .arr 1 (l.map (slV' false 1 (V.int .u8)))⟩]) := by
  refine Fnc.intro m_clj_ok (by simp) fun W S => ?_
  simp only [ents, Nat.zero_add, Nat.reduceAdd, Qm, Qc, Ql, QL, Qf, Qs, Qb, Qk, QB, Qn, Qe, Qx, Qt, Qu, Q0, Q1, Qp, Qw, Qq, Qr, Qi]
  refine zsu ?_
  refine zs1 ?_
  refine zsu ?_
  refine ev_reg ?_
  refine evr_p rfl trivial ?_
  refine evr_nilq rfl rfl fun b hb0 => ?_
  cases b with
  | false =>
    simp only [aopP, X.ev, slotV, AS.put, if_true]
    refine zst ?_
    refine ret m_clj_ok [0] ?_; exact zfn
  | true =>
    have hl : l = [] := by
      cases l with
      | nil => rfl
      | cons a l => exact absurd (hb0 (by simp)) (by simp)
    subst hl
    simp only [aopP, X.ev, slotV, AS.put, if_true]
    refine zsu ?_
    refine zs1 ?_
    refine zsu ?_
    refine ev_adopt (i := 2) (e := 40) (s := 1) rfl (by decide) ?_
    refine ret m_clj_ok [0] ?_; exact zfn
set_option maxHeartbeats 4000000 in
theorem cly_fn (l : List Int) (hb : l.length ≤ 140737488351232) : Fnc Tryz.prog 76 [.sl false 1 (l.map (V.int .u8))] (fun x obs => x = .sl true 1 (l.map (V.int .u8)) ∧ obs = []) := by
  refine Fnc.intro m_cly_ok (by simp) fun W S => ?_
  simp only [ents, Nat.zero_add, Nat.reduceAdd, Qm, Qc, Ql, QL, Qf, Qs, Qb, Qk, QB, Qn, Qe, Qx, Qt, Qu, Q0, Q1, Qp, Qw, Qq, Qr, Qi]
  refine zsu ?_
  refine zs1 ?_
  refine zsu ?_
  refine ev_reg ?_
  refine evr_p rfl trivial ?_
  refine evr_nilq rfl rfl fun b hb0 => ?_
  cases b with
  | false =>
    simp only [aopP, X.ev, slotV, AS.put, if_true]
    refine zst ?_
    exact zrt m_cly_ok
  | true =>
    have hl : l = [] := by
      cases l with
      | nil => rfl
      | cons a l => exact absurd (hb0 (by simp)) (by simp)
    subst hl
    simp only [aopP, X.ev, slotV, AS.put, if_true]
    refine zsu ?_
    refine zs1 ?_
    refine zsu ?_
    refine ev_nil2 2 true 1 rfl ?_
    exact zrt m_cly_ok
set_option maxHeartbeats 4000000 in
theorem cly_own (l : List Int) (hb : l.length ≤ 140737488351232) : Fnc Tryz.prog 76 [.sl false 1 (l.map (V.int .u8))] (fun x obs => x = .own 0 0 ∧ obs = [⟨.row 5, true, 0, .arr 1 (l.map (V.int .u8))⟩]) := by
  refine Fnc.intro m_cly_ok (by simp) fun W S => ?_
  simp only [ents, Nat.zero_add, Nat.reduceAdd, Qm, Qc, Ql, QL, Qf, Qs, Qb, Qk, QB, Qn, Qe, Qx, Qt, Qu, Q0, Q1, Qp, Qw, Qq, Qr, Qi]
  refine zsu ?_
  refine zs1 ?_
  refine zsu ?_
  refine ev_reg ?_
  refine evr_p rfl trivial ?_
  refine evr_nilq rfl rfl fun b hb0 => ?_
  cases b with
  | false =>
    simp only [aopP, X.ev, slotV, AS.put, if_true]
    refine zst ?_
    refine ret m_cly_ok [0] ?_; exact zfn
  | true =>
    have hl : l = [] := by
      cases l with
      | nil => rfl
      | cons a l => exact absurd (hb0 (by simp)) (by simp)
    subst hl
    simp only [aopP, X.ev, slotV, AS.put, if_true]
    refine zsu ?_
    refine zs1 ?_
    refine zsu ?_
    refine ev_adopt (i := 2) (e := 5) (s := 1) rfl (by decide) ?_
    refine ret m_cly_ok [0] ?_; exact zfn
structure FitP (p : Pair) : Prop where
  u : p.up.length ≤ 140737488351232
  s : p.sync.length ≤ 140737488351232
  j : p.journals.length ≤ 5864062014634
  b : ∀ x ∈ p.journals, x.length ≤ 140737488351232
  g : fitG p.gateway
  m : fitO p.mailbox.taken
set_option maxHeartbeats 4000000 in
theorem cgw_fn (g : Gateway) (h : fitG g) : Fnc Tryz.prog 77 [.agg (gwL false g)] (fun x obs => x = .agg (gwL true g) ∧ obs = []) := by
  refine zgo m_cgw_ok fun W S => ?_
  refine zcx (wouts_fn g.held h.1 h.2) ?_
  exact zrt m_cgw_ok
set_option maxHeartbeats 4000000 in
theorem cmb_fn (g : Mailbox) (h : fitO g.taken) : Fnc Tryz.prog 78 [.agg (mbL false g)] (fun x obs => x = .agg (mbL true g) ∧ obs = []) := by
  refine zgo m_cmb_ok fun W S => ?_
  refine zcx (wouts_fn g.taken h.1 h.2) ?_
  exact zrt m_cmb_ok
def cpJn (p : Pair) (k : Nat) : List V := (p.journals.take k).map (slV' true 1 (V.int .u8)) ++ (p.journals.drop k).map (slV' false 1 (V.int .u8))
theorem cp_set {α : Type} [Inhabited α] {f g : α → V} (l : List α) {k : Nat} (h : k < l.length) : ((l.take k).map f ++ (l.drop k).map g).set k (f l[k]!) = (l.take (k + 1)).map f ++ (l.drop (k + 1)).map g := by
  have h1 : ((l.take k).map f).length = k := by simp; omega
  rw [List.set_append_right _ _ (by omega), take_snoc h, List.map_append, List.append_assoc, h1, Nat.sub_self, List.drop_eq_getElem_cons h, List.map_cons, List.set_cons_zero]
  rfl
theorem cpJn_len (p : Pair) {k : Nat} (h : k ≤ p.journals.length) : (cpJn p k).length = p.journals.length := by unfold cpJn; simp; omega
theorem cpJn_at (p : Pair) {k : Nat} (h : k < p.journals.length) : (cpJn p k).getD k .junk = slV' false 1 (V.int .u8) p.journals[k]! := by
  unfold cpJn
  have h1 : ((p.journals.take k).map (slV' true 1 (V.int .u8))).length = k := by simp; omega
  rw [List.getD_eq_getElem?_getD, List.getElem?_append_right (Nat.le_of_eq h1), h1, Nat.sub_self, List.drop_eq_getElem_cons h, List.map_cons, List.getElem?_cons_zero, getElem!_pos p.journals k h]
  rfl
theorem cpJn_set (p : Pair) {k : Nat} (h : k < p.journals.length) : (cpJn p k).set k (V.sl true 1 (List.map (V.int .u8) p.journals[k]!)) = cpJn p (k + 1) := cp_set _ h
theorem cpJn_0 (p : Pair) : cpJn p 0 = p.journals.map (slV' false 1 (V.int .u8)) := by simp [cpJn]
theorem cpJn_n (p : Pair) : cpJn p p.journals.length = p.journals.map (slV' true 1 (V.int .u8)) := by simp [cpJn]
attribute [local irreducible] cpJn
set_option maxHeartbeats 16000000 in
theorem pcop_fn (p : Pair) (F : FitP p) : Fnc Tryz.prog 38 [prV false p] (fun x obs => x = .agg [.int .i64 p.wait, .int .i64 p.silent, .int .i64 p.active, .own 0 0, .own 1 0, .own 2 0, .agg (gwL true p.gateway), .int .i64 p.epoch, .agg (mbL true p.mailbox)] ∧ obs = [⟨.row 4, true, 0, .arr 1 (p.up.map V.bool)⟩, ⟨.row 4, true, 0, .arr 1 (p.sync.map V.bool)⟩, ⟨.row 40, true, 0, .arr 1 (p.journals.map (slV' true 1 (V.int .u8)))⟩]) := by
  have hj := F.j
  have hz := cpJn_0 p
  refine Fnc.intro m_pcop_ok (by simp) fun W S => ?_
  simp only [ents, Nat.zero_add, Nat.reduceAdd, Qm, Qc, Ql, QL, Qf, Qs, Qb, Qk, QB, Qn, Qe, Qx, Qt, Qu, Q0, Q1, Qp, Qw, Qq, Qr, Qi]
  refine zso ?_
  refine ev_draw (fu := fu8) mixed [2, 5, 8] 3 rfl (by kernel_rfl) ?_; simp only [go_sem]
  repeat (first | refine And.intro (by omega) ?_ | refine And.intro rfl ?_ | refine ev_ctl rfl rfl ?_ | refine evr_nil ?_ | refine evw_nil (by kernel_rfl) ?_ | (simp (disch := omega) only [takeAll, Nat.min_eq_left, Nat.min_eq_right, if_pos, if_neg, getD_map, wrapI64, modIn, fdivE, tmodE, tdivE, decT, decF, beqT, beqF, bneT, bneF, Int.toNat_natCast]; try simp only [go_sem]) | (refine ev_condTb rfl ?_ ?_; · (simp <;> omega)) | (refine ev_condFb rfl ?_ ?_; · (simp <;> omega)) | ((first | refine ev_region ?_ | refine evr_go rfl ?_ | refine evw_gom [2, 5, 8] rfl ?_ | refine ev_dr0 mixed rfl (by kernel_rfl) ?_ | refine ev_dr1 mixed rfl (by kernel_rfl) ?_ | refine ev_dr2 mixed rfl (by kernel_rfl) ?_); simp only [go_sem]))
  refine zcx (clb_own p.up F.u) ?_
  refine zcx (clb_own p.sync F.s) ?_
  refine zcx (clj_own p.journals (by omega)) ?_
  refine ev_loopK [1, 2, 18, 19] (fun q : {q : Nat // q ≤ p.journals.length} => [(20, .int .i64 q.1)]) (fun q => [⟨.box false 35, true, 0, .agg [.int .i64 p.wait, .int .i64 p.silent, .int .i64 p.active, .own 2 1, .own 3 1, .own 4 1, .agg (gwL false p.gateway), .int .i64 p.epoch, .agg (mbL false p.mailbox)]⟩, ⟨.box false 35, true, 0, pr0V⟩, ⟨.row 4, true, 1, .arr 1 (p.up.map V.bool)⟩, ⟨.row 4, true, 1, .arr 1 (p.sync.map V.bool)⟩, ⟨.row 40, true, 1, .arr 1 (cpJn p q.1)⟩]) (fun q => p.journals.length - q.1) (⟨0, by simp⟩) 5 (by simp only [go_sem]; rfl) ?_ (by first | rfl | (simp only [go_sem]; done) | (simp only [go_sem]; simp [hz]; done)) (by simp) (by first | rfl | (simp only [go_sem]; done)) (by first | rfl | (simp only [go_sem]; done)) (by first | rfl | (simp only [go_sem]; done) | (simp only [hz]; (try simp only [go_sem]); first | done | rfl)) ?_
  · (simp only [go_sem]; (try simp [hz]); done)
  intro J hJ
  rintro ⟨k, hk0⟩
  by_cases hlt : k < p.journals.length
  · have hb := F.b _ (mem_at hlt)
    have hl := cpJn_len p hk0
    have ha := cpJn_at p hlt
    have hs := cpJn_set p hlt
    repeat (first | (simp only [hl, ha]; try simp only [go_sem]) | refine And.intro (by omega) ?_ | refine And.intro rfl ?_ | refine ev_ctl rfl rfl ?_ | refine evr_nil ?_ | refine evw_nil (by kernel_rfl) ?_ | (simp (disch := omega) only [takeAll, Nat.min_eq_left, Nat.min_eq_right, if_pos, if_neg, getD_map, wrapI64, modIn, fdivE, tmodE, tdivE, decT, decF, beqT, beqF, bneT, bneF, Int.toNat_natCast]; try simp only [go_sem]) | (refine ev_condTb rfl ?_ ?_; · (simp <;> omega)) | (refine ev_condFb rfl ?_ ?_; · (simp <;> omega)) | ((first | refine ev_region ?_ | refine evr_go rfl ?_ | refine evw_go rfl ?_); simp only [go_sem]))
    refine zst ?_
    (first | refine callD (cly_fn p.journals[k]! (by omega)) ?_ | refine callDw (cly_fn p.journals[k]! (by omega)) ?_); refine zev ?_
    refine zsx (And.intro hl (ha)) ?_
    exact zn5 (hJ _ (⟨k + 1, hlt⟩) (by first | omega | (dsimp only; omega) | (simp; omega))) hs
  · obtain rfl : k = p.journals.length := by omega
    have hn := cpJn_n p
    dsimp only
    rw [hn]
    refine zst ?_
    refine zcd (cgw_fn p.gateway F.g) ?_
    refine zcd (cmb_fn p.mailbox F.m) ?_
    refine retN m_pcop_ok [2, 3, 4] ?_; simp only [go_sem]
set_option maxHeartbeats 16000000 in
theorem pcop_fr (p : Pair) (F : FitP p) : Fnc Tryz.prog 38 [prV false p] (fun x obs => x = prV true p ∧ obs = []) := by
  have hj := F.j
  have hz := cpJn_0 p
  refine Fnc.intro m_pcop_ok (by simp) fun W S => ?_
  simp only [ents, Nat.zero_add, Nat.reduceAdd, Qm, Qc, Ql, QL, Qf, Qs, Qb, Qk, QB, Qn, Qe, Qx, Qt, Qu, Q0, Q1, Qp, Qw, Qq, Qr, Qi]
  refine zso ?_
  refine ev_draw (fu := fu8) mixed [2, 5, 8] 3 rfl (by kernel_rfl) ?_; simp only [go_sem]
  repeat (first | refine And.intro (by omega) ?_ | refine And.intro rfl ?_ | refine ev_ctl rfl rfl ?_ | refine evr_nil ?_ | refine evw_nil (by kernel_rfl) ?_ | (simp (disch := omega) only [takeAll, Nat.min_eq_left, Nat.min_eq_right, if_pos, if_neg, getD_map, wrapI64, modIn, fdivE, tmodE, tdivE, decT, decF, beqT, beqF, bneT, bneF, Int.toNat_natCast]; try simp only [go_sem]) | (refine ev_condTb rfl ?_ ?_; · (simp <;> omega)) | (refine ev_condFb rfl ?_ ?_; · (simp <;> omega)) | ((first | refine ev_region ?_ | refine evr_go rfl ?_ | refine evw_gom [2, 5, 8] rfl ?_ | refine ev_dr0 mixed rfl (by kernel_rfl) ?_ | refine ev_dr1 mixed rfl (by kernel_rfl) ?_ | refine ev_dr2 mixed rfl (by kernel_rfl) ?_); simp only [go_sem]))
  refine zcx (clb_own p.up F.u) ?_
  refine zcx (clb_own p.sync F.s) ?_
  refine zcx (clj_own p.journals (by omega)) ?_
  refine ev_loopK [1, 2, 18, 19] (fun q : {q : Nat // q ≤ p.journals.length} => [(20, .int .i64 q.1)]) (fun q => [⟨.box false 35, true, 0, .agg [.int .i64 p.wait, .int .i64 p.silent, .int .i64 p.active, .own 2 1, .own 3 1, .own 4 1, .agg (gwL false p.gateway), .int .i64 p.epoch, .agg (mbL false p.mailbox)]⟩, ⟨.box false 35, true, 0, pr0V⟩, ⟨.row 4, true, 1, .arr 1 (p.up.map V.bool)⟩, ⟨.row 4, true, 1, .arr 1 (p.sync.map V.bool)⟩, ⟨.row 40, true, 1, .arr 1 (cpJn p q.1)⟩]) (fun q => p.journals.length - q.1) (⟨0, by simp⟩) 5 (by simp only [go_sem]; rfl) ?_ (by first | rfl | (simp only [go_sem]; done) | (simp only [go_sem]; simp [hz]; done)) (by simp) (by first | rfl | (simp only [go_sem]; done)) (by first | rfl | (simp only [go_sem]; done)) (by first | rfl | (simp only [go_sem]; done) | (simp only [hz]; (try simp only [go_sem]); first | done | rfl)) ?_
  · (simp only [go_sem]; (try simp [hz]); done)
  intro J hJ
  rintro ⟨k, hk0⟩
  by_cases hlt : k < p.journals.length
  · have hb := F.b _ (mem_at hlt)
    have hl := cpJn_len p hk0
    have ha := cpJn_at p hlt
    have hs := cpJn_set p hlt
    repeat (first | (simp only [hl, ha]; try simp only [go_sem]) | refine And.intro (by omega) ?_ | refine And.intro rfl ?_ | refine ev_ctl rfl rfl ?_ | refine evr_nil ?_ | refine evw_nil (by kernel_rfl) ?_ | (simp (disch := omega) only [takeAll, Nat.min_eq_left, Nat.min_eq_right, if_pos, if_neg, getD_map, wrapI64, modIn, fdivE, tmodE, tdivE, decT, decF, beqT, beqF, bneT, bneF, Int.toNat_natCast]; try simp only [go_sem]) | (refine ev_condTb rfl ?_ ?_; · (simp <;> omega)) | (refine ev_condFb rfl ?_ ?_; · (simp <;> omega)) | ((first | refine ev_region ?_ | refine evr_go rfl ?_ | refine evw_go rfl ?_); simp only [go_sem]))
    refine zst ?_
    (first | refine callD (cly_fn p.journals[k]! (by omega)) ?_ | refine callDw (cly_fn p.journals[k]! (by omega)) ?_); refine zev ?_
    refine zsx (And.intro hl (ha)) ?_
    exact zn5 (hJ _ (⟨k + 1, hlt⟩) (by first | omega | (dsimp only; omega) | (simp; omega))) hs
  · obtain rfl : k = p.journals.length := by omega
    have hn := cpJn_n p
    dsimp only
    rw [hn]
    refine zst ?_
    refine zcd (cgw_fn p.gateway F.g) ?_
    refine zcd (cmb_fn p.mailbox F.m) ?_
    exact zrt m_pcop_ok
end Go.Proofs.YtdpfglkjhdnbbaaGreat
