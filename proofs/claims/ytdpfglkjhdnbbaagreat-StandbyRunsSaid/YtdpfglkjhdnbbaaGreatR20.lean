/- Standby: Tear of the product. -/
import Derived.Test.YtdpfglkjhdnbbaaGreatR14
import Derived.Test.YtdpfglkjhdnbbaaGreatC5
import Derived.Test.YtdpfglkjhdnbbaaGreatFi
namespace Go.Proofs.YtdpfglkjhdnbbaaGreat
open Go Go.RowKit Rdn Rdn.Dp
set_option linter.unusedVariables false
set_option linter.unusedSimpArgs false
theorem m_dwn_ok : compF Tryz.prog 59 = some (24, .seq (.dreg [Qm 2 0, Qp 3 (.nilc (.t 2)), Qf 4 3 3 3, Ql 5 1 4, Qm 6 0, Qp 7 (.nilc (.t 6)), Qf 8 2 2 7, Ql 9 1 8, Qx 10 1 5 9, ⟨none, none, (.m (.store 1 (.t 10) (.c (.bool false))))⟩] [[], [0], [0, 1], [0, 1, 2], [], [4], [4, 5], [4, 5, 6], [0, 1, 2, 3, 4, 5, 6, 7], [0, 1, 2, 3, 4, 5, 6, 7, 8]])
 (.reg [Qm 11 0, Qm 12 0, Qm 13 0, Qm 14 0, Qw 15 (.build none [.int .i64 0, .int .i64 0, .int .i64 0, .nilS] []), Qp 16 (.nilc (.t 11)), Qf 17 2 2 16, ⟨none, none, (.m (.store 1 (.t 17) (Qi (-1))))⟩, Qp 18 (.nilc (.t 12)), Qf 19 1 1 18, ⟨none, none, (.m (.store 1 (.t 19) (Qi 0)))⟩, Qp 20 (.nilc (.t 13)), Qf 21 6 6 20, Qs 4 21 15, Qp 22 (.nilc (.t 14)), Qf 23 10 7 22, ⟨none, none, (.m (.store 1 (.t 23) (Qi 0)))⟩]), []) := by kernel_rfl
theorem m_ptear1_ok : compF Tryz.prog 57 = some (12, Qr ([Qp 3 (.mov (.c (.nilS)))])
 (Qr ([Ql 4 1 1, Qm 5 0, Ql 6 1 1, Qn 7 6, Qk 8 .sub 7 1, Qp 9 (.mn (.t 5) (.t 8)), Qp 10 (.mx (Qi 0) (.t 9)), Qw 11 (.sl 1 (.t 4) none (some (.t 10)) none), Qm 3 11])
 (.ret)), [.mov (.t 3)]) := by kernel_rfl
theorem m_ptear_ok : compF Tryz.prog 25 = some (73, Qr ([Qw 4 (.box 35 (.t 0)), Qw 5 (.box 42 (.t 1)), Qw 8 (.alloc 35 (.agg [.int .i64 0, .int .i64 0, .int .i64 0, .nilS, .nilS, .nilS, .agg [.int .i64 0, .int .i64 0, .int .i64 0, .nilS], .int .i64 0, .agg [.int .i64 0, .int .i64 0, .nilS]])), Qp 9 (.mov (Qi 0))])
 (Qr ([QL 17 14 4, Qq 18 38 [(.t 17)], Qw 10 (.alloc 35 (.agg [.int .i64 0, .int .i64 0, .int .i64 0, .nilS, .nilS, .nilS, .agg [.int .i64 0, .int .i64 0, .int .i64 0, .nilS], .int .i64 0, .agg [.int .i64 0, .int .i64 0, .nilS]])), Qs 14 10 18])
 (.seq (Qr ([QL 20 14 4, QL 21 4 5, Qq 22 37 [(.t 20), (.t 21)], Qm 19 22, Qe 23 19 0, Qe 24 19 1, Qw 11 (.alloc 35 (.agg [.int .i64 0, .int .i64 0, .int .i64 0, .nilS, .nilS, .nilS, .agg [.int .i64 0, .int .i64 0, .int .i64 0, .nilS], .int .i64 0, .agg [.int .i64 0, .int .i64 0, .nilS]])), Qs 14 11 23, Qm 12 24])
 (Qr ([Qm 25 12, Qk 26 .neq 25 0])
 (.cond (.t 26) (Qr ([QL 27 14 10, Qm 28 12, Qs 14 8 27, Qm 9 28])
 (.ret)) (.skip))))
 (Qr ([QL 30 4 5, Qq 31 56 [(.t 30)], Qm 29 31, Qe 32 29 0, Qe 33 29 1, Qw 13 (.alloc 40 (.nilS)), Qs 1 13 32, Qm 14 33])
 (Qr ([Qp 34 (.mkf 57 [(.t 13)]), Qm 15 34])
 (Qr ([Qf 35 2 2 4, Ql 36 1 35, Qm 16 36])
 (.seq (.dreg [Qf 37 5 5 10, Ql 38 1 37, Qm 39 16, Qf 40 5 5 10, Ql 41 1 40, Qm 42 16, Qx 43 1 41 42, Ql 44 1 43, Qm 45 15, Qm 46 2, ⟨(some 47), none, (.callv (.t 45) [(.t 46)])⟩, Qw 48 (.app 5 1 1 (.t 44) (.t 47)), Qx 49 1 38 39, Qs 1 49 48] [[], [0], [], [], [3], [], [3, 4, 5], [3, 4, 5, 6], [], [], [8, 9], [3, 4, 5, 6, 7, 8, 9, 10], [0, 1, 2, 3, 4, 5, 6, 7, 8, 9, 10, 11], [0, 1, 2, 3, 4, 5, 6, 7, 8, 9, 10, 11, 12]])
 (.seq (Qr ([Qf 50 3 3 4, Ql 51 1 50, Qm 52 16, Qp 53 (.bin 0 .sub (Qi 1) (.t 52)), Qx 54 1 51 53, Ql 55 1 54])
 (.cond (.t 55) (.dreg [Qf 56 5 5 10, Ql 57 1 56, Qm 58 16, Qp 59 (.bin 0 .sub (Qi 1) (.t 58)), Qf 60 5 5 10, Ql 61 1 60, Qm 62 16, Qp 63 (.bin 0 .sub (Qi 1) (.t 62)), Qx 64 1 61 63, Ql 65 1 64, Qm 66 15, Qm 67 3, ⟨(some 68), none, (.callv (.t 66) [(.t 67)])⟩, Qq 69 58 [(.t 65), (.t 68)], Qx 70 1 57 59, Qs 1 70 69] [[], [0], [], [2], [], [4], [], [6], [4, 5, 6, 7], [4, 5, 6, 7, 8], [], [], [10, 11], [4, 5, 6, 7, 8, 9, 10, 11, 12], [0, 1, 2, 3, 4, 5, 6, 7, 8, 9, 10, 11, 12, 13], [0, 1, 2, 3, 4, 5, 6, 7, 8, 9, 10, 11, 12, 13, 14]]) (.skip)))
 (Qr ([Qq 71 59 [(.t 10)]])
 (Qr ([QL 72 14 10, Qs 14 8 72, Qp 9 (.mov (Qi 0))])
 (.ret)))))))))), [.load true 14 (.t 8), .mov (.t 9)]) := by kernel_rfl
def cpJ (p : Pair) (j k : Nat) : List Ob := if j < k then [⟨.box false 35, true, 0, .agg [.int .i64 p.wait, .int .i64 p.silent, .int .i64 p.active, .own 2 1, .own 3 1, .own 4 1, .agg (gwL false p.gateway), .int .i64 p.epoch, .agg (mbL false p.mailbox)]⟩, ⟨.box false 35, true, 0, pr0V⟩, ⟨.row 4, true, 1, .arr 1 (p.up.map V.bool)⟩, ⟨.row 4, true, 1, .arr 1 (p.sync.map V.bool)⟩, ⟨.rows false 40, true, 1, .arr 1 ((cpJn p k).set j (.own 5 1))⟩, ⟨.row 5, true, 1, .arr 1 (u8s p.journals[j]!)⟩] else [⟨.box false 35, true, 0, .agg [.int .i64 p.wait, .int .i64 p.silent, .int .i64 p.active, .own 2 1, .own 3 1, .own 4 1, .agg (gwL false p.gateway), .int .i64 p.epoch, .agg (mbL false p.mailbox)]⟩, ⟨.box false 35, true, 0, pr0V⟩, ⟨.row 4, true, 1, .arr 1 (p.up.map V.bool)⟩, ⟨.row 4, true, 1, .arr 1 (p.sync.map V.bool)⟩, ⟨.rows false 40, true, 1, .arr 1 (cpJn p k)⟩]
theorem cpJ_lt {p : Pair} {j k : Nat} (h : j < k) : cpJ p j k = [⟨.box false 35, true, 0, .agg [.int .i64 p.wait, .int .i64 p.silent, .int .i64 p.active, .own 2 1, .own 3 1, .own 4 1, .agg (gwL false p.gateway), .int .i64 p.epoch, .agg (mbL false p.mailbox)]⟩, ⟨.box false 35, true, 0, pr0V⟩, ⟨.row 4, true, 1, .arr 1 (p.up.map V.bool)⟩, ⟨.row 4, true, 1, .arr 1 (p.sync.map V.bool)⟩, ⟨.rows false 40, true, 1, .arr 1 ((cpJn p k).set j (.own 5 1))⟩, ⟨.row 5, true, 1, .arr 1 (u8s p.journals[j]!)⟩] := if_pos h
theorem cpJ_ge {p : Pair} {j k : Nat} (h : ¬ j < k) : cpJ p j k = [⟨.box false 35, true, 0, .agg [.int .i64 p.wait, .int .i64 p.silent, .int .i64 p.active, .own 2 1, .own 3 1, .own 4 1, .agg (gwL false p.gateway), .int .i64 p.epoch, .agg (mbL false p.mailbox)]⟩, ⟨.box false 35, true, 0, pr0V⟩, ⟨.row 4, true, 1, .arr 1 (p.up.map V.bool)⟩, ⟨.row 4, true, 1, .arr 1 (p.sync.map V.bool)⟩, ⟨.rows false 40, true, 1, .arr 1 (cpJn p k)⟩] := if_neg h
theorem cpQ_len (p : Pair) {k j : Nat} {x : V} (h : k ≤ p.journals.length) : ((cpJn p k).set j x).length = p.journals.length := by rw [List.length_set]; exact cpJn_len p h
theorem cpQ_at (p : Pair) {k j : Nat} {x : V} (h : k < p.journals.length) (hj : j < k) : ((cpJn p k).set j x).getD k .junk = slV' false 1 (V.int .u8) p.journals[k]! := by
  rw [List.getD_eq_getElem?_getD, List.getElem?_set_ne (by omega), ← List.getD_eq_getElem?_getD]; exact cpJn_at p h
theorem cpQ_set (p : Pair) {k j : Nat} {x : V} (h : k < p.journals.length) (hj : j < k) : ((cpJn p k).set j x).set k (V.sl true 1 (List.map (V.int .u8) p.journals[k]!)) = (cpJn p (k + 1)).set j x := by
  rw [List.set_comm _ _ (by omega)]
  exact congrArg (·.set j x) (cpJn_set p h)
theorem cpQ_eq (p : Pair) {j : Nat} {x : V} (h : j < p.journals.length) : (cpJn p j).set j x = (cpJn p (j + 1)).set j x := by
  rw [← cpJn_set p h, List.set_set]
theorem cpJn_pures (p : Pair) (k : Nat) : V.pures (cpJn p k) = true := pures_app (pures_lo (slV' true 1 (V.int .u8)) _) (pures_lo (slV' false 1 (V.int .u8)) _)
theorem cpJn_scps (p : Pair) (n k : Nat) : V.scps n (cpJn p k) = true := V.scps_pure _ _ (cpJn_pures p k)
theorem cpQ_scps (p : Pair) (n k j r g : Nat) (h : r < n) : V.scps n ((cpJn p k).set j (.own r g)) = true := scps_set j (cpJn_scps p n k) (by simp only [V.scp, decide_eq_true_eq]; exact h)
attribute [local go_sem] cpJn_scps cpQ_scps
attribute [local irreducible] cpJn
set_option maxHeartbeats 16000000 in
theorem pcopJ_fn (p : Pair) (F : FitP p) (j : Nat) (hj : j < p.journals.length) : Fnc Tryz.prog 38 [prV false p] (fun x obs => x = .agg [.int .i64 p.wait, .int .i64 p.silent, .int .i64 p.active, .own 0 0, .own 1 0, .own 2 0, .agg (gwL true p.gateway), .int .i64 p.epoch, .agg (mbL true p.mailbox)] ∧ obs = [⟨.row 4, true, 0, .arr 1 (p.up.map V.bool)⟩, ⟨.row 4, true, 0, .arr 1 (p.sync.map V.bool)⟩, ⟨.rows false 40, true, 0, .arr 1 ((p.journals.map (slV' true 1 (V.int .u8))).set j (.own 3 0))⟩, ⟨.row 5, true, 0, .arr 1 (u8s p.journals[j]!)⟩]) := by
  have hjl := F.j
  have hz := cpJn_0 p
  have hz3 : cpJ p j 0 = _ := cpJ_ge (Nat.not_lt_zero j)
  refine Fnc.intro m_pcop_ok (by simp) fun W S => ?_
  simp only [ents, Nat.zero_add, Nat.reduceAdd, Qm, Qc, Ql, QL, Qf, Qs, Qb, Qk, QB, Qn, Qe, Qx, Qt, Qu, Q0, Q1, Qp, Qw, Qq, Qr, Qi]
  refine zso ?_
  refine ev_draw (fu := fu8) mixed [2, 5, 8] 3 rfl (by kernel_rfl) ?_; simp only [go_sem]
  repeat (first | refine And.intro (by omega) ?_ | refine And.intro rfl ?_ | refine ev_ctl rfl rfl ?_ | refine evr_nil ?_ | refine evw_nil (by kernel_rfl) ?_ | (simp (disch := omega) only [takeAll, Nat.min_eq_left, Nat.min_eq_right, if_pos, if_neg, getD_map, wrapI64, modIn, fdivE, tmodE, tdivE, decT, decF, beqT, beqF, bneT, bneF, Int.toNat_natCast]; try simp only [go_sem]) | (refine ev_condTb rfl ?_ ?_; · (simp <;> omega)) | (refine ev_condFb rfl ?_ ?_; · (simp <;> omega)) | ((first | refine ev_region ?_ | refine evr_go rfl ?_ | refine evw_gom [2, 5, 8] rfl ?_ | refine ev_dr0 mixed rfl (by kernel_rfl) ?_ | refine ev_dr1 mixed rfl (by kernel_rfl) ?_ | refine ev_dr2 mixed rfl (by kernel_rfl) ?_); simp only [go_sem]))
  refine zcx (clb_own p.up F.u) ?_
  refine zcx (clb_own p.sync F.s) ?_
  refine zcx (clj_own p.journals (by omega)) ?_
  refine ev_toRows 4 rfl ?_
  refine ev_loopK [1, 2, 18, 19] (fun q : {q : Nat // q ≤ p.journals.length} => [(20, .int .i64 q.1)]) (fun q => cpJ p j q.1) (fun q => p.journals.length - q.1) (⟨0, by simp⟩) 5 (by simp only [go_sem]; rfl) ?_ (by first | rfl | (simp only [go_sem]; done) | (simp only [go_sem]; simp [hz3, hz]; done)) (by simp) (by first | rfl | (simp only [go_sem]; done)) (by first | rfl | (simp only [go_sem]; done)) (by first | rfl | (simp only [go_sem]; done) | (simp only [hz3, hz]; (try simp only [go_sem]); first | done | rfl)) ?_
  · (simp only [go_sem]; (try simp [hz3, hz]); done)
  intro J hJ
  rintro ⟨k, hk0⟩
  dsimp only
  by_cases hlt : k < p.journals.length
  · have hb := F.b _ (mem_at hlt)
    rcases Nat.lt_trichotomy k j with c | c | c
    · rw [cpJ_ge (by omega)]
      have hl := cpJn_len p hk0
      have ha := cpJn_at p hlt
      have hs := cpJn_set p hlt
      have hc : cpJ p j (k + 1) = _ := cpJ_ge (by omega)
      repeat (first | (simp only [hl, ha]; try simp only [go_sem]) | refine And.intro (by omega) ?_ | refine And.intro rfl ?_ | refine ev_ctl rfl rfl ?_ | refine evr_nil ?_ | refine evw_nil (by kernel_rfl) ?_ | (simp (disch := omega) only [takeAll, Nat.min_eq_left, Nat.min_eq_right, if_pos, if_neg, getD_map, wrapI64, modIn, fdivE, tmodE, tdivE, decT, decF, beqT, beqF, bneT, bneF, Int.toNat_natCast]; try simp only [go_sem]) | (refine ev_condTb rfl ?_ ?_; · (simp <;> omega)) | (refine ev_condFb rfl ?_ ?_; · (simp <;> omega)) | ((first | refine ev_region ?_ | refine evr_go rfl ?_ | refine evw_go rfl ?_); simp only [go_sem]))
      refine zst ?_
      (first | refine callD (cly_fn p.journals[k]! (by omega)) ?_ | refine callDw (cly_fn p.journals[k]! (by omega)) ?_); refine zev ?_
      refine zsx (And.intro hl (ha)) ?_
      exact zn5 (hJ _ (⟨k + 1, hlt⟩) (by first | omega | (dsimp only; omega) | (simp; omega))) (And.intro hs (hc))
    · subst c
      rw [cpJ_ge (by omega)]
      have hl := cpJn_len p hk0
      have ha := cpJn_at p hlt
      have hs := cpQ_eq p (x := .own 5 1) hlt
      have hc : cpJ p k (k + 1) = _ := cpJ_lt (by omega)
      repeat (first | (simp only [hl, ha]; try simp only [go_sem]) | refine And.intro (by omega) ?_ | refine And.intro rfl ?_ | refine ev_ctl rfl rfl ?_ | refine evr_nil ?_ | refine evw_nil (by kernel_rfl) ?_ | (simp (disch := omega) only [takeAll, Nat.min_eq_left, Nat.min_eq_right, if_pos, if_neg, getD_map, wrapI64, modIn, fdivE, tmodE, tdivE, decT, decF, beqT, beqF, bneT, bneF, Int.toNat_natCast]; try simp only [go_sem]) | (refine ev_condTb rfl ?_ ?_; · (simp <;> omega)) | (refine ev_condFb rfl ?_ ?_; · (simp <;> omega)) | ((first | refine ev_region ?_ | refine evr_go rfl ?_ | refine evw_go rfl ?_); simp only [go_sem]))
      refine ev_draw (fu := fu8) mixed [4] 1 rfl (by kernel_rfl) ?_; simp only [go_sem]
      repeat (first | refine And.intro (by omega) ?_ | refine And.intro rfl ?_ | refine ev_ctl rfl rfl ?_ | refine evr_nil ?_ | refine evw_nil (by kernel_rfl) ?_ | (simp (disch := omega) only [takeAll, Nat.min_eq_left, Nat.min_eq_right, if_pos, if_neg, getD_map, wrapI64, modIn, fdivE, tmodE, tdivE, decT, decF, beqT, beqF, bneT, bneF, Int.toNat_natCast]; try simp only [go_sem]) | (refine ev_condTb rfl ?_ ?_; · (simp <;> omega)) | (refine ev_condFb rfl ?_ ?_; · (simp <;> omega)) | ((first | refine ev_region ?_ | refine evr_go rfl ?_ | refine evw_gom [4] rfl ?_ | refine ev_dr0 mixed rfl (by kernel_rfl) ?_ | refine ev_dr1 mixed rfl (by kernel_rfl) ?_ | refine ev_dr2 mixed rfl (by kernel_rfl) ?_); simp only [go_sem]))
      (first | refine callX (cly_own p.journals[k]! (by omega)) ?_ | refine callXw (cly_own p.journals[k]! (by omega)) ?_); refine zev ?_
      refine zsx (And.intro hl (ha)) ?_
      exact zn6 (hJ _ (⟨k + 1, hlt⟩) (by first | omega | (dsimp only; omega) | (simp; omega))) (And.intro hs (hc))
    · rw [cpJ_lt c]
      have hl := cpQ_len p (j := j) (x := .own 5 1) hk0
      have ha := cpQ_at p (x := .own 5 1) hlt c
      have hs := cpQ_set p (x := .own 5 1) hlt c
      have hc : cpJ p j (k + 1) = _ := cpJ_lt (by omega)
      repeat (first | (simp only [hl, ha]; try simp only [go_sem]) | refine And.intro (by omega) ?_ | refine And.intro rfl ?_ | refine ev_ctl rfl rfl ?_ | refine evr_nil ?_ | refine evw_nil (by kernel_rfl) ?_ | (simp (disch := omega) only [takeAll, Nat.min_eq_left, Nat.min_eq_right, if_pos, if_neg, getD_map, wrapI64, modIn, fdivE, tmodE, tdivE, decT, decF, beqT, beqF, bneT, bneF, Int.toNat_natCast]; try simp only [go_sem]) | (refine ev_condTb rfl ?_ ?_; · (simp <;> omega)) | (refine ev_condFb rfl ?_ ?_; · (simp <;> omega)) | ((first | refine ev_region ?_ | refine evr_go rfl ?_ | refine evw_go rfl ?_); simp only [go_sem]))
      refine zst ?_
      (first | refine callD (cly_fn p.journals[k]! (by omega)) ?_ | refine callDw (cly_fn p.journals[k]! (by omega)) ?_); refine zev ?_
      refine zsx (And.intro hl (ha)) ?_
      exact zn6 (hJ _ (⟨k + 1, hlt⟩) (by first | omega | (dsimp only; omega) | (simp; omega))) (And.intro hs (hc))
  · obtain rfl : k = p.journals.length := by omega
    rw [cpJ_lt hj]
    have hn := cpJn_n p
    rw [hn]
    refine zst ?_
    refine zcd (cgw_fn p.gateway F.g) ?_
    refine zcd (cmb_fn p.mailbox F.m) ?_
    refine retN m_pcop_ok [2, 3, 4, 5] ?_; simp only [go_sem]
    exact V.oksW_set (V.oksW_pure _ _ _ (pures_lo _ _)) _ (by simp only [go_sem])
def dnP (p : Pair) : Pair := { p with up := p.up.set p.active.toNat false, active := -1, silent := 0, gateway := g0, epoch := 0 }
theorem dn_sub (a b c x y z m : V) : SubV (.agg [a, b, c, x, y, z, .agg [.int .i64 0, .int .i64 0, .int .i64 0, .nilS], .int .i64 0, m]) (.agg [a, b, c, x, y, z, .agg (gwL false g0), .int .i64 0, m]) := SubV.agg ⟨SubV.refl _, SubV.refl _, SubV.refl _, SubV.refl _, SubV.refl _, SubV.refl _, gw_sub, SubV.refl _, SubV.refl _, trivial⟩
set_option maxHeartbeats 4000000 in
theorem dwn_fn (p : Pair) (h0 : 0 ≤ p.active) (h1 : p.active < p.up.length) (h2 : p.up.length = 2) : FncI Tryz.prog 59 [⟨.box true 35, true, 0, .agg [.int .i64 p.wait, .int .i64 p.silent, .int .i64 p.active, .own 1 0, .own 2 0, .own 3 0, .agg (gwL false p.gateway), .int .i64 p.epoch, .agg (mbL false p.mailbox)]⟩, ⟨.rows true 4, true, 0, .arr 1 (p.up.map V.bool)⟩, ⟨.rows true 4, true, 0, .arr 1 (p.sync.map V.bool)⟩, ⟨.rows true 40, true, 0, .arr 1 (p.journals.map (slV' false 1 (V.int .u8)))⟩] [.ptr 0 0 [] 0]
    (fun x ob => x = .tup [] ∧ ob = [⟨.box true 35, true, 0, .agg [.int .i64 p.wait, .int .i64 0, .int .i64 (-1), .own 1 0, .own 2 0, .own 3 0, .agg (gwL false g0), .int .i64 0, .agg (mbL false p.mailbox)]⟩, ⟨.rows true 4, true, 0, .arr 1 ((p.up.set p.active.toNat false).map V.bool)⟩, ⟨.rows true 4, true, 0, .arr 1 (p.sync.map V.bool)⟩, ⟨.rows true 40, true, 0, .arr 1 (p.journals.map (slV' false 1 (V.int .u8)))⟩]) := by
  refine FncI.intro m_dwn_ok (by simp) fun W lent S => ?_
  simp only [ents, Nat.zero_add, Nat.reduceAdd, Qm, Qc, Ql, QL, Qf, Qs, Qb, Qk, QB, Qn, Qe, Qx, Qt, Qu, Q0, Q1, Qp, Qw, Qq, Qr, Qi]
  refine zst ?_
  refine ev_obSub 0 _ rfl (dn_sub _ _ _ _ _ _ _) rfl ?_
  refine ev_endI 4 m_dwn_ok ?_; (first | (simp only [go_sem]; done) | (simp only [go_sem]; ((try dsimp only); (repeat' (refine And.intro ?_ ?_)) <;> first | with_reducible rfl | (simp only [go_sem]; done) | (simp only [go_sem]; rfl) | (simp only [go_sem, lows_set, set_bo]; done) | (simp only [lows_set, set_bo]; (try simp only [go_sem]); first | done | rfl) | (simp only [go_sem]; simp [lows_set, set_bo]; done) | (simp [lows_set, set_bo]; done) | rfl)))
def cutK (k : Int) (b : List Int) : List Int := b.take (max 0 (min k ((b.length : Int) - 1))).toNat
theorem cutK_len (k : Int) (b : List Int) : (cutK k b).length ≤ b.length := by unfold cutK; rw [List.length_take]; omega
theorem ptear1_fn (k : Int) (b : List Int) (hb : 1 < b.length) (hb' : b.length ≤ 1000000) : Fnc Tryz.prog 57 [.int .i64 k, .rp (.sl false 1 (u8s b))] (fun x obs => x = .sl false 1 (u8s (cutK k b)) ∧ obs = []) := by
  unfold cutK
  by_cases c1 : k ≤ 0
  · rw [show (max 0 (min k ((b.length : Int) - 1))).toNat = 0 by omega]
    refine zgo m_ptear1_ok fun W S => ?_
    exact zrt m_ptear1_ok
  by_cases c2 : k ≤ (b.length : Int) - 1
  · rw [show (max 0 (min k ((b.length : Int) - 1))).toNat = k.toNat by omega]
    have e1 : List.take k.toNat (List.map (V.int .u8) b) = u8s (b.take k.toNat) := by simp [u8s, List.map_take]
    rw [← e1]
    refine zgo m_ptear1_ok fun W S => ?_
    exact zrt m_ptear1_ok
  · rw [show (max 0 (min k ((b.length : Int) - 1))).toNat = b.length - 1 by omega]
    have e1 : List.take (b.length - 1) (List.map (V.int .u8) b) = u8s (b.take (b.length - 1)) := by simp [u8s, List.map_take]
    rw [← e1]
    refine zgo m_ptear1_ok fun W S => ?_
    exact zrt m_ptear1_ok
theorem wrE_0 {p : Pair} {n : Note} (h : wrE p n = 0) : chkP p = 0 ∧ 0 ≤ p.active ∧ n.kind ≠ 5 ∧ (sApp p.journals[p.active.toNat]! n).2 = 0 := by
  unfold wrE at h
  split at h
  · rename_i c; exact absurd h c
  · rename_i c1
    split at h
    · cases h
    · rename_i c2
      split at h
      · cases h
      · rename_i c3
        split at h
        · rename_i c4; exact absurd h c4
        · rename_i c4
          exact ⟨Classical.byContradiction c1, by omega, c3, Classical.byContradiction c4⟩
noncomputable def teP (p : Pair) (n : Note) (f s : Int) : Pair := dnP { p with
  journals := if p.up[(1 - p.active).toNat]! then (p.journals.set p.active.toNat (p.journals[p.active.toNat]! ++ cutK f (encB n))).set (1 - p.active).toNat (bhd p.journals[(1 - p.active).toNat]! (cutK s (encB n))) else p.journals.set p.active.toNat (p.journals[p.active.toNat]! ++ cutK f (encB n)) }
noncomputable def sTear (p : Pair) (n : Note) (f s : Int) : Pair × Int := if wrE p n ≠ 0 then (p, wrE p n) else (teP p n f s, 0)
attribute [local irreducible] sApp sRec sReb chkP wrE
set_option maxHeartbeats 16000000 in
theorem ptear_fn (p : Pair) (n : Note) (f s : Int) (F : FitP p) : Fnc Tryz.prog 25 [prV false p, .agg (noteL false n), .int .i64 f, .int .i64 s] (fun x obs => x = .tup [prV false (sTear p n f s).1, .int .i64 (sTear p n f s).2] ∧ obs = []) := by
  refine Fnc.low ?_
  have fw := pwr_fn p n F
  by_cases c1 : wrE p n = 0
  rotate_left
  · rw [show sTear p n f s = (p, wrE p n) from if_pos c1]
    rw [sWr_e rfl c1] at fw
    generalize wrE p n = z at fw c1
    refine zgo m_ptear_ok fun W S => ?_
    refine zcd (pcop_fr p F) ?_
    refine zcd (fw) ?_
    exact zrt m_ptear_ok
  rw [show sTear p n f s = (teP p n f s, 0) from if_neg (by simp [c1])]
  rw [sWr_0 c1] at fw
  generalize wrP p n = z at fw
  obtain ⟨k1, k2, k3, k4⟩ := wrE_0 c1
  obtain ⟨hb, hl, hk⟩ := sApp_0 k4
  obtain ⟨hn, ⟨h1, h2, h3, h4, h5⟩, hg, hw⟩ := chkP_ok k1
  have a1 : p.active ≤ 1 := hn.2.2.2.2.2.1
  have hja := two_le h3 h4 h5 (a := p.active.toNat) (by omega)
  have hjo := two_le h3 h4 h5 (a := (1 - p.active).toNat) (by omega)
  have fe := wenc_fn n
  rw [show sEnc n = (encB n, 0) from by unfold sEnc; rw [if_pos hk]] at fe
  have he1 : 1 < (encB n).length := by rw [encB_len]; omega
  have he2 : (encB n).length ≤ 300000 := by rw [encB_len]; omega
  have hc1 := cutK_len f (encB n)
  have hc2 := cutK_len s (encB n)
  have f1 := ptear1_fn f (encB n) he1 (by omega)
  have f2 := ptear1_fn s (encB n) he1 (by omega)
  have fh := beh_fn p.journals[(1 - p.active).toNat]! (cutK s (encB n)) (by omega)
  clear hb
  unfold teP
  generalize encB n = e at *
  generalize cutK f e = e1 at *
  generalize cutK s e = e2 at *
  have fs := pcopJ_fn p F p.active.toNat (by omega)
  have hlen : ∀ x, ((p.journals.map (slV' true 1 (V.int .u8))).set p.active.toNat x).length = p.journals.length := fun x => by rw [List.length_set, List.length_map]
  have hat : ∀ x, ((p.journals.map (slV' true 1 (V.int .u8))).set p.active.toNat x).getD p.active.toNat .junk = x := fun x => by
    rw [List.getD_eq_getElem?_getD, List.getElem?_set_self (by rw [List.length_map]; omega)]; rfl
  have hfin : ((p.journals.map (slV' true 1 (V.int .u8))).set p.active.toNat (.own 6 1)).set p.active.toNat (V.sl true 1 ((p.journals[p.active.toNat]! ++ e1).map (V.int .u8))) = (p.journals.set p.active.toNat (p.journals[p.active.toNat]! ++ e1)).map (slV' true 1 (V.int .u8)) := by rw [List.set_set, List.map_set]
  have hsz : (((p.journals.set p.active.toNat (p.journals[p.active.toNat]! ++ e1)).map (slV' true 1 (V.int .u8))).getD (1 - p.active).toNat .junk) = V.sl true 1 (u8s p.journals[(1 - p.active).toNat]!) := by
    have ho : (1 - p.active).toNat < p.journals.length := by omega
    rw [List.map_set, List.getD_eq_getElem?_getD, List.getElem?_set_ne (by omega), List.getElem?_map, List.getElem?_eq_getElem ho, List.getElem!_eq_getElem?_getD, List.getElem?_eq_getElem ho]
    rfl
  have hln : (p.journals.set p.active.toNat (p.journals[p.active.toNat]! ++ e1)).length = 2 := by rw [List.length_set, h3]
  have hsz2 : (((p.journals.set p.active.toNat (p.journals[p.active.toNat]! ++ e1)).map (slV' true 1 (V.int .u8))).getD (1 - p.active).toNat .junk).size = 1 := by rw [hsz]; rfl
  have hset : ∀ (x : List Int), ((p.journals.set p.active.toNat (p.journals[p.active.toNat]! ++ e1)).map (slV' true 1 (V.int .u8))).set (1 - p.active).toNat (V.sl true 1 (u8s x)) = ((p.journals.set p.active.toNat (p.journals[p.active.toNat]! ++ e1)).set (1 - p.active).toNat x).map (slV' true 1 (V.int .u8)) := fun x => set_low (slV' true 1 (V.int .u8)) _ _ x
  by_cases c5 : p.up[(1 - p.active).toNat]! = true
  · rw [if_pos c5]
    have fd := dwn_fn { p with journals := (p.journals.set p.active.toNat (p.journals[p.active.toNat]! ++ e1)).set (1 - p.active).toNat (bhd p.journals[(1 - p.active).toNat]! e2) } (by dsimp only; omega) (by dsimp only; omega) h1
    refine zgo m_ptear_ok fun W S => ?_
    refine zcx (fs) ?_
    refine zcd (fw) ?_
    (first | refine callD (fe) ?_ | refine callDw (fe) ?_); refine zev ?_
    refine zsu ?_
    refine ev_region ?_; simp only [go_sem]
    refine zsu ?_
    refine ev_region ?_; simp only [go_sem]
    refine zsu ?_
    refine ev_clo2 34 15 rfl rfl rfl rfl ?_
    refine zsx (And.intro hlen (hat)) ?_
    refine evw_g (gen_callV f1 (by kernel_rfl) rfl (by simp only [go_sem, List.all_cons, List.all_nil]) (by simp only [go_sem]) rfl) rfl ?_
    simp only [go_sem]
    refine evw_all (md := []) (fu := [(), (), ()]) ?_
    refine zev ?_
    repeat (first | (simp only [hlen, hat, List.set_set]; try simp only [go_sem]) | refine And.intro (by omega) ?_ | refine And.intro rfl ?_ | refine ev_ctl rfl rfl ?_ | refine evr_nil ?_ | refine evw_nil (by kernel_rfl) ?_ | (simp (disch := omega) only [takeAll, Nat.min_eq_left, Nat.min_eq_right, if_pos, if_neg, getD_map, wrapI64, modIn, fdivE, tmodE, tdivE, decT, decF, beqT, beqF, bneT, bneF, Int.toNat_natCast]; try simp only [go_sem]) | (refine ev_condTb rfl ?_ ?_; · (simp <;> omega)) | (refine ev_condFb rfl ?_ ?_; · (simp <;> omega)) | ((first | refine ev_region ?_ | refine evr_go rfl ?_ | refine evw_go rfl ?_ | refine ev_dr0 mixed rfl (by kernel_rfl) ?_ | refine ev_dr1 mixed rfl (by kernel_rfl) ?_ | refine ev_dr2 mixed rfl (by kernel_rfl) ?_); simp only [go_sem]))
    refine ev_frzIn 5 p.active.toNat 6 rfl rfl (by rw [List.getElem?_set_self (by rw [List.length_map]; omega)]) ?_
    simp only [go_sem]
    rw [hfin]
    refine ev_toRow 5 rfl (pures_lo _ _) ?_
    simp only [go_sem]
    refine zsx (And.intro c5 (And.intro hln (hsz))) ?_
    refine evw_g (gen_callV f2 (by kernel_rfl) rfl (by simp only [go_sem, List.all_cons, List.all_nil]) (by simp only [go_sem]) rfl) rfl ?_
    simp only [go_sem]
    refine evw_all (md := []) (fu := [(), (), ()]) ?_
    refine zev ?_
    (first | refine callD (fh) ?_ | refine callDw (fh) ?_); refine zev ?_
    refine zsx (And.intro hln (And.intro hsz2 (hset))) ?_
    refine callI 7 [3, 4, 5] (fd) ?_; refine zev ?_
    refine zst ?_
    refine ev_toRow 3 rfl (pures_lo _ _) ?_; simp only [go_sem]
    refine ev_toRow 4 rfl (pures_lo _ _) ?_; simp only [go_sem]
    refine ev_toRow 5 rfl (pures_lo _ _) ?_; simp only [go_sem]
    exact zrt m_ptear_ok
  · rw [if_neg c5]
    have c5 : p.up[(1 - p.active).toNat]! = false := by simpa using c5
    have fd := dwn_fn { p with journals := p.journals.set p.active.toNat (p.journals[p.active.toNat]! ++ e1) } (by dsimp only; omega) (by dsimp only; omega) h1
    refine zgo m_ptear_ok fun W S => ?_
    refine zcx (fs) ?_
    refine zcd (fw) ?_
    (first | refine callD (fe) ?_ | refine callDw (fe) ?_); refine zev ?_
    refine zsu ?_
    refine ev_region ?_; simp only [go_sem]
    refine zsu ?_
    refine ev_region ?_; simp only [go_sem]
    refine zsu ?_
    refine ev_clo2 34 15 rfl rfl rfl rfl ?_
    refine zsx (And.intro hlen (hat)) ?_
    refine evw_g (gen_callV f1 (by kernel_rfl) rfl (by simp only [go_sem, List.all_cons, List.all_nil]) (by simp only [go_sem]) rfl) rfl ?_
    simp only [go_sem]
    refine evw_all (md := []) (fu := [(), (), ()]) ?_
    refine zev ?_
    repeat (first | (simp only [hlen, hat, List.set_set]; try simp only [go_sem]) | refine And.intro (by omega) ?_ | refine And.intro rfl ?_ | refine ev_ctl rfl rfl ?_ | refine evr_nil ?_ | refine evw_nil (by kernel_rfl) ?_ | (simp (disch := omega) only [takeAll, Nat.min_eq_left, Nat.min_eq_right, if_pos, if_neg, getD_map, wrapI64, modIn, fdivE, tmodE, tdivE, decT, decF, beqT, beqF, bneT, bneF, Int.toNat_natCast]; try simp only [go_sem]) | (refine ev_condTb rfl ?_ ?_; · (simp <;> omega)) | (refine ev_condFb rfl ?_ ?_; · (simp <;> omega)) | ((first | refine ev_region ?_ | refine evr_go rfl ?_ | refine evw_go rfl ?_ | refine ev_dr0 mixed rfl (by kernel_rfl) ?_ | refine ev_dr1 mixed rfl (by kernel_rfl) ?_ | refine ev_dr2 mixed rfl (by kernel_rfl) ?_); simp only [go_sem]))
    refine ev_frzIn 5 p.active.toNat 6 rfl rfl (by rw [List.getElem?_set_self (by rw [List.length_map]; omega)]) ?_
    simp only [go_sem]
    rw [hfin]
    refine ev_toRow 5 rfl (pures_lo _ _) ?_
    simp only [go_sem]
    refine zsx c5 ?_
    refine callI 7 [3, 4, 5] (fd) ?_; refine zev ?_
    refine zst ?_
    refine ev_toRow 3 rfl (pures_lo _ _) ?_; simp only [go_sem]
    refine ev_toRow 4 rfl (pures_lo _ _) ?_; simp only [go_sem]
    refine ev_toRow 5 rfl (pures_lo _ _) ?_; simp only [go_sem]
    exact zrt m_ptear_ok
end Go.Proofs.YtdpfglkjhdnbbaaGreat
