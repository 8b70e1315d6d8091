/- Standby: Tear of the reference. -/
import Derived.Test.YtdpfglkjhdnbbaaGreatR20
import Derived.Test.YtdpfglkjhdnbbaaGreatC5
namespace Go.Proofs.YtdpfglkjhdnbbaaGreat
open Go Go.RowKit Rdn Rdn.Dp
set_option linter.unusedVariables false
set_option linter.unusedSimpArgs false
theorem m_rdwn_ok : compF Tryz.prog 60 = some (9, Qr ([Qw 1 (.box 35 (.t 0)), Qw 2 (.alloc 35 (.agg [.int .i64 0, .int .i64 0, .int .i64 0, .nilS, .nilS, .nilS, .agg [.int .i64 0, .int .i64 0, .int .i64 0, .nilS], .int .i64 0, .agg [.int .i64 0, .int .i64 0, .nilS]]))])
 (Qr ([Qw 3 (.build none [.int .i64 0, .int .i64 0, .int .i64 0, .nilS] []), Qf 4 2 2 1, ⟨none, none, (.m (.store 1 (.t 4) (Qi (-1))))⟩, Qf 5 1 1 1, ⟨none, none, (.m (.store 1 (.t 5) (Qi 0)))⟩, Qf 6 6 6 1, Qs 4 6 3, Qf 7 10 7 1, ⟨none, none, (.m (.store 1 (.t 7) (Qi 0)))⟩])
 (Qr ([QL 8 14 1, Qs 14 2 8])
 (.ret))), [.load true 14 (.t 2)]) := by kernel_rfl
theorem m_rtear_ok : compF Tryz.prog 26 = some (91, Qr ([Qw 4 (.box 35 (.t 0)), Qw 5 (.box 42 (.t 1)), Qw 8 (.alloc 35 (.agg [.int .i64 0, .int .i64 0, .int .i64 0, .nilS, .nilS, .nilS, .agg [.int .i64 0, .int .i64 0, .int .i64 0, .nilS], .int .i64 0, .agg [.int .i64 0, .int .i64 0, .nilS]])), Qp 9 (.mov (Qi 0))])
 (.seq (Qr ([QL 18 14 4, QL 19 4 5, Qq 20 22 [(.t 18), (.t 19)], Qm 17 20, Qe 21 17 0, Qe 22 17 1, Qw 10 (.alloc 35 (.agg [.int .i64 0, .int .i64 0, .int .i64 0, .nilS, .nilS, .nilS, .agg [.int .i64 0, .int .i64 0, .int .i64 0, .nilS], .int .i64 0, .agg [.int .i64 0, .int .i64 0, .nilS]])), Qs 14 10 21, Qm 11 22])
 (Qr ([Qm 23 11, Qk 24 .neq 23 0])
 (.cond (.t 24) (Qr ([QL 25 14 4, Qm 26 11, Qs 14 8 25, Qm 9 26])
 (.ret)) (.skip))))
 (Qr ([QL 28 4 5, Qq 29 44 [(.t 28)], Qm 27 29, Qe 30 27 0, Qe 31 27 1, Qm 12 30, Qm 13 31])
 (Qr ([QL 32 14 4, Qq 33 51 [(.t 32)], Qw 14 (.alloc 35 (.agg [.int .i64 0, .int .i64 0, .int .i64 0, .nilS, .nilS, .nilS, .agg [.int .i64 0, .int .i64 0, .int .i64 0, .nilS], .int .i64 0, .agg [.int .i64 0, .int .i64 0, .nilS]])), Qs 14 14 33])
 (.seq (.dreg [Qf 34 2 2 4, Ql 35 1 34, Qf 36 2 2 4, Ql 37 1 36, Qp 38 (.bin 0 .sub (Qi 1) (.t 37)), Qm 15 35, Qm 16 38] [[], [0], [], [2], [2, 3], [0, 1], [0, 1, 2, 3, 4, 5]])
 (.seq (.dreg [Qf 39 5 5 14, Ql 40 1 39, Qm 41 15, Qw 42 (.buildS 5 1 (.int .u8 0) 0 []), Qf 43 5 5 4, Ql 44 1 43, Qm 45 15, Qx 46 1 44 45, Ql 47 1 46, Qw 48 (.app 5 1 1 (.t 42) (.t 47)), Qm 49 12, Qm 50 2, Qm 51 12, Qn 52 51, Qk 53 .sub 52 1, Qp 54 (.mn (.t 50) (.t 53)), Qp 55 (.mx (Qi 0) (.t 54)), Qw 56 (.sl 1 (.t 49) none (some (.t 55)) none), Qw 57 (.app 5 1 1 (.t 48) (.t 56)), Qx 58 1 40 41, Qs 1 58 57] [[], [0], [], [], [], [4], [], [4, 5, 6], [4, 5, 6, 7], [3, 4, 5, 6, 7, 8], [], [], [], [12], [12, 13], [11, 12, 13, 14], [11, 12, 13, 14, 15], [10, 11, 12, 13, 14, 15, 16], [3, 4, 5, 6, 7, 8, 9, 10, 11, 12, 13, 14, 15, 16, 17], [0, 1, 2, 3, 4, 5, 6, 7, 8, 9, 10, 11, 12, 13, 14, 15, 16, 17, 18], [0, 1, 2, 3, 4, 5, 6, 7, 8, 9, 10, 11, 12, 13, 14, 15, 16, 17, 18, 19]])
 (.seq (Qr ([Qf 59 3 3 4, Ql 60 1 59, Qm 61 16, Qx 62 1 60 61, Ql 63 1 62])
 (.cond (.t 63) (.dreg [Qf 64 5 5 14, Ql 65 1 64, Qm 66 16, Qw 67 (.buildS 5 1 (.int .u8 0) 0 []), Qf 68 5 5 4, Ql 69 1 68, Qm 70 16, Qx 71 1 69 70, Ql 72 1 71, Qw 73 (.app 5 1 1 (.t 67) (.t 72)), Qm 74 12, Qm 75 3, Qm 76 12, Qn 77 76, Qk 78 .sub 77 1, Qp 79 (.mn (.t 75) (.t 78)), Qp 80 (.mx (Qi 0) (.t 79)), Qw 81 (.sl 1 (.t 74) none (some (.t 80)) none), Qw 82 (.app 5 1 1 (.t 73) (.t 81)), Qq 83 52 [(.t 82)], Qx 84 1 65 66, Qs 1 84 83] [[], [0], [], [], [], [4], [], [4, 5, 6], [4, 5, 6, 7], [3, 4, 5, 6, 7, 8], [], [], [], [12], [12, 13], [11, 12, 13, 14], [11, 12, 13, 14, 15], [10, 11, 12, 13, 14, 15, 16], [3, 4, 5, 6, 7, 8, 9, 10, 11, 12, 13, 14, 15, 16, 17], [3, 4, 5, 6, 7, 8, 9, 10, 11, 12, 13, 14, 15, 16, 17, 18], [0, 1, 2, 3, 4, 5, 6, 7, 8, 9, 10, 11, 12, 13, 14, 15, 16, 17, 18, 19], [0, 1, 2, 3, 4, 5, 6, 7, 8, 9, 10, 11, 12, 13, 14, 15, 16, 17, 18, 19, 20]]) (.skip)))
 (Qr ([Qf 85 3 3 14, Ql 86 1 85, Qm 87 15, Qx 88 1 86 87, ⟨none, none, (.m (.store 1 (.t 88) (.c (.bool false))))⟩])
 (Qr ([QL 89 14 14, Qq 90 60 [(.t 89)], Qs 14 8 90, Qp 9 (.mov (Qi 0))])
 (.ret))))))))), [.load true 14 (.t 8), .mov (.t 9)]) := by kernel_rfl
theorem mxE (a b : Int) : (if b > a then b else a) = max a b := by by_cases h : b > a <;> simp [h] <;> omega
theorem mnE (a b : Int) : (if b < a then b else a) = min a b := by by_cases h : b < a <;> simp [h] <;> omega
theorem cutK_u8 (k : Int) (b : List Int) : List.take (max 0 (min k ((b.length : Int) - 1))).toNat (List.map (V.int .u8) b) = List.map (V.int .u8) (cutK k b) := by unfold cutK; rw [List.map_take]
set_option maxHeartbeats 4000000 in
theorem rdwn_fn (p : Pair) : Fnc Tryz.prog 60 [prV false p] (fun x obs => x = prV false { p with active := -1, silent := 0, gateway := g0, epoch := 0 } ∧ obs = []) := by
  refine Fnc.low ?_
  refine zgo m_rdwn_ok fun W S => ?_
  refine ev_obSub 1 _ rfl (dn_sub _ _ _ _ _ _ _) rfl ?_
  exact zrt m_rdwn_ok
attribute [local irreducible] sApp sRec sReb chkP wrE
attribute [local go_sem] mxE mnE
set_option maxHeartbeats 16000000 in
theorem rtear_fn (p : Pair) (n : Note) (f s : Int) : Fnc Tryz.prog 26 [prV false p, .agg (noteL false n), .int .i64 f, .int .i64 s] (fun x obs => x = .tup [prV false (sTear p n f s).1, .int .i64 (sTear p n f s).2] ∧ obs = []) := by
  refine Fnc.low ?_
  have fw := rwr_fn p n
  by_cases c1 : wrE p n = 0
  rotate_left
  · rw [show sTear p n f s = (p, wrE p n) from if_pos c1]
    rw [sWr_e rfl c1] at fw
    generalize wrE p n = z at fw c1
    refine zgo m_rtear_ok fun W S => ?_
    refine zcd (fw) ?_
    exact zrt m_rtear_ok
  rw [show sTear p n f s = (teP p n f s, 0) from if_neg (by simp [c1])]
  rw [sWr_0 c1] at fw
  generalize wrP p n = z at fw
  obtain ⟨k1, k2, k3, k4⟩ := wrE_0 c1
  obtain ⟨hb, hl, hk⟩ := sApp_0 k4
  obtain ⟨hn, ⟨h1, h2, h3, h4, h5⟩, hg, hw⟩ := chkP_ok k1
  have a1 : p.active ≤ 1 := hn.2.2.2.2.2.1
  have hja := two_le h3 h4 h5 (a := p.active.toNat) (by omega)
  have hjo := two_le h3 h4 h5 (a := (1 - p.active).toNat) (by omega)
  have fe := renc_fn n
  rw [show sEnc n = (encB n, 0) from by unfold sEnc; rw [if_pos hk]] at fe
  have he1 : 1 < (encB n).length := by rw [encB_len]; omega
  have he2 : (encB n).length ≤ 300000 := by rw [encB_len]; omega
  have hc1 := cutK_len f (encB n)
  have hc2 := cutK_len s (encB n)
  have fh := rcut_fn (p.journals[(1 - p.active).toNat]! ++ cutK s (encB n))
  have hu1 := cutK_u8 f (encB n)
  have hu2 := cutK_u8 s (encB n)
  clear hb
  unfold teP
  generalize encB n = e at *
  have hln : ∀ x : V, ((p.journals.map (slV' false 1 (V.int .u8))).set p.active.toNat x).length = 2 := fun x => by rw [List.length_set, List.length_map, h3]
  have hsz := fun x => set_sz false p.journals (i := p.active.toNat) (j := (1 - p.active).toNat) x (by omega) (by omega)
  by_cases c5 : p.up[(1 - p.active).toNat]! = true
  · rw [if_pos c5]
    refine zgo m_rtear_ok fun W S => ?_
    refine zcd (fw) ?_
    refine zcd (fe) ?_
    (first | refine callX (rcop_fn p (by omega)) ?_ | refine callXw (rcop_fn p (by omega)) ?_); refine zev ?_
    refine zso ?_
    refine ev_dr0 mixed rfl (by kernel_rfl) ?_; simp only [go_sem]
    refine zso ?_
    refine ev_draw (fu := fu8) mixed [3] 1 rfl (by kernel_rfl) ?_; simp only [go_sem]
    refine ⟨by omega, ?_⟩
    refine evw_all (md := [3]) (fu := [(), (), (), (), (), (), (), ()]) ?_; refine zev ?_
    refine evw_all (md := [3]) (fu := [(), ()]) ?_; refine zev ?_
    simp only [hu1]
    refine evw_g (gen_appZ (r := 8) (g := 2) (e := 5) (q := u8s p.journals[p.active.toNat]!) (m := u8s (cutK f e)) (fp := [8]) rfl rfl (by simp) (by simp only [go_sem, topId]; simp) rfl (by simp only [go_sem, srcV, rowV]) (by simp only [go_sem, srcV, rowV]) (by rw [List.length_map, List.length_map]; omega) (by rw [List.length_map, List.length_map]; omega)) rfl ?_
    simp only [← List.map_append]
    repeat (first | refine And.intro (by omega) ?_ | refine And.intro rfl ?_ | refine ev_ctl rfl rfl ?_ | refine evr_nil ?_ | refine evw_nil (by kernel_rfl) ?_ | (simp (disch := omega) only [takeAll, Nat.min_eq_left, Nat.min_eq_right, if_pos, if_neg, getD_map, wrapI64, modIn, fdivE, tmodE, tdivE, decT, decF, beqT, beqF, bneT, bneF, Int.toNat_natCast]; try simp only [go_sem]) | (refine ev_condTb rfl ?_ ?_; · (simp <;> omega)) | (refine ev_condFb rfl ?_ ?_; · (simp <;> omega)) | ((first | refine ev_region ?_ | refine evr_go rfl ?_ | refine evw_gom [3] rfl ?_ | refine ev_dr0 mixed rfl (by kernel_rfl) ?_ | refine ev_dr1 mixed rfl (by kernel_rfl) ?_ | refine ev_dr2 mixed rfl (by kernel_rfl) ?_); simp only [go_sem]))
    repeat (first | (simp only [c5]; try simp only [go_sem]) | refine And.intro (by omega) ?_ | refine And.intro rfl ?_ | refine ev_ctl rfl rfl ?_ | refine evr_nil ?_ | refine evw_nil (by kernel_rfl) ?_ | (simp (disch := omega) only [takeAll, Nat.min_eq_left, Nat.min_eq_right, if_pos, if_neg, getD_map, wrapI64, modIn, fdivE, tmodE, tdivE, decT, decF, beqT, beqF, bneT, bneF, Int.toNat_natCast]; try simp only [go_sem]) | (refine ev_condTb rfl ?_ ?_; · (simp <;> omega)) | (refine ev_condFb rfl ?_ ?_; · (simp <;> omega)) | ((first | refine ev_region ?_ | refine evr_go rfl ?_ | refine evw_go rfl ?_); simp only [go_sem]))
    refine ev_draw (fu := fu8) mixed [3] 1 rfl (by kernel_rfl) ?_; simp only [go_sem]
    refine ⟨by omega, ?_⟩
    refine evw_all (md := [3]) (fu := [(), (), (), (), (), (), (), ()]) ?_; refine zev ?_
    refine evw_all (md := [3]) (fu := [(), ()]) ?_; refine zev ?_
    simp only [hu2]
    refine evw_g (gen_appZ (r := 9) (g := 2) (e := 5) (q := u8s p.journals[(1 - p.active).toNat]!) (m := u8s (cutK s e)) (fp := [9]) rfl rfl (by simp) (by simp only [go_sem, topId]; simp) rfl (by simp only [go_sem, srcV, rowV]) (by simp only [go_sem, srcV, rowV]) (by rw [List.length_map, List.length_map]; omega) (by rw [List.length_map, List.length_map]; omega)) rfl ?_
    simp only [← List.map_append]
    repeat (first | refine And.intro (by omega) ?_ | refine And.intro rfl ?_ | refine ev_ctl rfl rfl ?_ | refine evr_nil ?_ | refine evw_nil (by kernel_rfl) ?_ | (simp (disch := omega) only [takeAll, Nat.min_eq_left, Nat.min_eq_right, if_pos, if_neg, getD_map, wrapI64, modIn, fdivE, tmodE, tdivE, decT, decF, beqT, beqF, bneT, bneF, Int.toNat_natCast]; try simp only [go_sem]) | (refine ev_condTb rfl ?_ ?_; · (simp <;> omega)) | (refine ev_condFb rfl ?_ ?_; · (simp <;> omega)) | ((first | refine ev_region ?_ | refine evr_go rfl ?_ | refine evw_gom [3] rfl ?_ | refine ev_dr0 mixed rfl (by kernel_rfl) ?_ | refine ev_dr1 mixed rfl (by kernel_rfl) ?_ | refine ev_dr2 mixed rfl (by kernel_rfl) ?_); simp only [go_sem]))
    (first | refine callD (fh) ?_ | refine callDw (fh) ?_); refine zev ?_
    refine zsx (And.intro hln (hsz)) ?_
    refine evr_calmA ?_; (refine zev ?_); (first | refine callD (rdwn_fn { p with up := p.up.set p.active.toNat false, journals := (p.journals.set p.active.toNat (p.journals[p.active.toNat]! ++ cutK f e)).set (1 - p.active).toNat ((p.journals[(1 - p.active).toNat]! ++ cutK s e).take 262144) }) ?_ | refine callDw (rdwn_fn { p with up := p.up.set p.active.toNat false, journals := (p.journals.set p.active.toNat (p.journals[p.active.toNat]! ++ cutK f e)).set (1 - p.active).toNat ((p.journals[(1 - p.active).toNat]! ++ cutK s e).take 262144) }) ?_); simp only [go_sem, lows_set, set_bs, set_bo]
    refine zst ?_
    exact zrt m_rtear_ok
  · rw [if_neg c5]
    have c5 : p.up[(1 - p.active).toNat]! = false := by simpa using c5
    refine zgo m_rtear_ok fun W S => ?_
    refine zcd (fw) ?_
    refine zcd (fe) ?_
    (first | refine callX (rcop_fn p (by omega)) ?_ | refine callXw (rcop_fn p (by omega)) ?_); refine zev ?_
    refine zso ?_
    refine ev_dr0 mixed rfl (by kernel_rfl) ?_; simp only [go_sem]
    refine zso ?_
    refine ev_draw (fu := fu8) mixed [3] 1 rfl (by kernel_rfl) ?_; simp only [go_sem]
    refine ⟨by omega, ?_⟩
    refine evw_all (md := [3]) (fu := [(), (), (), (), (), (), (), ()]) ?_; refine zev ?_
    refine evw_all (md := [3]) (fu := [(), ()]) ?_; refine zev ?_
    simp only [hu1]
    refine evw_g (gen_appZ (r := 8) (g := 2) (e := 5) (q := u8s p.journals[p.active.toNat]!) (m := u8s (cutK f e)) (fp := [8]) rfl rfl (by simp) (by simp only [go_sem, topId]; simp) rfl (by simp only [go_sem, srcV, rowV]) (by simp only [go_sem, srcV, rowV]) (by rw [List.length_map, List.length_map]; omega) (by rw [List.length_map, List.length_map]; omega)) rfl ?_
    simp only [← List.map_append]
    repeat (first | refine And.intro (by omega) ?_ | refine And.intro rfl ?_ | refine ev_ctl rfl rfl ?_ | refine evr_nil ?_ | refine evw_nil (by kernel_rfl) ?_ | (simp (disch := omega) only [takeAll, Nat.min_eq_left, Nat.min_eq_right, if_pos, if_neg, getD_map, wrapI64, modIn, fdivE, tmodE, tdivE, decT, decF, beqT, beqF, bneT, bneF, Int.toNat_natCast]; try simp only [go_sem]) | (refine ev_condTb rfl ?_ ?_; · (simp <;> omega)) | (refine ev_condFb rfl ?_ ?_; · (simp <;> omega)) | ((first | refine ev_region ?_ | refine evr_go rfl ?_ | refine evw_gom [3] rfl ?_ | refine ev_dr0 mixed rfl (by kernel_rfl) ?_ | refine ev_dr1 mixed rfl (by kernel_rfl) ?_ | refine ev_dr2 mixed rfl (by kernel_rfl) ?_); simp only [go_sem]))
    refine zsx c5 ?_
    refine evr_calmA ?_; (refine zev ?_); (first | refine callD (rdwn_fn { p with up := p.up.set p.active.toNat false, journals := p.journals.set p.active.toNat (p.journals[p.active.toNat]! ++ cutK f e) }) ?_ | refine callDw (rdwn_fn { p with up := p.up.set p.active.toNat false, journals := p.journals.set p.active.toNat (p.journals[p.active.toNat]! ++ cutK f e) }) ?_); simp only [go_sem, lows_set, set_bs, set_bo]
    refine zst ?_
    exact zrt m_rtear_ok
end Go.Proofs.YtdpfglkjhdnbbaaGreat
