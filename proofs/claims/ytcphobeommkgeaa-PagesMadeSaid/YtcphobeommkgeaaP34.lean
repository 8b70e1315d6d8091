/- Pages: Build. -/
import Derived.Test.YtcphobeommkgeaaP32
import Derived.Test.YtcphobeommkgeaaC5
namespace Go.Proofs.Ytcphobeommkgeaa
open Go Go.RowKit Rdn Rdn.Dp
set_option linter.unusedVariables false
set_option linter.unusedSimpArgs false
theorem m_pbuild_ok : compF Try.prog 33 = some (84, Qr ([Qw 4 (.alloc 30 (.agg [.nilS, .nilS])), Qp 5 (.mov (Qi 0))])
 (Qr ([Qm 15 0, Qq 16 39 [(.t 15), (Qi 0)], Qm 14 16, Qe 17 14 0, Qe 18 14 1, Qm 6 17, Qm 7 18])
 (.seq (Qr ([Qm 19 7, Qk 20 .neq 19 0])
 (.cond (.t 20) (Qr ([Qw 21 (.build none [.nilS, .nilS] []), Qm 22 7, Qs 2 4 21, Qm 5 22])
 (.ret)) (.skip)))
 (Qr ([Qm 23 1, Qn 24 23, Qm 25 6, Qn 26 25, Qb 27 .sub 24 26, Qm 8 27])
 (.seq (Qr ([Qm 28 8, Qk 29 .lss 28 0, Qm 30 29, Q0 31 30 (.mov (.t 8)), Q0 32 30 (.bin 0 .gtr (.t 31) (Qi 4)), Qt 33 30 32])
 (.cond (.t 33) (Qr ([Qw 34 (.build none [.nilS, .nilS] []), Qs 2 4 34, Qp 5 (.mov (Qi 5))])
 (.ret)) (.skip)))
 (Qr ([Qm 35 8, Qw 36 (.mkS 43 8 80 (.agg [.int .i64 0, .int .i64 0, .int .i64 0, .int .i64 0, .int .i64 0, .int .i64 0, .int .u16 0, .nilS]) (.t 35) (.t 35)), Qw 37 (.build none [.nilS, .nilS] [(1, (.t 36))]), Qw 9 (.alloc 30 (.agg [.nilS, .nilS])), Qs 2 9 37])
 (.seq (Qr ([Qm 38 0, Qn 39 38, Qp 40 (.mov (Qi 0))])
 (.block 0 (.loop (Qr ([Qb 41 .lss 40 39])
 (.seq (.cond (.t 41) (.skip) (.exit 0))
 (.seq (.block 1 (Qr ([Qx 42 1 38 40, Ql 43 1 42, Qm 11 43])
 (.dreg [Qf 44 0 0 9, Ql 45 1 44, Qm 46 11, Qw 47 (.mkS 84 4 24 (.agg [.int .u8 0, .int .u16 0, .int .i64 0, .int .i64 0]) (.t 46) (.t 46)), Qw 48 (.buildS 40 1 (.nilS) 1 [(0, (.t 47))]), Qw 49 (.app 40 1 24 (.t 45) (.t 48)), Qf 50 0 0 9, Qs 1 50 49] [[], [0], [], [2], [2, 3], [0, 1, 2, 3, 4], [0, 1, 2, 3, 4, 5], [0, 1, 2, 3, 4, 5, 6]])))
 (.reg [Qk 51 .add 40 1, Qm 40 51])))))))
 (Qr ([Qm 53 0, Qm 54 8, Qq 55 39 [(.t 53), (.t 54)], Qm 52 55, Qe 56 52 0, Qe 57 52 1, Qm 6 56])
 (.seq (Qr ([Qm 58 1, Qn 59 58, Qp 60 (.mov (Qi 0))])
 (.block 2 (.loop (Qr ([Qb 61 .lss 60 59])
 (.seq (.cond (.t 61) (.skip) (.exit 2))
 (.seq (.block 3 (Qr ([Qm 62 60, Qx 63 11 58 60, QL 64 11 63, Qw 13 (.alloc 45 (.agg [.agg [.int .i64 0, .int .i64 0], .nilS, .agg [.int .i64 0, .int .i64 0, .int .i64 0, .int .i64 0, .int .i64 0, .int .i64 0, .int .u16 0, .nilS]])), Qm 12 62, Qs 11 13 64])
 (.seq (.seq (.dreg [Qf 65 0 0 13, QL 66 2 65, Qm 67 6, Qm 68 12, Qx 69 2 67 68, QL 70 2 69, Qp 71 (.eqs true [(some .i64), (some .i64)] (.t 66) (.t 70))] [[], [0], [], [], [2, 3], [2, 3, 4], [0, 1, 2, 3, 4, 5]])
 (.cond (.t 71) (Qr ([Qw 72 (.build none [.nilS, .nilS] []), Qs 2 4 72, Qp 5 (.mov (Qi 5))])
 (.ret)) (.skip)))
 (Qr ([QL 74 2 9, QL 75 11 13, Qq 76 36 [(.t 74), (.t 75)], Qm 73 76, Qe 77 73 0, Qe 78 73 1, Qs 2 9 77, Qm 7 78])
 (Qr ([Qm 79 7, Qk 80 .neq 79 0])
 (.cond (.t 80) (Qr ([Qw 81 (.build none [.nilS, .nilS] []), Qs 2 4 81, Qp 5 (.mov (Qi 5))])
 (.ret)) (.skip)))))))
 (.reg [Qk 82 .add 60 1, Qm 60 82])))))))
 (Qr ([QL 83 2 9, Qs 2 4 83, Qp 5 (.mov (Qi 0))])
 (.ret)))))))))), [.load true 2 (.t 4), .mov (.t 5)]) := by kernel_rfl
attribute [local irreducible] idsF shp sSet
set_option maxHeartbeats 16000000 in
theorem pbuild_fn (z : List Int) (l : List Page) (hz : z.length ≤ 5864062014634) (hl : ∀ p ∈ l, p.view.regs.length ≤ 5864062014634) : Fnc Try.prog 33 [.sl false 1 (i64s z), .sl false 11 (l.map (pgV false))] (fun x obs => x = .tup [staV (sBuild z l).1, .int .i64 (sBuild z l).2] ∧ obs = []) := by
  refine Fnc.low ?_
  refine Fnc.wf fun hw => ?_
  simp only [V.wfs, V.wf, wfs_map, List.length_map] at hw
  have hm := hw.1.2
  have hm2 := hw.2.1.2
  clear hw
  have f1 := plist_fn z 0
  by_cases c0 : chk z 0 = 0
  rotate_left
  · rw [show sBuild z l = (nost, chk z 0) from if_neg c0]
    rw [show sList z 0 = ([], chk z 0) from if_neg c0] at f1
    generalize chk z 0 = e at f1 c0
    refine zgo m_pbuild_ok fun W S => ?_
    refine zcd (f1) ?_
    refine ev_obSub 0 _ rfl nost_sub rfl ?_
    exact zrt m_pbuild_ok
  rw [show sList z 0 = (idsF z 0, 0) from if_pos c0] at f1
  have hi := idsF_le c0
  by_cases c1 : (idsF z 0).length ≤ l.length ∧ l.length ≤ (idsF z 0).length + 4
  rotate_left
  · have hr : sBuild z l = (nost, 5) := by unfold sBuild; rw [if_pos c0, if_neg c1]
    rw [hr]
    generalize idsF z 0 = D at f1 hi c1
    by_cases c2 : l.length < D.length
    · skip
      refine zgo m_pbuild_ok fun W S => ?_
      refine zcd (f1) ?_
      refine ev_obSub 0 _ rfl nost_sub rfl ?_
      exact zrt m_pbuild_ok
    · skip
      refine zgo m_pbuild_ok fun W S => ?_
      refine zcd (f1) ?_
      refine ev_obSub 0 _ rfl nost_sub rfl ?_
      exact zrt m_pbuild_ok
  obtain ⟨t, ht⟩ : ∃ t, l.length = (idsF z 0).length + t := ⟨l.length - (idsF z 0).length, by omega⟩
  have hr : sBuild z l = bldR (bldF (zsta z t) (idsF z (t : Int)) l) := by
    unfold sBuild; rw [if_pos c0, if_pos c1, show l.length - (idsF z 0).length = t by omega]
  rw [hr]
  have f2 := plist_fn z t
  have hc2 : chk z t = 0 := by
    obtain ⟨h1, h2, h3, h4⟩ := chk_ok c0
    exact chk_0 (by omega) (by omega) h4
  rw [show sList z t = (idsF z t, 0) from if_pos hc2] at f2
  have hlen := idsF_len z t
  generalize idsF z 0 = D0 at f1 hi c1 ht hlen
  generalize idsF z t = D at f2 hlen
  have e1 : (l.length : Int) - D0.length = t := by omega
  obtain ⟨R, hR⟩ : ∃ R, R = z.map fun n : Int => List.replicate n.toNat (⟨0, 0, 0, 0⟩ : Canon) := ⟨_, rfl⟩
  have hRl : R.length = z.length := by rw [hR, List.length_map]
  have hRk : ∀ k, k < z.length → List.replicate z[k]!.toNat (V.agg [.int .u8 0, .int .u16 0, .int .i64 0, .int .i64 0]) = R[k]!.map canonV := fun k hk => by
    rw [hR]; simp [hk]
  have hzs : zsta z t = ⟨R, List.replicate t zvw⟩ := by rw [hR]; rfl
  obtain ⟨hz4, _, _, hzb⟩ := chk_ok c0
  have L0 : LowS (zsta z t) := by
    rw [hzs]
    refine ⟨by dsimp only; omega, fun x hx => ?_, by simp; omega, fun x hx => ?_⟩
    · obtain ⟨k, hk, rfl⟩ := List.getElem_of_mem hx
      have hk : k < R.length := hk
      have := hzb k (by omega)
      simp only [hR, List.getElem_map, List.length_replicate]
      rw [getElem!_pos z k (by omega)] at this
      omega
    · rw [List.eq_of_mem_replicate hx]; decide
  obtain ⟨B, hB⟩ : ∃ B, bldF (zsta z t) D l = B := ⟨_, rfl⟩
  rw [hB]
  refine zgo m_pbuild_ok fun W S => ?_
  refine zcd (f1) ?_
  simp only [e1, Int.toNat_natCast]
  refine ev_adoptB 2 0 40 1 rfl rfl (by decide) rfl ?_
  refine ev_toRows 3 rfl ?_
  refine ev_loopK [0, 1, 4, 8, 9, 38, 39] (fun p : {p : Nat // p ≤ z.length} => [(40, .int .i64 p.1)]) (fun p => [⟨.box false 30, true, 0, nostV⟩, ⟨.row 43, true, 0, .arr 8 (List.replicate t zvwV)⟩, ⟨.box false 30, true, 0, .agg [.own 3 p.1, .own 1 0]⟩, ⟨.rows false 40, true, p.1, .arr 1 ((R.take p.1).map (slV' true 4 canonV))⟩]) (fun p => z.length - p.1) (⟨0, by simp⟩) 4 (by simp only [go_sem]; rfl) ?_ (by first | rfl | (simp only [go_sem]; done)) (by simp) (by first | rfl | (simp only [go_sem]; done)) (by first | rfl | (simp only [go_sem]; done)) (by first | rfl | (simp only [go_sem]; done)) ?_
  · (simp only [go_sem]; (try simp []); done)
  intro J hJ
  rintro ⟨k, hk0⟩
  by_cases hlt : k < z.length
  · have hb := hzb k hlt
    have hl2 : (R.take k).length = k := by rw [List.length_take]; omega
    have hq : ((R.take k).map (slV' true 4 canonV) ++ [V.own 4 1]).set k (V.sl true 4 (R[k]!.map canonV)) = (R.take (k + 1)).map (slV' true 4 canonV) := setJ_snoc (by omega) rfl
    have hrk := hRk k hlt
    refine zso ?_
    refine ev_draw (fu := fu8) mixed [3, 4] 2 rfl (by kernel_rfl) ?_; simp only [go_sem]
    repeat (first | refine And.intro (by omega) ?_ | refine And.intro rfl ?_ | refine ev_ctl rfl rfl ?_ | refine evr_nil ?_ | refine evw_nil (by kernel_rfl) ?_ | (simp (disch := omega) only [takeAll, Nat.min_eq_left, Nat.min_eq_right, if_pos, if_neg, getD_map, wrapI64, modIn, fdivE, tmodE, tdivE, decT, decF, beqT, beqF, bneT, bneF, Int.toNat_natCast]; try simp only [go_sem]) | (refine ev_condTb rfl ?_ ?_; · (simp <;> omega)) | (refine ev_condFb rfl ?_ ?_; · (simp <;> omega)) | ((first | refine ev_region ?_ | refine evr_go rfl ?_ | refine evw_gom [3, 4] rfl ?_ | refine ev_dr0 mixed rfl (by kernel_rfl) ?_ | refine ev_dr1 mixed rfl (by kernel_rfl) ?_ | refine ev_dr2 mixed rfl (by kernel_rfl) ?_); simp only [go_sem]))
    refine ev_frzIn 3 k 4 rfl rfl (snoc_get (by rw [List.length_map, hl2])) ?_
    simp only [go_sem]
    simp only [hrk, hq]
    exact zn4 (hJ _ (⟨k + 1, hlt⟩) (by first | omega | (dsimp only; omega) | (simp; omega))) hq
  · obtain rfl : k = z.length := by omega
    dsimp only
    rw [show R.take z.length = R from by rw [← hRl, List.take_length]]
    refine ev_toRow 3 rfl (pures_lo _ _) ?_
    simp only [go_sem]
    refine ev_frzBox 2 0 3 rfl rfl rfl ?_
    simp only [go_sem]
    refine ev_frzBox 2 1 1 rfl rfl rfl ?_
    simp only [go_sem]
    have hsb : SubV (.agg [.sl true 1 (R.map (slV' true 4 canonV)), .sl true 8 (List.replicate t zvwV)]) (staV (zsta z t)) := by
      rw [hzs]
      refine SubV.agg ⟨subV_sl (subVs_map (fun a => subV_flag _ _ _) R) (pures_lo _ _) ?_, subV_sl ?_ (pures_lo _ _) ?_, trivial⟩
      · exact unif_map (f := slV' false 4 canonV) (fun a => rfl) R
      · rw [show (List.replicate t zvw).map (viewV false) = List.replicate t (viewV false zvw) by simp]
        exact subVs_rep (zvw_sub false) t
      · exact unif_map (f := viewV false) (fun a => rfl) _
    refine ev_obSub 2 _ rfl hsb rfl ?_
    simp only [go_sem]
    refine zst ?_
    refine zcd (f2) ?_
    refine ev_loopK [4, 6, 9, 58, 59] (fun p : {p : Nat × State // p.1 ≤ l.length ∧ B = bldF p.2 (D.drop p.1) (l.drop p.1) ∧ LowS p.2} => [(60, .int .i64 p.1.1)]) (fun p => [⟨.box false 30, true, 0, nostV⟩, ⟨.row 43, false, 0, .arr 8 (List.replicate t zvwV)⟩, ⟨.box false 30, true, 0, staV p.1.2⟩, ⟨.row 40, false, z.length, .arr 1 (R.map (slV' true 4 canonV))⟩]) (fun p => l.length - p.1.1) (⟨(0, zsta z t), by simp, hB.symm, L0⟩) 4 (by simp only [go_sem]; rfl) ?_ (by first | rfl | (simp only [go_sem]; done)) (by simp) (by first | rfl | (simp only [go_sem]; done)) (by first | rfl | (simp only [go_sem]; done)) (by first | rfl | (simp only [go_sem]; done)) ?_
    · (simp only [go_sem]; (try simp []); done)
    intro J hJ
    rintro ⟨⟨k, x⟩, hk0, hb, Lx⟩
    dsimp only at hk0 hb Lx
    dsimp only
    by_cases hlt : k < l.length
    · have hDk : k < D.length := by omega
      have hlp := hl _ (mem_at hlt)
      rw [List.drop_eq_getElem_cons hlt, List.drop_eq_getElem_cons hDk, bldF, ← getElem!_pos l k hlt, ← getElem!_pos D k hDk] at hb
      have fS := pset_fn x l[k]! Lx hlp
      by_cases c1 : ¬ l[k]!.id.region = D[k]!.region
      · rw [if_neg (fun h => c1 (by rw [h.1]))] at hb
        subst hb
        refine zst ?_
        repeat (first | (simp only [Bool.false_and]; try simp only [go_sem]) | refine And.intro (by omega) ?_ | refine And.intro rfl ?_ | refine ev_ctl rfl rfl ?_ | refine evr_nil ?_ | refine evw_nil (by kernel_rfl) ?_ | (simp (disch := omega) only [takeAll, Nat.min_eq_left, Nat.min_eq_right, if_pos, if_neg, getD_map, wrapI64, modIn, fdivE, tmodE, tdivE, decT, decF, beqT, beqF, bneT, bneF, Int.toNat_natCast]; try simp only [go_sem]) | (refine ev_condTb rfl ?_ ?_; · (simp <;> omega)) | (refine ev_condFb rfl ?_ ?_; · (simp <;> omega)) | ((first | refine ev_region ?_ | refine evr_go rfl ?_ | refine evw_go rfl ?_ | refine ev_dr0 mixed rfl (by kernel_rfl) ?_ | refine ev_dr1 mixed rfl (by kernel_rfl) ?_ | refine ev_dr2 mixed rfl (by kernel_rfl) ?_); simp only [go_sem]))
        refine ev_obSub 0 _ rfl nost_sub rfl ?_
        refine ret m_pbuild_ok [] ?_; (first | (simp only [go_sem]; done) | (simp only [go_sem]; ((try dsimp only); (repeat' (refine And.intro ?_ ?_)) <;> first | with_reducible rfl | (simp only [go_sem]; done) | (simp only [go_sem]; rfl) | (simp only [go_sem, bldR]; done) | (simp only [bldR]; (try simp only [go_sem]); first | done | rfl) | (simp only [go_sem]; simp [bldR]; done) | (simp [bldR]; done) | rfl)))
      have c1 := Decidable.not_not.1 c1
      by_cases c2 : ¬ l[k]!.id.index = D[k]!.index
      · rw [if_neg (fun h => c2 (by rw [h.1]))] at hb
        subst hb
        refine zst ?_
        repeat (first | (simp only [Bool.true_and]; try simp only [go_sem]) | refine And.intro (by omega) ?_ | refine And.intro rfl ?_ | refine ev_ctl rfl rfl ?_ | refine evr_nil ?_ | refine evw_nil (by kernel_rfl) ?_ | (simp (disch := omega) only [takeAll, Nat.min_eq_left, Nat.min_eq_right, if_pos, if_neg, getD_map, wrapI64, modIn, fdivE, tmodE, tdivE, decT, decF, beqT, beqF, bneT, bneF, Int.toNat_natCast]; try simp only [go_sem]) | (refine ev_condTb rfl ?_ ?_; · (simp <;> omega)) | (refine ev_condFb rfl ?_ ?_; · (simp <;> omega)) | ((first | refine ev_region ?_ | refine evr_go rfl ?_ | refine evw_go rfl ?_ | refine ev_dr0 mixed rfl (by kernel_rfl) ?_ | refine ev_dr1 mixed rfl (by kernel_rfl) ?_ | refine ev_dr2 mixed rfl (by kernel_rfl) ?_); simp only [go_sem]))
        refine ev_obSub 0 _ rfl nost_sub rfl ?_
        refine ret m_pbuild_ok [] ?_; (first | (simp only [go_sem]; done) | (simp only [go_sem]; ((try dsimp only); (repeat' (refine And.intro ?_ ?_)) <;> first | with_reducible rfl | (simp only [go_sem]; done) | (simp only [go_sem]; rfl) | (simp only [go_sem, bldR]; done) | (simp only [bldR]; (try simp only [go_sem]); first | done | rfl) | (simp only [go_sem]; simp [bldR]; done) | (simp [bldR]; done) | rfl)))
      have c2 := Decidable.not_not.1 c2
      have hid : l[k]!.id = D[k]! := by
        generalize l[k]!.id = a at c1 c2
        generalize D[k]! = b at c1 c2
        obtain ⟨a1, a2⟩ := a
        obtain ⟨b1, b2⟩ := b
        dsimp only at c1 c2
        rw [c1, c2]
      by_cases c3 : (sSet x l[k]!).2 = 0
      rotate_left
      · rw [if_neg (fun h => c3 h.2)] at hb
        subst hb
        generalize sSet x l[k]! = y at fS c3
        obtain ⟨y1, y2⟩ := y
        dsimp only at fS c3
        refine zst ?_
        repeat (first | (simp only [Bool.true_and]; try simp only [go_sem]) | refine And.intro (by omega) ?_ | refine And.intro rfl ?_ | refine ev_ctl rfl rfl ?_ | refine evr_nil ?_ | refine evw_nil (by kernel_rfl) ?_ | (simp (disch := omega) only [takeAll, Nat.min_eq_left, Nat.min_eq_right, if_pos, if_neg, getD_map, wrapI64, modIn, fdivE, tmodE, tdivE, decT, decF, beqT, beqF, bneT, bneF, Int.toNat_natCast]; try simp only [go_sem]) | (refine ev_condTb rfl ?_ ?_; · (simp <;> omega)) | (refine ev_condFb rfl ?_ ?_; · (simp <;> omega)) | ((first | refine ev_region ?_ | refine evr_go rfl ?_ | refine evw_go rfl ?_ | refine ev_dr0 mixed rfl (by kernel_rfl) ?_ | refine ev_dr1 mixed rfl (by kernel_rfl) ?_ | refine ev_dr2 mixed rfl (by kernel_rfl) ?_); simp only [go_sem]))
        refine zcd (fS) ?_
        refine ev_obSub 0 _ rfl nost_sub rfl ?_
        refine ret m_pbuild_ok [] ?_; (first | (simp only [go_sem]; done) | (simp only [go_sem]; ((try dsimp only); (repeat' (refine And.intro ?_ ?_)) <;> first | with_reducible rfl | (simp only [go_sem]; done) | (simp only [go_sem]; rfl) | (simp only [go_sem, bldR]; done) | (simp only [bldR]; (try simp only [go_sem]); first | done | rfl) | (simp only [go_sem]; simp [bldR]; done) | (simp [bldR]; done) | rfl)))
      rw [if_pos ⟨hid, c3⟩] at hb
      have Ly := set_low Lx hlp c3
      rw [c3] at fS
      refine zst ?_
      repeat (first | (simp only [Bool.true_and]; try simp only [go_sem]) | refine And.intro (by omega) ?_ | refine And.intro rfl ?_ | refine ev_ctl rfl rfl ?_ | refine evr_nil ?_ | refine evw_nil (by kernel_rfl) ?_ | (simp (disch := omega) only [takeAll, Nat.min_eq_left, Nat.min_eq_right, if_pos, if_neg, getD_map, wrapI64, modIn, fdivE, tmodE, tdivE, decT, decF, beqT, beqF, bneT, bneF, Int.toNat_natCast]; try simp only [go_sem]) | (refine ev_condTb rfl ?_ ?_; · (simp <;> omega)) | (refine ev_condFb rfl ?_ ?_; · (simp <;> omega)) | ((first | refine ev_region ?_ | refine evr_go rfl ?_ | refine evw_go rfl ?_ | refine ev_dr0 mixed rfl (by kernel_rfl) ?_ | refine ev_dr1 mixed rfl (by kernel_rfl) ?_ | refine ev_dr2 mixed rfl (by kernel_rfl) ?_); simp only [go_sem]))
      refine zcd (fS) ?_
      refine ev_next 4 (hJ _ (⟨(k + 1, (sSet x l[k]!).1), hlt, hb, Ly⟩) (by first | omega | (dsimp only; omega) | (simp; omega))) rfl (by simp) ?_ (by first | rfl | (simp only [go_sem]; done)) (by first | rfl | (simp only [go_sem]; done)) ?_
      · (first | rfl | (simp only [go_sem]; done) | (simp only [go_sem]; simp only []; done) | (simp only []; done) | (simp only [go_sem]; simp []; done) | (simp []; done))
      · (simp only [go_sem]; (repeat' (refine And.intro ?_ ?_)) <;> first | exact trivial | with_reducible rfl | (simp only []; done) | (simp only []; with_reducible rfl) | (simp []; done) | (simp []; omega) | (simp only []; rfl) | skip)
    · obtain rfl : k = l.length := by omega
      rw [List.drop_of_length_le (by omega), List.drop_of_length_le (by omega), bldF] at hb
      subst hb
      refine zst ?_
      refine ret m_pbuild_ok [] ?_; (first | (simp only [go_sem]; done) | (simp only [go_sem]; ((try dsimp only); (repeat' (refine And.intro ?_ ?_)) <;> first | with_reducible rfl | (simp only [go_sem]; done) | (simp only [go_sem]; rfl) | (simp only [go_sem, bldR]; done) | (simp only [bldR]; (try simp only [go_sem]); first | done | rfl) | (simp only [go_sem]; simp [bldR]; done) | (simp [bldR]; done) | rfl)))
end Go.Proofs.Ytcphobeommkgeaa
