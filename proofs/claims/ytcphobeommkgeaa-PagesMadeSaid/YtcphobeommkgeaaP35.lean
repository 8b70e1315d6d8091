/- Pages: the reference's Build. -/
import Derived.Test.YtcphobeommkgeaaP34
import Derived.Test.YtcphobeommkgeaaC5
namespace Go.Proofs.Ytcphobeommkgeaa
open Go Go.RowKit Rdn Rdn.Dp
set_option linter.unusedVariables false
set_option linter.unusedSimpArgs false
theorem m_zbuild_ok : compF Try.prog 41 = some (104, Qr ([Qw 4 (.alloc 30 (.agg [.nilS, .nilS])), Qp 5 (.mov (Qi 0))])
 (.seq (Qr ([Qm 16 0, Qq 17 82 [(.t 16), (Qi 0)], Qm 6 17])
 (Qr ([Qm 18 6, Qk 19 .neq 18 0])
 (.cond (.t 19) (Qr ([Qw 20 (.build none [.nilS, .nilS] []), Qm 21 6, Qs 2 4 20, Qm 5 21])
 (.ret)) (.skip))))
 (Qr ([Qp 7 (.mov (Qi 0))])
 (.seq (Qr ([Qp 8 (.mov (Qi 0))])
 (.block 0 (.loop (.seq (Qr ([Qm 22 8, Qm 23 1, Qn 24 23, Qb 25 .lss 22 24])
 (.cond (.t 25) (.skip) (.exit 0)))
 (.seq (.block 1 (Qr ([Qm 28 1, Qm 29 8, Qx 30 11 28 29, Qf 31 0 0 30, Qf 32 0 0 31, Ql 33 1 32, Qk 34 .eql 33 (-1)])
 (.cond (.t 34) (.reg [Qm 35 7, Qk 36 .add 35 1, Qm 7 36]) (.skip))))
 (.reg [Qm 26 8, Qk 27 .add 26 1, Qm 8 27]))))))
 (Qr ([Qm 38 0, Qm 39 7, Qq 40 40 [(.t 38), (.t 39)], Qm 37 40, Qe 41 37 0, Qe 42 37 1, Qm 9 41, Qm 10 42])
 (.seq (Qr ([Qm 43 10, Qk 44 .neq 43 0, Qm 45 44, Q0 46 45 (.mov (.t 9)), Q0 47 45 (.len (.t 46)), Q0 48 45 (.mov (.t 1)), Q0 49 45 (.len (.t 48)), Q0 50 45 (.bin 0 .neq (.t 47) (.t 49)), Qt 51 45 50])
 (.cond (.t 51) (Qr ([Qw 52 (.build none [.nilS, .nilS] []), Qs 2 4 52, Qp 5 (.mov (Qi 5))])
 (.ret)) (.skip)))
 (Qr ([Qm 53 7, Qw 54 (.mkS 43 8 80 (.agg [.int .i64 0, .int .i64 0, .int .i64 0, .int .i64 0, .int .i64 0, .int .i64 0, .int .u16 0, .nilS]) (.t 53) (.t 53)), Qw 55 (.build none [.nilS, .nilS] [(1, (.t 54))]), Qw 11 (.alloc 30 (.agg [.nilS, .nilS])), Qs 2 11 55])
 (.seq (Qr ([Qp 12 (.mov (Qi 0))])
 (.block 2 (.loop (.seq (Qr ([Qm 56 12, Qm 57 0, Qn 58 57, Qb 59 .lss 56 58])
 (.cond (.t 59) (.skip) (.exit 2)))
 (.seq (.block 3 (.dreg [Qf 62 0 0 11, Ql 63 1 62, Qm 64 0, Qm 65 12, Qx 66 1 64 65, Ql 67 1 66, Qw 68 (.mkS 84 4 24 (.agg [.int .u8 0, .int .u16 0, .int .i64 0, .int .i64 0]) (.t 67) (.t 67)), Qw 69 (.buildS 40 1 (.nilS) 1 [(0, (.t 68))]), Qw 70 (.app 40 1 24 (.t 63) (.t 69)), Qf 71 0 0 11, Qs 1 71 70] [[], [0], [], [], [2, 3], [2, 3, 4], [2, 3, 4, 5], [2, 3, 4, 5, 6], [0, 1, 2, 3, 4, 5, 6, 7], [0, 1, 2, 3, 4, 5, 6, 7, 8], [0, 1, 2, 3, 4, 5, 6, 7, 8, 9]]))
 (.reg [Qm 60 12, Qk 61 .add 60 1, Qm 12 61]))))))
 (.seq (Qr ([Qp 13 (.mov (Qi 0))])
 (.block 4 (.loop (.seq (Qr ([Qm 72 13, Qm 73 1, Qn 74 73, Qb 75 .lss 72 74])
 (.cond (.t 75) (.skip) (.exit 4)))
 (.seq (.block 5 (.seq (.dreg [QL 79 2 11, Qm 80 1, Qm 81 13, Qx 82 11 80 81, QL 83 11 82, Qq 84 83 [(.t 79), (.t 83)], Qm 78 84, Qe 85 78 0, Qe 86 78 1, Qw 14 (.alloc 30 (.agg [.nilS, .nilS])), Qs 2 14 85, Qm 15 86] [[], [], [], [1, 2], [1, 2, 3], [0, 1, 2, 3, 4], [0, 1, 2, 3, 4, 5], [0, 1, 2, 3, 4, 5, 6], [0, 1, 2, 3, 4, 5, 6], [], [0, 1, 2, 3, 4, 5, 6, 7, 9], [0, 1, 2, 3, 4, 5, 6, 7, 8, 9, 10]])
 (.seq (.seq (.dreg [Qm 87 1, Qm 88 13, Qx 89 11 87 88, Qf 90 0 0 89, QL 91 2 90, Qm 92 9, Qm 93 13, Qx 94 2 92 93, QL 95 2 94, Qp 96 (.eqs true [(some .i64), (some .i64)] (.t 91) (.t 95)), Qm 97 96, Q0 98 97 (.mov (.t 15)), Q0 99 97 (.bin 0 .neq (.t 98) (Qi 0)), Qt 100 97 99] [[], [], [0, 1], [0, 1, 2], [0, 1, 2, 3], [], [], [5, 6], [5, 6, 7], [0, 1, 2, 3, 4, 5, 6, 7, 8], [0, 1, 2, 3, 4, 5, 6, 7, 8, 9], [0, 1, 2, 3, 4, 5, 6, 7, 8, 9, 10], [0, 1, 2, 3, 4, 5, 6, 7, 8, 9, 10, 11], [0, 1, 2, 3, 4, 5, 6, 7, 8, 9, 10, 11, 12]])
 (.cond (.t 100) (Qr ([Qw 101 (.build none [.nilS, .nilS] []), Qs 2 4 101, Qp 5 (.mov (Qi 5))])
 (.ret)) (.skip)))
 (.reg [QL 102 2 14, Qs 2 11 102]))))
 (.reg [Qm 76 13, Qk 77 .add 76 1, Qm 13 77]))))))
 (Qr ([QL 103 2 11, Qs 2 4 103, Qp 5 (.mov (Qi 0))])
 (.ret)))))))))), [.load true 2 (.t 4), .mov (.t 5)]) := by kernel_rfl
/-- How many pages of threads there are. -/
def cntD (D : List PageID) : Nat := (D.filter fun d => decide (d.region = -1)).length
theorem cntD_app (a b : List PageID) : cntD (a ++ b) = cntD a + cntD b := by simp [cntD]
theorem cntD_L (z : List Int) (r : Nat) : cntD (idsL z r) = 0 := by
  unfold cntD
  rw [List.length_eq_zero_iff, List.filter_eq_nil_iff]
  intro d hd
  have := mem_idsL hd
  simp only [decide_eq_true_eq]; omega
theorem cntD_T (n : Nat) : cntD (idsT n) = n := by
  unfold cntD
  rw [List.filter_eq_self.2, idsT_len]
  intro d hd
  obtain ⟨i, _, rfl⟩ := List.mem_map.1 hd
  simp
theorem cntD_F (z : List Int) (t : Nat) : cntD (idsF z t) = t := by
  unfold idsF
  rw [cntD_app, cntD_L, cntD_T]; simp
theorem bldF_ids : ∀ {D : List PageID} {x s : State} {l : List Page}, bldF x D l = some s → l.map (·.id) = D
  | [], _, _, [], _ => rfl
  | [], _, _, _ :: _, h => by simp [bldF] at h
  | _ :: _, _, _, [], h => by simp [bldF] at h
  | d :: D, x, s, p :: l, h => by
    rw [bldF] at h
    split at h
    · rename_i c
      rw [List.map_cons, bldF_ids h, c.1]
    · cases h
def cntT (l : List Page) (k : Nat) : Nat := cntD ((l.take k).map (·.id))
theorem cntT_0 (l : List Page) : cntT l 0 = 0 := rfl
theorem cntT_le (l : List Page) (k : Nat) : cntT l k ≤ k := by
  have := List.length_filter_le (fun d : PageID => decide (d.region = -1)) ((l.take k).map (·.id))
  simp only [List.length_map, List.length_take] at this
  unfold cntT cntD; omega
theorem cntD_1 (d : PageID) : cntD [d] = if d.region = -1 then 1 else 0 := by
  unfold cntD
  by_cases h : d.region = -1 <;> simp [h]
theorem cntT_T {l : List Page} {k : Nat} (h : k < l.length) (hr : l[k]!.id.region = -1) : cntT l (k + 1) = cntT l k + 1 := by
  unfold cntT
  rw [take_snoc h, List.map_append, cntD_app, List.map_cons, List.map_nil, cntD_1, if_pos hr]
theorem cntT_F {l : List Page} {k : Nat} (h : k < l.length) (hr : ¬ l[k]!.id.region = -1) : cntT l (k + 1) = cntT l k := by
  unfold cntT
  rw [take_snoc h, List.map_append, cntD_app, List.map_cons, List.map_nil, cntD_1, if_neg hr]; rfl
theorem cntT_n (l : List Page) : cntT l l.length = cntD (l.map (·.id)) := by unfold cntT; rw [List.take_length]
/-- Without that many pages nothing is built. -/
theorem sBuild_no {z : List Int} {l : List Page} (h0 : chk z 0 = 0) (h : ¬ (chk z (cntT l l.length) = 0 ∧ (idsF z (cntT l l.length)).length = l.length)) : sBuild z l = (nost, 5) := by
  unfold sBuild
  rw [if_pos h0]
  by_cases c1 : (idsF z 0).length ≤ l.length ∧ l.length ≤ (idsF z 0).length + 4
  · rw [if_pos c1]
    obtain ⟨t, ht⟩ : ∃ t, l.length = (idsF z 0).length + t := ⟨l.length - (idsF z 0).length, by omega⟩
    rw [show l.length - (idsF z 0).length = t by omega]
    cases hB : bldF (zsta z t) (idsF z t) l with
    | none => rfl
    | some s =>
      have hD := bldF_ids hB
      have hc : cntT l l.length = t := by rw [cntT_n, hD, cntD_F]
      rw [hc] at h
      obtain ⟨h1, h2, h3, h4⟩ := chk_ok h0
      exact absurd ⟨chk_0 (by omega) (by omega) h4, by rw [idsF_len]; omega⟩ h
  · rw [if_neg c1]
attribute [local irreducible] idsF shp sSet cntT
set_option maxHeartbeats 16000000 in
theorem zbuild_fn (z : List Int) (l : List Page) (hz : z.length ≤ 5864062014634) (hl : ∀ p ∈ l, p.view.regs.length ≤ 5864062014634) : Fnc Try.prog 41 [.sl false 1 (i64s z), .sl false 11 (l.map (pgV false))] (fun x obs => x = .tup [staV (sBuild z l).1, .int .i64 (sBuild z l).2] ∧ obs = []) := by
  refine Fnc.low ?_
  refine Fnc.wf fun hw => ?_
  simp only [V.wfs, V.wf, wfs_map, List.length_map] at hw
  have hm := hw.1.2
  have hm2 := hw.2.1.2
  clear hw
  have f1 := zcheck_fn z 0
  by_cases c0 : chk z 0 = 0
  rotate_left
  · rw [show sBuild z l = (nost, chk z 0) from if_neg c0]
    generalize chk z 0 = e at f1 c0
    refine zgo m_zbuild_ok fun W S => ?_
    refine zcd (f1) ?_
    refine ev_obSub 0 _ rfl nost_sub rfl ?_
    exact zrt m_zbuild_ok
  rw [c0] at f1
  have hno := sBuild_no (z := z) (l := l) c0
  have hz0 := cntT_0 l
  refine zgo m_zbuild_ok fun W S => ?_
  refine zcd (f1) ?_
  refine ev_loopK [0, 1, 4] (fun p : {p : Nat // p ≤ l.length} => [(7, .int .i64 (cntT l p.1)), (8, .int .i64 p.1)]) (fun p => [⟨.box false 30, true, 0, nostV⟩]) (fun p => l.length - p.1) (⟨0, by simp⟩) 1 (by simp only [go_sem]; rfl) ?_ (by first | rfl | (simp only [go_sem]; done) | (simp only [go_sem]; simp [hz0]; done)) (by simp) (by first | rfl | (simp only [go_sem]; done)) (by first | rfl | (simp only [go_sem]; done)) (by first | rfl | (simp only [go_sem]; done) | (simp only [hz0]; (try simp only [go_sem]); first | done | rfl)) ?_
  · (simp only [go_sem]; (try simp [hz0]); done)
  intro J hJ
  rintro ⟨k, hk0⟩
  have hcl := cntT_le l k
  by_cases hlt : k < l.length
  · by_cases c1 : l[k]!.id.region = -1
    · have hs := cntT_T hlt c1
      refine zst ?_
      exact zn1 (hJ _ (⟨k + 1, hlt⟩) (by first | omega | (dsimp only; omega) | (simp; omega))) hs
    · have hs := cntT_F hlt c1
      refine zst ?_
      exact zn1 (hJ _ (⟨k + 1, hlt⟩) (by first | omega | (dsimp only; omega) | (simp; omega))) hs
  obtain rfl : k = l.length := by omega
  have f2 := zlist_fn z (cntT l l.length)
  by_cases c1 : chk z (cntT l l.length) = 0
  rotate_left
  · rw [hno fun h => c1 h.1]
    rw [show sList z (cntT l l.length) = ([], chk z (cntT l l.length)) from if_neg c1] at f2
    generalize chk z (cntT l l.length) = e at f2 c1
    refine zst ?_
    refine zcd (f2) ?_
    refine ev_obSub 0 _ rfl nost_sub rfl ?_
    exact zrt m_zbuild_ok
  rw [show sList z (cntT l l.length) = (idsF z (cntT l l.length), 0) from if_pos c1] at f2
  by_cases c2 : (idsF z (cntT l l.length)).length = l.length
  rotate_left
  · rw [hno fun h => c2 h.2]
    generalize idsF z (cntT l l.length) = D at f2 c2
    refine zst ?_
    refine zcd (f2) ?_
    refine ev_obSub 0 _ rfl nost_sub rfl ?_
    exact zrt m_zbuild_ok
  have hr : sBuild z l = bldR (bldF (zsta z (cntT l l.length)) (idsF z (cntT l l.length)) l) := by
    have h1 := idsF_len z (cntT l l.length)
    have h2 := chk_ok c1
    unfold sBuild
    rw [if_pos c0, if_pos (by omega), show l.length - (idsF z 0).length = cntT l l.length by omega]
  rw [hr]
  generalize cntT l l.length = t at c1 c2 f2 hcl
  have ht4 : t ≤ 4 := by have := chk_ok c1; omega
  have hlen := c2
  generalize idsF z t = D at f2 hlen
  obtain ⟨R, hR⟩ : ∃ R, R = z.map fun n : Int => List.replicate n.toNat (⟨0, 0, 0, 0⟩ : Canon) := ⟨_, rfl⟩
  have hRl : R.length = z.length := by rw [hR, List.length_map]
  have hRk : ∀ k, k < z.length → List.replicate z[k]!.toNat (V.agg [.int .u8 0, .int .u16 0, .int .i64 0, .int .i64 0]) = R[k]!.map canonV := fun k hk => by
    rw [hR]; simp [hk]
  have hzs : zsta z t = ⟨R, List.replicate t zvw⟩ := by rw [hR]; rfl
  obtain ⟨hz4, _, _, hzb⟩ := chk_ok c0
  have L0 : LowS (zsta z t) := by
    rw [hzs]
    refine ⟨by dsimp only; omega, fun x hx => ?_, by simp; omega, fun x hx => ?_⟩
    · obtain ⟨k, hk, rfl⟩ := List.getElem_of_mem hx
      have hk : k < R.length := hk
      have := hzb k (by omega)
      simp only [hR, List.getElem_map, List.length_replicate]
      rw [getElem!_pos z k (by omega)] at this
      omega
    · rw [List.eq_of_mem_replicate hx]; decide
  obtain ⟨B, hB⟩ : ∃ B, bldF (zsta z t) D l = B := ⟨_, rfl⟩
  rw [hB]
  refine zst ?_
  refine zcd (f2) ?_
  refine ev_adoptB 2 0 40 1 rfl rfl (by decide) rfl ?_
  refine ev_toRows 3 rfl ?_
  refine ev_loopK [0, 1, 4, 9, 11] (fun p : {p : Nat // p ≤ z.length} => [(12, .int .i64 p.1)]) (fun p => [⟨.box false 30, true, 0, nostV⟩, ⟨.row 43, true, 0, .arr 8 (List.replicate t zvwV)⟩, ⟨.box false 30, true, 0, .agg [.own 3 p.1, .own 1 0]⟩, ⟨.rows false 40, true, p.1, .arr 1 ((R.take p.1).map (slV' true 4 canonV))⟩]) (fun p => z.length - p.1) (⟨0, by simp⟩) 4 (by simp only [go_sem]; rfl) ?_ (by first | rfl | (simp only [go_sem]; done)) (by simp) (by first | rfl | (simp only [go_sem]; done)) (by first | rfl | (simp only [go_sem]; done)) (by first | rfl | (simp only [go_sem]; done)) ?_
  · (simp only [go_sem]; (try simp []); done)
  intro J hJ
  rintro ⟨k, hk0⟩
  by_cases hlt : k < z.length
  · have hb := hzb k hlt
    have hl2 : (R.take k).length = k := by rw [List.length_take]; omega
    have hq : ((R.take k).map (slV' true 4 canonV) ++ [V.own 4 1]).set k (V.sl true 4 (R[k]!.map canonV)) = (R.take (k + 1)).map (slV' true 4 canonV) := setJ_snoc (by omega) rfl
    have hrk := hRk k hlt
    refine zso ?_
    refine ev_draw (fu := fu8) mixed [6, 7] 2 rfl (by kernel_rfl) ?_; simp only [go_sem]
    repeat (first | refine And.intro (by omega) ?_ | refine And.intro rfl ?_ | refine ev_ctl rfl rfl ?_ | refine evr_nil ?_ | refine evw_nil (by kernel_rfl) ?_ | (simp (disch := omega) only [takeAll, Nat.min_eq_left, Nat.min_eq_right, if_pos, if_neg, getD_map, wrapI64, modIn, fdivE, tmodE, tdivE, decT, decF, beqT, beqF, bneT, bneF, Int.toNat_natCast]; try simp only [go_sem]) | (refine ev_condTb rfl ?_ ?_; · (simp <;> omega)) | (refine ev_condFb rfl ?_ ?_; · (simp <;> omega)) | ((first | refine ev_region ?_ | refine evr_go rfl ?_ | refine evw_gom [6, 7] rfl ?_ | refine ev_dr0 mixed rfl (by kernel_rfl) ?_ | refine ev_dr1 mixed rfl (by kernel_rfl) ?_ | refine ev_dr2 mixed rfl (by kernel_rfl) ?_); simp only [go_sem]))
    refine ev_frzIn 3 k 4 rfl rfl (snoc_get (by rw [List.length_map, hl2])) ?_
    simp only [go_sem]
    simp only [hrk, hq]
    exact zn4 (hJ _ (⟨k + 1, hlt⟩) (by first | omega | (dsimp only; omega) | (simp; omega))) hq
  · obtain rfl : k = z.length := by omega
    dsimp only
    rw [show R.take z.length = R from by rw [← hRl, List.take_length]]
    refine ev_toRow 3 rfl (pures_lo _ _) ?_
    simp only [go_sem]
    refine ev_frzBox 2 0 3 rfl rfl rfl ?_
    simp only [go_sem]
    refine ev_frzBox 2 1 1 rfl rfl rfl ?_
    simp only [go_sem]
    have hsb : SubV (.agg [.sl true 1 (R.map (slV' true 4 canonV)), .sl true 8 (List.replicate t zvwV)]) (staV (zsta z t)) := by
      rw [hzs]
      refine SubV.agg ⟨subV_sl (subVs_map (fun a => subV_flag _ _ _) R) (pures_lo _ _) ?_, subV_sl ?_ (pures_lo _ _) ?_, trivial⟩
      · exact unif_map (f := slV' false 4 canonV) (fun a => rfl) R
      · rw [show (List.replicate t zvw).map (viewV false) = List.replicate t (viewV false zvw) by simp]
        exact subVs_rep (zvw_sub false) t
      · exact unif_map (f := viewV false) (fun a => rfl) _
    refine ev_obSub 2 _ rfl hsb rfl ?_
    simp only [go_sem]
    refine zst ?_
    refine ev_loopK [1, 4, 9, 11] (fun p : {p : Nat × State // p.1 ≤ l.length ∧ B = bldF p.2 (D.drop p.1) (l.drop p.1) ∧ LowS p.2} => [(13, .int .i64 p.1.1)]) (fun p => [⟨.box false 30, true, 0, nostV⟩, ⟨.row 43, false, 0, .arr 8 (List.replicate t zvwV)⟩, ⟨.box false 30, true, 0, staV p.1.2⟩, ⟨.row 40, false, z.length, .arr 1 (R.map (slV' true 4 canonV))⟩]) (fun p => l.length - p.1.1) (⟨(0, zsta z t), by simp, hB.symm, L0⟩) 4 (by simp only [go_sem]; rfl) ?_ (by first | rfl | (simp only [go_sem]; done)) (by simp) (by first | rfl | (simp only [go_sem]; done)) (by first | rfl | (simp only [go_sem]; done)) (by first | rfl | (simp only [go_sem]; done)) ?_
    · (simp only [go_sem]; (try simp []); done)
    intro J hJ
    rintro ⟨⟨k, x⟩, hk0, hb, Lx⟩
    dsimp only at hk0 hb Lx
    dsimp only
    by_cases hlt : k < l.length
    · have hDk : k < D.length := by omega
      have hlp := hl _ (mem_at hlt)
      rw [List.drop_eq_getElem_cons hlt, List.drop_eq_getElem_cons hDk, bldF, ← getElem!_pos l k hlt, ← getElem!_pos D k hDk] at hb
      have fS := zset_fn x l[k]! Lx hlp
      obtain ⟨y, hy⟩ : ∃ y, y = sSet x l[k]! := ⟨_, rfl⟩
      obtain ⟨y1, y2⟩ := y
      rw [← hy] at fS hb
      dsimp only at fS hb
      refine zst ?_
      refine zcd (fS) ?_
      by_cases c1 : ¬ l[k]!.id.region = D[k]!.region
      · rw [if_neg (fun h => c1 (by rw [h.1]))] at hb
        subst hb
        repeat (first | (simp only [Bool.false_and]; try simp only [go_sem]) | refine And.intro (by omega) ?_ | refine And.intro rfl ?_ | refine ev_ctl rfl rfl ?_ | refine evr_nil ?_ | refine evw_nil (by kernel_rfl) ?_ | (simp (disch := omega) only [takeAll, Nat.min_eq_left, Nat.min_eq_right, if_pos, if_neg, getD_map, wrapI64, modIn, fdivE, tmodE, tdivE, decT, decF, beqT, beqF, bneT, bneF, Int.toNat_natCast]; try simp only [go_sem]) | (refine ev_condTb rfl ?_ ?_; · (simp <;> omega)) | (refine ev_condFb rfl ?_ ?_; · (simp <;> omega)) | ((first | refine ev_region ?_ | refine evr_go rfl ?_ | refine evw_go rfl ?_ | refine ev_dr0 mixed rfl (by kernel_rfl) ?_ | refine ev_dr1 mixed rfl (by kernel_rfl) ?_ | refine ev_dr2 mixed rfl (by kernel_rfl) ?_); simp only [go_sem]))
        refine ev_obSub 0 _ rfl nost_sub rfl ?_
        refine ret m_zbuild_ok [] ?_; (first | (simp only [go_sem]; done) | (simp only [go_sem]; ((try dsimp only); (repeat' (refine And.intro ?_ ?_)) <;> first | with_reducible rfl | (simp only [go_sem]; done) | (simp only [go_sem]; rfl) | (simp only [go_sem, bldR]; done) | (simp only [bldR]; (try simp only [go_sem]); first | done | rfl) | (simp only [go_sem]; simp [bldR]; done) | (simp [bldR]; done) | rfl)))
      have c1 := Decidable.not_not.1 c1
      by_cases c2 : ¬ l[k]!.id.index = D[k]!.index
      · rw [if_neg (fun h => c2 (by rw [h.1]))] at hb
        subst hb
        repeat (first | (simp only [Bool.true_and]; try simp only [go_sem]) | refine And.intro (by omega) ?_ | refine And.intro rfl ?_ | refine ev_ctl rfl rfl ?_ | refine evr_nil ?_ | refine evw_nil (by kernel_rfl) ?_ | (simp (disch := omega) only [takeAll, Nat.min_eq_left, Nat.min_eq_right, if_pos, if_neg, getD_map, wrapI64, modIn, fdivE, tmodE, tdivE, decT, decF, beqT, beqF, bneT, bneF, Int.toNat_natCast]; try simp only [go_sem]) | (refine ev_condTb rfl ?_ ?_; · (simp <;> omega)) | (refine ev_condFb rfl ?_ ?_; · (simp <;> omega)) | ((first | refine ev_region ?_ | refine evr_go rfl ?_ | refine evw_go rfl ?_ | refine ev_dr0 mixed rfl (by kernel_rfl) ?_ | refine ev_dr1 mixed rfl (by kernel_rfl) ?_ | refine ev_dr2 mixed rfl (by kernel_rfl) ?_); simp only [go_sem]))
        refine ev_obSub 0 _ rfl nost_sub rfl ?_
        refine ret m_zbuild_ok [] ?_; (first | (simp only [go_sem]; done) | (simp only [go_sem]; ((try dsimp only); (repeat' (refine And.intro ?_ ?_)) <;> first | with_reducible rfl | (simp only [go_sem]; done) | (simp only [go_sem]; rfl) | (simp only [go_sem, bldR]; done) | (simp only [bldR]; (try simp only [go_sem]); first | done | rfl) | (simp only [go_sem]; simp [bldR]; done) | (simp [bldR]; done) | rfl)))
      have c2 := Decidable.not_not.1 c2
      have hid : l[k]!.id = D[k]! := by
        generalize l[k]!.id = a at c1 c2
        generalize D[k]! = b at c1 c2
        obtain ⟨a1, a2⟩ := a
        obtain ⟨b1, b2⟩ := b
        dsimp only at c1 c2
        rw [c1, c2]
      by_cases c3 : y2 = 0
      rotate_left
      · rw [if_neg (fun h => c3 h.2)] at hb
        subst hb
        repeat (first | (simp only [Bool.true_and]; try simp only [go_sem]) | refine And.intro (by omega) ?_ | refine And.intro rfl ?_ | refine ev_ctl rfl rfl ?_ | refine evr_nil ?_ | refine evw_nil (by kernel_rfl) ?_ | (simp (disch := omega) only [takeAll, Nat.min_eq_left, Nat.min_eq_right, if_pos, if_neg, getD_map, wrapI64, modIn, fdivE, tmodE, tdivE, decT, decF, beqT, beqF, bneT, bneF, Int.toNat_natCast]; try simp only [go_sem]) | (refine ev_condTb rfl ?_ ?_; · (simp <;> omega)) | (refine ev_condFb rfl ?_ ?_; · (simp <;> omega)) | ((first | refine ev_region ?_ | refine evr_go rfl ?_ | refine evw_go rfl ?_ | refine ev_dr0 mixed rfl (by kernel_rfl) ?_ | refine ev_dr1 mixed rfl (by kernel_rfl) ?_ | refine ev_dr2 mixed rfl (by kernel_rfl) ?_); simp only [go_sem]))
        refine ev_obSub 0 _ rfl nost_sub rfl ?_
        refine ret m_zbuild_ok [] ?_; (first | (simp only [go_sem]; done) | (simp only [go_sem]; ((try dsimp only); (repeat' (refine And.intro ?_ ?_)) <;> first | with_reducible rfl | (simp only [go_sem]; done) | (simp only [go_sem]; rfl) | (simp only [go_sem, bldR]; done) | (simp only [bldR]; (try simp only [go_sem]); first | done | rfl) | (simp only [go_sem]; simp [bldR]; done) | (simp [bldR]; done) | rfl)))
      subst c3
      rw [if_pos ⟨hid, rfl⟩] at hb
      have Ly : LowS y1 := by
        have h := set_low Lx hlp (by rw [← hy])
        rw [← hy] at h
        exact h
      repeat (first | (simp only [Bool.true_and]; try simp only [go_sem]) | refine And.intro (by omega) ?_ | refine And.intro rfl ?_ | refine ev_ctl rfl rfl ?_ | refine evr_nil ?_ | refine evw_nil (by kernel_rfl) ?_ | (simp (disch := omega) only [takeAll, Nat.min_eq_left, Nat.min_eq_right, if_pos, if_neg, getD_map, wrapI64, modIn, fdivE, tmodE, tdivE, decT, decF, beqT, beqF, bneT, bneF, Int.toNat_natCast]; try simp only [go_sem]) | (refine ev_condTb rfl ?_ ?_; · (simp <;> omega)) | (refine ev_condFb rfl ?_ ?_; · (simp <;> omega)) | ((first | refine ev_region ?_ | refine evr_go rfl ?_ | refine evw_go rfl ?_ | refine ev_dr0 mixed rfl (by kernel_rfl) ?_ | refine ev_dr1 mixed rfl (by kernel_rfl) ?_ | refine ev_dr2 mixed rfl (by kernel_rfl) ?_); simp only [go_sem]))
      refine ev_next 4 (hJ _ (⟨(k + 1, y1), hlt, hb, Ly⟩) (by first | omega | (dsimp only; omega) | (simp; omega))) rfl (by simp) ?_ (by first | rfl | (simp only [go_sem]; done)) (by first | rfl | (simp only [go_sem]; done)) ?_
      · (first | rfl | (simp only [go_sem]; done) | (simp only [go_sem]; simp only []; done) | (simp only []; done) | (simp only [go_sem]; simp []; done) | (simp []; done))
      · (simp only [go_sem]; (repeat' (refine And.intro ?_ ?_)) <;> first | exact trivial | with_reducible rfl | (simp only []; done) | (simp only []; with_reducible rfl) | (simp []; done) | (simp []; omega) | (simp only []; rfl) | skip)
    · obtain rfl : k = l.length := by omega
      rw [List.drop_of_length_le (by omega), List.drop_of_length_le (by omega), bldF] at hb
      subst hb
      refine zst ?_
      refine ret m_zbuild_ok [] ?_; (first | (simp only [go_sem]; done) | (simp only [go_sem]; ((try dsimp only); (repeat' (refine And.intro ?_ ?_)) <;> first | with_reducible rfl | (simp only [go_sem]; done) | (simp only [go_sem]; rfl) | (simp only [go_sem, bldR]; done) | (simp only [bldR]; (try simp only [go_sem]); first | done | rfl) | (simp only [go_sem]; simp [bldR]; done) | (simp [bldR]; done) | rfl)))
end Go.Proofs.Ytcphobeommkgeaa
