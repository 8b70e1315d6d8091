/- Pages: a page's bytes. -/
import Derived.Test.YtcphobeommkgeaaP20
import Derived.Test.YtcphobeommkgeaaC5
import Derived.Test.YtcphobeommkgeaaP1
namespace Go.Proofs.Ytcphobeommkgeaa
open Go Go.RowKit Rdn Rdn.Dp
set_option linter.unusedVariables false
set_option linter.unusedSimpArgs false
theorem m_pbytes_ok : compF Try.prog 22 = some (39, Qr ([Qw 1 (.box 45 (.t 0)), Qp 2 (.mov (.c (.nilS)))])
 (Qr ([Qf 5 3 2 1, QL 6 8 5, Qw 3 (.alloc 43 (.agg [.int .i64 0, .int .i64 0, .int .i64 0, .int .i64 0, .int .i64 0, .int .i64 0, .int .u16 0, .nilS])), Qs 8 3 6])
 (.seq (.dreg [Qf 7 0 0 1, Qf 8 0 0 7, Ql 9 1 8, Qf 10 0 0 1, Qf 11 1 1 10, Ql 12 1 11, Qw 13 (.buildS 3 1 (.int .i64 0) 2 [(0, (.t 9)), (1, (.t 12))]), Qq 14 56 [(.c (.nilS)), (.t 13)], Qf 15 2 1 1, Ql 16 1 15, Qq 17 55 [(.t 14), (.t 16)], Qm 4 17] [[], [0], [0, 1], [], [3], [3, 4], [0, 1, 2, 3, 4, 5], [0, 1, 2, 3, 4, 5, 6], [], [8], [0, 1, 2, 3, 4, 5, 6, 7, 8, 9], [0, 1, 2, 3, 4, 5, 6, 7, 8, 9, 10]])
 (.seq (.dreg [Qm 18 4, Qf 19 0 0 3, Ql 20 1 19, Qf 21 1 1 3, Ql 22 1 21, Qf 23 2 2 3, Ql 24 1 23, Qf 25 3 3 3, Ql 26 1 25, Qf 27 4 4 3, Ql 28 1 27, Qf 29 5 5 3, Ql 30 1 29, Qf 31 6 6 3, Ql 32 1 31, Qp 33 (.conv .i64 (.t 32)), Qw 34 (.buildS 3 1 (.int .i64 0) 7 [(0, (.t 20)), (1, (.t 22)), (2, (.t 24)), (3, (.t 26)), (4, (.t 28)), (5, (.t 30)), (6, (.t 33))]), Qq 35 56 [(.t 18), (.t 34)], Qf 36 7 7 3, Ql 37 1 36, Qq 38 55 [(.t 35), (.t 37)], Qm 2 38] [[], [], [1], [], [3], [], [5], [], [7], [], [9], [], [11], [], [13], [13, 14], [1, 2, 3, 4, 5, 6, 7, 8, 9, 10, 11, 12, 13, 14, 15], [0, 1, 2, 3, 4, 5, 6, 7, 8, 9, 10, 11, 12, 13, 14, 15, 16], [], [18], [0, 1, 2, 3, 4, 5, 6, 7, 8, 9, 10, 11, 12, 13, 14, 15, 16, 17, 18, 19], [0, 1, 2, 3, 4, 5, 6, 7, 8, 9, 10, 11, 12, 13, 14, 15, 16, 17, 18, 19, 20]])
 (.ret)))), [.mov (.t 2)]) := by kernel_rfl
theorem m_zbytes_ok : compF Try.prog 87 = some (49, Qr ([Qw 1 (.box 45 (.t 0)), Qp 2 (.mov (.c (.nilS)))])
 (.seq (.dreg [Qf 7 0 0 1, Qf 8 0 0 7, Ql 9 1 8, Qq 10 105 [(.c (.nilS)), (.t 9)], Qf 11 0 0 1, Qf 12 1 1 11, Ql 13 1 12, Qq 14 105 [(.t 10), (.t 13)], Qf 15 2 1 1, Ql 16 1 15, Qq 17 104 [(.t 14), (.t 16)], Qm 3 17] [[], [0], [0, 1], [0, 1, 2], [], [4], [4, 5], [0, 1, 2, 3, 4, 5, 6], [], [8], [0, 1, 2, 3, 4, 5, 6, 7, 8, 9], [0, 1, 2, 3, 4, 5, 6, 7, 8, 9, 10]])
 (Qr ([Qf 18 3 2 1, QL 19 8 18, Qw 4 (.alloc 43 (.agg [.int .i64 0, .int .i64 0, .int .i64 0, .int .i64 0, .int .i64 0, .int .i64 0, .int .u16 0, .nilS])), Qs 8 4 19])
 (Qr ([Qf 20 0 0 4, Ql 21 1 20, Qf 22 1 1 4, Ql 23 1 22, Qf 24 2 2 4, Ql 25 1 24, Qf 26 3 3 4, Ql 27 1 26, Qf 28 4 4 4, Ql 29 1 28, Qf 30 5 5 4, Ql 31 1 30, Qf 32 6 6 4, Ql 33 1 32, Qp 34 (.conv .i64 (.t 33)), Qw 35 (.build (some 1) [.int .i64 0, .int .i64 0, .int .i64 0, .int .i64 0, .int .i64 0, .int .i64 0, .int .i64 0] [(0, (.t 21)), (1, (.t 23)), (2, (.t 25)), (3, (.t 27)), (4, (.t 29)), (5, (.t 31)), (6, (.t 34))]), Qw 5 (.alloc 127 (.arr 1 [.int .i64 0, .int .i64 0, .int .i64 0, .int .i64 0, .int .i64 0, .int .i64 0, .int .i64 0])), Qs 7 5 35])
 (.seq (Qr ([Qp 6 (.mov (Qi 0))])
 (.block 0 (.loop (.seq (Qr ([Qm 36 6, Qk 37 .lss 36 7])
 (.cond (.t 37) (.skip) (.exit 0)))
 (.seq (.block 1 (.reg [Qm 40 3, Qm 41 6, Qp 42 (.idxAA 7 1 (.t 5) (.t 41)), Ql 43 1 42, Qq 44 105 [(.t 40), (.t 43)], Qm 3 44]))
 (.reg [Qm 38 6, Qk 39 .add 38 1, Qm 6 39]))))))
 (Qr ([Qm 45 3, Qf 46 7 7 4, Ql 47 1 46, Qq 48 104 [(.t 45), (.t 47)], Qm 2 48])
 (.ret)))))), [.mov (.t 2)]) := by kernel_rfl
/-- The bytes of a page. -/
def pgB (p : Page) : List Int := num8 p.id.region ++ num8 p.id.index ++ celB p.cells ++ (num8 p.view.state ++ num8 p.view.pc ++ num8 p.view.count ++ num8 p.view.handler ++ num8 p.view.saved ++ num8 p.view.trap ++ num8 p.view.code) ++ celB p.view.regs
theorem celB_len (l : List Canon) : (celB l).length = 8 + 32 * l.length := by simp only [celB, List.length_append, num8_len, cansB_len]
theorem nums2 (a b : Int) : nums [a, b] = num8 a ++ num8 b := by simp [nums]
theorem nums7 (a b c d e f g : Int) : nums [a, b, c, d, e, f, g] = num8 a ++ num8 b ++ num8 c ++ num8 d ++ num8 e ++ num8 f ++ num8 g := by simp [nums]
theorem nums_new (l : List Int) (h : l.length ≤ 100) : Fnc Try.prog 56 [.nilS, .sl false 1 (i64s l)] (fun x obs => x = .own 0 0 ∧ obs = [⟨.row 5, true, 0, .arr 1 (u8s (nums l))⟩]) := FncA.nil (by decide) (nums_fn [] l (by simp; omega))
theorem znum_new (n : Int) : Fnc Try.prog 105 [.nilS, .int .i64 n] (fun x obs => x = .own 0 0 ∧ obs = [⟨.row 5, true, 0, .arr 1 (u8s (num8 n))⟩]) := FncA.nil (by decide) (znum_fn [] n (by simp))
set_option maxHeartbeats 4000000 in
theorem pbytes_fn (p : Page) (h1 : p.cells.length ≤ 1000000) (h2 : p.view.regs.length ≤ 1000000) : Fnc Try.prog 22 [pgV false p] (fun x obs => x = .sl true 1 (u8s (pgB p)) ∧ obs = []) := by
  refine Fnc.wf fun hw => ?_
  simp only [V.wfs, V.wf, wfs_map, List.length_map] at hw
  have hv := inK_u16' hw.1.2.2.1.2.2.2.2.2.2.1
  clear hw
  have e2 := nums2 p.id.region p.id.index
  have e7 := nums7 p.view.state p.view.pc p.view.count p.view.handler p.view.saved p.view.trap p.view.code
  have l2 : (nums [p.id.region, p.id.index]).length = 16 := by rw [nums_len]; rfl
  have lc := celB_len p.cells
  have l7 : (nums [p.view.state, p.view.pc, p.view.count, p.view.handler, p.view.saved, p.view.trap, p.view.code]).length = 56 := by rw [nums_len]; rfl
  refine Fnc.intro m_pbytes_ok (by simp) fun W S => ?_
  simp only [ents, Nat.zero_add, Nat.reduceAdd, Qm, Qc, Ql, QL, Qf, Qs, Qb, Qk, QB, Qn, Qe, Qx, Qt, Qu, Q0, Q1, Qp, Qw, Qq, Qr, Qi]
  refine zso ?_
  refine zso ?_
  refine ev_draw (fu := fu8) mixed [7] 1 rfl (by kernel_rfl) ?_; simp only [go_sem]
  repeat (first | refine And.intro (by omega) ?_ | refine And.intro rfl ?_ | refine ev_ctl rfl rfl ?_ | refine evr_nil ?_ | refine evw_nil (by kernel_rfl) ?_ | (simp (disch := omega) only [takeAll, Nat.min_eq_left, Nat.min_eq_right, if_pos, if_neg, getD_map, wrapI64, modIn, fdivE, tmodE, tdivE, decT, decF, beqT, beqF, bneT, bneF, Int.toNat_natCast]; try simp only [go_sem]) | (refine ev_condTb rfl ?_ ?_; · (simp <;> omega)) | (refine ev_condFb rfl ?_ ?_; · (simp <;> omega)) | ((first | refine ev_region ?_ | refine evr_go rfl ?_ | refine evw_gom [7] rfl ?_ | refine ev_dr0 mixed rfl (by kernel_rfl) ?_ | refine ev_dr1 mixed rfl (by kernel_rfl) ?_ | refine ev_dr2 mixed rfl (by kernel_rfl) ?_); simp only [go_sem]))
  refine zcx (nums_new [p.id.region, p.id.index] (by simp)) ?_
  refine Rdn.Dp.zca (plistb_fn (nums [p.id.region, p.id.index]) p.cells (by omega)) ?_
  refine Rdn.Dp.zca (nums_fn (nums [p.id.region, p.id.index] ++ celB p.cells) [p.view.state, p.view.pc, p.view.count, p.view.handler, p.view.saved, p.view.trap, p.view.code] (by simp only [List.length_append, List.length_cons, List.length_nil]; omega)) ?_
  refine Rdn.Dp.zca (plistb_fn (nums [p.id.region, p.id.index] ++ celB p.cells ++ nums [p.view.state, p.view.pc, p.view.count, p.view.handler, p.view.saved, p.view.trap, p.view.code]) p.view.regs (by simp only [List.length_append]; omega)) ?_
  have hz : nums [p.id.region, p.id.index] ++ celB p.cells ++ nums [p.view.state, p.view.pc, p.view.count, p.view.handler, p.view.saved, p.view.trap, p.view.code] ++ celB p.view.regs = pgB p := by rw [e2, e7, pgB]
  rw [hz]
  exact zrt m_pbytes_ok
def vwl (v : View) : List Int := [v.state, v.pc, v.count, v.handler, v.saved, v.trap, v.code]
theorem nums_app (a : List Int) (x : Int) : nums (a ++ [x]) = nums a ++ num8 x := by simp [nums]
set_option maxHeartbeats 4000000 in
theorem zbytes_fn (p : Page) (h1 : p.cells.length ≤ 1000000) (h2 : p.view.regs.length ≤ 1000000) : Fnc Try.prog 87 [pgV false p] (fun x obs => x = .sl true 1 (u8s (pgB p)) ∧ obs = []) := by
  refine Fnc.wf fun hw => ?_
  simp only [V.wfs, V.wf, wfs_map, List.length_map] at hw
  have hv := inK_u16' hw.1.2.2.1.2.2.2.2.2.2.1
  clear hw
  have l2 := num8_len p.id.region
  have l3 := num8_len p.id.index
  have lc := celB_len p.cells
  refine Fnc.intro m_zbytes_ok (by simp) fun W S => ?_
  simp only [ents, Nat.zero_add, Nat.reduceAdd, Qm, Qc, Ql, QL, Qf, Qs, Qb, Qk, QB, Qn, Qe, Qx, Qt, Qu, Q0, Q1, Qp, Qw, Qq, Qr, Qi]
  refine zso ?_
  refine zso ?_
  refine ev_draw (fu := fu8) mixed [3] 1 rfl (by kernel_rfl) ?_; simp only [go_sem]
  repeat (first | refine And.intro (by omega) ?_ | refine And.intro rfl ?_ | refine ev_ctl rfl rfl ?_ | refine evr_nil ?_ | refine evw_nil (by kernel_rfl) ?_ | (simp (disch := omega) only [takeAll, Nat.min_eq_left, Nat.min_eq_right, if_pos, if_neg, getD_map, wrapI64, modIn, fdivE, tmodE, tdivE, decT, decF, beqT, beqF, bneT, bneF, Int.toNat_natCast]; try simp only [go_sem]) | (refine ev_condTb rfl ?_ ?_; · (simp <;> omega)) | (refine ev_condFb rfl ?_ ?_; · (simp <;> omega)) | ((first | refine ev_region ?_ | refine evr_go rfl ?_ | refine evw_gom [3] rfl ?_ | refine ev_dr0 mixed rfl (by kernel_rfl) ?_ | refine ev_dr1 mixed rfl (by kernel_rfl) ?_ | refine ev_dr2 mixed rfl (by kernel_rfl) ?_); simp only [go_sem]))
  refine zcx (znum_new p.id.region) ?_
  refine Rdn.Dp.zca (znum_fn (num8 p.id.region) p.id.index (by omega)) ?_
  refine Rdn.Dp.zca (zcells_fn (num8 p.id.region ++ num8 p.id.index) p.cells (by simp only [List.length_append]; omega)) ?_
  have hvl : (vwl p.view).length = 7 := rfl
  refine ev_loopK [4, 5] (fun q : {q : Nat // q ≤ 7} => [(3, .own 1 (3 + q.1)), (6, .int .i64 q.1)]) (fun q => [⟨.box false 45, true, 0, pgV false p⟩, ⟨.row 5, true, 3 + q.1, .arr 1 (u8s (num8 p.id.region ++ num8 p.id.index ++ celB p.cells ++ nums ((vwl p.view).take q.1)))⟩, ⟨.box false 43, true, 0, viewV false p.view⟩, ⟨.box false 127, true, 0, .arr 1 (i64s (vwl p.view))⟩]) (fun q => 7 - q.1) (⟨0, by simp⟩) 4 (by simp only [go_sem]; rfl) ?_ (by first | rfl | (simp only [go_sem]; done) | (simp only [go_sem]; simp [nums_nil, vwl]; done)) (by simp) (by first | rfl | (simp only [go_sem]; done)) (by first | rfl | (simp only [go_sem]; done)) (by first | rfl | (simp only [go_sem]; done) | (simp only [nums_nil, vwl]; (try simp only [go_sem]); first | done | rfl)) ?_
  · (simp only [go_sem]; (try simp [nums_nil, vwl]); done)
  intro J hJ
  rintro ⟨k, hk0⟩
  have hk := nums_len ((vwl p.view).take k)
  rw [List.length_take, hvl, Nat.min_eq_left hk0] at hk
  by_cases hlt : k < 7
  · have hn := nums_take (vwl p.view) k (by omega)
    refine zst ?_
    refine Rdn.Dp.zca (znum_fn (num8 p.id.region ++ num8 p.id.index ++ celB p.cells ++ nums ((vwl p.view).take k)) (vwl p.view)[k]! (by simp only [List.length_append]; omega)) ?_
    have hg : 3 + k + 1 = 3 + (k + 1) := by omega
    exact zn4 (hJ _ (⟨k + 1, hlt⟩) (by first | omega | (dsimp only; omega) | (simp; omega))) (And.intro hn (hg))
  · obtain rfl : k = 7 := by omega
    have ht : (vwl p.view).take 7 = vwl p.view := rfl
    dsimp only
    rw [ht] at hk ⊢
    refine zst ?_
    refine Rdn.Dp.zca (zcells_fn (num8 p.id.region ++ num8 p.id.index ++ celB p.cells ++ nums (vwl p.view)) p.view.regs (by simp only [List.length_append]; omega)) ?_
    have hz : num8 p.id.region ++ num8 p.id.index ++ celB p.cells ++ nums (vwl p.view) ++ celB p.view.regs = pgB p := by rw [vwl, nums7, pgB]
    rw [hz]
    exact zrt m_zbytes_ok
end Go.Proofs.Ytcphobeommkgeaa
