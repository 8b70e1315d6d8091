/- Standby: Rebuild of the product. -/
import Derived.Test.YtdpfglkjhdnbbaaGreatR6
import Derived.Test.YtdpfglkjhdnbbaaGreatC5
import Derived.Test.YtdpfglkjhdnbbaaGreatMp
namespace Go.Proofs.YtdpfglkjhdnbbaaGreat
open Go Go.RowKit Rdn Rdn.Dp
set_option linter.unusedVariables false
set_option linter.unusedSimpArgs false
theorem m_sreb_ok : compF Tryz.prog 73 = some (54, Qr ([Qw 2 (.alloc 31 (.agg [.int .i64 0, .int .i64 0, .int .i64 0, .nilS])), Qp 3 (.mov (Qi 0)), Qp 4 (.mov (Qi 0))])
 (Qr ([Qw 12 (.build none [.agg [.int .i64 0, .int .i64 0, .int .i64 0, .nilS], .int .i64 0] []), Qw 13 (.box 129 (.t 12)), Qm 5 13])
 (Qr ([Qw 14 (.mkM 130), Qm 15 5, Qp 16 (.mkb 100 (.t 15)), ⟨none, none, (.m (.ins 130 (.t 14) (Qi 6) (.t 16)))⟩, Qm 17 5, Qp 18 (.mkb 101 (.t 17)), ⟨none, none, (.m (.ins 130 (.t 14) (Qi 3) (.t 18)))⟩, Qm 19 5, Qp 20 (.mkb 102 (.t 19)), ⟨none, none, (.m (.ins 130 (.t 14) (Qi 4) (.t 20)))⟩, Qm 21 5, Qp 22 (.mkb 103 (.t 21)), ⟨none, none, (.m (.ins 130 (.t 14) (Qi 5) (.t 22)))⟩, Qm 23 14, Qm 6 23])
 (.seq (Qr ([Qm 24 0, Qn 25 24, Qp 26 (.mov (Qi 0))])
 (.block 0 (.loop (Qr ([Qb 27 .lss 26 25])
 (.seq (.cond (.t 27) (.skip) (.exit 0))
 (.seq (.block 1 (Qr ([Qx 28 4 24 26, QL 29 4 28, Qw 8 (.alloc 42 (.agg [.int .i64 0, .int .i64 0, .int .i64 0, .nilS])), Qs 4 8 29])
 (Qr ([Qm 31 6, Qf 32 0 0 8, Ql 33 1 32, Qw 34 (.lk 130 (.t 31) (.t 33)), Qm 30 34, Qe 35 30 0, Qe 36 30 1, Qm 9 35, Qm 10 36])
 (Qr ([Qm 37 10])
 (.cond (.t 37) (Qr ([Qm 38 9, QL 39 4 8, ⟨(some 40), none, (.callv (.t 38) [(.t 39)])⟩, Qm 11 40])
 (Qr ([Qm 41 11, Qk 42 .neq 41 0])
 (.cond (.t 42) (Qr ([Qw 43 (.build none [.int .i64 0, .int .i64 0, .int .i64 0, .nilS] []), Qm 44 11, Qs 4 2 43, Qp 3 (.mov (Qi 0)), Qm 4 44])
 (.ret)) (.skip)))) (.skip))))))
 (.reg [Qk 45 .add 26 1, Qm 26 45])))))))
 (.seq (.dreg [Qm 46 5, Qp 47 (.nilc (.t 46)), Qf 48 0 0 47, QL 49 4 48, Qm 50 5, Qp 51 (.nilc (.t 50)), Qf 52 4 1 51, Ql 53 1 52, Qs 4 2 49, Qm 3 53, Qp 4 (.mov (Qi 0))] [[], [0], [0, 1], [0, 1, 2], [], [4], [4, 5], [4, 5, 6], [0, 1, 2, 3], [0, 1, 2, 3, 4, 5, 6, 7, 8], [0, 1, 2, 3, 4, 5, 6, 7, 8, 9]])
 (.ret))))), [.load true 4 (.t 2), .mov (.t 3), .mov (.t 4)]) := by kernel_rfl
abbrev tblE : List (Int × FuncId) := [(6, 100), (3, 101), (4, 102), (5, 103)]
theorem ef_sub : SubV (.agg [.agg [.int .i64 0, .int .i64 0, .int .i64 0, .nilS], .int .i64 0]) (efV g0 0) := SubV.agg ⟨SubV.agg ⟨SubV.refl _, SubV.refl _, SubV.refl _, SubV.nil _ _, trivial⟩, SubV.refl _, trivial⟩
theorem gw_sub : SubV (.agg [.int .i64 0, .int .i64 0, .int .i64 0, .nilS]) (.agg (gwL false g0)) := SubV.agg ⟨SubV.refl _, SubV.refl _, SubV.refl _, SubV.nil _ _, trivial⟩
set_option maxHeartbeats 8000000 in
theorem sreb_fn (l : List Note) : Fnc Tryz.prog 73 [.sl false 4 (l.map (noteV false))] (fun x obs => x = .tup [.agg (gwL false (sReb l).1), .int .i64 (sReb l).2.1, .int .i64 (sReb l).2.2] ∧ obs = []) := by
  refine Fnc.low ?_
  refine Fnc.wf fun hw => ?_
  simp only [V.wfs, V.wf, List.length_map] at hw
  have hm := hw.1.2
  clear hw
  unfold sReb
  obtain ⟨B, hB⟩ : ∃ B, rebF g0 0 l = B := ⟨_, rfl⟩
  rw [hB]
  refine Fnc.intro m_sreb_ok (by simp) fun W S => ?_
  simp only [ents, Nat.zero_add, Nat.reduceAdd, Qm, Qc, Ql, QL, Qf, Qs, Qb, Qk, QB, Qn, Qe, Qx, Qt, Qu, Q0, Q1, Qp, Qw, Qq, Qr, Qi]
  refine zsu ?_
  refine ev_region ?_; refine zev ?_; repeat (first | refine ev_seq ?_ | refine ev_block ?_ | refine ev_skip ?_ | refine ev_inBlock ?_ | refine evr_nil ?_ | refine evw_nil (by kernel_rfl) ?_ | refine ev_exit rfl ?_ | refine ev_round ?_ | refine ev_condT rfl ?_ | refine ev_condF rfl ?_ | refine ev_condTb rfl (by first | exact decT (by omega) | exact beqT (by omega) | exact bneT (by omega) | exact notT (decF (by omega)) | exact notT (beqF (by omega))) ?_ | refine ev_condFb rfl (by first | exact decF (by omega) | exact beqF (by omega) | exact bneF (by omega) | exact notF (decT (by omega)) | exact notF (beqT (by omega))) ?_)
  refine ev_region ?_; refine zev ?_; repeat (first | refine ev_seq ?_ | refine ev_block ?_ | refine ev_skip ?_ | refine ev_inBlock ?_ | refine evr_nil ?_ | refine evw_nil (by kernel_rfl) ?_ | refine ev_exit rfl ?_ | refine ev_round ?_ | refine ev_condT rfl ?_ | refine ev_condF rfl ?_ | refine ev_condTb rfl (by first | exact decT (by omega) | exact beqT (by omega) | exact bneT (by omega) | exact notT (decF (by omega)) | exact notT (beqF (by omega))) ?_ | refine ev_condFb rfl (by first | exact decF (by omega) | exact beqF (by omega) | exact bneF (by omega) | exact notF (decT (by omega)) | exact notF (beqT (by omega))) ?_)
  refine ev_obSub 1 _ rfl ef_sub rfl ?_
  simp only [go_sem]
  refine ev_reg ?_
  refine evt_mk (u := .ptr 1 0 [] 0) 5 rfl (by decide) trivial ?_
  simp only [go_sem]
  refine evt_p (by decide) trivial ?_
  simp only [go_sem]
  refine evt_p (by decide) trivial ?_
  simp only [go_sem]
  refine evt_ins (f := 100) (by simp [obV]) rfl rfl ?_
  simp only [go_sem]
  refine evt_p (by decide) trivial ?_
  simp only [go_sem]
  refine evt_p (by decide) trivial ?_
  simp only [go_sem]
  refine evt_ins (f := 101) (by simp [obV]) rfl rfl ?_
  simp only [go_sem]
  refine evt_p (by decide) trivial ?_
  simp only [go_sem]
  refine evt_p (by decide) trivial ?_
  simp only [go_sem]
  refine evt_ins (f := 102) (by simp [obV]) rfl rfl ?_
  simp only [go_sem]
  refine evt_p (by decide) trivial ?_
  simp only [go_sem]
  refine evt_p (by decide) trivial ?_
  simp only [go_sem]
  refine evt_ins (f := 103) (by simp [obV]) rfl rfl ?_
  simp only [go_sem]
  refine evt_end ?_
  refine zst ?_
  refine ev_loopK [2, 5, 6, 24, 25] (fun p : {p : Nat × Gateway × Int // p.1 ≤ l.length ∧ B = rebF p.2.1 p.2.2 (l.drop p.1) ∧ fitG p.2.1} => [(26, .int .i64 p.1.1)]) (fun p => [⟨.box false 31, true, 0, .agg [.int .i64 0, .int .i64 0, .int .i64 0, .nilS]⟩, ⟨.box false 129, true, 0, efV p.1.2.1 p.1.2.2⟩]) (fun p => l.length - p.1.1) (⟨(0, g0, 0), by simp, hB.symm, g0_fit⟩) 2 (by simp only [go_sem]; rfl) ?_ (by first | rfl | (simp only [go_sem]; done)) (by simp) (by first | rfl | (simp only [go_sem]; done)) (by first | rfl | (simp only [go_sem]; done)) (by first | rfl | (simp only [go_sem]; done)) ?_
  · (simp only [go_sem]; (try simp []); done)
  intro J hJ
  rintro ⟨⟨k, g, e⟩, hk0, hb, hg⟩
  dsimp only at hk0 hb hg
  dsimp only
  by_cases hlt : k < l.length
  · rw [List.drop_eq_getElem_cons hlt, rebF, ← getElem!_pos l k hlt] at hb
    have hgf := effS_fit (e := e) (n := l[k]!) hg
    by_cases c6 : l[k]!.kind = 6
    · have fE := eout_fn g e l[k]! hg c6
      have hl : lkp tblE l[k]!.kind = some 100 := by rw [c6]; rfl
      generalize effS g e l[k]! = q at fE hb hgf
      obtain ⟨g', e', z⟩ := q
      dsimp only at fE hb hgf
      refine zsu ?_
      refine ev_region ?_; refine zev ?_; repeat (first | refine ev_seq ?_ | refine ev_block ?_ | refine ev_skip ?_ | refine ev_inBlock ?_ | refine evr_nil ?_ | refine evw_nil (by kernel_rfl) ?_ | refine ev_exit rfl ?_ | refine ev_round ?_ | refine ev_condT rfl ?_ | refine ev_condF rfl ?_ | refine ev_condTb rfl (by first | exact decT (by omega) | exact beqT (by omega) | exact bneT (by omega) | exact notT (decF (by omega)) | exact notT (beqF (by omega))) ?_ | refine ev_condFb rfl (by first | exact decF (by omega) | exact beqF (by omega) | exact bneF (by omega) | exact notF (decT (by omega)) | exact notF (beqT (by omega))) ?_)
      refine ev_region ?_; refine zev ?_; repeat (first | refine ev_seq ?_ | refine ev_block ?_ | refine ev_skip ?_ | refine ev_inBlock ?_ | refine evr_nil ?_ | refine evw_nil (by kernel_rfl) ?_ | refine ev_exit rfl ?_ | refine ev_round ?_ | refine ev_condT rfl ?_ | refine ev_condF rfl ?_ | refine ev_condTb rfl (by first | exact decT (by omega) | exact beqT (by omega) | exact bneT (by omega) | exact notT (decF (by omega)) | exact notT (beqF (by omega))) ?_ | refine ev_condFb rfl (by first | exact decF (by omega) | exact beqF (by omega) | exact bneF (by omega) | exact notF (decT (by omega)) | exact notF (beqT (by omega))) ?_)
      refine ev_reg (ev_all (fu := [(), (), ()]) ?_); refine zev ?_
      refine evr_g (gen_lk (ents := tblE) (u := .ptr 1 0 [] 0) (n := l[k]!.kind) rfl rfl) rfl ?_
      rw [hl]
      simp only [lkV]
      simp only [go_sem]
      refine zst ?_
      refine evr_callB (f := 100) (T := 129) fE (by kernel_rfl) rfl rfl rfl rfl (by first | rfl | (simp only [go_sem]; done)) (by first | rfl | (simp only [go_sem]; done)) (by first | rfl | (simp only [go_sem]; done)) (by first | rfl | (simp only [go_sem]; done)) ?_
      simp only [go_sem]
      by_cases hz : z = 0
      · subst hz
        rw [if_pos rfl] at hb
        refine zst ?_
        refine ev_next 2 (hJ _ (⟨(k + 1, g', e'), hlt, hb, hgf⟩) (by first | omega | (dsimp only; omega) | (simp; omega))) rfl (by simp) ?_ (by first | rfl | (simp only [go_sem]; done)) (by first | rfl | (simp only [go_sem]; done)) ?_
        · (first | rfl | (simp only [go_sem]; done) | (simp only [go_sem]; simp only []; done) | (simp only []; done) | (simp only [go_sem]; simp []; done) | (simp []; done))
        · (simp only [go_sem]; (repeat' (refine And.intro ?_ ?_)) <;> first | exact trivial | with_reducible rfl | (simp only []; done) | (simp only []; with_reducible rfl) | (simp []; done) | (simp []; omega) | (simp only []; rfl) | skip)
      · rw [if_neg hz] at hb
        subst hb
        refine zst ?_
        refine ev_obSub 0 _ rfl gw_sub rfl ?_
        exact zrt m_sreb_ok
    by_cases c3 : l[k]!.kind = 3
    · have fE := efree_fn g e l[k]! hg c3
      have hl : lkp tblE l[k]!.kind = some 101 := by rw [c3]; rfl
      generalize effS g e l[k]! = q at fE hb hgf
      obtain ⟨g', e', z⟩ := q
      dsimp only at fE hb hgf
      refine zsu ?_
      refine ev_region ?_; refine zev ?_; repeat (first | refine ev_seq ?_ | refine ev_block ?_ | refine ev_skip ?_ | refine ev_inBlock ?_ | refine evr_nil ?_ | refine evw_nil (by kernel_rfl) ?_ | refine ev_exit rfl ?_ | refine ev_round ?_ | refine ev_condT rfl ?_ | refine ev_condF rfl ?_ | refine ev_condTb rfl (by first | exact decT (by omega) | exact beqT (by omega) | exact bneT (by omega) | exact notT (decF (by omega)) | exact notT (beqF (by omega))) ?_ | refine ev_condFb rfl (by first | exact decF (by omega) | exact beqF (by omega) | exact bneF (by omega) | exact notF (decT (by omega)) | exact notF (beqT (by omega))) ?_)
      refine ev_region ?_; refine zev ?_; repeat (first | refine ev_seq ?_ | refine ev_block ?_ | refine ev_skip ?_ | refine ev_inBlock ?_ | refine evr_nil ?_ | refine evw_nil (by kernel_rfl) ?_ | refine ev_exit rfl ?_ | refine ev_round ?_ | refine ev_condT rfl ?_ | refine ev_condF rfl ?_ | refine ev_condTb rfl (by first | exact decT (by omega) | exact beqT (by omega) | exact bneT (by omega) | exact notT (decF (by omega)) | exact notT (beqF (by omega))) ?_ | refine ev_condFb rfl (by first | exact decF (by omega) | exact beqF (by omega) | exact bneF (by omega) | exact notF (decT (by omega)) | exact notF (beqT (by omega))) ?_)
      refine ev_reg (ev_all (fu := [(), (), ()]) ?_); refine zev ?_
      refine evr_g (gen_lk (ents := tblE) (u := .ptr 1 0 [] 0) (n := l[k]!.kind) rfl rfl) rfl ?_
      rw [hl]
      simp only [lkV]
      simp only [go_sem]
      refine zst ?_
      refine evr_callB (f := 101) (T := 129) fE (by kernel_rfl) rfl rfl rfl rfl (by first | rfl | (simp only [go_sem]; done)) (by first | rfl | (simp only [go_sem]; done)) (by first | rfl | (simp only [go_sem]; done)) (by first | rfl | (simp only [go_sem]; done)) ?_
      simp only [go_sem]
      by_cases hz : z = 0
      · subst hz
        rw [if_pos rfl] at hb
        refine zst ?_
        refine ev_next 2 (hJ _ (⟨(k + 1, g', e'), hlt, hb, hgf⟩) (by first | omega | (dsimp only; omega) | (simp; omega))) rfl (by simp) ?_ (by first | rfl | (simp only [go_sem]; done)) (by first | rfl | (simp only [go_sem]; done)) ?_
        · (first | rfl | (simp only [go_sem]; done) | (simp only [go_sem]; simp only []; done) | (simp only []; done) | (simp only [go_sem]; simp []; done) | (simp []; done))
        · (simp only [go_sem]; (repeat' (refine And.intro ?_ ?_)) <;> first | exact trivial | with_reducible rfl | (simp only []; done) | (simp only []; with_reducible rfl) | (simp []; done) | (simp []; omega) | (simp only []; rfl) | skip)
      · rw [if_neg hz] at hb
        subst hb
        refine zst ?_
        refine ev_obSub 0 _ rfl gw_sub rfl ?_
        exact zrt m_sreb_ok
    by_cases c4 : l[k]!.kind = 4
    · have fE := eack_fn g e l[k]! hg c4
      have hl : lkp tblE l[k]!.kind = some 102 := by rw [c4]; rfl
      generalize effS g e l[k]! = q at fE hb hgf
      obtain ⟨g', e', z⟩ := q
      dsimp only at fE hb hgf
      refine zsu ?_
      refine ev_region ?_; refine zev ?_; repeat (first | refine ev_seq ?_ | refine ev_block ?_ | refine ev_skip ?_ | refine ev_inBlock ?_ | refine evr_nil ?_ | refine evw_nil (by kernel_rfl) ?_ | refine ev_exit rfl ?_ | refine ev_round ?_ | refine ev_condT rfl ?_ | refine ev_condF rfl ?_ | refine ev_condTb rfl (by first | exact decT (by omega) | exact beqT (by omega) | exact bneT (by omega) | exact notT (decF (by omega)) | exact notT (beqF (by omega))) ?_ | refine ev_condFb rfl (by first | exact decF (by omega) | exact beqF (by omega) | exact bneF (by omega) | exact notF (decT (by omega)) | exact notF (beqT (by omega))) ?_)
      refine ev_region ?_; refine zev ?_; repeat (first | refine ev_seq ?_ | refine ev_block ?_ | refine ev_skip ?_ | refine ev_inBlock ?_ | refine evr_nil ?_ | refine evw_nil (by kernel_rfl) ?_ | refine ev_exit rfl ?_ | refine ev_round ?_ | refine ev_condT rfl ?_ | refine ev_condF rfl ?_ | refine ev_condTb rfl (by first | exact decT (by omega) | exact beqT (by omega) | exact bneT (by omega) | exact notT (decF (by omega)) | exact notT (beqF (by omega))) ?_ | refine ev_condFb rfl (by first | exact decF (by omega) | exact beqF (by omega) | exact bneF (by omega) | exact notF (decT (by omega)) | exact notF (beqT (by omega))) ?_)
      refine ev_reg (ev_all (fu := [(), (), ()]) ?_); refine zev ?_
      refine evr_g (gen_lk (ents := tblE) (u := .ptr 1 0 [] 0) (n := l[k]!.kind) rfl rfl) rfl ?_
      rw [hl]
      simp only [lkV]
      simp only [go_sem]
      refine zst ?_
      refine evr_callB (f := 102) (T := 129) fE (by kernel_rfl) rfl rfl rfl rfl (by first | rfl | (simp only [go_sem]; done)) (by first | rfl | (simp only [go_sem]; done)) (by first | rfl | (simp only [go_sem]; done)) (by first | rfl | (simp only [go_sem]; done)) ?_
      simp only [go_sem]
      by_cases hz : z = 0
      · subst hz
        rw [if_pos rfl] at hb
        refine zst ?_
        refine ev_next 2 (hJ _ (⟨(k + 1, g', e'), hlt, hb, hgf⟩) (by first | omega | (dsimp only; omega) | (simp; omega))) rfl (by simp) ?_ (by first | rfl | (simp only [go_sem]; done)) (by first | rfl | (simp only [go_sem]; done)) ?_
        · (first | rfl | (simp only [go_sem]; done) | (simp only [go_sem]; simp only []; done) | (simp only []; done) | (simp only [go_sem]; simp []; done) | (simp []; done))
        · (simp only [go_sem]; (repeat' (refine And.intro ?_ ?_)) <;> first | exact trivial | with_reducible rfl | (simp only []; done) | (simp only []; with_reducible rfl) | (simp []; done) | (simp []; omega) | (simp only []; rfl) | skip)
      · rw [if_neg hz] at hb
        subst hb
        refine zst ?_
        refine ev_obSub 0 _ rfl gw_sub rfl ?_
        exact zrt m_sreb_ok
    by_cases c5 : l[k]!.kind = 5
    · have fE := ebeg_fn g e l[k]! c5
      have hl : lkp tblE l[k]!.kind = some 103 := by rw [c5]; rfl
      generalize effS g e l[k]! = q at fE hb hgf
      obtain ⟨g', e', z⟩ := q
      dsimp only at fE hb hgf
      refine zsu ?_
      refine ev_region ?_; refine zev ?_; repeat (first | refine ev_seq ?_ | refine ev_block ?_ | refine ev_skip ?_ | refine ev_inBlock ?_ | refine evr_nil ?_ | refine evw_nil (by kernel_rfl) ?_ | refine ev_exit rfl ?_ | refine ev_round ?_ | refine ev_condT rfl ?_ | refine ev_condF rfl ?_ | refine ev_condTb rfl (by first | exact decT (by omega) | exact beqT (by omega) | exact bneT (by omega) | exact notT (decF (by omega)) | exact notT (beqF (by omega))) ?_ | refine ev_condFb rfl (by first | exact decF (by omega) | exact beqF (by omega) | exact bneF (by omega) | exact notF (decT (by omega)) | exact notF (beqT (by omega))) ?_)
      refine ev_region ?_; refine zev ?_; repeat (first | refine ev_seq ?_ | refine ev_block ?_ | refine ev_skip ?_ | refine ev_inBlock ?_ | refine evr_nil ?_ | refine evw_nil (by kernel_rfl) ?_ | refine ev_exit rfl ?_ | refine ev_round ?_ | refine ev_condT rfl ?_ | refine ev_condF rfl ?_ | refine ev_condTb rfl (by first | exact decT (by omega) | exact beqT (by omega) | exact bneT (by omega) | exact notT (decF (by omega)) | exact notT (beqF (by omega))) ?_ | refine ev_condFb rfl (by first | exact decF (by omega) | exact beqF (by omega) | exact bneF (by omega) | exact notF (decT (by omega)) | exact notF (beqT (by omega))) ?_)
      refine ev_reg (ev_all (fu := [(), (), ()]) ?_); refine zev ?_
      refine evr_g (gen_lk (ents := tblE) (u := .ptr 1 0 [] 0) (n := l[k]!.kind) rfl rfl) rfl ?_
      rw [hl]
      simp only [lkV]
      simp only [go_sem]
      refine zst ?_
      refine evr_callB (f := 103) (T := 129) fE (by kernel_rfl) rfl rfl rfl rfl (by first | rfl | (simp only [go_sem]; done)) (by first | rfl | (simp only [go_sem]; done)) (by first | rfl | (simp only [go_sem]; done)) (by first | rfl | (simp only [go_sem]; done)) ?_
      simp only [go_sem]
      by_cases hz : z = 0
      · subst hz
        rw [if_pos rfl] at hb
        refine zst ?_
        refine ev_next 2 (hJ _ (⟨(k + 1, g', e'), hlt, hb, hgf⟩) (by first | omega | (dsimp only; omega) | (simp; omega))) rfl (by simp) ?_ (by first | rfl | (simp only [go_sem]; done)) (by first | rfl | (simp only [go_sem]; done)) ?_
        · (first | rfl | (simp only [go_sem]; done) | (simp only [go_sem]; simp only []; done) | (simp only []; done) | (simp only [go_sem]; simp []; done) | (simp []; done))
        · (simp only [go_sem]; (repeat' (refine And.intro ?_ ?_)) <;> first | exact trivial | with_reducible rfl | (simp only []; done) | (simp only []; with_reducible rfl) | (simp []; done) | (simp []; omega) | (simp only []; rfl) | skip)
      · rw [if_neg hz] at hb
        subst hb
        refine zst ?_
        refine ev_obSub 0 _ rfl gw_sub rfl ?_
        exact zrt m_sreb_ok
    have hl : lkp tblE l[k]!.kind = none := by
      unfold tblE lkp
      rw [if_neg (by omega), lkp, if_neg (by omega), lkp, if_neg (by omega), lkp, if_neg (by omega), lkp]
    have he : effS g e l[k]! = (g, e, 0) := by
      unfold effS
      rw [if_neg c6, if_neg c3, if_neg c4, if_neg c5]
    rw [he, if_pos rfl] at hb
    refine zsu ?_
    refine ev_region ?_; refine zev ?_; repeat (first | refine ev_seq ?_ | refine ev_block ?_ | refine ev_skip ?_ | refine ev_inBlock ?_ | refine evr_nil ?_ | refine evw_nil (by kernel_rfl) ?_ | refine ev_exit rfl ?_ | refine ev_round ?_ | refine ev_condT rfl ?_ | refine ev_condF rfl ?_ | refine ev_condTb rfl (by first | exact decT (by omega) | exact beqT (by omega) | exact bneT (by omega) | exact notT (decF (by omega)) | exact notT (beqF (by omega))) ?_ | refine ev_condFb rfl (by first | exact decF (by omega) | exact beqF (by omega) | exact bneF (by omega) | exact notF (decT (by omega)) | exact notF (beqT (by omega))) ?_)
    refine ev_region ?_; refine zev ?_; repeat (first | refine ev_seq ?_ | refine ev_block ?_ | refine ev_skip ?_ | refine ev_inBlock ?_ | refine evr_nil ?_ | refine evw_nil (by kernel_rfl) ?_ | refine ev_exit rfl ?_ | refine ev_round ?_ | refine ev_condT rfl ?_ | refine ev_condF rfl ?_ | refine ev_condTb rfl (by first | exact decT (by omega) | exact beqT (by omega) | exact bneT (by omega) | exact notT (decF (by omega)) | exact notT (beqF (by omega))) ?_ | refine ev_condFb rfl (by first | exact decF (by omega) | exact beqF (by omega) | exact bneF (by omega) | exact notF (decT (by omega)) | exact notF (beqT (by omega))) ?_)
    refine ev_reg (ev_all (fu := [(), (), ()]) ?_); refine zev ?_
    refine evr_g (gen_lk (ents := tblE) (u := .ptr 1 0 [] 0) (n := l[k]!.kind) rfl rfl) rfl ?_
    rw [hl]
    simp only [lkV]
    simp only [go_sem]
    refine zst ?_
    refine ev_next 2 (hJ _ (⟨(k + 1, g, e), hlt, hb, hg⟩) (by first | omega | (dsimp only; omega) | (simp; omega))) rfl (by simp) ?_ (by first | rfl | (simp only [go_sem]; done)) (by first | rfl | (simp only [go_sem]; done)) ?_
    · (first | rfl | (simp only [go_sem]; done) | (simp only [go_sem]; simp only []; done) | (simp only []; done) | (simp only [go_sem]; simp []; done) | (simp []; done))
    · (simp only [go_sem]; (repeat' (refine And.intro ?_ ?_)) <;> first | exact trivial | with_reducible rfl | (simp only []; done) | (simp only []; with_reducible rfl) | (simp []; done) | (simp []; omega) | (simp only []; rfl) | skip)
  · obtain rfl : k = l.length := by omega
    rw [List.drop_of_length_le (Nat.le_refl _), rebF] at hb
    subst hb
    refine zst ?_
    exact zrt m_sreb_ok
end Go.Proofs.YtdpfglkjhdnbbaaGreat
