/- Standby: ticks. -/
import Derived.Test.YtdpfglkjhdnbbaaGreatR24
import Derived.Test.YtdpfglkjhdnbbaaGreatC5
namespace Go.Proofs.YtdpfglkjhdnbbaaGreat
open Go Go.RowKit Rdn Rdn.Dp
set_option linter.unusedVariables false
set_option linter.unusedSimpArgs false
theorem m_ptick_ok : compF Tryz.prog 32 = some (45, Qr ([Qw 1 (.box 35 (.t 0)), Qw 2 (.alloc 35 (.agg [.int .i64 0, .int .i64 0, .int .i64 0, .nilS, .nilS, .nilS, .agg [.int .i64 0, .int .i64 0, .int .i64 0, .nilS], .int .i64 0, .agg [.int .i64 0, .int .i64 0, .nilS]])), Qc 3 (.bool false), Qp 4 (.mov (Qi 0))])
 (Qr ([QL 9 14 1, Qq 10 38 [(.t 9)], Qw 5 (.alloc 35 (.agg [.int .i64 0, .int .i64 0, .int .i64 0, .nilS, .nilS, .nilS, .agg [.int .i64 0, .int .i64 0, .int .i64 0, .nilS], .int .i64 0, .agg [.int .i64 0, .int .i64 0, .nilS]])), Qs 14 5 10])
 (.seq (Qr ([QL 11 14 1, Qq 12 17 [(.t 11)], Qm 6 12])
 (Qr ([Qm 13 6, Qk 14 .neq 13 0])
 (.cond (.t 14) (Qr ([QL 15 14 5, Qm 16 6, Qs 14 2 15, Qc 3 (.bool false), Qm 4 16])
 (.ret)) (.skip))))
 (.seq (Qr ([Qf 17 2 2 1, Ql 18 1 17, Qk 19 .geq 18 0])
 (.cond (.t 19) (Qr ([Qf 20 1 1 5, ⟨none, none, (.m (.store 1 (.t 20) (Qi 0)))⟩])
 (Qr ([QL 21 14 5, Qs 14 2 21, Qc 3 (.bool false), Qp 4 (.mov (Qi 0))])
 (.ret))) (.skip)))
 (Qr ([Qf 22 1 1 1, Ql 23 1 22, Qk 24 .add 23 1, Qf 25 0 0 1, Ql 26 1 25, Qp 27 (.mn (.t 24) (.t 26)), Qf 28 1 1 5, Qs 1 28 27])
 (.seq (Qr ([QL 29 14 5, Qq 30 64 [(.t 29)], Qm 7 30])
 (Qr ([Qf 31 1 1 5, Ql 32 1 31, Qf 33 0 0 1, Ql 34 1 33, Qb 35 .eql 32 34, Qm 36 35, Q1 37 36 (.mov (.t 7)), Q1 38 36 (.bin 0 .geq (.t 37) (Qi 0)), Qu 39 36 38])
 (.cond (.t 39) (Qr ([Qm 40 7, Qq 41 65 [(.t 5), (.t 40)], Qm 8 41])
 (Qr ([QL 42 14 5, Qm 43 8, Qs 14 2 42, Qm 3 43, Qp 4 (.mov (Qi 0))])
 (.ret))) (.skip))))
 (Qr ([QL 44 14 5, Qs 14 2 44, Qc 3 (.bool false), Qp 4 (.mov (Qi 0))])
 (.ret))))))), [.load true 14 (.t 2), .mov (.t 3), .mov (.t 4)]) := by kernel_rfl
theorem m_rtick_ok : compF Tryz.prog 33 = some (59, Qr ([Qw 1 (.box 35 (.t 0)), Qw 2 (.alloc 35 (.agg [.int .i64 0, .int .i64 0, .int .i64 0, .nilS, .nilS, .nilS, .agg [.int .i64 0, .int .i64 0, .int .i64 0, .nilS], .int .i64 0, .agg [.int .i64 0, .int .i64 0, .nilS]])), Qc 3 (.bool false), Qp 4 (.mov (Qi 0))])
 (.seq (Qr ([QL 9 14 1, Qq 10 24 [(.t 9)], Qm 5 10])
 (Qr ([Qm 11 5, Qk 12 .neq 11 0])
 (.cond (.t 12) (Qr ([QL 13 14 1, Qm 14 5, Qs 14 2 13, Qc 3 (.bool false), Qm 4 14])
 (.ret)) (.skip))))
 (.seq (Qr ([Qf 15 2 2 1, Ql 16 1 15, Qk 17 .geq 16 0])
 (.cond (.t 17) (Qr ([Qf 18 1 1 1, ⟨none, none, (.m (.store 1 (.t 18) (Qi 0)))⟩])
 (Qr ([QL 19 14 1, Qs 14 2 19, Qc 3 (.bool false), Qp 4 (.mov (Qi 0))])
 (.ret))) (.skip)))
 (Qr ([Qf 20 0 0 1, Ql 21 1 20, Qf 22 1 1 1, Ql 23 1 22, Qk 24 .add 23 1, Qp 25 (.mn (.t 21) (.t 24)), Qf 26 1 1 1, Qs 1 26 25])
 (.seq (Qr ([Qp 6 (.mov (Qi 0))])
 (.block 0 (.loop (.seq (Qr ([Qm 27 6, Qk 28 .lss 27 2])
 (.cond (.t 28) (.skip) (.exit 0)))
 (.seq (.block 1 (Qr ([Qf 31 1 1 1, Ql 32 1 31, Qf 33 0 0 1, Ql 34 1 33, Qb 35 .eql 32 34, Qm 36 35, Q1 37 36 (.fieldA 3 3 (.t 1)), Q1 38 36 (.load false 1 (.t 37)), Q1 39 36 (.mov (.t 6)), Q1 40 36 (.idxA 1 (.t 38) (.t 39)), Q1 41 36 (.load false 1 (.t 40)), Qu 42 36 41, Qm 43 42, Q1 44 43 (.fieldA 4 4 (.t 1)), Q1 45 43 (.load false 1 (.t 44)), Q1 46 43 (.mov (.t 6)), Q1 47 43 (.idxA 1 (.t 45) (.t 46)), Q1 48 43 (.load false 1 (.t 47)), Qu 49 43 48])
 (.cond (.t 49) (Qr ([QL 51 14 1, Qm 52 6, Qq 53 66 [(.t 51), (.t 52)], Qm 50 53, Qe 54 50 0, Qe 55 50 1, Qw 7 (.alloc 35 (.agg [.int .i64 0, .int .i64 0, .int .i64 0, .nilS, .nilS, .nilS, .agg [.int .i64 0, .int .i64 0, .int .i64 0, .nilS], .int .i64 0, .agg [.int .i64 0, .int .i64 0, .nilS]])), Qs 14 7 54, Qm 8 55])
 (Qr ([QL 56 14 7, Qm 57 8, Qs 14 2 56, Qm 3 57, Qp 4 (.mov (Qi 0))])
 (.ret))) (.skip))))
 (.reg [Qm 29 6, Qk 30 .add 29 1, Qm 6 30]))))))
 (Qr ([QL 58 14 1, Qs 14 2 58, Qc 3 (.bool false), Qp 4 (.mov (Qi 0))])
 (.ret)))))), [.load true 14 (.t 2), .mov (.t 3), .mov (.t 4)]) := by kernel_rfl
abbrev slP (p : Pair) : Pair := { p with silent := min (p.silent + 1) p.wait }
noncomputable def sTick (p : Pair) : Pair × Bool × Int :=
  if chkP p ≠ 0 then (p, false, chkP p) else if 0 ≤ p.active then ({ p with silent := 0 }, false, 0)
  else if min (p.silent + 1) p.wait = p.wait ∧ 0 ≤ nxtP p then ((sOver (slP p) (nxtP p)).1, (sOver (slP p) (nxtP p)).2, 0) else (slP p, false, 0)
theorem sTick_e {p : Pair} (h : chkP p ≠ 0) : sTick p = (p, false, chkP p) := if_pos h
theorem sTick_a {p : Pair} (h : chkP p = 0) (h2 : 0 ≤ p.active) : sTick p = ({ p with silent := 0 }, false, 0) := (if_neg (fun c => c h)).trans (if_pos h2)
theorem sTick_o {p : Pair} (h : chkP p = 0) (h2 : ¬ 0 ≤ p.active) (h3 : min (p.silent + 1) p.wait = p.wait) (h4 : 0 ≤ nxtP p) : sTick p = ((sOver (slP p) (nxtP p)).1, (sOver (slP p) (nxtP p)).2, 0) := (if_neg (fun c => c h)).trans ((if_neg h2).trans (if_pos ⟨h3, h4⟩))
theorem sTick_w {p : Pair} (h : chkP p = 0) (h2 : ¬ 0 ≤ p.active) (h3 : ¬ (min (p.silent + 1) p.wait = p.wait ∧ 0 ≤ nxtP p)) : sTick p = (slP p, false, 0) := (if_neg (fun c => c h)).trans ((if_neg h2).trans (if_neg h3))
theorem nxtP_r (p : Pair) : nxtP p = 0 ∨ nxtP p = 1 ∨ nxtP p = -1 := by
  unfold nxtP
  split
  · exact .inl rfl
  · split
    · exact .inr (.inl rfl)
    · exact .inr (.inr rfl)
attribute [local irreducible] chkP sOver
attribute [local go_sem] mxE mnE
set_option maxHeartbeats 8000000 in
theorem ptick_fn (p : Pair) (F : FitP p) : Fnc Tryz.prog 32 [prV false p] (fun x obs => x = .tup [prV false (sTick p).1, .bool (sTick p).2.1, .int .i64 (sTick p).2.2] ∧ obs = []) := by
  refine Fnc.low ?_
  have fc := pchk_fn p
  by_cases c1 : chkP p = 0
  rotate_left
  · rw [sTick_e c1]
    generalize chkP p = z at fc c1
    refine zgo m_ptick_ok fun W S => ?_
    refine zcd (pcop_fr p F) ?_
    refine zcd (fc) ?_
    exact zrt m_ptick_ok
  rw [c1] at fc
  have hs := chkP_ok c1
  obtain ⟨hn, hsh, hg, hw⟩ := hs
  have hsh' := hsh
  obtain ⟨h1, h2, h3, h4, h5⟩ := hsh'
  obtain ⟨n1, n2, n3, n4, n5, n6, n7, n8⟩ := hn
  by_cases c2 : 0 ≤ p.active
  · rw [sTick_a c1 c2]
    refine zgo m_ptick_ok fun W S => ?_
    refine zcx (pcop_fn p F) ?_
    refine zcd (fc) ?_
    exact zrt m_ptick_ok
  have fn := pnext_fn (slP p) h1 h2
  have hN : nxtP (slP p) = nxtP p := rfl
  rw [hN] at fn
  by_cases c3 : min (p.silent + 1) p.wait = p.wait
  · by_cases c4 : 0 ≤ nxtP p
    · rw [sTick_o c1 c2 c3 c4]
      have hi : nxtP p = 0 ∨ nxtP p = 1 := by have := nxtP_r p; omega
      have fo := pover_fn (slP p) (nxtP p) hi hsh
      generalize nxtP p = i at *
      refine zgo m_ptick_ok fun W S => ?_
      refine zcx (pcop_fn p F) ?_
      refine zcd (fc) ?_
      refine zcd (fn) ?_
      refine callI 5 [2, 3, 4] (fo) ?_; refine zev ?_
      refine zst ?_
      refine ev_toRow 2 rfl (pures_lo _ _) ?_; simp only [go_sem]
      refine ev_toRow 3 rfl (pures_lo _ _) ?_; simp only [go_sem]
      refine ev_toRow 4 rfl (pures_lo _ _) ?_; simp only [go_sem]
      exact zrt m_ptick_ok
    · rw [sTick_w c1 c2 (fun h => c4 h.2)]
      have c4 : nxtP p = -1 := by have := nxtP_r p; omega
      rw [c4] at fn
      refine zgo m_ptick_ok fun W S => ?_
      refine zcx (pcop_fn p F) ?_
      refine zcd (fc) ?_
      refine zcd (fn) ?_
      exact zrt m_ptick_ok
  · rw [sTick_w c1 c2 (fun h => c3 h.1)]
    generalize nxtP p = i at *
    refine zgo m_ptick_ok fun W S => ?_
    refine zcx (pcop_fn p F) ?_
    refine zcd (fc) ?_
    refine zcd (fn) ?_
    exact zrt m_ptick_ok
set_option maxHeartbeats 8000000 in
theorem rtick_fn (p : Pair) : Fnc Tryz.prog 33 [prV false p] (fun x obs => x = .tup [prV false (sTick p).1, .bool (sTick p).2.1, .int .i64 (sTick p).2.2] ∧ obs = []) := by
  refine Fnc.low ?_
  have fc := rpchk_fn p
  by_cases c1 : chkP p = 0
  rotate_left
  · rw [sTick_e c1]
    generalize chkP p = z at fc c1
    refine zgo m_rtick_ok fun W S => ?_
    refine zcd (fc) ?_
    exact zrt m_rtick_ok
  rw [c1] at fc
  have hs := chkP_ok c1
  obtain ⟨hn, hsh, hg, hw⟩ := hs
  have hsh' := hsh
  obtain ⟨h1, h2, h3, h4, h5⟩ := hsh'
  obtain ⟨n1, n2, n3, n4, n5, n6, n7, n8⟩ := hn
  by_cases c2 : 0 ≤ p.active
  · rw [sTick_a c1 c2]
    refine zgo m_rtick_ok fun W S => ?_
    refine zcd (fc) ?_
    exact zrt m_rtick_ok
  have hcm : min p.wait (p.silent + 1) = min (p.silent + 1) p.wait := by omega
  by_cases c3 : min (p.silent + 1) p.wait = p.wait
  · rcases nxtP_r p with c4 | c4 | c4
    · rw [sTick_o c1 c2 c3 (by omega), c4]
      have fo := rover_fn (slP p) 0 (.inl rfl) hsh
      have c5 : p.up[0]! = true ∧ p.sync[0]! = true := by
        unfold nxtP at c4
        split at c4
        · rename_i h; exact h
        · split at c4 <;> cases c4
      obtain ⟨c5, c6⟩ := c5
      refine zgo m_rtick_ok fun W S => ?_
      refine zcd (fc) ?_
      refine ev_unroll 3 ?_
      repeat (first | (simp only [hcm, c5, c6]; try simp only [go_sem]) | refine And.intro (by omega) ?_ | refine And.intro rfl ?_ | refine ev_ctl rfl rfl ?_ | refine evr_nil ?_ | refine evw_nil (by kernel_rfl) ?_ | (simp (disch := omega) only [takeAll, Nat.min_eq_left, Nat.min_eq_right, if_pos, if_neg, getD_map, wrapI64, modIn, fdivE, tmodE, tdivE, decT, decF, beqT, beqF, bneT, bneF, Int.toNat_natCast]; try simp only [go_sem]) | (refine ev_condTb rfl ?_ ?_; · (simp <;> omega)) | (refine ev_condFb rfl ?_ ?_; · (simp <;> omega)) | ((first | refine ev_region ?_ | refine evr_go rfl ?_ | refine evw_go rfl ?_ | refine ev_dr0 mixed rfl (by kernel_rfl) ?_ | refine ev_dr1 mixed rfl (by kernel_rfl) ?_ | refine ev_dr2 mixed rfl (by kernel_rfl) ?_); simp only [go_sem]))
      refine zcd (fo) ?_
      exact zrt m_rtick_ok
    · rw [sTick_o c1 c2 c3 (by omega), c4]
      have fo := rover_fn (slP p) 1 (.inr rfl) hsh
      have c5 : ¬ (p.up[0]! = true ∧ p.sync[0]! = true) ∧ p.up[1]! = true ∧ p.sync[1]! = true := by
        unfold nxtP at c4
        split at c4
        · cases c4
        · rename_i h
          split at c4
          · rename_i h'; exact ⟨h, h'⟩
          · cases c4
      obtain ⟨c5, c6, c7⟩ := c5
      by_cases c8 : p.up[0]! = true
      · have c9 : p.sync[0]! = false := by simpa [c8] using c5
        clear c5
        refine zgo m_rtick_ok fun W S => ?_
        refine zcd (fc) ?_
        refine ev_unroll 3 ?_
        repeat (first | (simp only [hcm, c6, c7, c8, c9]; try simp only [go_sem]) | refine And.intro (by omega) ?_ | refine And.intro rfl ?_ | refine ev_ctl rfl rfl ?_ | refine evr_nil ?_ | refine evw_nil (by kernel_rfl) ?_ | (simp (disch := omega) only [takeAll, Nat.min_eq_left, Nat.min_eq_right, if_pos, if_neg, getD_map, wrapI64, modIn, fdivE, tmodE, tdivE, decT, decF, beqT, beqF, bneT, bneF, Int.toNat_natCast]; try simp only [go_sem]) | (refine ev_condTb rfl ?_ ?_; · (simp <;> omega)) | (refine ev_condFb rfl ?_ ?_; · (simp <;> omega)) | ((first | refine ev_region ?_ | refine evr_go rfl ?_ | refine evw_go rfl ?_ | refine ev_dr0 mixed rfl (by kernel_rfl) ?_ | refine ev_dr1 mixed rfl (by kernel_rfl) ?_ | refine ev_dr2 mixed rfl (by kernel_rfl) ?_); simp only [go_sem]))
        refine zcd (fo) ?_
        exact zrt m_rtick_ok
      · have c8 : p.up[0]! = false := by simpa using c8
        clear c5
        refine zgo m_rtick_ok fun W S => ?_
        refine zcd (fc) ?_
        refine ev_unroll 3 ?_
        repeat (first | (simp only [hcm, c6, c7, c8]; try simp only [go_sem]) | refine And.intro (by omega) ?_ | refine And.intro rfl ?_ | refine ev_ctl rfl rfl ?_ | refine evr_nil ?_ | refine evw_nil (by kernel_rfl) ?_ | (simp (disch := omega) only [takeAll, Nat.min_eq_left, Nat.min_eq_right, if_pos, if_neg, getD_map, wrapI64, modIn, fdivE, tmodE, tdivE, decT, decF, beqT, beqF, bneT, bneF, Int.toNat_natCast]; try simp only [go_sem]) | (refine ev_condTb rfl ?_ ?_; · (simp <;> omega)) | (refine ev_condFb rfl ?_ ?_; · (simp <;> omega)) | ((first | refine ev_region ?_ | refine evr_go rfl ?_ | refine evw_go rfl ?_ | refine ev_dr0 mixed rfl (by kernel_rfl) ?_ | refine ev_dr1 mixed rfl (by kernel_rfl) ?_ | refine ev_dr2 mixed rfl (by kernel_rfl) ?_); simp only [go_sem]))
        refine zcd (fo) ?_
        exact zrt m_rtick_ok
    · rw [sTick_w c1 c2 (fun h => by omega)]
      have c5 : ¬ (p.up[0]! = true ∧ p.sync[0]! = true) ∧ ¬ (p.up[1]! = true ∧ p.sync[1]! = true) := by
        unfold nxtP at c4
        split at c4
        · cases c4
        · rename_i h
          split at c4
          · cases c4
          · rename_i h'; exact ⟨h, h'⟩
      clear c4
      cases e1 : p.up[0]! <;> cases e2 : p.sync[0]! <;> cases e3 : p.up[1]! <;> cases e4 : p.sync[1]! <;> simp only [e1, e2, e3, e4, true_and, false_and, and_true, and_false, Bool.false_eq_true, not_true_eq_false, not_false_eq_true] at c5
      all_goals
        refine zgo m_rtick_ok fun W S => ?_
        refine zcd (fc) ?_
        refine ev_unroll 3 ?_
        refine zsx (And.intro hcm (And.intro e1 (And.intro e2 (And.intro e3 e4)))) ?_
        exact zrt m_rtick_ok
  · rw [sTick_w c1 c2 (fun h => c3 h.1)]
    refine zgo m_rtick_ok fun W S => ?_
    refine zcd (fc) ?_
    refine ev_unroll 3 ?_
    refine zsx hcm ?_
    exact zrt m_rtick_ok
end Go.Proofs.YtdpfglkjhdnbbaaGreat
