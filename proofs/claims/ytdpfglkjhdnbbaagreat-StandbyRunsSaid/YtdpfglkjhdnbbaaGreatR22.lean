/- Standby: Fail and Start of both sides. -/
import Derived.Test.YtdpfglkjhdnbbaaGreatR21
import Derived.Test.YtdpfglkjhdnbbaaGreatC5
namespace Go.Proofs.YtdpfglkjhdnbbaaGreat
open Go Go.RowKit Rdn Rdn.Dp
set_option linter.unusedVariables false
set_option linter.unusedSimpArgs false
theorem m_pchg_ok : compF Tryz.prog 63 = some (25, Qr ([Qw 3 (.box 35 (.t 0)), Qp 6 (.mov (Qi 0))])
 (.seq (.block 0 (.seq (Qr ([QL 8 14 3, Qq 9 17 [(.t 8)], Qk 10 .neq 9 0, Qm 7 10])
 (.cond (.t 7) (.skip) (.reg [Qm 11 1, Qk 12 .neq 11 0, Qm 13 12, Q1 14 13 (.mov (.t 1)), Q1 15 13 (.bin 0 .neq (.t 14) (Qi 1)), Qu 16 13 15, Qm 7 16])))
 (.cond (.t 7) (Qr ([Qp 6 (.mov (Qi 1))])
 (.ret)) (Qr ([Qf 18 3 3 3, Ql 19 1 18, Qm 20 1, Qx 21 1 19 20, Ql 22 1 21, Qm 23 2, Qp 24 (.bin 1 .neq (.t 22) (.t 23)), Qm 17 24])
 (.cond (.t 17) (Qr ([Qp 6 (.mov (Qi 10))])
 (.ret)) (.skip))))))
 (Qr ([Qp 6 (.mov (Qi 0))])
 (.ret))), [.mov (.t 6)]) := by kernel_rfl
theorem m_pfail_ok : compF Tryz.prog 28 = some (27, Qr ([Qw 2 (.box 35 (.t 0)), Qw 4 (.alloc 35 (.agg [.int .i64 0, .int .i64 0, .int .i64 0, .nilS, .nilS, .nilS, .agg [.int .i64 0, .int .i64 0, .int .i64 0, .nilS], .int .i64 0, .agg [.int .i64 0, .int .i64 0, .nilS]])), Qp 5 (.mov (Qi 0))])
 (Qr ([QL 8 14 2, Qq 9 38 [(.t 8)], Qw 6 (.alloc 35 (.agg [.int .i64 0, .int .i64 0, .int .i64 0, .nilS, .nilS, .nilS, .agg [.int .i64 0, .int .i64 0, .int .i64 0, .nilS], .int .i64 0, .agg [.int .i64 0, .int .i64 0, .nilS]])), Qs 14 6 9])
 (.seq (Qr ([QL 10 14 2, Qm 11 1, Qq 12 63 [(.t 10), (.t 11), (.c (.bool true))], Qm 7 12])
 (Qr ([Qm 13 7, Qk 14 .neq 13 0])
 (.cond (.t 14) (Qr ([QL 15 14 6, Qm 16 7, Qs 14 4 15, Qm 5 16])
 (.ret)) (.skip))))
 (.seq (Qr ([Qm 17 1, Qf 18 2 2 2, Ql 19 1 18, Qb 20 .eql 17 19])
 (.cond (.t 20) (.reg [Qq 21 59 [(.t 6)]]) (.reg [Qf 22 3 3 6, Ql 23 1 22, Qm 24 1, Qx 25 1 23 24, ⟨none, none, (.m (.store 1 (.t 25) (.c (.bool false))))⟩])))
 (Qr ([QL 26 14 6, Qs 14 4 26, Qp 5 (.mov (Qi 0))])
 (.ret))))), [.load true 14 (.t 4), .mov (.t 5)]) := by kernel_rfl
theorem m_pstart_ok : compF Tryz.prog 30 = some (41, Qr ([Qw 2 (.box 35 (.t 0)), Qw 4 (.alloc 35 (.agg [.int .i64 0, .int .i64 0, .int .i64 0, .nilS, .nilS, .nilS, .agg [.int .i64 0, .int .i64 0, .int .i64 0, .nilS], .int .i64 0, .agg [.int .i64 0, .int .i64 0, .nilS]])), Qp 5 (.mov (Qi 0))])
 (Qr ([QL 8 14 2, Qq 9 38 [(.t 8)], Qw 6 (.alloc 35 (.agg [.int .i64 0, .int .i64 0, .int .i64 0, .nilS, .nilS, .nilS, .agg [.int .i64 0, .int .i64 0, .int .i64 0, .nilS], .int .i64 0, .agg [.int .i64 0, .int .i64 0, .nilS]])), Qs 14 6 9])
 (.seq (Qr ([QL 10 14 2, Qm 11 1, Qq 12 63 [(.t 10), (.t 11), (.c (.bool false))], Qm 7 12])
 (Qr ([Qm 13 7, Qk 14 .neq 13 0])
 (.cond (.t 14) (Qr ([QL 15 14 6, Qm 16 7, Qs 14 4 15, Qm 5 16])
 (.ret)) (.skip))))
 (Qr ([Qf 17 3 3 6, Ql 18 1 17, Qm 19 1, Qx 20 1 18 19, ⟨none, none, (.m (.store 1 (.t 20) (.c (.bool true))))⟩])
 (.seq (Qr ([Qf 21 2 2 2, Ql 22 1 21, Qk 23 .geq 22 0])
 (.cond (.t 23) (.seq (.dreg [Qf 24 5 5 6, Ql 25 1 24, Qm 26 1, Qw 27 (.buildS 5 1 (.int .u8 0) 0 []), Qf 28 5 5 6, Ql 29 1 28, Qf 30 2 2 2, Ql 31 1 30, Qx 32 1 29 31, Ql 33 1 32, Qw 34 (.app 5 1 1 (.t 27) (.t 33)), Qx 35 1 25 26, Qs 1 35 34] [[], [0], [], [], [], [4], [], [6], [4, 5, 6, 7], [4, 5, 6, 7, 8], [3, 4, 5, 6, 7, 8, 9], [0, 1, 2, 3, 4, 5, 6, 7, 8, 9, 10], [0, 1, 2, 3, 4, 5, 6, 7, 8, 9, 10, 11]])
 (.reg [Qf 36 4 4 6, Ql 37 1 36, Qm 38 1, Qx 39 1 37 38, ⟨none, none, (.m (.store 1 (.t 39) (.c (.bool true))))⟩])) (.skip)))
 (Qr ([QL 40 14 6, Qs 14 4 40, Qp 5 (.mov (Qi 0))])
 (.ret)))))), [.load true 14 (.t 4), .mov (.t 5)]) := by kernel_rfl
theorem m_rfail_ok : compF Tryz.prog 29 = some (41, Qr ([Qw 2 (.box 35 (.t 0)), Qw 4 (.alloc 35 (.agg [.int .i64 0, .int .i64 0, .int .i64 0, .nilS, .nilS, .nilS, .agg [.int .i64 0, .int .i64 0, .int .i64 0, .nilS], .int .i64 0, .agg [.int .i64 0, .int .i64 0, .nilS]])), Qp 5 (.mov (Qi 0))])
 (.seq (Qr ([QL 8 14 2, Qq 9 24 [(.t 8)], Qm 6 9])
 (Qr ([Qm 10 6, Qk 11 .neq 10 0])
 (.cond (.t 11) (Qr ([QL 12 14 2, Qm 13 6, Qs 14 4 12, Qm 5 13])
 (.ret)) (.skip))))
 (.seq (Qr ([Qm 14 1, Qk 15 .neq 14 0, Qm 16 15, Q1 17 16 (.mov (.t 1)), Q1 18 16 (.bin 0 .neq (.t 17) (Qi 1)), Qu 19 16 18])
 (.cond (.t 19) (Qr ([QL 20 14 2, Qs 14 4 20, Qp 5 (.mov (Qi 1))])
 (.ret)) (.skip)))
 (.seq (Qr ([Qf 21 3 3 2, Ql 22 1 21, Qm 23 1, Qx 24 1 22 23, Ql 25 1 24, Qp 26 (.un .not (.t 25))])
 (.cond (.t 26) (Qr ([QL 27 14 2, Qs 14 4 27, Qp 5 (.mov (Qi 10))])
 (.ret)) (.skip)))
 (Qr ([QL 28 14 2, Qq 29 51 [(.t 28)], Qw 7 (.alloc 35 (.agg [.int .i64 0, .int .i64 0, .int .i64 0, .nilS, .nilS, .nilS, .agg [.int .i64 0, .int .i64 0, .int .i64 0, .nilS], .int .i64 0, .agg [.int .i64 0, .int .i64 0, .nilS]])), Qs 14 7 29])
 (Qr ([Qf 30 3 3 7, Ql 31 1 30, Qm 32 1, Qx 33 1 31 32, ⟨none, none, (.m (.store 1 (.t 33) (.c (.bool false))))⟩])
 (.seq (Qr ([Qf 34 2 2 2, Ql 35 1 34, Qm 36 1, Qb 37 .eql 35 36])
 (.cond (.t 37) (.reg [QL 38 14 7, Qq 39 60 [(.t 38)], Qs 14 7 39]) (.skip)))
 (Qr ([QL 40 14 7, Qs 14 4 40, Qp 5 (.mov (Qi 0))])
 (.ret)))))))), [.load true 14 (.t 4), .mov (.t 5)]) := by kernel_rfl
theorem m_rstart_ok : compF Tryz.prog 31 = some (53, Qr ([Qw 2 (.box 35 (.t 0)), Qw 4 (.alloc 35 (.agg [.int .i64 0, .int .i64 0, .int .i64 0, .nilS, .nilS, .nilS, .agg [.int .i64 0, .int .i64 0, .int .i64 0, .nilS], .int .i64 0, .agg [.int .i64 0, .int .i64 0, .nilS]])), Qp 5 (.mov (Qi 0))])
 (.seq (Qr ([QL 8 14 2, Qq 9 24 [(.t 8)], Qm 6 9])
 (Qr ([Qm 10 6, Qk 11 .neq 10 0])
 (.cond (.t 11) (Qr ([QL 12 14 2, Qm 13 6, Qs 14 4 12, Qm 5 13])
 (.ret)) (.skip))))
 (.seq (Qr ([Qm 14 1, Qk 15 .neq 14 0, Qm 16 15, Q1 17 16 (.mov (.t 1)), Q1 18 16 (.bin 0 .neq (.t 17) (Qi 1)), Qu 19 16 18])
 (.cond (.t 19) (Qr ([QL 20 14 2, Qs 14 4 20, Qp 5 (.mov (Qi 1))])
 (.ret)) (.skip)))
 (.seq (Qr ([Qf 21 3 3 2, Ql 22 1 21, Qm 23 1, Qx 24 1 22 23, Ql 25 1 24])
 (.cond (.t 25) (Qr ([QL 26 14 2, Qs 14 4 26, Qp 5 (.mov (Qi 10))])
 (.ret)) (.skip)))
 (Qr ([QL 27 14 2, Qq 28 51 [(.t 27)], Qw 7 (.alloc 35 (.agg [.int .i64 0, .int .i64 0, .int .i64 0, .nilS, .nilS, .nilS, .agg [.int .i64 0, .int .i64 0, .int .i64 0, .nilS], .int .i64 0, .agg [.int .i64 0, .int .i64 0, .nilS]])), Qs 14 7 28])
 (Qr ([Qf 29 3 3 7, Ql 30 1 29, Qm 31 1, Qx 32 1 30 31, ⟨none, none, (.m (.store 1 (.t 32) (.c (.bool true))))⟩])
 (.seq (Qr ([Qf 33 2 2 2, Ql 34 1 33, Qm 35 1, Qp 36 (.bin 0 .sub (Qi 1) (.t 35)), Qb 37 .eql 34 36])
 (.cond (.t 37) (.dreg [Qf 38 5 5 7, Ql 39 1 38, Qm 40 1, Qf 41 4 4 7, Ql 42 1 41, Qm 43 1, Qf 44 5 5 2, Ql 45 1 44, Qm 46 1, Qp 47 (.bin 0 .sub (Qi 1) (.t 46)), Qx 48 1 45 47, Ql 49 1 48, Qx 50 1 39 40, Qs 1 50 49, Qx 51 1 42 43, ⟨none, none, (.m (.store 1 (.t 51) (.c (.bool true))))⟩] [[], [0], [], [], [3], [], [], [6], [], [8], [6, 7, 8, 9], [6, 7, 8, 9, 10], [0, 1, 2, 6, 7, 8, 9, 10, 11], [0, 1, 2, 6, 7, 8, 9, 10, 11, 12], [0, 1, 2, 3, 4, 5, 6, 7, 8, 9, 10, 11, 12, 13], [0, 1, 2, 3, 4, 5, 6, 7, 8, 9, 10, 11, 12, 13, 14]]) (.skip)))
 (Qr ([QL 52 14 7, Qs 14 4 52, Qp 5 (.mov (Qi 0))])
 (.ret)))))))), [.load true 14 (.t 4), .mov (.t 5)]) := by kernel_rfl
noncomputable def chgE (p : Pair) (i : Int) (u : Bool) : Int := if chkP p ≠ 0 then 1 else if i ≠ 0 ∧ i ≠ 1 then 1 else if p.up[i.toNat]! ≠ u then 10 else 0
theorem chkP_1 {p : Pair} (h : chkP p ≠ 0) : chkP p = 1 := by
  unfold chkP at h ⊢
  split
  · rename_i c; rw [if_pos c] at h; exact absurd rfl h
  · rfl
theorem chgE_0 {p : Pair} {i : Int} {u : Bool} (h : chgE p i u = 0) : chkP p = 0 ∧ (i = 0 ∨ i = 1) ∧ p.up[i.toNat]! = u := by
  unfold chgE at h
  split at h
  · cases h
  · rename_i c1
    split at h
    · cases h
    · rename_i c2
      split at h
      · cases h
      · rename_i c3
        exact ⟨Classical.byContradiction c1, by omega, Classical.byContradiction c3⟩
attribute [local irreducible] chkP
set_option maxHeartbeats 4000000 in
theorem pchg_fn (p : Pair) (i : Int) (u : Bool) : Fnc Tryz.prog 63 [prV false p, .int .i64 i, .bool u] (fun x obs => x = .int .i64 (chgE p i u) ∧ obs = []) := by
  have fc := pchk_fn p
  unfold chgE
  by_cases c1 : chkP p = 0
  rotate_left
  · rw [if_pos c1]
    generalize chkP p = z at fc c1
    refine zgo m_pchg_ok fun W S => ?_
    refine zcd (fc) ?_
    exact zrt m_pchg_ok
  rw [if_neg (fun h => h c1)]
  obtain ⟨hn, ⟨h1, h2, h3, h4, h5⟩, hg, hw⟩ := chkP_ok c1
  rw [c1] at fc
  by_cases c20 : i = 0
  · subst c20
    rw [if_neg (by omega)]
    by_cases c3 : p.up[(0 : Int).toNat]! = u
    · rw [if_neg (fun h => h c3)]
      subst c3
      refine zgo m_pchg_ok fun W S => ?_
      refine zcd (fc) ?_
      exact zrt m_pchg_ok
    · rw [if_pos c3]
      have c3 : p.up[(0 : Nat)]! = !u := by
        have c3 : ¬ p.up[(0 : Nat)]! = u := c3
        revert c3; cases p.up[(0 : Nat)]! <;> cases u <;> simp
      refine zgo m_pchg_ok fun W S => ?_
      refine zcd (fc) ?_
      refine zsx c3 ?_
      cases u
      · refine zsx c3 ?_
        exact zrt m_pchg_ok
      · refine zsx c3 ?_
        exact zrt m_pchg_ok
  by_cases c21 : i = 1
  · subst c21
    rw [if_neg (by omega)]
    by_cases c3 : p.up[(1 : Int).toNat]! = u
    · rw [if_neg (fun h => h c3)]
      subst c3
      refine zgo m_pchg_ok fun W S => ?_
      refine zcd (fc) ?_
      exact zrt m_pchg_ok
    · rw [if_pos c3]
      have c3 : p.up[(1 : Nat)]! = !u := by
        have c3 : ¬ p.up[(1 : Nat)]! = u := c3
        revert c3; cases p.up[(1 : Nat)]! <;> cases u <;> simp
      refine zgo m_pchg_ok fun W S => ?_
      refine zcd (fc) ?_
      refine zsx c3 ?_
      cases u
      · refine zsx c3 ?_
        exact zrt m_pchg_ok
      · refine zsx c3 ?_
        exact zrt m_pchg_ok
  rw [if_pos ⟨c20, c21⟩]
  refine zgo m_pchg_ok fun W S => ?_
  refine zcd (fc) ?_
  exact zrt m_pchg_ok
noncomputable def sFail (p : Pair) (i : Int) : Pair × Int := if chgE p i true ≠ 0 then (p, chgE p i true) else (if p.active = i then dnP p else { p with up := p.up.set i.toNat false }, 0)
noncomputable def sStart (p : Pair) (i : Int) : Pair × Int := if chgE p i false ≠ 0 then (p, chgE p i false) else ({ p with up := p.up.set i.toNat true, journals := if 0 ≤ p.active then p.journals.set i.toNat p.journals[p.active.toNat]! else p.journals, sync := if 0 ≤ p.active then p.sync.set i.toNat true else p.sync }, 0)
theorem chgE_eq (p : Pair) (i : Int) (u : Bool) : chgE p i u = if chkP p ≠ 0 then 1 else if i ≠ 0 ∧ i ≠ 1 then 1 else if p.up[i.toNat]! ≠ u then 10 else 0 := rfl
attribute [local irreducible] chgE
set_option maxHeartbeats 4000000 in
theorem pfail_fn (p : Pair) (i : Int) (F : FitP p) : Fnc Tryz.prog 28 [prV false p, .int .i64 i] (fun x obs => x = .tup [prV false (sFail p i).1, .int .i64 (sFail p i).2] ∧ obs = []) := by
  refine Fnc.low ?_
  have fc := pchg_fn p i true
  by_cases c1 : chgE p i true = 0
  rotate_left
  · rw [show sFail p i = (p, chgE p i true) from if_pos c1]
    generalize chgE p i true = z at fc c1
    refine zgo m_pfail_ok fun W S => ?_
    refine zcd (pcop_fr p F) ?_
    refine zcd (fc) ?_
    exact zrt m_pfail_ok
  rw [show sFail p i = (if p.active = i then dnP p else { p with up := p.up.set i.toNat false }, 0) from if_neg (by simp [c1])]
  rw [c1] at fc
  obtain ⟨k1, k2, k3⟩ := chgE_0 c1
  obtain ⟨hn, ⟨h1, h2, h3, h4, h5⟩, hg, hw⟩ := chkP_ok k1
  by_cases c2 : p.active = i
  · rw [if_pos c2]
    have fd := dwn_fn p (by omega) (by omega) h1
    refine zgo m_pfail_ok fun W S => ?_
    refine zcx (pcop_fn p F) ?_
    refine zcd (fc) ?_
    refine callI 5 [2, 3, 4] (fd) ?_; refine zev ?_
    refine zst ?_
    refine ev_toRow 2 rfl (pures_lo _ _) ?_; simp only [go_sem]
    refine ev_toRow 3 rfl (pures_lo _ _) ?_; simp only [go_sem]
    refine ev_toRow 4 rfl (pures_lo _ _) ?_; simp only [go_sem]
    exact zrt m_pfail_ok
  · rw [if_neg c2]
    refine zgo m_pfail_ok fun W S => ?_
    refine zcx (pcop_fn p F) ?_
    refine zcd (fc) ?_
    refine ret m_pfail_ok [] ?_; (first | (simp only [go_sem]; done) | (simp only [go_sem]; ((try dsimp only); (repeat' (refine And.intro ?_ ?_)) <;> first | with_reducible rfl | (simp only [go_sem]; done) | (simp only [go_sem]; rfl) | (simp only [go_sem, lows_set, set_bo]; done) | (simp only [lows_set, set_bo]; (try simp only [go_sem]); first | done | rfl) | (simp only [go_sem]; simp [lows_set, set_bo]; done) | (simp [lows_set, set_bo]; done) | rfl)))
set_option maxHeartbeats 4000000 in
theorem rfail_fn (p : Pair) (i : Int) : Fnc Tryz.prog 29 [prV false p, .int .i64 i] (fun x obs => x = .tup [prV false (sFail p i).1, .int .i64 (sFail p i).2] ∧ obs = []) := by
  refine Fnc.low ?_
  have fc := rpchk_fn p
  have e0 : chgE p i true = if chkP p ≠ 0 then 1 else if i ≠ 0 ∧ i ≠ 1 then 1 else if p.up[i.toNat]! ≠ true then 10 else 0 := chgE_eq p i true
  by_cases k1 : chkP p = 0
  rotate_left
  · rw [if_pos k1] at e0
    rw [show sFail p i = (p, chgE p i true) from if_pos (by rw [e0]; decide), e0]
    rw [chkP_1 k1] at fc
    refine zgo m_rfail_ok fun W S => ?_
    refine zcd (fc) ?_
    exact zrt m_rfail_ok
  obtain ⟨hn, ⟨h1, h2, h3, h4, h5⟩, hg, hw⟩ := chkP_ok k1
  rw [if_neg (fun h => h k1)] at e0
  rw [k1] at fc
  by_cases k2 : i ≠ 0 ∧ i ≠ 1
  · rw [if_pos k2] at e0
    rw [show sFail p i = (p, chgE p i true) from if_pos (by rw [e0]; decide), e0]
    obtain ⟨k2, k3⟩ := k2
    refine zgo m_rfail_ok fun W S => ?_
    refine zcd (fc) ?_
    exact zrt m_rfail_ok
  rw [if_neg k2] at e0
  by_cases k3 : p.up[i.toNat]! = true
  rotate_left
  · rw [if_pos k3] at e0
    rw [show sFail p i = (p, chgE p i true) from if_pos (by rw [e0]; decide), e0]
    have k3 : p.up[i.toNat]! = false := by simpa using k3
    rcases (by omega : i = 0 ∨ i = 1) with rfl | rfl
    · have k3 : p.up[0]! = _ := k3
      refine zgo m_rfail_ok fun W S => ?_
      refine zcd (fc) ?_
      refine zsx k3 ?_
      exact zrt m_rfail_ok
    · have k3 : p.up[1]! = _ := k3
      refine zgo m_rfail_ok fun W S => ?_
      refine zcd (fc) ?_
      refine zsx k3 ?_
      exact zrt m_rfail_ok
  rw [if_neg (fun h => h k3)] at e0
  rw [show sFail p i = (if p.active = i then dnP p else { p with up := p.up.set i.toNat false }, 0) from if_neg (by rw [e0]; simp)]
  by_cases c2 : p.active = i
  · rw [if_pos c2]
    subst c2
    have fd := rdwn_fn { p with up := p.up.set p.active.toNat false }
    unfold dnP
    rcases (by omega : p.active = 0 ∨ p.active = 1) with c2 | c2
    · skip
      refine zgo m_rfail_ok fun W S => ?_
      refine zcd (fc) ?_
      refine zsx k3 ?_
      refine zcx (rcop_fn p (by omega)) ?_
      refine evr_calmA ?_; (refine zev ?_); (first | refine callD (fd) ?_ | refine callDw (fd) ?_); simp only [go_sem, lows_set, set_bs, set_bo]
      refine zst ?_
      refine ret m_rfail_ok [] ?_; (first | (simp only [go_sem]; done) | (simp only [go_sem]; ((try dsimp only); (repeat' (refine And.intro ?_ ?_)) <;> first | with_reducible rfl | (simp only [go_sem]; done) | (simp only [go_sem]; rfl) | (simp only [go_sem, lows_set, set_bo]; done) | (simp only [lows_set, set_bo]; (try simp only [go_sem]); first | done | rfl) | (simp only [go_sem]; simp [lows_set, set_bo]; done) | (simp [lows_set, set_bo]; done) | rfl)))
    · skip
      refine zgo m_rfail_ok fun W S => ?_
      refine zcd (fc) ?_
      refine zsx k3 ?_
      refine zcx (rcop_fn p (by omega)) ?_
      refine evr_calmA ?_; (refine zev ?_); (first | refine callD (fd) ?_ | refine callDw (fd) ?_); simp only [go_sem, lows_set, set_bs, set_bo]
      refine zst ?_
      refine ret m_rfail_ok [] ?_; (first | (simp only [go_sem]; done) | (simp only [go_sem]; ((try dsimp only); (repeat' (refine And.intro ?_ ?_)) <;> first | with_reducible rfl | (simp only [go_sem]; done) | (simp only [go_sem]; rfl) | (simp only [go_sem, lows_set, set_bo]; done) | (simp only [lows_set, set_bo]; (try simp only [go_sem]); first | done | rfl) | (simp only [go_sem]; simp [lows_set, set_bo]; done) | (simp [lows_set, set_bo]; done) | rfl)))
  · rw [if_neg c2]
    rcases (by omega : i = 0 ∨ i = 1) with rfl | rfl
    · have k3 : p.up[0]! = _ := k3
      refine zgo m_rfail_ok fun W S => ?_
      refine zcd (fc) ?_
      refine zsx k3 ?_
      refine zcx (rcop_fn p (by omega)) ?_
      refine ret m_rfail_ok [] ?_; (first | (simp only [go_sem]; done) | (simp only [go_sem]; ((try dsimp only); (repeat' (refine And.intro ?_ ?_)) <;> first | with_reducible rfl | (simp only [go_sem]; done) | (simp only [go_sem]; rfl) | (simp only [go_sem, lows_set, set_bo]; done) | (simp only [lows_set, set_bo]; (try simp only [go_sem]); first | done | rfl) | (simp only [go_sem]; simp [lows_set, set_bo]; done) | (simp [lows_set, set_bo]; done) | rfl)))
    · have k3 : p.up[1]! = _ := k3
      refine zgo m_rfail_ok fun W S => ?_
      refine zcd (fc) ?_
      refine zsx k3 ?_
      refine zcx (rcop_fn p (by omega)) ?_
      refine ret m_rfail_ok [] ?_; (first | (simp only [go_sem]; done) | (simp only [go_sem]; ((try dsimp only); (repeat' (refine And.intro ?_ ?_)) <;> first | with_reducible rfl | (simp only [go_sem]; done) | (simp only [go_sem]; rfl) | (simp only [go_sem, lows_set, set_bo]; done) | (simp only [lows_set, set_bo]; (try simp only [go_sem]); first | done | rfl) | (simp only [go_sem]; simp [lows_set, set_bo]; done) | (simp [lows_set, set_bo]; done) | rfl)))
theorem who_inv' {p : Pair} (h : whoB p = true) : p.up[p.active.toNat]! = true ∧ p.sync[p.active.toNat]! = true ∧ (sRec p.journals[p.active.toNat]!).2 = p.journals[p.active.toNat]!.length ∧ sReb (sRec p.journals[p.active.toNat]!).1 = (p.gateway, p.epoch, 0) := by
  unfold whoB at h
  simpa only [Bool.and_eq_true, decide_eq_true_eq] using h
theorem act_up {p : Pair} {i : Int} (h : chkP p = 0) (ha : 0 ≤ p.active) (hi : i = 0 ∨ i = 1) (hu : p.up[i.toNat]! = false) : p.active = 1 - i := by
  obtain ⟨hn, ⟨h1, h2, h3, h4, h5⟩, hg, hw⟩ := chkP_ok h
  have a1 : p.active ≤ 1 := hn.2.2.2.2.2.1
  obtain ⟨w1, _⟩ := who_inv' (hw.resolve_left (by omega))
  have hne : p.active ≠ i := fun e => by rw [e, hu] at w1; cases w1
  omega
set_option maxHeartbeats 8000000 in
theorem pstart_fn (p : Pair) (i : Int) (F : FitP p) : Fnc Tryz.prog 30 [prV false p, .int .i64 i] (fun x obs => x = .tup [prV false (sStart p i).1, .int .i64 (sStart p i).2] ∧ obs = []) := by
  refine Fnc.low ?_
  have fc := pchg_fn p i false
  by_cases c1 : chgE p i false = 0
  rotate_left
  · rw [show sStart p i = (p, chgE p i false) from if_pos c1]
    generalize chgE p i false = z at fc c1
    refine zgo m_pstart_ok fun W S => ?_
    refine zcd (pcop_fr p F) ?_
    refine zcd (fc) ?_
    exact zrt m_pstart_ok
  rw [show sStart p i = ({ p with up := p.up.set i.toNat true, journals := if 0 ≤ p.active then p.journals.set i.toNat p.journals[p.active.toNat]! else p.journals, sync := if 0 ≤ p.active then p.sync.set i.toNat true else p.sync }, 0) from if_neg (by simp [c1])]
  rw [c1] at fc
  obtain ⟨k1, k2, k3⟩ := chgE_0 c1
  obtain ⟨hn, ⟨h1, h2, h3, h4, h5⟩, hg, hw⟩ := chkP_ok k1
  have a1 : p.active ≤ 1 := hn.2.2.2.2.2.1
  by_cases c2 : 0 ≤ p.active
  · rw [if_pos c2, if_pos c2]
    have hja := two_le h3 h4 h5 (a := p.active.toNat) (by omega)
    refine zgo m_pstart_ok fun W S => ?_
    refine zcx (pcop_fn p F) ?_
    (first | refine callD (fc) ?_ | refine callDw (fc) ?_); refine zev ?_
    refine zso ?_
    refine ev_toRows 4 rfl ?_; simp only [go_sem]
    refine ev_draw (fu := fu8) mixed [3] 1 rfl (by kernel_rfl) ?_; simp only [go_sem]
    repeat (first | refine And.intro (by omega) ?_ | refine And.intro rfl ?_ | refine ev_ctl rfl rfl ?_ | refine evr_nil ?_ | refine evw_nil (by kernel_rfl) ?_ | (simp (disch := omega) only [takeAll, Nat.min_eq_left, Nat.min_eq_right, if_pos, if_neg, getD_map, wrapI64, modIn, fdivE, tmodE, tdivE, decT, decF, beqT, beqF, bneT, bneF, Int.toNat_natCast]; try simp only [go_sem]) | (refine ev_condTb rfl ?_ ?_; · (simp <;> omega)) | (refine ev_condFb rfl ?_ ?_; · (simp <;> omega)) | ((first | refine ev_region ?_ | refine evr_go rfl ?_ | refine evw_gom [3] rfl ?_ | refine ev_dr0 mixed rfl (by kernel_rfl) ?_ | refine ev_dr1 mixed rfl (by kernel_rfl) ?_ | refine ev_dr2 mixed rfl (by kernel_rfl) ?_); simp only [go_sem]))
    refine ev_frzIn 4 i.toNat 6 rfl rfl (by rw [List.getElem?_set_self (by rw [List.length_map]; omega)]) ?_; simp only [go_sem]
    rw [List.set_set, set_low (slV' true 1 (V.int .u8))]
    refine ev_toRow 4 rfl (pures_lo _ _) ?_; simp only [go_sem]
    refine zst ?_
    refine ret m_pstart_ok [] ?_; (first | (simp only [go_sem]; done) | (simp only [go_sem]; ((try dsimp only); (repeat' (refine And.intro ?_ ?_)) <;> first | with_reducible rfl | (simp only [go_sem]; done) | (simp only [go_sem]; rfl) | (simp only [go_sem, lows_set, set_bo]; done) | (simp only [lows_set, set_bo]; (try simp only [go_sem]); first | done | rfl) | (simp only [go_sem]; simp [lows_set, set_bo]; done) | (simp [lows_set, set_bo]; done) | rfl)))
  · rw [if_neg c2, if_neg c2]
    refine zgo m_pstart_ok fun W S => ?_
    refine zcx (pcop_fn p F) ?_
    refine zcd (fc) ?_
    refine ret m_pstart_ok [] ?_; (first | (simp only [go_sem]; done) | (simp only [go_sem]; ((try dsimp only); (repeat' (refine And.intro ?_ ?_)) <;> first | with_reducible rfl | (simp only [go_sem]; done) | (simp only [go_sem]; rfl) | (simp only [go_sem, lows_set, set_bo]; done) | (simp only [lows_set, set_bo]; (try simp only [go_sem]); first | done | rfl) | (simp only [go_sem]; simp [lows_set, set_bo]; done) | (simp [lows_set, set_bo]; done) | rfl)))
set_option maxHeartbeats 8000000 in
theorem rstart_fn (p : Pair) (i : Int) : Fnc Tryz.prog 31 [prV false p, .int .i64 i] (fun x obs => x = .tup [prV false (sStart p i).1, .int .i64 (sStart p i).2] ∧ obs = []) := by
  refine Fnc.low ?_
  have fc := rpchk_fn p
  have e0 : chgE p i false = if chkP p ≠ 0 then 1 else if i ≠ 0 ∧ i ≠ 1 then 1 else if p.up[i.toNat]! ≠ false then 10 else 0 := chgE_eq p i false
  by_cases k1 : chkP p = 0
  rotate_left
  · rw [if_pos k1] at e0
    rw [show sStart p i = (p, chgE p i false) from if_pos (by rw [e0]; decide), e0]
    rw [chkP_1 k1] at fc
    refine zgo m_rstart_ok fun W S => ?_
    refine zcd (fc) ?_
    exact zrt m_rstart_ok
  obtain ⟨hn, ⟨h1, h2, h3, h4, h5⟩, hg, hw⟩ := chkP_ok k1
  rw [if_neg (fun h => h k1)] at e0
  rw [k1] at fc
  by_cases k2 : i ≠ 0 ∧ i ≠ 1
  · rw [if_pos k2] at e0
    rw [show sStart p i = (p, chgE p i false) from if_pos (by rw [e0]; decide), e0]
    obtain ⟨k2, k3⟩ := k2
    refine zgo m_rstart_ok fun W S => ?_
    refine zcd (fc) ?_
    exact zrt m_rstart_ok
  rw [if_neg k2] at e0
  by_cases k3 : p.up[i.toNat]! = false
  rotate_left
  · rw [if_pos k3] at e0
    rw [show sStart p i = (p, chgE p i false) from if_pos (by rw [e0]; decide), e0]
    have k3 : p.up[i.toNat]! = true := by simpa using k3
    rcases (by omega : i = 0 ∨ i = 1) with rfl | rfl
    · have k3 : p.up[0]! = _ := k3
      refine zgo m_rstart_ok fun W S => ?_
      refine zcd (fc) ?_
      refine zsx k3 ?_
      exact zrt m_rstart_ok
    · have k3 : p.up[1]! = _ := k3
      refine zgo m_rstart_ok fun W S => ?_
      refine zcd (fc) ?_
      refine zsx k3 ?_
      exact zrt m_rstart_ok
  rw [if_neg (fun h => h k3)] at e0
  rw [show sStart p i = ({ p with up := p.up.set i.toNat true, journals := if 0 ≤ p.active then p.journals.set i.toNat p.journals[p.active.toNat]! else p.journals, sync := if 0 ≤ p.active then p.sync.set i.toNat true else p.sync }, 0) from if_neg (by rw [e0]; simp)]
  have a1 : p.active ≤ 1 := hn.2.2.2.2.2.1
  have ki : i = 0 ∨ i = 1 := by omega
  by_cases c2 : 0 ≤ p.active
  · rw [if_pos c2, if_pos c2]
    have hja := two_le h3 h4 h5 (a := p.active.toNat) (by omega)
    have ha := act_up k1 c2 ki k3
    have hw1 : (1 - i) = p.active := by omega
    rcases ki with rfl | rfl
    · have k3 : p.up[0]! = false := k3
      have e1 : p.active.toNat = 1 := by omega
      rw [e1]
      refine zgo m_rstart_ok fun W S => ?_
      refine zcd (fc) ?_
      refine zsx k3 ?_
      refine zcx (rcop_fn p (by omega)) ?_
      refine ret m_rstart_ok [] ?_; (first | (simp only [go_sem]; done) | (simp only [go_sem]; ((try dsimp only); (repeat' (refine And.intro ?_ ?_)) <;> first | with_reducible rfl | (simp only [go_sem]; done) | (simp only [go_sem]; rfl) | (simp only [go_sem, lows_set, set_bo, set_bs]; done) | (simp only [lows_set, set_bo, set_bs]; (try simp only [go_sem]); first | done | rfl) | (simp only [go_sem]; simp [lows_set, set_bo, set_bs]; done) | (simp [lows_set, set_bo, set_bs]; done) | rfl)))
    · have k3 : p.up[1]! = false := k3
      have e1 : p.active.toNat = 0 := by omega
      rw [e1]
      refine zgo m_rstart_ok fun W S => ?_
      refine zcd (fc) ?_
      refine zsx k3 ?_
      refine zcx (rcop_fn p (by omega)) ?_
      refine ret m_rstart_ok [] ?_; (first | (simp only [go_sem]; done) | (simp only [go_sem]; ((try dsimp only); (repeat' (refine And.intro ?_ ?_)) <;> first | with_reducible rfl | (simp only [go_sem]; done) | (simp only [go_sem]; rfl) | (simp only [go_sem, lows_set, set_bo, set_bs]; done) | (simp only [lows_set, set_bo, set_bs]; (try simp only [go_sem]); first | done | rfl) | (simp only [go_sem]; simp [lows_set, set_bo, set_bs]; done) | (simp [lows_set, set_bo, set_bs]; done) | rfl)))
  · rw [if_neg c2, if_neg c2]
    have a0 : p.active = -1 := by have := hn.2.2.2.2.1; omega
    rcases ki with rfl | rfl
    · have k3 : p.up[0]! = false := k3
      refine zgo m_rstart_ok fun W S => ?_
      refine zcd (fc) ?_
      refine zsx k3 ?_
      refine zcx (rcop_fn p (by omega)) ?_
      refine ret m_rstart_ok [] ?_; (first | (simp only [go_sem]; done) | (simp only [go_sem]; ((try dsimp only); (repeat' (refine And.intro ?_ ?_)) <;> first | with_reducible rfl | (simp only [go_sem]; done) | (simp only [go_sem]; rfl) | (simp only [go_sem, lows_set, set_bo]; done) | (simp only [lows_set, set_bo]; (try simp only [go_sem]); first | done | rfl) | (simp only [go_sem]; simp [lows_set, set_bo]; done) | (simp [lows_set, set_bo]; done) | rfl)))
    · have k3 : p.up[1]! = false := k3
      refine zgo m_rstart_ok fun W S => ?_
      refine zcd (fc) ?_
      refine zsx k3 ?_
      refine zcx (rcop_fn p (by omega)) ?_
      refine ret m_rstart_ok [] ?_; (first | (simp only [go_sem]; done) | (simp only [go_sem]; ((try dsimp only); (repeat' (refine And.intro ?_ ?_)) <;> first | with_reducible rfl | (simp only [go_sem]; done) | (simp only [go_sem]; rfl) | (simp only [go_sem, lows_set, set_bo]; done) | (simp only [lows_set, set_bo]; (try simp only [go_sem]); first | done | rfl) | (simp only [go_sem]; simp [lows_set, set_bo]; done) | (simp [lows_set, set_bo]; done) | rfl)))
end Go.Proofs.YtdpfglkjhdnbbaaGreat
