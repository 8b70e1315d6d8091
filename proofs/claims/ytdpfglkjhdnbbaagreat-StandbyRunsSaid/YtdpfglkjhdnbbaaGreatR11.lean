/- Standby: Check. -/
import Derived.Test.YtdpfglkjhdnbbaaGreatR10
import Derived.Test.YtdpfglkjhdnbbaaGreatC5
namespace Go.Proofs.YtdpfglkjhdnbbaaGreat
open Go Go.RowKit Rdn Rdn.Dp
set_option linter.unusedVariables false
set_option linter.unusedSimpArgs false
theorem m_pchk_ok : compF Tryz.prog 17 = some (64, Qr ([Qw 1 (.box 35 (.t 0)), Qp 2 (.mov (Qi 0))])
 (.seq (Qr ([Qf 3 0 0 1, Ql 4 1 3, Qk 5 .lss 4 1, Qm 6 5, Q0 7 6 (.fieldA 0 0 (.t 1)), Q0 8 6 (.load false 1 (.t 7)), Q0 9 6 (.bin 0 .gtr (.t 8) (Qi 1000)), Qt 10 6 9, Qm 11 10, Q0 12 11 (.fieldA 1 1 (.t 1)), Q0 13 11 (.load false 1 (.t 12)), Q0 14 11 (.bin 0 .lss (.t 13) (Qi 0)), Qt 15 11 14, Qm 16 15, Q0 17 16 (.fieldA 1 1 (.t 1)), Q0 18 16 (.load false 1 (.t 17)), Q0 19 16 (.fieldA 0 0 (.t 1)), Q0 20 16 (.load false 1 (.t 19)), Q0 21 16 (.bin 0 .gtr (.t 18) (.t 20)), Qt 22 16 21, Qm 23 22, Q0 24 23 (.fieldA 2 2 (.t 1)), Q0 25 23 (.load false 1 (.t 24)), Q0 26 23 (.bin 0 .lss (.t 25) (Qi (-1))), Qt 27 23 26, Qm 28 27, Q0 29 28 (.fieldA 2 2 (.t 1)), Q0 30 28 (.load false 1 (.t 29)), Q0 31 28 (.bin 0 .gtr (.t 30) (Qi 1)), Qt 32 28 31, Qm 33 32, Q0 34 33 (.load true 14 (.t 1)), ⟨(some 35), (some (33, false)), (.call 41 [(.t 34)])⟩, Q0 36 33 (.un .not (.t 35)), Qt 37 33 36, Qm 38 37, Q0 39 38 (.fieldA 10 7 (.t 1)), Q0 40 38 (.load false 1 (.t 39)), Q0 41 38 (.bin 0 .lss (.t 40) (Qi 0)), Qt 42 38 41, Qm 43 42, Q0 44 43 (.fieldA 10 7 (.t 1)), Q0 45 43 (.load false 1 (.t 44)), Q0 46 43 (.bin 0 .gtr (.t 45) (Qi 1048576)), Qt 47 43 46, Qm 48 47, Q0 49 48 (.fieldA 6 6 (.t 1)), Q0 50 48 (.load true 4 (.t 49)), ⟨(some 51), (some (48, false)), (.call 42 [(.t 50)])⟩, Q0 52 48 (.bin 0 .neq (.t 51) (Qi 0)), Qt 53 48 52, Qm 54 53, Q0 55 54 (.fieldA 2 2 (.t 1)), Q0 56 54 (.load false 1 (.t 55)), Q0 57 54 (.bin 0 .geq (.t 56) (Qi 0)), Q0 58 54 (.mov (.t 57)), Q1 59 58 (.load true 14 (.t 1)), ⟨(some 60), (some (58, true)), (.call 43 [(.t 59)])⟩, Q1 61 58 (.un .not (.t 60)), Q0 62 54 (.pick (.t 58) (.t 61) (.c (.bool false))), Qt 63 54 62])
 (.cond (.t 63) (Qr ([Qp 2 (.mov (Qi 1))])
 (.ret)) (.skip)))
 (Qr ([Qp 2 (.mov (Qi 0))])
 (.ret))), [.mov (.t 2)]) := by kernel_rfl
theorem m_rpchk_ok : compF Tryz.prog 24 = some (147, Qr ([Qw 1 (.box 35 (.t 0)), Qp 2 (.mov (Qi 0))])
 (.seq (Qr ([Qf 8 0 0 1, Ql 9 1 8, Qk 10 .lss 9 1, Qm 11 10, Q0 12 11 (.fieldA 0 0 (.t 1)), Q0 13 11 (.load false 1 (.t 12)), Q0 14 11 (.bin 0 .gtr (.t 13) (Qi 1000)), Qt 15 11 14, Qm 16 15, Q0 17 16 (.fieldA 1 1 (.t 1)), Q0 18 16 (.load false 1 (.t 17)), Q0 19 16 (.bin 0 .lss (.t 18) (Qi 0)), Qt 20 16 19, Qm 21 20, Q0 22 21 (.fieldA 1 1 (.t 1)), Q0 23 21 (.load false 1 (.t 22)), Q0 24 21 (.fieldA 0 0 (.t 1)), Q0 25 21 (.load false 1 (.t 24)), Q0 26 21 (.bin 0 .gtr (.t 23) (.t 25)), Qt 27 21 26, Qm 28 27, Q0 29 28 (.fieldA 2 2 (.t 1)), Q0 30 28 (.load false 1 (.t 29)), Q0 31 28 (.bin 0 .lss (.t 30) (Qi (-1))), Qt 32 28 31, Qm 33 32, Q0 34 33 (.fieldA 2 2 (.t 1)), Q0 35 33 (.load false 1 (.t 34)), Q0 36 33 (.bin 0 .gtr (.t 35) (Qi 1)), Qt 37 33 36, Qm 38 37, Q0 39 38 (.fieldA 3 3 (.t 1)), Q0 40 38 (.load false 1 (.t 39)), Q0 41 38 (.len (.t 40)), Q0 42 38 (.bin 0 .neq (.t 41) (Qi 2)), Qt 43 38 42, Qm 44 43, Q0 45 44 (.fieldA 4 4 (.t 1)), Q0 46 44 (.load false 1 (.t 45)), Q0 47 44 (.len (.t 46)), Q0 48 44 (.bin 0 .neq (.t 47) (Qi 2)), Qt 49 44 48, Qm 50 49, Q0 51 50 (.fieldA 5 5 (.t 1)), Q0 52 50 (.load false 1 (.t 51)), Q0 53 50 (.len (.t 52)), Q0 54 50 (.bin 0 .neq (.t 53) (Qi 2)), Qt 55 50 54, Qm 56 55, Q0 57 56 (.fieldA 10 7 (.t 1)), Q0 58 56 (.load false 1 (.t 57)), Q0 59 56 (.bin 0 .lss (.t 58) (Qi 0)), Qt 60 56 59, Qm 61 60, Q0 62 61 (.fieldA 10 7 (.t 1)), Q0 63 61 (.load false 1 (.t 62)), Q0 64 61 (.bin 0 .gtr (.t 63) (Qi 1048576)), Qt 65 61 64])
 (.cond (.t 65) (Qr ([Qp 2 (.mov (Qi 1))])
 (.ret)) (.skip)))
 (.seq (Qr ([Qf 66 5 5 1, Ql 67 1 66, Qp 68 (.idxA 1 (.t 67) (Qi 0)), Ql 69 1 68, Qn 70 69, Qk 71 .gtr 70 262144, Qm 72 71, Q0 73 72 (.fieldA 5 5 (.t 1)), Q0 74 72 (.load false 1 (.t 73)), Q0 75 72 (.idxA 1 (.t 74) (Qi 1)), Q0 76 72 (.load false 1 (.t 75)), Q0 77 72 (.len (.t 76)), Q0 78 72 (.bin 0 .gtr (.t 77) (Qi 262144)), Qt 79 72 78, Qm 80 79, Q0 81 80 (.fieldA 6 6 (.t 1)), Q0 82 80 (.load true 4 (.t 81)), ⟨(some 83), (some (80, false)), (.call 55 [(.t 82)])⟩, Q0 84 80 (.bin 0 .neq (.t 83) (Qi 0)), Qt 85 80 84])
 (.cond (.t 85) (Qr ([Qp 2 (.mov (Qi 1))])
 (.ret)) (.skip)))
 (.seq (Qr ([Qf 86 2 2 1, Ql 87 1 86, Qk 88 .eql 87 (-1)])
 (.cond (.t 88) (Qr ([Qp 2 (.mov (Qi 0))])
 (.ret)) (.skip)))
 (.seq (Qr ([Qf 89 3 3 1, Ql 90 1 89, Qf 91 2 2 1, Ql 92 1 91, Qx 93 1 90 92, Ql 94 1 93, Qp 95 (.un .not (.t 94)), Qm 96 95, Q0 97 96 (.fieldA 4 4 (.t 1)), Q0 98 96 (.load false 1 (.t 97)), Q0 99 96 (.fieldA 2 2 (.t 1)), Q0 100 96 (.load false 1 (.t 99)), Q0 101 96 (.idxA 1 (.t 98) (.t 100)), Q0 102 96 (.load false 1 (.t 101)), Q0 103 96 (.un .not (.t 102)), Qt 104 96 103])
 (.cond (.t 104) (Qr ([Qp 2 (.mov (Qi 1))])
 (.ret)) (.skip)))
 (Qr ([Qf 106 5 5 1, Ql 107 1 106, Qf 108 2 2 1, Ql 109 1 108, Qx 110 1 107 109, Ql 111 1 110, Qq 112 49 [(.t 111)], Qm 105 112, Qe 113 105 0, Qe 114 105 1, Qm 3 113, Qm 4 114])
 (Qr ([Qm 116 3, Qq 117 50 [(.t 116)], Qm 115 117, Qe 118 115 0, Qe 119 115 1, Qe 120 115 2, Qw 5 (.alloc 31 (.agg [.int .i64 0, .int .i64 0, .int .i64 0, .nilS])), Qs 4 5 118, Qm 6 119, Qm 7 120])
 (.seq (Qr ([Qm 121 4, Qf 122 5 5 1, Ql 123 1 122, Qf 124 2 2 1, Ql 125 1 124, Qx 126 1 123 125, Ql 127 1 126, Qn 128 127, Qb 129 .neq 121 128, Qm 130 129, Q0 131 130 (.mov (.t 7)), Q0 132 130 (.bin 0 .neq (.t 131) (Qi 0)), Qt 133 130 132, Qm 134 133, Q0 135 134 (.mov (.t 6)), Q0 136 134 (.fieldA 10 7 (.t 1)), Q0 137 134 (.load false 1 (.t 136)), Q0 138 134 (.bin 0 .neq (.t 135) (.t 137)), Qt 139 134 138, Qm 140 139, Q0 141 140 (.load true 4 (.t 5)), Q0 142 140 (.fieldA 6 6 (.t 1)), Q0 143 140 (.load true 4 (.t 142)), ⟨(some 144), (some (140, false)), (.call 53 [(.t 141), (.t 143)])⟩, Q0 145 140 (.un .not (.t 144)), Qt 146 140 145])
 (.cond (.t 146) (Qr ([Qp 2 (.mov (Qi 1))])
 (.ret)) (.skip)))
 (Qr ([Qp 2 (.mov (Qi 0))])
 (.ret))))))))), [.mov (.t 2)]) := by kernel_rfl
def numP (p : Pair) : Prop := 1 ≤ p.wait ∧ p.wait ≤ 1000 ∧ 0 ≤ p.silent ∧ p.silent ≤ p.wait ∧ -1 ≤ p.active ∧ p.active ≤ 1 ∧ 0 ≤ p.epoch ∧ p.epoch ≤ 1048576
instance (p : Pair) : Decidable (numP p) := by unfold numP; infer_instance
def okPr (p : Pair) : Prop := numP p ∧ shdP p ∧ chk p.gateway = 0 ∧ (p.active < 0 ∨ whoB p = true)
noncomputable instance (p : Pair) : Decidable (okPr p) := by unfold okPr; infer_instance
noncomputable def chkP (p : Pair) : Int := if okPr p then 0 else 1
attribute [local irreducible] sReb sRec whoB shdP
set_option maxHeartbeats 8000000 in
theorem pchk_fn (p : Pair) : Fnc Tryz.prog 17 [prV false p] (fun x obs => x = .int .i64 (chkP p) ∧ obs = []) := by
  have fs := pshaped_fn p
  have fg := gwchk_fn p.gateway
  by_cases n1 : ¬ p.wait < 1
  rotate_left
  · rw [show chkP p = 1 from if_neg (fun h => by have := h.1; unfold numP at this; omega)]
    refine zgo m_pchk_ok fun W S => ?_
    exact zrt m_pchk_ok
  by_cases n2 : ¬ p.wait > 1000
  rotate_left
  · rw [show chkP p = 1 from if_neg (fun h => by have := h.1; unfold numP at this; omega)]
    refine zgo m_pchk_ok fun W S => ?_
    exact zrt m_pchk_ok
  by_cases n3 : ¬ p.silent < 0
  rotate_left
  · rw [show chkP p = 1 from if_neg (fun h => by have := h.1; unfold numP at this; omega)]
    refine zgo m_pchk_ok fun W S => ?_
    exact zrt m_pchk_ok
  by_cases n4 : ¬ p.silent > p.wait
  rotate_left
  · rw [show chkP p = 1 from if_neg (fun h => by have := h.1; unfold numP at this; omega)]
    refine zgo m_pchk_ok fun W S => ?_
    exact zrt m_pchk_ok
  by_cases n5 : ¬ p.active < -1
  rotate_left
  · rw [show chkP p = 1 from if_neg (fun h => by have := h.1; unfold numP at this; omega)]
    refine zgo m_pchk_ok fun W S => ?_
    exact zrt m_pchk_ok
  by_cases n6 : ¬ p.active > 1
  rotate_left
  · rw [show chkP p = 1 from if_neg (fun h => by have := h.1; unfold numP at this; omega)]
    refine zgo m_pchk_ok fun W S => ?_
    exact zrt m_pchk_ok
  by_cases hs : shdP p
  rotate_left
  · rw [show chkP p = 1 from if_neg (fun h => hs h.2.1)]
    rw [decF hs] at fs
    refine zgo m_pchk_ok fun W S => ?_
    refine zcd (fs) ?_
    exact zrt m_pchk_ok
  rw [decT hs] at fs
  by_cases n7 : ¬ p.epoch < 0
  rotate_left
  · rw [show chkP p = 1 from if_neg (fun h => by have := h.1; unfold numP at this; omega)]
    refine zgo m_pchk_ok fun W S => ?_
    refine zcd (fs) ?_
    exact zrt m_pchk_ok
  by_cases n8 : ¬ p.epoch > 1048576
  rotate_left
  · rw [show chkP p = 1 from if_neg (fun h => by have := h.1; unfold numP at this; omega)]
    refine zgo m_pchk_ok fun W S => ?_
    refine zcd (fs) ?_
    exact zrt m_pchk_ok
  by_cases hg : chk p.gateway = 0
  rotate_left
  · rw [show chkP p = 1 from if_neg (fun h => hg h.2.2.1)]
    generalize chk p.gateway = z at fg hg
    refine zgo m_pchk_ok fun W S => ?_
    refine zcd (fs) ?_
    refine zcd (fg) ?_
    exact zrt m_pchk_ok
  rw [hg] at fg
  by_cases ha : p.active < 0
  · rw [show chkP p = 0 from if_pos ⟨by unfold numP; omega, hs, hg, .inl ha⟩]
    refine zgo m_pchk_ok fun W S => ?_
    refine zcd (fs) ?_
    refine zcd (fg) ?_
    exact zrt m_pchk_ok
  have fw := pwhole_fn p hs (by omega) (by omega)
  by_cases hw : whoB p = true
  · rw [show chkP p = 0 from if_pos ⟨by unfold numP; omega, hs, hg, .inr hw⟩]
    rw [hw] at fw
    refine zgo m_pchk_ok fun W S => ?_
    refine zcd (fs) ?_
    refine zcd (fg) ?_
    refine zcd (fw) ?_
    exact zrt m_pchk_ok
  · rw [show chkP p = 1 from if_neg (fun h => h.2.2.2.elim (fun h => by omega) hw)]
    have hw : whoB p = false := by simpa using hw
    rw [hw] at fw
    refine zgo m_pchk_ok fun W S => ?_
    refine zcd (fs) ?_
    refine zcd (fg) ?_
    refine zcd (fw) ?_
    exact zrt m_pchk_ok
set_option maxHeartbeats 8000000 in
theorem rpchk_fn (p : Pair) : Fnc Tryz.prog 24 [prV false p] (fun x obs => x = .int .i64 (chkP p) ∧ obs = []) := by
  have fg := grchk_fn p.gateway
  by_cases n1 : ¬ p.wait < 1
  rotate_left
  · rw [show chkP p = 1 from if_neg (fun h => by have := h.1; unfold numP at this; omega)]
    refine zgo m_rpchk_ok fun W S => ?_
    exact zrt m_rpchk_ok
  by_cases n2 : ¬ p.wait > 1000
  rotate_left
  · rw [show chkP p = 1 from if_neg (fun h => by have := h.1; unfold numP at this; omega)]
    refine zgo m_rpchk_ok fun W S => ?_
    exact zrt m_rpchk_ok
  by_cases n3 : ¬ p.silent < 0
  rotate_left
  · rw [show chkP p = 1 from if_neg (fun h => by have := h.1; unfold numP at this; omega)]
    refine zgo m_rpchk_ok fun W S => ?_
    exact zrt m_rpchk_ok
  by_cases n4 : ¬ p.silent > p.wait
  rotate_left
  · rw [show chkP p = 1 from if_neg (fun h => by have := h.1; unfold numP at this; omega)]
    refine zgo m_rpchk_ok fun W S => ?_
    exact zrt m_rpchk_ok
  by_cases n5 : ¬ p.active < -1
  rotate_left
  · rw [show chkP p = 1 from if_neg (fun h => by have := h.1; unfold numP at this; omega)]
    refine zgo m_rpchk_ok fun W S => ?_
    exact zrt m_rpchk_ok
  by_cases n6 : ¬ p.active > 1
  rotate_left
  · rw [show chkP p = 1 from if_neg (fun h => by have := h.1; unfold numP at this; omega)]
    refine zgo m_rpchk_ok fun W S => ?_
    exact zrt m_rpchk_ok
  by_cases s1 : p.up.length = 2
  rotate_left
  · rw [show chkP p = 1 from if_neg (fun h => by have := h.2.1; unfold shdP at this; omega)]
    refine zgo m_rpchk_ok fun W S => ?_
    exact zrt m_rpchk_ok
  by_cases s2 : p.sync.length = 2
  rotate_left
  · rw [show chkP p = 1 from if_neg (fun h => by have := h.2.1; unfold shdP at this; omega)]
    refine zgo m_rpchk_ok fun W S => ?_
    exact zrt m_rpchk_ok
  by_cases s3 : p.journals.length = 2
  rotate_left
  · rw [show chkP p = 1 from if_neg (fun h => by have := h.2.1; unfold shdP at this; omega)]
    refine zgo m_rpchk_ok fun W S => ?_
    exact zrt m_rpchk_ok
  by_cases n7 : ¬ p.epoch < 0
  rotate_left
  · rw [show chkP p = 1 from if_neg (fun h => by have := h.1; unfold numP at this; omega)]
    refine zgo m_rpchk_ok fun W S => ?_
    exact zrt m_rpchk_ok
  by_cases n8 : ¬ p.epoch > 1048576
  rotate_left
  · rw [show chkP p = 1 from if_neg (fun h => by have := h.1; unfold numP at this; omega)]
    refine zgo m_rpchk_ok fun W S => ?_
    exact zrt m_rpchk_ok
  by_cases s4 : p.journals[0]!.length ≤ 262144
  rotate_left
  · rw [show chkP p = 1 from if_neg (fun h => by have := h.2.1; unfold shdP at this; omega)]
    refine zgo m_rpchk_ok fun W S => ?_
    exact zrt m_rpchk_ok
  by_cases s5 : p.journals[1]!.length ≤ 262144
  rotate_left
  · rw [show chkP p = 1 from if_neg (fun h => by have := h.2.1; unfold shdP at this; omega)]
    refine zgo m_rpchk_ok fun W S => ?_
    exact zrt m_rpchk_ok
  have hs : shdP p := by unfold shdP; exact ⟨s1, s2, s3, s4, s5⟩
  by_cases hg : chk p.gateway = 0
  rotate_left
  · rw [show chkP p = 1 from if_neg (fun h => hg h.2.2.1)]
    generalize chk p.gateway = z at fg hg
    refine zgo m_rpchk_ok fun W S => ?_
    refine zcd (fg) ?_
    exact zrt m_rpchk_ok
  rw [hg] at fg
  by_cases ha : p.active = -1
  · rw [show chkP p = 0 from if_pos ⟨by unfold numP; omega, hs, hg, .inl (by omega)⟩]
    refine zgo m_rpchk_ok fun W S => ?_
    refine zcd (fg) ?_
    exact zrt m_rpchk_ok
  have hkey : chkP p = if whoB p = true then 0 else 1 := by
    by_cases hw : whoB p = true
    · rw [if_pos hw]; exact if_pos ⟨by unfold numP; omega, hs, hg, .inr hw⟩
    · rw [if_neg hw]; exact if_neg fun h => h.2.2.2.elim (fun h => by omega) hw
  rw [hkey]
  have hj := two_le s3 s4 s5 (a := p.active.toNat) (by omega)
  have f1 := rrec_fn p.journals[p.active.toNat]! (by omega)
  have f2 := rreb_fn (sRec p.journals[p.active.toNat]!).1
  unfold whoB
  generalize hR : sRec p.journals[p.active.toNat]! = R at f1 f2 ⊢
  obtain ⟨ns, rn⟩ := R
  dsimp only at f1 f2 ⊢
  generalize sReb ns = B at f2 ⊢
  obtain ⟨g, ep, z⟩ := B
  dsimp only at f2
  have f3 := gwq_fn g p.gateway
  have hq : (g, ep, z) = (p.gateway, p.epoch, 0) ↔ g = p.gateway ∧ ep = p.epoch ∧ z = 0 := by simp
  by_cases d1 : p.up[p.active.toNat]! = true
  rotate_left
  · skip
    have d1' : p.up[p.active.toNat]! = false := by simpa using d1
    rw [if_neg (show ¬ (p.up[p.active.toNat]! && (p.sync[p.active.toNat]! && (decide (rn = p.journals[p.active.toNat]!.length) && decide ((g, ep, z) = (p.gateway, p.epoch, 0))))) = true from by rw [d1']; simp)]
    refine zgo m_rpchk_ok fun W S => ?_
    refine zcd (fg) ?_
    repeat (first | (simp only [d1']; try simp only [go_sem]) | refine And.intro (by omega) ?_ | refine And.intro rfl ?_ | refine ev_ctl rfl rfl ?_ | refine evr_nil ?_ | refine evw_nil (by kernel_rfl) ?_ | (simp (disch := omega) only [takeAll, Nat.min_eq_left, Nat.min_eq_right, if_pos, if_neg, getD_map, wrapI64, modIn, fdivE, tmodE, tdivE, decT, decF, beqT, beqF, bneT, bneF, Int.toNat_natCast]; try simp only [go_sem]) | (refine ev_condTb rfl ?_ ?_; · (simp <;> omega)) | (refine ev_condFb rfl ?_ ?_; · (simp <;> omega)) | ((first | refine ev_region ?_ | refine evr_go rfl ?_ | refine evw_go rfl ?_ | refine ev_dr0 mixed rfl (by kernel_rfl) ?_ | refine ev_dr1 mixed rfl (by kernel_rfl) ?_ | refine ev_dr2 mixed rfl (by kernel_rfl) ?_); simp only [go_sem]))
    exact zrt m_rpchk_ok
  by_cases d2 : p.sync[p.active.toNat]! = true
  rotate_left
  · skip
    have d2' : p.sync[p.active.toNat]! = false := by simpa using d2
    rw [if_neg (show ¬ (p.up[p.active.toNat]! && (p.sync[p.active.toNat]! && (decide (rn = p.journals[p.active.toNat]!.length) && decide ((g, ep, z) = (p.gateway, p.epoch, 0))))) = true from by rw [d2']; simp)]
    refine zgo m_rpchk_ok fun W S => ?_
    refine zcd (fg) ?_
    repeat (first | (simp only [d1, d2']; try simp only [go_sem]) | refine And.intro (by omega) ?_ | refine And.intro rfl ?_ | refine ev_ctl rfl rfl ?_ | refine evr_nil ?_ | refine evw_nil (by kernel_rfl) ?_ | (simp (disch := omega) only [takeAll, Nat.min_eq_left, Nat.min_eq_right, if_pos, if_neg, getD_map, wrapI64, modIn, fdivE, tmodE, tdivE, decT, decF, beqT, beqF, bneT, bneF, Int.toNat_natCast]; try simp only [go_sem]) | (refine ev_condTb rfl ?_ ?_; · (simp <;> omega)) | (refine ev_condFb rfl ?_ ?_; · (simp <;> omega)) | ((first | refine ev_region ?_ | refine evr_go rfl ?_ | refine evw_go rfl ?_ | refine ev_dr0 mixed rfl (by kernel_rfl) ?_ | refine ev_dr1 mixed rfl (by kernel_rfl) ?_ | refine ev_dr2 mixed rfl (by kernel_rfl) ?_); simp only [go_sem]))
    exact zrt m_rpchk_ok
  by_cases d3 : rn = p.journals[p.active.toNat]!.length
  rotate_left
  · skip
    rw [if_neg (show ¬ (p.up[p.active.toNat]! && (p.sync[p.active.toNat]! && (decide (rn = p.journals[p.active.toNat]!.length) && decide ((g, ep, z) = (p.gateway, p.epoch, 0))))) = true from by rw [decF d3]; simp)]
    refine zgo m_rpchk_ok fun W S => ?_
    refine zcd (fg) ?_
    refine zsx (And.intro d1 (d2)) ?_
    refine zcd (f1) ?_
    refine zcd (f2) ?_
    exact zrt m_rpchk_ok
  by_cases d4 : z = 0
  rotate_left
  · skip
    rw [if_neg (show ¬ (p.up[p.active.toNat]! && (p.sync[p.active.toNat]! && (decide (rn = p.journals[p.active.toNat]!.length) && decide ((g, ep, z) = (p.gateway, p.epoch, 0))))) = true from by rw [decF (fun h => d4 (hq.1 h).2.2)]; simp)]
    refine zgo m_rpchk_ok fun W S => ?_
    refine zcd (fg) ?_
    refine zsx (And.intro d1 (d2)) ?_
    refine zcd (f1) ?_
    refine zcd (f2) ?_
    exact zrt m_rpchk_ok
  by_cases d5 : ep = p.epoch
  rotate_left
  · skip
    rw [if_neg (show ¬ (p.up[p.active.toNat]! && (p.sync[p.active.toNat]! && (decide (rn = p.journals[p.active.toNat]!.length) && decide ((g, ep, z) = (p.gateway, p.epoch, 0))))) = true from by rw [decF (fun h => d5 (hq.1 h).2.1)]; simp)]
    refine zgo m_rpchk_ok fun W S => ?_
    refine zcd (fg) ?_
    refine zsx (And.intro d1 (d2)) ?_
    refine zcd (f1) ?_
    refine zcd (f2) ?_
    exact zrt m_rpchk_ok
  by_cases d6 : g = p.gateway
  rotate_left
  · skip
    rw [decF d6] at f3
    rw [if_neg (show ¬ (p.up[p.active.toNat]! && (p.sync[p.active.toNat]! && (decide (rn = p.journals[p.active.toNat]!.length) && decide ((g, ep, z) = (p.gateway, p.epoch, 0))))) = true from by rw [decF (fun h => d6 (hq.1 h).1)]; simp)]
    refine zgo m_rpchk_ok fun W S => ?_
    refine zcd (fg) ?_
    refine zsx (And.intro d1 (d2)) ?_
    refine zcd (f1) ?_
    refine zcd (f2) ?_
    refine zcd (f3) ?_
    exact zrt m_rpchk_ok
  rw [if_pos (show (p.up[p.active.toNat]! && (p.sync[p.active.toNat]! && (decide (rn = p.journals[p.active.toNat]!.length) && decide ((g, ep, z) = (p.gateway, p.epoch, 0))))) = true from by rw [d1, d2, decT d3, decT (hq.2 ⟨d6, d5, d4⟩)]; rfl)]
  rw [decT d6] at f3
  refine zgo m_rpchk_ok fun W S => ?_
  refine zcd (fg) ?_
  refine zsx (And.intro d1 (d2)) ?_
  refine zcd (f1) ?_
  refine zcd (f2) ?_
  refine zcd (f3) ?_
  exact zrt m_rpchk_ok
end Go.Proofs.YtdpfglkjhdnbbaaGreat
