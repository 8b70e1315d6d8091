/- Standby: Write of the reference. -/
import Derived.Test.YtdpfglkjhdnbbaaGreatR13
import Derived.Test.YtdpfglkjhdnbbaaGreatC5
import Derived.Test.YtdpfglkjhdnbbaaGreatPt
namespace Go.Proofs.YtdpfglkjhdnbbaaGreat
open Go Go.RowKit Rdn Rdn.Dp
set_option linter.unusedVariables false
set_option linter.unusedSimpArgs false
theorem m_rcop_ok : compF Tryz.prog 51 = some (19, Qr ([Qw 1 (.box 35 (.t 0)), Qw 2 (.alloc 35 (.agg [.int .i64 0, .int .i64 0, .int .i64 0, .nilS, .nilS, .nilS, .agg [.int .i64 0, .int .i64 0, .int .i64 0, .nilS], .int .i64 0, .agg [.int .i64 0, .int .i64 0, .nilS]]))])
 (Qr ([Qw 3 (.buildS 4 1 (.bool false) 0 []), Qf 4 3 3 1, Ql 5 1 4, Qw 6 (.app 4 1 1 (.t 3) (.t 5)), Qf 7 3 3 1, Qs 1 7 6])
 (Qr ([Qw 8 (.buildS 4 1 (.bool false) 0 []), Qf 9 4 4 1, Ql 10 1 9, Qw 11 (.app 4 1 1 (.t 8) (.t 10)), Qf 12 4 4 1, Qs 1 12 11])
 (Qr ([Qw 13 (.buildS 40 1 (.nilS) 0 []), Qf 14 5 5 1, Ql 15 1 14, Qw 16 (.app 40 1 24 (.t 13) (.t 15)), Qf 17 5 5 1, Qs 1 17 16])
 (Qr ([QL 18 14 1, Qs 14 2 18])
 (.ret))))), [.load true 14 (.t 2)]) := by kernel_rfl
theorem m_rcut_ok : compF Tryz.prog 52 = some (8, Qr ([Qp 2 (.mov (.c (.nilS)))])
 (Qr ([Qm 3 0, Qm 4 0, Qn 5 4, Qp 6 (.mn (.t 5) (Qi 262144)), Qw 7 (.sl 1 (.t 3) none (some (.t 6)) none), Qm 2 7])
 (.ret)), [.mov (.t 2)]) := by kernel_rfl
theorem m_rwr_ok : compF Tryz.prog 22 = some (105, Qr ([Qw 2 (.box 35 (.t 0)), Qw 3 (.box 42 (.t 1)), Qw 4 (.alloc 35 (.agg [.int .i64 0, .int .i64 0, .int .i64 0, .nilS, .nilS, .nilS, .agg [.int .i64 0, .int .i64 0, .int .i64 0, .nilS], .int .i64 0, .agg [.int .i64 0, .int .i64 0, .nilS]])), Qp 5 (.mov (Qi 0))])
 (.seq (Qr ([QL 17 14 2, Qq 18 24 [(.t 17)], Qm 6 18])
 (Qr ([Qm 19 6, Qk 20 .neq 19 0])
 (.cond (.t 20) (Qr ([QL 21 14 2, Qm 22 6, Qs 14 4 21, Qm 5 22])
 (.ret)) (.skip))))
 (.seq (Qr ([Qf 23 2 2 2, Ql 24 1 23, Qk 25 .eql 24 (-1)])
 (.cond (.t 25) (Qr ([QL 26 14 2, Qs 14 4 26, Qp 5 (.mov (Qi 10))])
 (.ret)) (.skip)))
 (.seq (Qr ([Qf 27 0 0 3, Ql 28 1 27, Qk 29 .eql 28 5])
 (.cond (.t 29) (Qr ([QL 30 14 2, Qs 14 4 30, Qp 5 (.mov (Qi 1))])
 (.ret)) (.skip)))
 (.seq (.dreg [Qf 32 5 5 2, Ql 33 1 32, Qf 34 2 2 2, Ql 35 1 34, Qx 36 1 33 35, Ql 37 1 36, QL 38 4 3, Qq 39 18 [(.t 37), (.t 38)], Qm 31 39, Qe 40 31 0, Qe 41 31 1, Qm 7 40, Qm 8 41] [[], [0], [], [2], [0, 1, 2, 3], [0, 1, 2, 3, 4], [], [0, 1, 2, 3, 4, 5, 6], [0, 1, 2, 3, 4, 5, 6, 7], [0, 1, 2, 3, 4, 5, 6, 7, 8], [0, 1, 2, 3, 4, 5, 6, 7, 8], [0, 1, 2, 3, 4, 5, 6, 7, 8, 9], [0, 1, 2, 3, 4, 5, 6, 7, 8, 9, 10, 11]])
 (.seq (Qr ([Qm 42 8, Qk 43 .neq 42 0])
 (.cond (.t 43) (Qr ([QL 44 14 2, Qm 45 8, Qs 14 4 44, Qm 5 45])
 (.ret)) (.skip)))
 (Qr ([Qm 47 7, Qq 48 49 [(.t 47)], Qm 46 48, Qe 49 46 0, Qe 50 46 1, Qm 9 49, Qm 10 50])
 (Qr ([Qm 52 9, Qq 53 50 [(.t 52)], Qm 51 53, Qe 54 51 0, Qe 55 51 1, Qe 56 51 2, Qw 11 (.alloc 31 (.agg [.int .i64 0, .int .i64 0, .int .i64 0, .nilS])), Qs 4 11 54, Qm 12 55, Qm 8 56])
 (.seq (Qr ([Qm 57 8, Qk 58 .neq 57 0])
 (.cond (.t 58) (Qr ([QL 59 14 2, Qm 60 8, Qs 14 4 59, Qm 5 60])
 (.ret)) (.skip)))
 (Qr ([QL 61 14 2, Qq 62 51 [(.t 61)], Qw 13 (.alloc 35 (.agg [.int .i64 0, .int .i64 0, .int .i64 0, .nilS, .nilS, .nilS, .agg [.int .i64 0, .int .i64 0, .int .i64 0, .nilS], .int .i64 0, .agg [.int .i64 0, .int .i64 0, .nilS]])), Qs 14 13 62])
 (Qr ([Qf 63 2 2 2, Ql 64 1 63, Qp 65 (.bin 0 .sub (Qi 1) (.t 64)), Qm 14 65])
 (.seq (.dreg [Qf 66 5 5 13, Ql 67 1 66, Qf 68 2 2 2, Ql 69 1 68, Qm 70 7, QL 71 4 11, Qx 72 1 67 69, Qs 1 72 70, Qf 73 6 6 13, Qs 4 73 71] [[], [0], [], [2], [], [], [0, 1, 2, 3, 4], [0, 1, 2, 3, 4, 6], [0, 1, 2, 3, 4, 5, 6, 7], [0, 1, 2, 3, 4, 5, 6, 7, 8]])
 (.seq (Qr ([Qf 74 3 3 2, Ql 75 1 74, Qm 76 14, Qx 77 1 75 76, Ql 78 1 77, Qp 79 (.un .not (.t 78))])
 (.cond (.t 79) (Qr ([Qf 80 4 4 13, Ql 81 1 80, Qm 82 14, Qx 83 1 81 82, ⟨none, none, (.m (.store 1 (.t 83) (.c (.bool false))))⟩])
 (Qr ([QL 84 14 13, Qs 14 4 84, Qp 5 (.mov (Qi 0))])
 (.ret))) (.skip)))
 (Qr ([QL 86 4 3, Qq 87 44 [(.t 86)], Qm 85 87, Qe 88 85 0, Qe 89 85 1, Qm 15 88, Qm 16 89])
 (.seq (.dreg [Qf 90 5 5 13, Ql 91 1 90, Qm 92 14, Qw 93 (.buildS 5 1 (.int .u8 0) 0 []), Qf 94 5 5 2, Ql 95 1 94, Qm 96 14, Qx 97 1 95 96, Ql 98 1 97, Qw 99 (.app 5 1 1 (.t 93) (.t 98)), Qm 100 15, Qw 101 (.app 5 1 1 (.t 99) (.t 100)), Qq 102 52 [(.t 101)], Qx 103 1 91 92, Qs 1 103 102] [[], [0], [], [], [], [4], [], [4, 5, 6], [4, 5, 6, 7], [3, 4, 5, 6, 7, 8], [], [3, 4, 5, 6, 7, 8, 9, 10], [3, 4, 5, 6, 7, 8, 9, 10, 11], [0, 1, 2, 3, 4, 5, 6, 7, 8, 9, 10, 11, 12], [0, 1, 2, 3, 4, 5, 6, 7, 8, 9, 10, 11, 12, 13]])
 (Qr ([QL 104 14 13, Qs 14 4 104, Qp 5 (.mov (Qi 0))])
 (.ret)))))))))))))))), [.load true 14 (.t 4), .mov (.t 5)]) := by kernel_rfl
theorem rcut_fn (b : List Int) : Fnc Tryz.prog 52 [.sl false 1 (u8s b)] (fun x obs => x = .sl false 1 (u8s (b.take 262144)) ∧ obs = []) := by
  by_cases c : b.length ≤ 262144
  · rw [List.take_of_length_le c]
    have e1 : List.take b.length (List.map (V.int .u8) b) = u8s b := List.take_of_length_le (by simp)
    refine zgo m_rcut_ok fun W S => ?_
    exact zrh m_rcut_ok e1
  · have e1 : List.take 262144 (List.map (V.int .u8) b) = u8s (b.take 262144) := by simp [u8s, List.map_take]
    refine zgo m_rcut_ok fun W S => ?_
    exact zrh m_rcut_ok e1
set_option maxHeartbeats 4000000 in
theorem rcop_fn (p : Pair) (hj : p.journals.length ≤ 1000) : Fnc Tryz.prog 51 [prV false p] (fun x obs => x = .agg [.int .i64 p.wait, .int .i64 p.silent, .int .i64 p.active, .own 0 0, .own 1 0, .own 2 0, .agg (gwL false p.gateway), .int .i64 p.epoch, .agg (mbL false p.mailbox)] ∧ obs = [⟨.row 4, true, 0, .arr 1 (p.up.map V.bool)⟩, ⟨.row 4, true, 0, .arr 1 (p.sync.map V.bool)⟩, ⟨.row 40, true, 0, .arr 1 (p.journals.map (slV' false 1 (V.int .u8)))⟩]) := by
  refine Fnc.wf fun hw => ?_
  simp only [V.wfs, V.wf, List.length_map] at hw
  have b1 := hw.1.2.2.2.1.2
  have b2 := hw.1.2.2.2.2.1.2
  clear hw
  refine zgo m_rcop_ok fun W S => ?_
  refine retN m_rcop_ok [2, 3, 4] ?_; simp only [go_sem]
theorem set_low {α : Type} (f : α → V) (l : List α) (i : Nat) (x : α) : (l.map f).set i (f x) = (l.set i x).map f := by rw [List.map_set]
theorem lows_set (l : List V) (i : Nat) (x : V) : V.lows (l.set i x) = (V.lows l).set i x.low := by rw [lows_map, lows_map, List.map_set]
theorem set_bs (l : List (List Int)) (i : Nat) (x : List Int) : (l.map (slV' false 1 (V.int .u8))).set i (V.sl false 1 (u8s x)) = (l.set i x).map (slV' false 1 (V.int .u8)) := set_low _ l i x
theorem set_bo (l : List Bool) (i : Nat) (x : Bool) : (l.map V.bool).set i (V.bool x) = (l.set i x).map V.bool := set_low _ l i x
theorem set_sz (t : Bool) (l : List (List Int)) {i j : Nat} (x : V) (h : i ≠ j) (hj : j < l.length) : (((l.map (slV' t 1 (V.int .u8))).set i x).getD j .junk).size = 1 := by
  rw [List.getD_eq_getElem?_getD, List.getElem?_set_ne h, List.getElem?_map, List.getElem?_eq_getElem hj]
  rfl
theorem set_ln (t : Bool) (l : List (List Int)) (i : Nat) (x : V) : ((l.map (slV' t 1 (V.int .u8))).set i x).length = l.length := by simp
attribute [local irreducible] sApp sRec sReb chkP
set_option maxHeartbeats 16000000 in
theorem rwr_fn (p : Pair) (n : Note) : Fnc Tryz.prog 22 [prV false p, .agg (noteL false n)] (fun x obs => x = .tup [prV false (sWr p n).1, .int .i64 (sWr p n).2] ∧ obs = []) := by
  refine Fnc.low ?_
  have fc := rpchk_fn p
  by_cases c1 : chkP p = 0
  rotate_left
  · rw [sWr_e (by unfold wrE; rw [if_pos c1]) c1]
    generalize chkP p = z at fc c1
    refine zgo m_rwr_ok fun W S => ?_
    refine zcd (fc) ?_
    exact zrt m_rwr_ok
  have hs := chkP_ok c1
  rw [c1] at fc
  obtain ⟨hn, ⟨h1, h2, h3, h4, h5⟩, hg, hw⟩ := hs
  have a1 : p.active ≤ 1 := hn.2.2.2.2.2.1
  have a0 : -1 ≤ p.active := hn.2.2.2.2.1
  by_cases c2 : p.active < 0
  · rw [sWr_e (e := 10) (by unfold wrE; rw [if_neg (by simp [c1]), if_pos c2]) (by decide)]
    have c2 : p.active = -1 := by omega
    refine zgo m_rwr_ok fun W S => ?_
    refine zcd (fc) ?_
    exact zrt m_rwr_ok
  by_cases c3 : n.kind = 5
  · rw [sWr_e (e := 1) (by unfold wrE; rw [if_neg (by simp [c1]), if_neg c2, if_pos c3]) (by decide)]
    refine zgo m_rwr_ok fun W S => ?_
    refine zcd (fc) ?_
    exact zrt m_rwr_ok
  have hja := two_le h3 h4 h5 (a := p.active.toNat) (by omega)
  have hjo := two_le h3 h4 h5 (a := (1 - p.active).toNat) (by omega)
  have fa := rapp_fn p.journals[p.active.toNat]! n
  by_cases c4 : (sApp p.journals[p.active.toNat]! n).2 = 0
  rotate_left
  · rw [sWr_e (by unfold wrE; rw [if_neg (by simp [c1]), if_neg c2, if_neg c3, if_pos c4]) c4]
    generalize sApp p.journals[p.active.toNat]! n = z at fa c4
    obtain ⟨z1, z2⟩ := z
    dsimp only at fa c4 ⊢
    refine zgo m_rwr_ok fun W S => ?_
    refine zcd (fc) ?_
    refine zcd (fa) ?_
    exact zrt m_rwr_ok
  obtain ⟨hb, hl, hk⟩ := sApp_0 c4
  have he : sApp p.journals[p.active.toNat]! n = (p.journals[p.active.toNat]! ++ encB n, 0) := Prod.ext hb c4
  have hwb : wrB p n = p.journals[p.active.toNat]! ++ encB n := hb
  have hle : (p.journals[p.active.toNat]! ++ encB n).length ≤ 1000000 := by rw [List.length_append, encB_len]; omega
  have hle2 : p.journals[(1 - p.active).toNat]!.length + (encB n).length ≤ 1000000 := by rw [encB_len]; omega
  rw [he] at fa
  have fr := rrec_fn (p.journals[p.active.toNat]! ++ encB n) hle
  have fb := rreb_fn (sRec (p.journals[p.active.toNat]! ++ encB n)).1
  have fh := rcut_fn (p.journals[(1 - p.active).toNat]! ++ encB n)
  have fe := renc_fn n
  rw [show sEnc n = (encB n, 0) from by unfold sEnc; rw [if_pos hk]] at fe
  clear hle
  have hsz := fun x => set_sz false p.journals (i := p.active.toNat) (j := (1 - p.active).toNat) x (by omega) (by omega)
  have hln := fun x => (set_ln false p.journals p.active.toNat x).trans h3
  by_cases c6 : (sReb (sRec (p.journals[p.active.toNat]! ++ encB n)).1).2.2 = 0
  · have hE : wrE p n = 0 := by unfold wrE; rw [if_neg (by simp [c1]), if_neg c2, if_neg c3, if_neg (by rw [c4]; simp), hwb, c6]
    rw [sWr_0 hE]
    unfold wrP bhd
    rw [hwb]
    generalize sReb (sRec (p.journals[p.active.toNat]! ++ encB n)).1 = z at fb c6
    obtain ⟨z1, z2, z3⟩ := z
    dsimp only at fb c6 ⊢
    by_cases c5 : p.up[(1 - p.active).toNat]! = true
    · rw [if_pos c5, if_pos c5]
      refine zgo m_rwr_ok fun W S => ?_
      refine zcd (fc) ?_
      refine zcd (fa) ?_
      refine zcd (fr) ?_
      refine zcd (fb) ?_
      refine zcx (rcop_fn p (by omega)) ?_
      refine zsx c5 ?_
      (first | refine callD (fe) ?_ | refine callDw (fe) ?_); refine zev ?_
      refine zso ?_
      refine ev_draw (fu := fu8) mixed [3] 1 rfl (by kernel_rfl) ?_; simp only [go_sem]
      refine ⟨by omega, ?_⟩
      refine evw_all (md := [3]) (fu := [(), (), ()]) ?_; refine zev ?_
      refine evw_g (gen_appZ (r := 8) (g := 2) (e := 5) (q := u8s p.journals[(1 - p.active).toNat]!) (m := u8s (encB n)) (fp := [8]) rfl rfl (by simp) (by simp only [go_sem, topId]; simp) rfl (by simp only [go_sem, srcV, rowV]) (by simp only [go_sem, srcV, rowV]) (by rw [List.length_map, List.length_map]; omega) (by rw [List.length_map, List.length_map]; omega)) rfl ?_
      simp only [← List.map_append]
      repeat (first | refine And.intro (by omega) ?_ | refine And.intro rfl ?_ | refine ev_ctl rfl rfl ?_ | refine evr_nil ?_ | refine evw_nil (by kernel_rfl) ?_ | (simp (disch := omega) only [takeAll, Nat.min_eq_left, Nat.min_eq_right, if_pos, if_neg, getD_map, wrapI64, modIn, fdivE, tmodE, tdivE, decT, decF, beqT, beqF, bneT, bneF, Int.toNat_natCast]; try simp only [go_sem]) | (refine ev_condTb rfl ?_ ?_; · (simp <;> omega)) | (refine ev_condFb rfl ?_ ?_; · (simp <;> omega)) | ((first | refine ev_region ?_ | refine evr_go rfl ?_ | refine evw_gom [3] rfl ?_ | refine ev_dr0 mixed rfl (by kernel_rfl) ?_ | refine ev_dr1 mixed rfl (by kernel_rfl) ?_ | refine ev_dr2 mixed rfl (by kernel_rfl) ?_); simp only [go_sem]))
      (first | refine callD (fh) ?_ | refine callDw (fh) ?_); refine zev ?_
      refine zsx (And.intro hln (hsz)) ?_
      refine ret m_rwr_ok [] ?_; (first | (simp only [go_sem]; done) | (simp only [go_sem]; ((try dsimp only); (repeat' (refine And.intro ?_ ?_)) <;> first | with_reducible rfl | (simp only [go_sem]; done) | (simp only [go_sem]; rfl) | (simp only [go_sem, lows_set, set_bs]; done) | (simp only [lows_set, set_bs]; (try simp only [go_sem]); first | done | rfl) | (simp only [go_sem]; simp [lows_set, set_bs]; done) | (simp [lows_set, set_bs]; done) | rfl)))
    · rw [if_neg c5, if_neg c5]
      have c5 : p.up[(1 - p.active).toNat]! = false := by simpa using c5
      refine zgo m_rwr_ok fun W S => ?_
      refine zcd (fc) ?_
      refine zcd (fa) ?_
      refine zcd (fr) ?_
      refine zcd (fb) ?_
      refine zcx (rcop_fn p (by omega)) ?_
      refine zsx c5 ?_
      refine ret m_rwr_ok [] ?_; (first | (simp only [go_sem]; done) | (simp only [go_sem]; ((try dsimp only); (repeat' (refine And.intro ?_ ?_)) <;> first | with_reducible rfl | (simp only [go_sem]; done) | (simp only [go_sem]; rfl) | (simp only [go_sem, lows_set, set_bs, set_bo]; done) | (simp only [lows_set, set_bs, set_bo]; (try simp only [go_sem]); first | done | rfl) | (simp only [go_sem]; simp [lows_set, set_bs, set_bo]; done) | (simp [lows_set, set_bs, set_bo]; done) | rfl)))
  · have hE : wrE p n = (sReb (sRec (p.journals[p.active.toNat]! ++ encB n)).1).2.2 := by unfold wrE; rw [if_neg (by simp [c1]), if_neg c2, if_neg c3, if_neg (by rw [c4]; simp), hwb]
    rw [sWr_e hE c6]
    generalize sReb (sRec (p.journals[p.active.toNat]! ++ encB n)).1 = z at fb c6
    obtain ⟨z1, z2, z3⟩ := z
    dsimp only at fb c6 ⊢
    refine zgo m_rwr_ok fun W S => ?_
    refine zcd (fc) ?_
    refine zcd (fa) ?_
    refine zcd (fr) ?_
    refine zcd (fb) ?_
    exact zrt m_rwr_ok
end Go.Proofs.YtdpfglkjhdnbbaaGreat
