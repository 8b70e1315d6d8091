/- Standby: a monitor takes over, by the product. -/
import Derived.Test.YtdpfglkjhdnbbaaGreatR22
import Derived.Test.YtdpfglkjhdnbbaaGreatC5
import Derived.Test.YtdpfglkjhdnbbaaGreatSt
import Derived.Test.YtdpfglkjhdnbbaaGreatR17
namespace Go.Proofs.YtdpfglkjhdnbbaaGreat
open Go Go.RowKit Rdn Rdn.Dp
set_option linter.unusedVariables false
set_option linter.unusedSimpArgs false
theorem m_pnext_ok : compF Tryz.prog 64 = some (21, Qr ([Qw 1 (.box 35 (.t 0)), Qp 2 (.mov (Qi 0))])
 (.seq (Qr ([Qp 4 (.mov (Qi 0))])
 (.block 0 (.loop (Qr ([Qk 5 .lss 4 2])
 (.seq (.cond (.t 5) (.skip) (.exit 0))
 (.seq (.block 1 (Qr ([Qm 6 4, Qm 3 6])
 (Qr ([Qf 7 3 3 1, Ql 8 1 7, Qm 9 3, Qx 10 1 8 9, Ql 11 1 10, Qm 12 11, Q1 13 12 (.fieldA 4 4 (.t 1)), Q1 14 12 (.load false 1 (.t 13)), Q1 15 12 (.mov (.t 3)), Q1 16 12 (.idxA 1 (.t 14) (.t 15)), Q1 17 12 (.load false 1 (.t 16)), Qu 18 12 17])
 (.cond (.t 18) (Qr ([Qm 19 3, Qm 2 19])
 (.ret)) (.skip)))))
 (.reg [Qk 20 .add 4 1, Qm 4 20])))))))
 (Qr ([Qp 2 (.mov (Qi (-1)))])
 (.ret))), [.mov (.t 2)]) := by kernel_rfl
theorem m_pover_ok : compF Tryz.prog 65 = some (109, Qr ([Qc 4 (.bool false)])
 (Qr ([Qm 12 0, Qp 13 (.nilc (.t 12)), Qf 14 5 5 13, Ql 15 1 14, Qm 16 1, Qx 17 1 15 16, Ql 18 1 17, Qq 19 72 [(.t 18)], Qm 11 19, Qe 20 11 0, Qe 21 11 1, Qm 5 20, Qm 6 21])
 (Qr ([Qm 23 5, Qq 24 73 [(.t 23)], Qm 22 24, Qe 25 22 0, Qe 26 22 1, Qe 27 22 2, Qw 7 (.alloc 31 (.agg [.int .i64 0, .int .i64 0, .int .i64 0, .nilS])), Qs 4 7 25, Qm 8 26, Qm 9 27])
 (.seq (Qr ([Qm 28 9, Qk 29 .neq 28 0, Qm 30 29, Q0 31 30 (.mov (.t 8)), Q0 32 30 (.bin 0 .geq (.t 31) (Qi 1048576)), Qt 33 30 32])
 (.cond (.t 33) (Qr ([Qc 4 (.bool false)])
 (.ret)) (.skip)))
 (Qr ([Qm 35 0, Qp 36 (.nilc (.t 35)), Qf 37 5 5 36, Ql 38 1 37, Qm 39 1, Qx 40 1 38 39, Ql 41 1 40, Qm 42 6, Qm 43 6, Qw 44 (.sl 1 (.t 41) none (some (.t 42)) (some (.t 43))), Qm 45 8, Qk 46 .add 45 1, Qw 47 (.build none [.int .i64 0, .int .i64 0, .int .i64 0, .nilS] [(0, (Qi 5)), (1, (.t 46))]), Qq 48 34 [(.t 44), (.t 47)], Qm 34 48, Qe 49 34 0, Qe 50 34 1, Qm 10 49, Qm 9 50])
 (.seq (Qr ([Qm 51 9, Qk 52 .neq 51 0])
 (.cond (.t 52) (Qr ([Qc 4 (.bool false)])
 (.ret)) (.skip)))
 (Qr ([Qm 53 0, Qp 54 (.nilc (.t 53)), Qf 55 5 5 54, Ql 56 1 55, Qm 57 1, Qm 58 10, Qx 59 1 56 57, Qs 1 59 58])
 (.seq (.seq (.dreg [Qm 60 0, Qp 61 (.nilc (.t 60)), Qf 62 4 4 61, Ql 63 1 62, Qm 64 1, Qp 65 (.bin 0 .sub (Qi 1) (.t 64)), Qm 66 0, Qp 67 (.nilc (.t 66)), Qf 68 3 3 67, Ql 69 1 68, Qm 70 1, Qp 71 (.bin 0 .sub (Qi 1) (.t 70)), Qx 72 1 69 71, Ql 73 1 72, Qx 74 1 63 65, Qs 1 74 73] [[], [0], [0, 1], [0, 1, 2], [], [4], [], [6], [6, 7], [6, 7, 8], [], [10], [6, 7, 8, 9, 10, 11], [6, 7, 8, 9, 10, 11, 12], [0, 1, 2, 3, 4, 5, 6, 7, 8, 9, 10, 11, 12, 13], [0, 1, 2, 3, 4, 5, 6, 7, 8, 9, 10, 11, 12, 13, 14]])
 (Qr ([Qm 75 0, Qp 76 (.nilc (.t 75)), Qf 77 3 3 76, Ql 78 1 77, Qm 79 1, Qp 80 (.bin 0 .sub (Qi 1) (.t 79)), Qx 81 1 78 80, Ql 82 1 81])
 (.cond (.t 82) (.dreg [Qm 83 0, Qp 84 (.nilc (.t 83)), Qf 85 5 5 84, Ql 86 1 85, Qm 87 1, Qp 88 (.bin 0 .sub (Qi 1) (.t 87)), Qw 89 (.buildS 5 1 (.int .u8 0) 0 []), Qm 90 10, Qw 91 (.app 5 1 1 (.t 89) (.t 90)), Qx 92 1 86 88, Qs 1 92 91] [[], [0], [0, 1], [0, 1, 2], [], [4], [], [], [6, 7], [0, 1, 2, 3, 4, 5, 6, 7, 8], [0, 1, 2, 3, 4, 5, 6, 7, 8, 9]]) (.skip))))
 (.seq (.dreg [Qm 93 0, Qm 94 0, Qm 95 0, Qm 96 0, Qm 97 1, Qm 98 8, Qk 99 .add 98 1, QL 100 4 7, Qp 101 (.nilc (.t 93)), Qf 102 2 2 101, Qs 1 102 97, Qp 103 (.nilc (.t 94)), Qf 104 10 7 103, Qs 1 104 99, Qp 105 (.nilc (.t 95)), Qf 106 6 6 105, Qs 4 106 100, Qp 107 (.nilc (.t 96)), Qf 108 1 1 107, ⟨none, none, (.m (.store 1 (.t 108) (Qi 0)))⟩] [[], [], [], [], [], [], [5], [], [0, 4], [0, 4, 8], [0, 4, 8, 9], [0, 1, 4, 5, 6, 8, 9, 10], [0, 1, 4, 5, 6, 8, 9, 10, 11], [0, 1, 4, 5, 6, 8, 9, 10, 11, 12], [0, 1, 2, 4, 5, 6, 7, 8, 9, 10, 11, 12, 13], [0, 1, 2, 4, 5, 6, 7, 8, 9, 10, 11, 12, 13, 14], [0, 1, 2, 4, 5, 6, 7, 8, 9, 10, 11, 12, 13, 14, 15], [0, 1, 2, 3, 4, 5, 6, 7, 8, 9, 10, 11, 12, 13, 14, 15, 16], [0, 1, 2, 3, 4, 5, 6, 7, 8, 9, 10, 11, 12, 13, 14, 15, 16, 17], [0, 1, 2, 3, 4, 5, 6, 7, 8, 9, 10, 11, 12, 13, 14, 15, 16, 17, 18]])
 (Qr ([Qc 4 (.bool true)])
 (.ret)))))))))), [.mov (.t 4)]) := by kernel_rfl
abbrev nt5k (k : Int) : Note := ⟨5, k, 0, []⟩
noncomputable def ovG (p : Pair) (i : Int) : Gateway × Int × Int := sReb (sRec p.journals[i.toNat]!).1
noncomputable def ovB (p : Pair) (i : Int) : List Int × Int := sApp (p.journals[i.toNat]!.take (sRec p.journals[i.toNat]!).2) (nt5k ((ovG p i).2.1 + 1))
noncomputable def ovOk (p : Pair) (i : Int) : Prop := (ovG p i).2.2 = 0 ∧ (ovG p i).2.1 < 1048576 ∧ (ovB p i).2 = 0
noncomputable instance (p : Pair) (i : Int) : Decidable (ovOk p i) := by unfold ovOk; infer_instance
noncomputable def ovP (p : Pair) (i : Int) : Pair := { p with
  journals := if p.up[(1 - i).toNat]! then (p.journals.set i.toNat (ovB p i).1).set (1 - i).toNat (ovB p i).1 else p.journals.set i.toNat (ovB p i).1
  sync := p.sync.set (1 - i).toNat p.up[(1 - i).toNat]!
  active := i, epoch := (ovG p i).2.1 + 1, gateway := (ovG p i).1, silent := 0 }
noncomputable def sOver (p : Pair) (i : Int) : Pair × Bool := if ovOk p i then (ovP p i, true) else (p, false)
theorem sOver_ok {p : Pair} {i : Int} (h : ovOk p i) : sOver p i = (ovP p i, true) := if_pos h
theorem sOver_no {p : Pair} {i : Int} (h : ¬ ovOk p i) : sOver p i = (p, false) := if_neg h
def nxtP (p : Pair) : Int := if p.up[0]! ∧ p.sync[0]! then 0 else if p.up[1]! ∧ p.sync[1]! then 1 else -1
theorem pnext_fn (p : Pair) (h1 : p.up.length = 2) (h2 : p.sync.length = 2) : Fnc Tryz.prog 64 [prV false p] (fun x obs => x = .int .i64 (nxtP p) ∧ obs = []) := by
  unfold nxtP
  cases e1 : p.up[0]! <;> cases e2 : p.sync[0]! <;> cases e3 : p.up[1]! <;> cases e4 : p.sync[1]!
  all_goals
    simp only [Bool.false_eq_true, false_and, and_false, true_and, if_false, if_true]
    refine Fnc.intro m_pnext_ok (by simp) fun W S => ?_
    simp only [ents, Nat.zero_add, Nat.reduceAdd, Qm, Qc, Ql, QL, Qf, Qs, Qb, Qk, QB, Qn, Qe, Qx, Qt, Qu, Q0, Q1, Qp, Qw, Qq, Qr, Qi]
    refine zst ?_
    refine ev_unroll 3 ?_
    refine zsx (And.intro e1 (And.intro e2 (And.intro e3 e4))) ?_
    exact zrt m_pnext_ok
theorem u8_take (n : Nat) (j : List Int) : List.take n (List.map (V.int .u8) j) = List.map (V.int .u8) (j.take n) := (List.map_take).symm
abbrev obP (p : Pair) : List Ob := [⟨.box true 35, true, 0, .agg [.int .i64 p.wait, .int .i64 p.silent, .int .i64 p.active, .own 1 0, .own 2 0, .own 3 0, .agg (gwL false p.gateway), .int .i64 p.epoch, .agg (mbL false p.mailbox)]⟩, ⟨.rows true 4, true, 0, .arr 1 (p.up.map V.bool)⟩, ⟨.rows true 4, true, 0, .arr 1 (p.sync.map V.bool)⟩, ⟨.rows true 40, true, 0, .arr 1 (p.journals.map (slV' false 1 (V.int .u8)))⟩]
theorem effS_epr {g : Gateway} {e : Int} {n : Note} (h : 0 ≤ e ∧ e ≤ 1048576) : 0 ≤ (effS g e n).2.1 ∧ (effS g e n).2.1 ≤ 1048576 := by
  unfold effS
  split
  · split <;> exact h
  · split
    · exact h
    · split
      · exact h
      · split
        · split
          · exact h
          · dsimp only; omega
        · exact h
theorem rebF_epr : ∀ (l : List Note) {g : Gateway} {e : Int}, 0 ≤ e ∧ e ≤ 1048576 → 0 ≤ (rebF g e l).2.1 ∧ (rebF g e l).2.1 ≤ 1048576
  | [], g, e, h => h
  | n :: l, g, e, h => by
    rw [rebF]
    split
    · exact rebF_epr l (effS_epr h)
    · exact ⟨by dsimp only; omega, by dsimp only; omega⟩
theorem sReb_epr (l : List Note) : 0 ≤ (sReb l).2.1 ∧ (sReb l).2.1 ≤ 1048576 := rebF_epr l ⟨by decide, by decide⟩
attribute [local irreducible] sApp sRec sReb
set_option maxHeartbeats 16000000 in
theorem pover_fn (p : Pair) (i : Int) (hi : i = 0 ∨ i = 1) (h : shdP p) : FncI Tryz.prog 65 (obP p) [.ptr 0 0 [] 0, .int .i64 i] (fun x ob => x = .bool (sOver p i).2 ∧ ob = obP (sOver p i).1) := by
  obtain ⟨h1, h2, h3, h4, h5⟩ := h
  have hji := two_le h3 h4 h5 (a := i.toNat) (by omega)
  have hjo := two_le h3 h4 h5 (a := (1 - i).toNat) (by omega)
  have fr := wrec_fn p.journals[i.toNat]! (by omega)
  have fb := sreb_fn (sRec p.journals[i.toNat]!).1
  have hn := (rec_inv p.journals[i.toNat]!).2.2
  rcases hr : sRec p.journals[i.toNat]! with ⟨r1, r2⟩
  rw [hr] at fr fb hn
  dsimp only at fr fb hn
  have hep := sReb_epr r1
  rcases hq : sReb r1 with ⟨g, ep, er⟩
  rw [hq] at fb hep
  dsimp only at fb hep
  have hG : ovG p i = (g, ep, er) := by unfold ovG; rw [hr]; exact hq
  by_cases c1 : er = 0
  rotate_left
  · rw [sOver_no (fun h => c1 (by have := h.1; rwa [hG] at this))]
    refine FncI.intro m_pover_ok (by simp) fun W lent S => ?_
    simp only [ents, Nat.zero_add, Nat.reduceAdd, Qm, Qc, Ql, QL, Qf, Qs, Qb, Qk, QB, Qn, Qe, Qx, Qt, Qu, Q0, Q1, Qp, Qw, Qq, Qr, Qi]
    refine zst ?_
    refine zcd (fr) ?_
    refine zcd (fb) ?_
    refine ev_retI 4 m_pover_ok ?_; exact zfn
  by_cases c2 : ep < 1048576
  rotate_left
  · rw [sOver_no (fun h => c2 (by have := h.2.1; rwa [hG] at this))]
    refine FncI.intro m_pover_ok (by simp) fun W lent S => ?_
    simp only [ents, Nat.zero_add, Nat.reduceAdd, Qm, Qc, Ql, QL, Qf, Qs, Qb, Qk, QB, Qn, Qe, Qx, Qt, Qu, Q0, Q1, Qp, Qw, Qq, Qr, Qi]
    refine zst ?_
    refine zcd (fr) ?_
    refine zcd (fb) ?_
    refine ev_retI 4 m_pover_ok ?_; exact zfn
  have ht := u8_take r2 p.journals[i.toNat]!
  have fa := wapp_fn (p.journals[i.toNat]!.take r2) (nt5k (ep + 1))
  have hbl := sApp_len (p.journals[i.toNat]!.take r2) (nt5k (ep + 1))
  rcases hs : sApp (p.journals[i.toNat]!.take r2) (nt5k (ep + 1)) with ⟨b, eb⟩
  rw [hs] at fa hbl
  dsimp only at fa hbl
  have hB : ovB p i = (b, eb) := by unfold ovB; rw [hG, hr]; exact hs
  by_cases c3 : eb = 0
  rotate_left
  · rw [sOver_no (fun h => c3 (by have := h.2.2; rwa [hB] at this))]
    refine FncI.intro m_pover_ok (by simp) fun W lent S => ?_
    simp only [ents, Nat.zero_add, Nat.reduceAdd, Qm, Qc, Ql, QL, Qf, Qs, Qb, Qk, QB, Qn, Qe, Qx, Qt, Qu, Q0, Q1, Qp, Qw, Qq, Qr, Qi]
    refine zst ?_
    refine zcd (fr) ?_
    refine zcd (fb) ?_
    refine zsx ht ?_
    refine zcd (fa) ?_
    refine ev_retI 4 m_pover_ok ?_; exact zfn
  rw [sOver_ok ⟨by rw [hG]; exact c1, by rw [hG]; exact c2, by rw [hB]; exact c3⟩]
  unfold ovP
  rw [hG, hB]
  have hsz := fun x => set_sz false p.journals (i := i.toNat) (j := (1 - i).toNat) x (by omega) (by omega)
  have hln := fun x => (set_ln false p.journals i.toNat x).trans h3
  by_cases c5 : p.up[(1 - i).toNat]! = true
  · rw [if_pos c5]
    refine FncI.intro m_pover_ok (by simp) fun W lent S => ?_
    simp only [ents, Nat.zero_add, Nat.reduceAdd, Qm, Qc, Ql, QL, Qf, Qs, Qb, Qk, QB, Qn, Qe, Qx, Qt, Qu, Q0, Q1, Qp, Qw, Qq, Qr, Qi]
    refine zst ?_
    refine zcd (fr) ?_
    refine zcd (fb) ?_
    refine zsx ht ?_
    refine zcd (fa) ?_
    repeat (first | (simp only [c5]; try simp only [go_sem]) | refine And.intro (by omega) ?_ | refine And.intro rfl ?_ | refine ev_ctl rfl rfl ?_ | refine evr_nil ?_ | refine evw_nil (by kernel_rfl) ?_ | (simp (disch := omega) only [takeAll, Nat.min_eq_left, Nat.min_eq_right, if_pos, if_neg, getD_map, wrapI64, modIn, fdivE, tmodE, tdivE, decT, decF, beqT, beqF, bneT, bneF, Int.toNat_natCast]; try simp only [go_sem]) | (refine ev_condTb rfl ?_ ?_; · (simp <;> omega)) | (refine ev_condFb rfl ?_ ?_; · (simp <;> omega)) | ((first | refine ev_region ?_ | refine evr_go rfl ?_ | refine evw_go rfl ?_); simp only [go_sem]))
    refine ev_draw (fu := fu8) mixed [6] 1 rfl (by kernel_rfl) ?_; simp only [go_sem]
    simp (disch := omega) only [wrapI64]
    refine evw_g (gen_appZ (r := 5) (g := 1) (e := 5) (q := []) (m := u8s b) (fp := [5]) rfl rfl (by simp) (by simp only [go_sem, topId]; simp) rfl (by simp only [go_sem, srcV, rowV]) (by simp only [go_sem, srcV, rowV]) (by rw [List.length_map]; simp only [List.length_nil]; omega) (by rw [List.length_map]; simp only [List.length_nil]; omega)) rfl ?_
    simp only [List.nil_append]
    simp only [go_sem]
    refine evw_all (md := [6]) (fu := [(), ()]) ?_; refine zev ?_
    refine zsx (And.intro hln (hsz)) ?_
    refine ev_retI 4 m_pover_ok ?_
    simp only [go_sem, lows_set, set_bs, set_bo]
    exact scps_set _ (scps_lo 4 (slV' false 1 (V.int .u8)) _) rfl
  · rw [if_neg c5]
    have c5 : p.up[(1 - i).toNat]! = false := by simpa using c5
    refine FncI.intro m_pover_ok (by simp) fun W lent S => ?_
    simp only [ents, Nat.zero_add, Nat.reduceAdd, Qm, Qc, Ql, QL, Qf, Qs, Qb, Qk, QB, Qn, Qe, Qx, Qt, Qu, Q0, Q1, Qp, Qw, Qq, Qr, Qi]
    refine zst ?_
    refine zcd (fr) ?_
    refine zcd (fb) ?_
    refine zsx ht ?_
    refine zcd (fa) ?_
    refine zsx c5 ?_
    refine ev_retI 4 m_pover_ok ?_; (first | (simp only [go_sem]; done) | (simp only [go_sem]; ((try dsimp only); (repeat' (refine And.intro ?_ ?_)) <;> first | with_reducible rfl | (simp only [go_sem]; done) | (simp only [go_sem]; rfl) | (simp only [go_sem, lows_set, set_bs, set_bo]; done) | (simp only [lows_set, set_bs, set_bo]; (try simp only [go_sem]); first | done | rfl) | (simp only [go_sem]; simp [lows_set, set_bs, set_bo]; done) | (simp [lows_set, set_bs, set_bo]; done) | rfl)))
end Go.Proofs.YtdpfglkjhdnbbaaGreat
