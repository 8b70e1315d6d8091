/- Pages: one page, and all of them. -/
import Derived.Test.YtcphobeommkgeaaP2
import Derived.Test.YtcphobeommkgeaaC5
namespace Go.Proofs.Ytcphobeommkgeaa
open Go Go.RowKit Rdn Rdn.Dp
set_option linter.unusedVariables false
set_option linter.unusedSimpArgs false
theorem m_psizes_ok : compF Try.prog 34 = some (20, Qr ([Qw 1 (.box 30 (.t 0)), Qp 2 (.mov (.c (.nilS)))])
 (Qr ([Qp 3 (.mov (.c (.nilS)))])
 (.seq (Qr ([Qf 6 0 0 1, Ql 7 1 6, Qn 8 7, Qp 9 (.mov (Qi 0))])
 (.block 0 (.loop (Qr ([Qb 10 .lss 9 8])
 (.seq (.cond (.t 10) (.skip) (.exit 0))
 (.seq (.block 1 (Qr ([Qx 11 1 7 9, Ql 12 1 11, Qm 5 12])
 (.reg [Qm 13 3, Qm 14 5, Qn 15 14, Qw 16 (.buildS 3 1 (.int .i64 0) 1 [(0, (.t 15))]), Qw 17 (.app 3 1 8 (.t 13) (.t 16)), Qm 3 17])))
 (.reg [Qk 18 .add 9 1, Qm 9 18])))))))
 (Qr ([Qm 19 3, Qm 2 19])
 (.ret)))), [.mov (.t 2)]) := by kernel_rfl
theorem m_part_ok : compF Try.prog 77 = some (29, Qr ([Qp 4 (.mov (.c (.nilS)))])
 (.seq (Qr ([Qm 6 1, Qk 7 .lss 6 0, Qm 8 7, Q0 9 8 (.mov (.t 1)), Q0 10 8 (.bin 0 .gtr (.t 9) (Qi 32)), Qt 11 8 10, Qm 12 11, Q0 13 12 (.mov (.t 1)), Q0 14 12 (.bin 0 .mul (.t 13) (Qi 8)), Q0 15 12 (.mov (.t 0)), Q0 16 12 (.len (.t 15)), Q0 17 12 (.bin 0 .geq (.t 14) (.t 16)), Qt 18 12 17])
 (.cond (.t 18) (Qr ([Qp 4 (.mov (.c (.nilS)))])
 (.ret)) (.skip)))
 (Qr ([Qm 19 1, Qk 20 .mul 19 8, Qm 5 20])
 (Qr ([Qm 21 0, Qm 22 5, Qm 23 5, Qk 24 .add 23 8, Qm 25 0, Qn 26 25, Qp 27 (.mn (.t 24) (.t 26)), Qw 28 (.sl 4 (.t 21) (some (.t 22)) (some (.t 27)) none), Qm 4 28])
 (.ret)))), [.mov (.t 4)]) := by kernel_rfl
theorem m_there_ok : compF Try.prog 97 = some (43, Qr ([Qw 2 (.box 30 (.t 0)), Qw 3 (.box 39 (.t 1)), Qc 4 (.bool false)])
 (.seq (Qr ([Qf 5 0 0 3, Ql 6 1 5, Qk 7 .eql 6 (-1)])
 (.cond (.t 7) (Qr ([Qf 8 1 1 3, Ql 9 1 8, Qk 10 .geq 9 0, Qm 11 10, Q1 12 11 (.fieldA 1 1 (.t 3)), Q1 13 11 (.load false 1 (.t 12)), Q1 14 11 (.fieldA 1 1 (.t 2)), Q1 15 11 (.load false 1 (.t 14)), Q1 16 11 (.len (.t 15)), Q1 17 11 (.bin 0 .lss (.t 13) (.t 16)), Qu 18 11 17, Qm 4 18])
 (.ret)) (.skip)))
 (.seq (.dreg [Qf 19 0 0 3, Ql 20 1 19, Qk 21 .geq 20 0, Qm 22 21, Q1 23 22 (.fieldA 0 0 (.t 3)), Q1 24 22 (.load false 1 (.t 23)), Q1 25 22 (.fieldA 0 0 (.t 2)), Q1 26 22 (.load false 1 (.t 25)), Q1 27 22 (.len (.t 26)), Q1 28 22 (.bin 0 .lss (.t 24) (.t 27)), Qu 29 22 28, Qm 30 29, Q1 31 30 (.fieldA 0 0 (.t 2)), Q1 32 30 (.load false 1 (.t 31)), Q1 33 30 (.fieldA 0 0 (.t 3)), Q1 34 30 (.load false 1 (.t 33)), Q1 35 30 (.idxA 1 (.t 32) (.t 34)), Q1 36 30 (.load false 1 (.t 35)), Q1 37 30 (.fieldA 1 1 (.t 3)), Q1 38 30 (.load false 1 (.t 37)), ⟨(some 39), (some (30, true)), (.call 77 [(.t 36), (.t 38)])⟩, Q1 40 30 (.len (.t 39)), Q1 41 30 (.bin 0 .gtr (.t 40) (Qi 0)), Qu 42 30 41, Qm 4 42] [[], [0], [0, 1], [0, 1, 2], [0, 1, 2, 3], [0, 1, 2, 3, 4], [0, 1, 2, 3], [0, 1, 2, 3, 6], [0, 1, 2, 3, 6, 7], [0, 1, 2, 3, 4, 5, 6, 7, 8], [0, 1, 2, 3, 4, 5, 6, 7, 8, 9], [0, 1, 2, 3, 4, 5, 6, 7, 8, 9, 10], [0, 1, 2, 3, 4, 5, 6, 7, 8, 9, 10, 11], [0, 1, 2, 3, 4, 5, 6, 7, 8, 9, 10, 11, 12], [0, 1, 2, 3, 4, 5, 6, 7, 8, 9, 10, 11], [0, 1, 2, 3, 4, 5, 6, 7, 8, 9, 10, 11, 14], [0, 1, 2, 3, 4, 5, 6, 7, 8, 9, 10, 11, 12, 13, 14, 15], [0, 1, 2, 3, 4, 5, 6, 7, 8, 9, 10, 11, 12, 13, 14, 15, 16], [0, 1, 2, 3, 4, 5, 6, 7, 8, 9, 10, 11], [0, 1, 2, 3, 4, 5, 6, 7, 8, 9, 10, 11, 18], [0, 1, 2, 3, 4, 5, 6, 7, 8, 9, 10, 11, 12, 13, 14, 15, 16, 17, 18, 19], [0, 1, 2, 3, 4, 5, 6, 7, 8, 9, 10, 11, 12, 13, 14, 15, 16, 17, 18, 19, 20], [0, 1, 2, 3, 4, 5, 6, 7, 8, 9, 10, 11, 12, 13, 14, 15, 16, 17, 18, 19, 20, 21], [0, 1, 2, 3, 4, 5, 6, 7, 8, 9, 10, 11, 12, 13, 14, 15, 16, 17, 18, 19, 20, 21, 22], [0, 1, 2, 3, 4, 5, 6, 7, 8, 9, 10, 11, 12, 13, 14, 15, 16, 17, 18, 19, 20, 21, 22, 23]])
 (.ret))), [.mov (.t 4)]) := by kernel_rfl
theorem m_find_ok : compF Try.prog 59 = some (12, Qr ([Qw 2 (.box 30 (.t 0)), Qw 3 (.box 39 (.t 1)), Qp 4 (.mov (Qi 0))])
 (.seq (Qr ([QL 5 2 2, Qq 6 57 [(.t 5)], Qp 7 (.un .not (.t 6))])
 (.cond (.t 7) (Qr ([Qp 4 (.mov (Qi 1))])
 (.ret)) (.skip)))
 (.seq (Qr ([QL 8 2 2, QL 9 2 3, Qq 10 97 [(.t 8), (.t 9)], Qp 11 (.un .not (.t 10))])
 (.cond (.t 11) (Qr ([Qp 4 (.mov (Qi 30))])
 (.ret)) (.skip)))
 (Qr ([Qp 4 (.mov (Qi 0))])
 (.ret)))), [.mov (.t 4)]) := by kernel_rfl
theorem m_ccl_ok : compF Try.prog 96 = some (8, Qr ([Qp 2 (.mov (.c (.nilS)))])
 (.seq (Qr ([Qm 3 0, Qp 4 (.bin 2 .eql (.t 3) (.c (.nilS)))])
 (.cond (.t 4) (Qr ([Qp 2 (.mov (.c (.nilS)))])
 (.ret)) (.skip)))
 (Qr ([Qw 5 (.buildS 84 4 (.agg [.int .u8 0, .int .u16 0, .int .i64 0, .int .i64 0]) 0 []), Qm 6 0, Qw 7 (.app 84 4 24 (.t 5) (.t 6)), Qm 2 7])
 (.ret))), [.mov (.t 2)]) := by kernel_rfl
theorem m_vcop_ok : compF Try.prog 76 = some (8, Qr ([Qw 1 (.box 43 (.t 0)), Qw 2 (.alloc 43 (.agg [.int .i64 0, .int .i64 0, .int .i64 0, .int .i64 0, .int .i64 0, .int .i64 0, .int .u16 0, .nilS]))])
 (Qr ([Qf 3 7 7 1, Ql 4 1 3, Qq 5 96 [(.t 4)], Qf 6 7 7 1, Qs 1 6 5])
 (Qr ([QL 7 8 1, Qs 8 2 7])
 (.ret))), [.load true 8 (.t 2)]) := by kernel_rfl
theorem m_get_ok : compF Try.prog 58 = some (29, Qr ([Qw 2 (.box 30 (.t 0)), Qw 3 (.box 39 (.t 1)), Qw 4 (.alloc 45 (.agg [.agg [.int .i64 0, .int .i64 0], .nilS, .agg [.int .i64 0, .int .i64 0, .int .i64 0, .int .i64 0, .int .i64 0, .int .i64 0, .int .u16 0, .nilS]]))])
 (.seq (Qr ([Qf 5 0 0 3, Ql 6 1 5, Qk 7 .eql 6 (-1)])
 (.cond (.t 7) (.seq (.dreg [QL 8 2 3, Qf 9 1 1 2, Ql 10 1 9, Qf 11 1 1 3, Ql 12 1 11, Qx 13 8 10 12, QL 14 8 13, Qq 15 76 [(.t 14)], Qw 16 (.build none [.agg [.int .i64 0, .int .i64 0], .nilS, .agg [.int .i64 0, .int .i64 0, .int .i64 0, .int .i64 0, .int .i64 0, .int .i64 0, .int .u16 0, .nilS]] [(0, (.t 8)), (2, (.t 15))]), Qs 11 4 16] [[], [], [1], [], [3], [1, 2, 3, 4], [1, 2, 3, 4, 5], [1, 2, 3, 4, 5, 6], [0, 1, 2, 3, 4, 5, 6, 7], [0, 1, 2, 3, 4, 5, 6, 7, 8]])
 (.ret)) (.skip)))
 (.seq (.dreg [QL 17 2 3, Qf 18 0 0 2, Ql 19 1 18, Qf 20 0 0 3, Ql 21 1 20, Qx 22 1 19 21, Ql 23 1 22, Qf 24 1 1 3, Ql 25 1 24, Qq 26 77 [(.t 23), (.t 25)], Qq 27 96 [(.t 26)], Qw 28 (.build none [.agg [.int .i64 0, .int .i64 0], .nilS, .agg [.int .i64 0, .int .i64 0, .int .i64 0, .int .i64 0, .int .i64 0, .int .i64 0, .int .u16 0, .nilS]] [(0, (.t 17)), (1, (.t 27))]), Qs 11 4 28] [[], [], [1], [], [3], [1, 2, 3, 4], [1, 2, 3, 4, 5], [], [7], [1, 2, 3, 4, 5, 6, 7, 8], [1, 2, 3, 4, 5, 6, 7, 8, 9], [0, 1, 2, 3, 4, 5, 6, 7, 8, 9, 10], [0, 1, 2, 3, 4, 5, 6, 7, 8, 9, 10, 11]])
 (.ret))), [.load true 11 (.t 4)]) := by kernel_rfl
theorem m_pget_ok : compF Try.prog 24 = some (17, Qr ([Qw 2 (.box 30 (.t 0)), Qw 3 (.box 39 (.t 1)), Qw 4 (.alloc 45 (.agg [.agg [.int .i64 0, .int .i64 0], .nilS, .agg [.int .i64 0, .int .i64 0, .int .i64 0, .int .i64 0, .int .i64 0, .int .i64 0, .int .u16 0, .nilS]])), Qp 5 (.mov (Qi 0))])
 (.seq (Qr ([QL 7 2 2, QL 8 2 3, Qq 9 59 [(.t 7), (.t 8)], Qm 6 9])
 (Qr ([Qm 10 6, Qk 11 .neq 10 0])
 (.cond (.t 11) (Qr ([Qw 12 (.build none [.agg [.int .i64 0, .int .i64 0], .nilS, .agg [.int .i64 0, .int .i64 0, .int .i64 0, .int .i64 0, .int .i64 0, .int .i64 0, .int .u16 0, .nilS]] []), Qm 13 6, Qs 11 4 12, Qm 5 13])
 (.ret)) (.skip))))
 (Qr ([QL 14 2 2, QL 15 2 3, Qq 16 58 [(.t 14), (.t 15)], Qs 11 4 16, Qp 5 (.mov (Qi 0))])
 (.ret))), [.load true 11 (.t 4), .mov (.t 5)]) := by kernel_rfl
theorem m_pall_ok : compF Try.prog 23 = some (35, Qr ([Qw 1 (.box 30 (.t 0)), Qp 2 (.mov (.c (.nilS))), Qp 3 (.mov (Qi 0))])
 (.seq (Qr ([QL 9 2 1, Qq 10 57 [(.t 9)], Qp 11 (.un .not (.t 10))])
 (.cond (.t 11) (Qr ([Qp 2 (.mov (.c (.nilS))), Qp 3 (.mov (Qi 1))])
 (.ret)) (.skip)))
 (.seq (.dreg [QL 13 2 1, Qq 14 34 [(.t 13)], Qf 15 1 1 1, Ql 16 1 15, Qn 17 16, Qq 18 39 [(.t 14), (.t 17)], Qm 12 18, Qe 19 12 0, Qe 20 12 1, Qm 4 19, Qm 5 20] [[], [0], [], [2], [2, 3], [0, 1, 2, 3, 4], [0, 1, 2, 3, 4, 5], [0, 1, 2, 3, 4, 5, 6], [0, 1, 2, 3, 4, 5, 6], [0, 1, 2, 3, 4, 5, 6, 7], [0, 1, 2, 3, 4, 5, 6, 7, 8, 9]])
 (Qr ([Qp 6 (.mov (.c (.nilS)))])
 (.seq (Qr ([Qm 21 4, Qn 22 21, Qp 23 (.mov (Qi 0))])
 (.block 0 (.loop (Qr ([Qb 24 .lss 23 22])
 (.seq (.cond (.t 24) (.skip) (.exit 0))
 (.seq (.block 1 (Qr ([Qx 25 2 21 23, QL 26 2 25, Qw 8 (.alloc 39 (.agg [.int .i64 0, .int .i64 0])), Qs 2 8 26])
 (.reg [Qm 27 6, QL 28 2 1, QL 29 2 8, Qq 30 58 [(.t 28), (.t 29)], Qw 31 (.buildS 45 11 (.agg [.agg [.int .i64 0, .int .i64 0], .nilS, .agg [.int .i64 0, .int .i64 0, .int .i64 0, .int .i64 0, .int .i64 0, .int .i64 0, .int .u16 0, .nilS]]) 1 [(0, (.t 30))]), Qw 32 (.app 45 11 120 (.t 27) (.t 31)), Qm 6 32])))
 (.reg [Qk 33 .add 23 1, Qm 23 33])))))))
 (Qr ([Qm 34 6, Qm 2 34, Qp 3 (.mov (Qi 0))])
 (.ret)))))), [.mov (.t 2), .mov (.t 3)]) := by kernel_rfl
attribute [local irreducible] idsF shp
set_option maxHeartbeats 4000000 in
theorem ccl_fn (l : List Canon) (hb : l.length ≤ 5864062014634) : Fnc Try.prog 96 [.sl false 4 (l.map canonV)] (fun x obs => x = .sl true 4 (l.map canonV) ∧ obs = []) := by
  refine Fnc.intro m_ccl_ok (by simp) fun W S => ?_
  simp only [ents, Nat.zero_add, Nat.reduceAdd, Qm, Qc, Ql, QL, Qf, Qs, Qb, Qk, QB, Qn, Qe, Qx, Qt, Qu, Q0, Q1, Qp, Qw, Qq, Qr, Qi]
  refine zsu ?_
  refine zs1 ?_
  refine zsu ?_
  refine ev_reg ?_
  refine evr_p rfl trivial ?_
  refine evr_nilq rfl rfl fun b hb0 => ?_
  cases b with
  | false =>
    simp only [aopP, X.ev, slotV, AS.put, if_true]
    refine zst ?_
    exact zrt m_ccl_ok
  | true =>
    have hl : l = [] := by
      cases l with
      | nil => rfl
      | cons a l => exact absurd (hb0 (by simp)) (by simp)
    subst hl
    simp only [aopP, X.ev, slotV, AS.put, if_true]
    refine zsu ?_
    refine zs1 ?_
    refine zsu ?_
    refine ev_nil2 2 true 4 rfl ?_
    exact zrt m_ccl_ok
set_option maxHeartbeats 4000000 in
theorem ccl_own (l : List Canon) (hb : l.length ≤ 5864062014634) : Fnc Try.prog 96 [.sl false 4 (l.map canonV)] (fun x obs => x = .own 0 0 ∧ obs = [⟨.row 84, true, 0, .arr 4 (l.map canonV)⟩]) := by
  refine Fnc.intro m_ccl_ok (by simp) fun W S => ?_
  simp only [ents, Nat.zero_add, Nat.reduceAdd, Qm, Qc, Ql, QL, Qf, Qs, Qb, Qk, QB, Qn, Qe, Qx, Qt, Qu, Q0, Q1, Qp, Qw, Qq, Qr, Qi]
  refine zsu ?_
  refine zs1 ?_
  refine zsu ?_
  refine ev_reg ?_
  refine evr_p rfl trivial ?_
  refine evr_nilq rfl rfl fun b hb0 => ?_
  cases b with
  | false =>
    simp only [aopP, X.ev, slotV, AS.put, if_true]
    refine zst ?_
    refine ret m_ccl_ok [0] ?_; exact zfn
  | true =>
    have hl : l = [] := by
      cases l with
      | nil => rfl
      | cons a l => exact absurd (hb0 (by simp)) (by simp)
    subst hl
    simp only [aopP, X.ev, slotV, AS.put, if_true]
    refine zsu ?_
    refine zs1 ?_
    refine zsu ?_
    refine ev_adopt (i := 2) (e := 84) (s := 4) rfl (by decide) ?_
    refine ret m_ccl_ok [0] ?_; exact zfn
/-- A state of which copies can be made. -/
structure LowS (s : State) : Prop where
  r : s.regions.length ≤ 5864062014634
  c : ∀ x ∈ s.regions, x.length ≤ 5864062014634
  t : s.threads.length ≤ 5864062014634
  g : ∀ x ∈ s.threads, x.regs.length ≤ 5864062014634
set_option maxHeartbeats 4000000 in
theorem psizes_fn (s : State) (L : s.regions.length ≤ 5864062014634) : Fnc Try.prog 34 [staV s] (fun x obs => x = .sl true 1 (i64s (szs s)) ∧ obs = []) := by
  have hl := szs_len s
  refine zgo m_psizes_ok fun W S => ?_
  refine ev_adopt (i := 3) (e := 3) (s := 1) rfl (by decide) ?_
  refine ev_loopK [7, 8] (fun p : {p : Nat // p ≤ s.regions.length} => [(3, .own 1 p.1), (9, .int .i64 p.1)]) (fun p => [⟨.box false 30, true, 0, staV s⟩, ⟨.row 3, true, p.1, .arr 1 (i64s ((szs s).take p.1))⟩]) (fun p => s.regions.length - p.1) (⟨0, by simp⟩) 2 (by simp only [go_sem]; rfl) ?_ (by first | rfl | (simp only [go_sem]; done)) (by simp) (by first | rfl | (simp only [go_sem]; done)) (by first | rfl | (simp only [go_sem]; done)) (by first | rfl | (simp only [go_sem]; done)) ?_
  · (simp only [go_sem]; (try simp []); done)
  intro J hJ
  rintro ⟨k, hk0⟩
  by_cases hlt : k < s.regions.length
  · have hs := szs_take s k hlt
    refine zst ?_
    exact zn2 (hJ _ (⟨k + 1, hlt⟩) (by first | omega | (dsimp only; omega) | (simp; omega))) hs
  · obtain rfl : k = s.regions.length := by omega
    have ht : (szs s).take s.regions.length = szs s := List.take_of_length_le (by omega)
    dsimp only
    rw [ht]
    refine zst ?_
    exact zrt m_psizes_ok
theorem prt_no {l : List Canon} {i : Int} (h : i < 0 ∨ 32 < i ∨ (l.length : Int) ≤ 8 * i) : prt l i = [] := by
  unfold prt
  split
  · rw [List.drop_eq_nil_of_le (by omega)]; rfl
  · rfl
theorem prt_yes {l : List Canon} {i : Int} (h : 0 ≤ i) (h2 : i ≤ 32) : prt l i = (l.take (min (8 * i + 8) (l.length : Int)).toNat).drop (8 * i).toNat := by
  unfold prt
  rw [if_pos ⟨h, h2⟩, List.take_drop]
  by_cases c : 8 * i + 8 ≤ (l.length : Int)
  · rw [show (min (8 * i + 8) (l.length : Int)).toNat = (8 * i).toNat + 8 by omega, Nat.add_comm]
  · rw [show (min (8 * i + 8) (l.length : Int)).toNat = l.length by omega, List.take_of_length_le (i := l.length) (Nat.le_refl _), List.take_of_length_le (by omega)]
set_option maxHeartbeats 4000000 in
theorem part_fn (l : List Canon) (i : Int) : Fnc Try.prog 77 [.sl false 4 (l.map canonV), .int .i64 i] (fun x obs => x = .sl false 4 ((prt l i).map canonV) ∧ obs = []) := by
  refine Fnc.low ?_
  refine Fnc.wf fun hw => ?_
  simp only [V.wfs, V.wf, wfs_map, List.length_map] at hw
  have hm := hw.1.2
  have hi := inK_i64' hw.2.1
  clear hw
  by_cases c1 : i < 0
  · rw [prt_no (.inl c1)]
    refine zgo m_part_ok fun W S => ?_
    refine ev_nil2 4 true 4 rfl ?_
    exact zrt m_part_ok
  by_cases c2 : 32 < i
  · rw [prt_no (.inr (.inl c2))]
    refine zgo m_part_ok fun W S => ?_
    refine ev_nil2 4 true 4 rfl ?_
    exact zrt m_part_ok
  by_cases c3 : (l.length : Int) ≤ 8 * i
  · rw [prt_no (.inr (.inr c3))]
    refine zgo m_part_ok fun W S => ?_
    refine ev_nil2 4 true 4 rfl ?_
    exact zrt m_part_ok
  have hp := prt_yes (l := l) (by omega) (Int.not_lt.1 c2)
  have h8 : i * 8 = 8 * i := Int.mul_comm _ _
  have hT : (l.map canonV).take l.length = l.map canonV := List.take_of_length_le (by simp)
  by_cases c4 : 8 * i + 8 ≤ (l.length : Int)
  · rw [show min (8 * i + 8) (l.length : Int) = 8 * i + 8 by omega] at hp
    rw [hp]
    have hD : ((l.map canonV).take (i * 8 + 8).toNat).drop (i * 8).toNat = ((l.take (8 * i + 8).toNat).drop (8 * i).toNat).map canonV := by rw [h8, List.map_drop, List.map_take]
    refine zgo m_part_ok fun W S => ?_
    exact zrh m_part_ok hD
  · rw [show min (8 * i + 8) (l.length : Int) = l.length by omega] at hp
    rw [hp]
    have hD : ((l.map canonV).take l.length).drop (i * 8).toNat = (l.drop (8 * i).toNat).map canonV := by rw [h8, hT, List.map_drop]
    refine zgo m_part_ok fun W S => ?_
    exact zrh m_part_ok hD
set_option maxHeartbeats 8000000 in
theorem there_fn (s : State) (d : PageID) (h : shp s = true) : Fnc Try.prog 97 [staV s, pidV d] (fun x obs => x = .bool (decide (There s d)) ∧ obs = []) := by
  have H := shp_to h
  have Hr := H.r
  have Ht := H.t
  refine Fnc.wf fun hw => ?_
  simp only [V.wfs, V.wf, wfs_map, List.length_map] at hw
  have hi := inK_i64' hw.2.1.2.1
  clear hw
  by_cases c0 : d.region = -1
  · by_cases c1 : 0 ≤ d.index
    · by_cases c2 : d.index < s.threads.length
      · rw [decT (show There s d from .inl ⟨c0, c1, c2⟩)]
        refine zgo m_there_ok fun W S => ?_
        exact zrt m_there_ok
      · rw [decF (show ¬ There s d from fun h => by unfold There at h; omega)]
        refine zgo m_there_ok fun W S => ?_
        exact zrt m_there_ok
    · rw [decF (show ¬ There s d from fun h => by unfold There at h; omega)]
      refine zgo m_there_ok fun W S => ?_
      exact zrt m_there_ok
  by_cases c1 : 0 ≤ d.region
  rotate_left
  · rw [decF (show ¬ There s d from fun h => by unfold There at h; omega)]
    refine zgo m_there_ok fun W S => ?_
    exact zrt m_there_ok
  by_cases c2 : d.region < s.regions.length
  rotate_left
  · rw [decF (show ¬ There s d from fun h => by unfold There at h; omega)]
    refine zgo m_there_ok fun W S => ?_
    exact zrt m_there_ok
  have fp := part_fn s.regions[d.region.toNat]! d.index
  have hz := H.z d.region.toNat (by omega)
  by_cases c3 : 0 ≤ d.index ∧ d.index ≤ 32 ∧ 8 * d.index < s.regions[d.region.toNat]!.length
  · rw [decT (show There s d from .inr ⟨c1, c2, c3⟩)]
    have hl : 0 < (prt s.regions[d.region.toNat]! d.index).length := by
      unfold prt
      rw [if_pos ⟨c3.1, c3.2.1⟩, List.length_take, List.length_drop]; omega
    refine zgo m_there_ok fun W S => ?_
    refine zcd (fp) ?_
    exact zrt m_there_ok
  · rw [decF (show ¬ There s d from fun h => by unfold There at h; omega)]
    have hl : (prt s.regions[d.region.toNat]! d.index).length = 0 := by rw [prt_no (by omega)]; rfl
    refine zgo m_there_ok fun W S => ?_
    refine zcd (fp) ?_
    exact zrt m_there_ok
set_option maxHeartbeats 4000000 in
theorem find_fn (s : State) (d : PageID) : Fnc Try.prog 59 [staV s, pidV d] (fun x obs => x = .int .i64 (sGet s d).2 ∧ obs = []) := by
  have f1 := shaped_fn s
  cases c1 : shp s with
  | false =>
    rw [c1] at f1
    rw [sGet_1 c1]
    refine zgo m_find_ok fun W S => ?_
    refine zcd (f1) ?_
    exact zrt m_find_ok
  | true =>
    rw [c1] at f1
    have f2 := there_fn s d c1
    by_cases c2 : There s d
    · rw [decT c2] at f2
      rw [sGet_0 c1 c2]
      refine zgo m_find_ok fun W S => ?_
      refine zcd (f1) ?_
      refine zcd (f2) ?_
      exact zrt m_find_ok
    · rw [decF c2] at f2
      rw [sGet_30 c1 c2]
      refine zgo m_find_ok fun W S => ?_
      refine zcd (f1) ?_
      refine zcd (f2) ?_
      exact zrt m_find_ok
abbrev zvwV : V := .agg [.int .i64 0, .int .i64 0, .int .i64 0, .int .i64 0, .int .i64 0, .int .i64 0, .int .u16 0, .nilS]
theorem zvw_sub (t : Bool) : SubV zvwV (viewV t zvw) := SubV.agg ⟨SubV.refl _, SubV.refl _, SubV.refl _, SubV.refl _, SubV.refl _, SubV.refl _, SubV.refl _, SubV.nil _ _, trivial⟩
theorem pg_subT (d : PageID) (v : View) : SubV (.agg [pidV d, .nilS, viewV true v]) (pgV true ⟨d, [], v⟩) := SubV.agg ⟨SubV.refl _, SubV.nil _ _, SubV.refl _, trivial⟩
theorem pg_subR (d : PageID) (c : List Canon) : SubV (.agg [pidV d, .sl true 4 (c.map canonV), zvwV]) (pgV true ⟨d, c, zvw⟩) := SubV.agg ⟨SubV.refl _, SubV.refl _, zvw_sub _, trivial⟩
theorem zpg_sub (t : Bool) : SubV (.agg [.agg [.int .i64 0, .int .i64 0], .nilS, zvwV]) (pgV t zpg) := SubV.agg ⟨SubV.refl _, SubV.nil _ _, zvw_sub _, trivial⟩
set_option maxHeartbeats 4000000 in
theorem vcop_fn (v : View) (h : v.regs.length ≤ 5864062014634) : Fnc Try.prog 76 [viewV false v] (fun x obs => x = viewV true v ∧ obs = []) := by
  refine zgo m_vcop_ok fun W S => ?_
  refine zcd (ccl_fn v.regs (by omega)) ?_
  exact zrt m_vcop_ok
set_option maxHeartbeats 8000000 in
theorem get_fn (s : State) (d : PageID) (L : LowS s) (h : There s d) : Fnc Try.prog 58 [staV s, pidV d] (fun x obs => x = pgV true (getP s d) ∧ obs = []) := by
  by_cases c0 : d.region = -1
  · have h1 : 0 ≤ d.index ∧ d.index < s.threads.length := by unfold There at h; omega
    have fv := vcop_fn s.threads[d.index.toNat]! (L.g _ (mem_at (by omega)))
    have hr : getP s d = ⟨d, [], s.threads[d.index.toNat]!⟩ := if_pos c0
    rw [hr]
    refine zgo m_get_ok fun W S => ?_
    refine zcd (fv) ?_
    refine ev_obSub 2 _ rfl (pg_subT _ _) rfl ?_
    exact zrt m_get_ok
  · have h1 : 0 ≤ d.region ∧ d.region < s.regions.length := by unfold There at h; omega
    have hr : getP s d = ⟨d, prt s.regions[d.region.toNat]! d.index, zvw⟩ := if_neg c0
    have fp := part_fn s.regions[d.region.toNat]! d.index
    have hl := prt_len s.regions[d.region.toNat]! d.index
    have fc := ccl_fn (prt s.regions[d.region.toNat]! d.index) (by omega)
    rw [hr]
    refine zgo m_get_ok fun W S => ?_
    refine zcd (fp) ?_
    refine zcd (fc) ?_
    refine ev_obSub 2 _ rfl (pg_subR _ _) rfl ?_
    exact zrt m_get_ok
set_option maxHeartbeats 4000000 in
theorem pget_fn (s : State) (d : PageID) (L : LowS s) : Fnc Try.prog 24 [staV s, pidV d] (fun x obs => x = .tup [pgV true (sGet s d).1, .int .i64 (sGet s d).2] ∧ obs = []) := by
  have f1 := find_fn s d
  cases c1 : shp s with
  | false =>
    rw [sGet_1 c1] at f1 ⊢
    refine zgo m_pget_ok fun W S => ?_
    refine zcd (f1) ?_
    refine ev_obSub 2 _ rfl (zpg_sub true) rfl ?_
    exact zrt m_pget_ok
  | true =>
    by_cases c2 : There s d
    · rw [sGet_0 c1 c2] at f1 ⊢
      have f2 := get_fn s d L c2
      refine zgo m_pget_ok fun W S => ?_
      refine zcd (f1) ?_
      refine zcd (f2) ?_
      exact zrt m_pget_ok
    · rw [sGet_30 c1 c2] at f1 ⊢
      refine zgo m_pget_ok fun W S => ?_
      refine zcd (f1) ?_
      refine ev_obSub 2 _ rfl (zpg_sub true) rfl ?_
      exact zrt m_pget_ok
theorem snoc_pg (t : Bool) (l : List Page) (p : Page) (r : List V) : l.map (pgV t) ++ (pgV t p :: r) = (l ++ [p]).map (pgV t) ++ r := by simp
theorem sList_sh {s : State} (h : shp s = true) : sList (szs s) s.threads.length = (idsF (szs s) s.threads.length, 0) := by
  have h := shp_chk h
  unfold sList
  rw [if_pos h]
theorem idsF_le' {s : State} (h : shp s = true) : (idsF (szs s) s.threads.length).length ≤ 20 := idsF_le (shp_chk h)
set_option maxHeartbeats 8000000 in
theorem pall_fn (s : State) (L : LowS s) : Fnc Try.prog 23 [staV s] (fun x obs => x = .tup [.sl true 11 ((sAll s).1.map (pgV true)), .int .i64 (sAll s).2] ∧ obs = []) := by
  have f1 := shaped_fn s
  cases c1 : shp s with
  | false =>
    rw [c1] at f1
    rw [sAll_1 c1]
    refine zgo m_pall_ok fun W S => ?_
    refine zcd (f1) ?_
    refine ev_nil2 2 true 11 rfl ?_
    exact zrt m_pall_ok
  | true =>
    rw [c1] at f1
    rw [sAll_0 c1]
    have f2 := psizes_fn s L.r
    have f3 := plist_fn (szs s) s.threads.length
    rw [sList_sh c1] at f3
    have hn := idsF_le' c1
    have hT : ∀ k, k < (idsF (szs s) s.threads.length).length → There s (idsF (szs s) s.threads.length)[k]! := fun k hk => mem_idsF (mem_at hk) (shp_to c1)
    have hP : pgs s = (idsF (szs s) s.threads.length).map (getP s) := rfl
    generalize idsF (szs s) s.threads.length = D at f3 hn hT hP
    rw [hP]
    refine zgo m_pall_ok fun W S => ?_
    refine zcd (f1) ?_
    refine zcd (f2) ?_
    refine zcd (f3) ?_
    refine ev_adopt (i := 6) (e := 45) (s := 11) rfl (by decide) ?_
    refine ev_loopK [1, 21, 22] (fun p : {p : Nat // p ≤ D.length} => [(6, .own 1 p.1), (23, .int .i64 p.1)]) (fun p => [⟨.box false 30, true, 0, staV s⟩, ⟨.row 45, true, p.1, .arr 11 (((D.take p.1).map (getP s)).map (pgV true))⟩]) (fun p => D.length - p.1) (⟨0, by simp⟩) 2 (by simp only [go_sem]; rfl) ?_ (by first | rfl | (simp only [go_sem]; done)) (by simp) (by first | rfl | (simp only [go_sem]; done)) (by first | rfl | (simp only [go_sem]; done)) (by first | rfl | (simp only [go_sem]; done)) ?_
    · (simp only [go_sem]; (try simp []); done)
    intro J hJ
    rintro ⟨k, hk0⟩
    by_cases hlt : k < D.length
    · have f4 := get_fn s D[k]! L (hT k hlt)
      have hs : ((D.take k).map (getP s)).map (pgV true) ++ [pgV true (getP s D[k]!)] = ((D.take (k + 1)).map (getP s)).map (pgV true) := by rw [take_snoc hlt, List.map_append, List.map_append]; rfl
      have hgl : ((D.take k).map (getP s)).length = k := by rw [List.length_map, List.length_take]; omega
      refine zst ?_
      refine zcd (f4) ?_
      exact zn2 (hJ _ (⟨k + 1, hlt⟩) (by first | omega | (dsimp only; omega) | (simp; omega))) hs
    · obtain rfl : k = D.length := by omega
      dsimp only
      rw [List.take_length]
      refine zst ?_
      exact zrt m_pall_ok
end Go.Proofs.Ytcphobeommkgeaa
