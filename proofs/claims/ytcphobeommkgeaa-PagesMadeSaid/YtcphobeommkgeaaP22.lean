/- Pages: equality. -/
import Derived.Test.YtcphobeommkgeaaP1
import Derived.Test.YtcphobeommkgeaaC5
import Derived.Test.YtcphobeommkgeaaC4
namespace Go.Proofs.Ytcphobeommkgeaa
open Go Go.RowKit Rdn Rdn.Dp
set_option linter.unusedVariables false
set_option linter.unusedSimpArgs false
theorem m_pequal_ok : compF Try.prog 21 = some (79, Qr ([Qw 2 (.box 45 (.t 0)), Qw 3 (.box 45 (.t 1)), Qc 4 (.bool false)])
 (.seq (.dreg [Qf 7 3 2 2, QL 8 8 7, Qf 9 3 2 3, QL 10 8 9, Qw 5 (.alloc 43 (.agg [.int .i64 0, .int .i64 0, .int .i64 0, .int .i64 0, .int .i64 0, .int .i64 0, .int .u16 0, .nilS])), Qw 6 (.alloc 43 (.agg [.int .i64 0, .int .i64 0, .int .i64 0, .int .i64 0, .int .i64 0, .int .i64 0, .int .u16 0, .nilS])), Qs 8 5 8, Qs 8 6 10] [[], [0], [], [2], [], [], [0, 1, 4, 5], [0, 1, 2, 3, 4, 5, 6]])
 (Qr ([Qf 11 0 0 2, QL 12 2 11, Qf 13 0 0 3, QL 14 2 13, Qp 15 (.eqs false [(some .i64), (some .i64)] (.t 12) (.t 14)), Qm 16 15, Q1 17 16 (.fieldA 2 1 (.t 2)), Q1 18 16 (.load false 1 (.t 17)), Q1 19 16 (.fieldA 2 1 (.t 3)), Q1 20 16 (.load false 1 (.t 19)), ⟨(some 21), (some (16, true)), (.call 54 [(.t 18), (.t 20)])⟩, Qu 22 16 21, Qm 23 22, Q1 24 23 (.fieldA 0 0 (.t 5)), Q1 25 23 (.load false 1 (.t 24)), Q1 26 23 (.fieldA 0 0 (.t 6)), Q1 27 23 (.load false 1 (.t 26)), Q1 28 23 (.bin 0 .eql (.t 25) (.t 27)), Qu 29 23 28, Qm 30 29, Q1 31 30 (.fieldA 1 1 (.t 5)), Q1 32 30 (.load false 1 (.t 31)), Q1 33 30 (.fieldA 1 1 (.t 6)), Q1 34 30 (.load false 1 (.t 33)), Q1 35 30 (.bin 0 .eql (.t 32) (.t 34)), Qu 36 30 35, Qm 37 36, Q1 38 37 (.fieldA 2 2 (.t 5)), Q1 39 37 (.load false 1 (.t 38)), Q1 40 37 (.fieldA 2 2 (.t 6)), Q1 41 37 (.load false 1 (.t 40)), Q1 42 37 (.bin 0 .eql (.t 39) (.t 41)), Qu 43 37 42, Qm 44 43, Q1 45 44 (.fieldA 3 3 (.t 5)), Q1 46 44 (.load false 1 (.t 45)), Q1 47 44 (.fieldA 3 3 (.t 6)), Q1 48 44 (.load false 1 (.t 47)), Q1 49 44 (.bin 0 .eql (.t 46) (.t 48)), Qu 50 44 49, Qm 51 50, Q1 52 51 (.fieldA 4 4 (.t 5)), Q1 53 51 (.load false 1 (.t 52)), Q1 54 51 (.fieldA 4 4 (.t 6)), Q1 55 51 (.load false 1 (.t 54)), Q1 56 51 (.bin 0 .eql (.t 53) (.t 55)), Qu 57 51 56, Qm 58 57, Q1 59 58 (.fieldA 5 5 (.t 5)), Q1 60 58 (.load false 1 (.t 59)), Q1 61 58 (.fieldA 5 5 (.t 6)), Q1 62 58 (.load false 1 (.t 61)), Q1 63 58 (.bin 0 .eql (.t 60) (.t 62)), Qu 64 58 63, Qm 65 64, Q1 66 65 (.fieldA 6 6 (.t 5)), Q1 67 65 (.load false 1 (.t 66)), Q1 68 65 (.fieldA 6 6 (.t 6)), Q1 69 65 (.load false 1 (.t 68)), Q1 70 65 (.bin 0 .eql (.t 67) (.t 69)), Qu 71 65 70, Qm 72 71, Q1 73 72 (.fieldA 7 7 (.t 5)), Q1 74 72 (.load false 1 (.t 73)), Q1 75 72 (.fieldA 7 7 (.t 6)), Q1 76 72 (.load false 1 (.t 75)), ⟨(some 77), (some (72, true)), (.call 54 [(.t 74), (.t 76)])⟩, Qu 78 72 77, Qm 4 78])
 (.ret))), [.mov (.t 4)]) := by kernel_rfl
theorem m_eqc_ok : compF Try.prog 54 = some (26, Qr ([Qc 4 (.bool false)])
 (.seq (Qr ([Qm 6 0, Qn 7 6, Qm 8 1, Qn 9 8, Qb 10 .neq 7 9])
 (.cond (.t 10) (Qr ([Qc 4 (.bool false)])
 (.ret)) (.skip)))
 (.seq (Qr ([Qm 11 0, Qn 12 11, Qp 13 (.mov (Qi 0))])
 (.block 0 (.loop (Qr ([Qb 14 .lss 13 12])
 (.seq (.cond (.t 14) (.skip) (.exit 0))
 (.seq (.block 1 (Qr ([Qm 15 13, Qm 5 15])
 (.seq (.dreg [Qm 16 0, Qm 17 5, Qx 18 4 16 17, QL 19 4 18, Qm 20 1, Qm 21 5, Qx 22 4 20 21, QL 23 4 22, Qp 24 (.eqs true [(some .u8), (some .u16), (some .i64), (some .i64)] (.t 19) (.t 23))] [[], [], [0, 1], [0, 1, 2], [], [], [4, 5], [4, 5, 6], [0, 1, 2, 3, 4, 5, 6, 7]])
 (.cond (.t 24) (Qr ([Qc 4 (.bool false)])
 (.ret)) (.skip)))))
 (.reg [Qk 25 .add 13 1, Qm 13 25])))))))
 (Qr ([Qc 4 (.bool true)])
 (.ret)))), [.mov (.t 4)]) := by kernel_rfl
set_option maxHeartbeats 4000000 in
theorem eqc_fn (a b : List Canon) : Fnc Try.prog 54 [.sl false 4 (a.map canonV), .sl false 4 (b.map canonV)] (fun x obs => x = .bool (decide (a = b)) ∧ obs = []) := by
  refine Fnc.wf fun hw => ?_
  simp only [V.wfs, V.wf, wfs_map, List.length_map] at hw
  have hm := hw.1.2
  have hm' := hw.2.1.2
  by_cases hl : a.length = b.length
  · skip
    refine zgo m_eqc_ok fun W S => ?_
    refine ev_loopK [0, 1, 12] (fun p : {p : Nat // p ≤ a.length ∧ a.take p = b.take p} => [(13, .int .i64 p.1)]) (fun _ => []) (fun p => a.length - p.1) (⟨0, by simp⟩) 0 (by simp only [go_sem]; rfl) ?_ (by first | rfl | (simp only [go_sem]; done)) (by simp) (by first | rfl | (simp only [go_sem]; done)) (by first | rfl | (simp only [go_sem]; done)) (by first | rfl | (simp only [go_sem]; done)) ?_
    · (simp only [go_sem]; (try simp []); done)
    intro J hJ
    rintro ⟨k, hk0, hk1⟩
    by_cases hlt : k < a.length
    · by_cases e : a[k]! = b[k]!
      · skip
        refine zst ?_
        exact zn0 (hJ _ (⟨k + 1, hlt, by rw [take_snoc hlt, take_snoc (by omega), hk1, e]⟩) (by first | omega | (dsimp only; omega) | (simp; omega))) hlt
      · have hne : a ≠ b := fun h => e (at_of_eq h k)
        refine zst ?_
        refine ret m_eqc_ok [] ?_; (first | (simp only [go_sem]; done) | (simp only [go_sem]; exact ⟨rfl, rfl⟩))
    · have hab := eq_of_take (by omega) (by omega) hk1
      refine zst ?_
      refine ret m_eqc_ok [] ?_; (first | (simp only [go_sem]; done) | (simp only [go_sem]; exact ⟨rfl, rfl⟩))
  · have hne : a ≠ b := fun h => hl (by rw [h])
    refine zgo m_eqc_ok fun W S => ?_
    refine ret m_eqc_ok [] ?_; (first | (simp only [go_sem]; done) | (simp only [go_sem]; exact ⟨rfl, rfl⟩))
set_option maxHeartbeats 8000000 in
theorem pequal_fn (a b : Page) : Fnc Try.prog 21 [pgV false a, pgV false b] (fun x obs => x = .bool (decide (a = b)) ∧ obs = []) := by
  obtain ⟨⟨r1, i1⟩, cs1, ⟨a1, a2, a3, a4, a5, a6, a7, rs1⟩⟩ := a
  obtain ⟨⟨r2, i2⟩, cs2, ⟨b1, b2, b3, b4, b5, b6, b7, rs2⟩⟩ := b
  refine Fnc.wf fun hw => ?_
  simp only [V.wfs, V.wf, wfs_map, List.length_map] at hw
  refine zgo m_pequal_ok fun W S => ?_
  by_cases c0 : ¬ r1 = r2
  · have hr := decF (show ¬ ((⟨⟨r1, i1⟩, cs1, ⟨a1, a2, a3, a4, a5, a6, a7, rs1⟩⟩ : Page) = ⟨⟨r2, i2⟩, cs2, ⟨b1, b2, b3, b4, b5, b6, b7, rs2⟩⟩) from fun h => by simp only [Page.mk.injEq, PageID.mk.injEq, View.mk.injEq] at h; exact c0 h.1.1)
    repeat (first | (simp only [Bool.false_and]; try simp only [go_sem]) | refine And.intro (by omega) ?_ | refine And.intro rfl ?_ | refine ev_ctl rfl rfl ?_ | refine evr_nil ?_ | refine evw_nil (by kernel_rfl) ?_ | (simp (disch := omega) only [takeAll, Nat.min_eq_left, Nat.min_eq_right, if_pos, if_neg, getD_map, wrapI64, modIn, fdivE, tmodE, tdivE, decT, decF, beqT, beqF, bneT, bneF, Int.toNat_natCast]; try simp only [go_sem]) | (refine ev_condTb rfl ?_ ?_; · (simp <;> omega)) | (refine ev_condFb rfl ?_ ?_; · (simp <;> omega)) | ((first | refine ev_region ?_ | refine evr_go rfl ?_ | refine evw_go rfl ?_ | refine ev_dr0 mixed rfl (by kernel_rfl) ?_ | refine ev_dr1 mixed rfl (by kernel_rfl) ?_ | refine ev_dr2 mixed rfl (by kernel_rfl) ?_); simp only [go_sem]))
    exact zrh m_pequal_ok hr
  have c0 := Decidable.not_not.1 c0
  by_cases c1 : ¬ i1 = i2
  · have hr := decF (show ¬ ((⟨⟨r1, i1⟩, cs1, ⟨a1, a2, a3, a4, a5, a6, a7, rs1⟩⟩ : Page) = ⟨⟨r2, i2⟩, cs2, ⟨b1, b2, b3, b4, b5, b6, b7, rs2⟩⟩) from fun h => by simp only [Page.mk.injEq, PageID.mk.injEq, View.mk.injEq] at h; exact c1 h.1.2)
    repeat (first | (simp only [Bool.true_and]; try simp only [go_sem]) | refine And.intro (by omega) ?_ | refine And.intro rfl ?_ | refine ev_ctl rfl rfl ?_ | refine evr_nil ?_ | refine evw_nil (by kernel_rfl) ?_ | (simp (disch := omega) only [takeAll, Nat.min_eq_left, Nat.min_eq_right, if_pos, if_neg, getD_map, wrapI64, modIn, fdivE, tmodE, tdivE, decT, decF, beqT, beqF, bneT, bneF, Int.toNat_natCast]; try simp only [go_sem]) | (refine ev_condTb rfl ?_ ?_; · (simp <;> omega)) | (refine ev_condFb rfl ?_ ?_; · (simp <;> omega)) | ((first | refine ev_region ?_ | refine evr_go rfl ?_ | refine evw_go rfl ?_ | refine ev_dr0 mixed rfl (by kernel_rfl) ?_ | refine ev_dr1 mixed rfl (by kernel_rfl) ?_ | refine ev_dr2 mixed rfl (by kernel_rfl) ?_); simp only [go_sem]))
    exact zrh m_pequal_ok hr
  have c1 := Decidable.not_not.1 c1
  repeat (first | (simp only [Bool.true_and]; try simp only [go_sem]) | refine And.intro (by omega) ?_ | refine And.intro rfl ?_ | refine ev_ctl rfl rfl ?_ | refine evr_nil ?_ | refine evw_nil (by kernel_rfl) ?_ | (simp (disch := omega) only [takeAll, Nat.min_eq_left, Nat.min_eq_right, if_pos, if_neg, getD_map, wrapI64, modIn, fdivE, tmodE, tdivE, decT, decF, beqT, beqF, bneT, bneF, Int.toNat_natCast]; try simp only [go_sem]) | (refine ev_condTb rfl ?_ ?_; · (simp <;> omega)) | (refine ev_condFb rfl ?_ ?_; · (simp <;> omega)) | ((first | refine ev_region ?_ | refine evr_go rfl ?_ | refine evw_go rfl ?_ | refine ev_dr0 mixed rfl (by kernel_rfl) ?_ | refine ev_dr1 mixed rfl (by kernel_rfl) ?_ | refine ev_dr2 mixed rfl (by kernel_rfl) ?_); simp only [go_sem]))
  by_cases c2 : ¬ cs1 = cs2
  · have hr := decF (show ¬ ((⟨⟨r1, i1⟩, cs1, ⟨a1, a2, a3, a4, a5, a6, a7, rs1⟩⟩ : Page) = ⟨⟨r2, i2⟩, cs2, ⟨b1, b2, b3, b4, b5, b6, b7, rs2⟩⟩) from fun h => by simp only [Page.mk.injEq, PageID.mk.injEq, View.mk.injEq] at h; exact c2 h.2.1)
    have hE := eqc_fn cs1 cs2
    rw [decF c2] at hE
    refine zcd (hE) ?_
    exact zrh m_pequal_ok hr
  have c2 := Decidable.not_not.1 c2
  subst c2
  have hE := eqc_fn cs1 cs1
  rw [decT rfl] at hE
  refine zcd (hE) ?_
  by_cases c3 : ¬ a1 = b1
  · have hr := decF (show ¬ ((⟨⟨r1, i1⟩, cs1, ⟨a1, a2, a3, a4, a5, a6, a7, rs1⟩⟩ : Page) = ⟨⟨r2, i2⟩, cs1, ⟨b1, b2, b3, b4, b5, b6, b7, rs2⟩⟩) from fun h => by simp only [Page.mk.injEq, PageID.mk.injEq, View.mk.injEq] at h; exact c3 h.2.2.1)
    refine zst ?_
    exact zrh m_pequal_ok hr
  have c3 := Decidable.not_not.1 c3
  refine zst ?_
  by_cases c4 : ¬ a2 = b2
  · have hr := decF (show ¬ ((⟨⟨r1, i1⟩, cs1, ⟨a1, a2, a3, a4, a5, a6, a7, rs1⟩⟩ : Page) = ⟨⟨r2, i2⟩, cs1, ⟨b1, b2, b3, b4, b5, b6, b7, rs2⟩⟩) from fun h => by simp only [Page.mk.injEq, PageID.mk.injEq, View.mk.injEq] at h; exact c4 h.2.2.2.1)
    refine zst ?_
    exact zrh m_pequal_ok hr
  have c4 := Decidable.not_not.1 c4
  refine zst ?_
  by_cases c5 : ¬ a3 = b3
  · have hr := decF (show ¬ ((⟨⟨r1, i1⟩, cs1, ⟨a1, a2, a3, a4, a5, a6, a7, rs1⟩⟩ : Page) = ⟨⟨r2, i2⟩, cs1, ⟨b1, b2, b3, b4, b5, b6, b7, rs2⟩⟩) from fun h => by simp only [Page.mk.injEq, PageID.mk.injEq, View.mk.injEq] at h; exact c5 h.2.2.2.2.1)
    refine zst ?_
    exact zrh m_pequal_ok hr
  have c5 := Decidable.not_not.1 c5
  refine zst ?_
  by_cases c6 : ¬ a4 = b4
  · have hr := decF (show ¬ ((⟨⟨r1, i1⟩, cs1, ⟨a1, a2, a3, a4, a5, a6, a7, rs1⟩⟩ : Page) = ⟨⟨r2, i2⟩, cs1, ⟨b1, b2, b3, b4, b5, b6, b7, rs2⟩⟩) from fun h => by simp only [Page.mk.injEq, PageID.mk.injEq, View.mk.injEq] at h; exact c6 h.2.2.2.2.2.1)
    refine zst ?_
    exact zrh m_pequal_ok hr
  have c6 := Decidable.not_not.1 c6
  refine zst ?_
  by_cases c7 : ¬ a5 = b5
  · have hr := decF (show ¬ ((⟨⟨r1, i1⟩, cs1, ⟨a1, a2, a3, a4, a5, a6, a7, rs1⟩⟩ : Page) = ⟨⟨r2, i2⟩, cs1, ⟨b1, b2, b3, b4, b5, b6, b7, rs2⟩⟩) from fun h => by simp only [Page.mk.injEq, PageID.mk.injEq, View.mk.injEq] at h; exact c7 h.2.2.2.2.2.2.1)
    refine zst ?_
    exact zrh m_pequal_ok hr
  have c7 := Decidable.not_not.1 c7
  refine zst ?_
  by_cases c8 : ¬ a6 = b6
  · have hr := decF (show ¬ ((⟨⟨r1, i1⟩, cs1, ⟨a1, a2, a3, a4, a5, a6, a7, rs1⟩⟩ : Page) = ⟨⟨r2, i2⟩, cs1, ⟨b1, b2, b3, b4, b5, b6, b7, rs2⟩⟩) from fun h => by simp only [Page.mk.injEq, PageID.mk.injEq, View.mk.injEq] at h; exact c8 h.2.2.2.2.2.2.2.1)
    refine zst ?_
    exact zrh m_pequal_ok hr
  have c8 := Decidable.not_not.1 c8
  refine zst ?_
  by_cases c9 : ¬ a7 = b7
  · have hr := decF (show ¬ ((⟨⟨r1, i1⟩, cs1, ⟨a1, a2, a3, a4, a5, a6, a7, rs1⟩⟩ : Page) = ⟨⟨r2, i2⟩, cs1, ⟨b1, b2, b3, b4, b5, b6, b7, rs2⟩⟩) from fun h => by simp only [Page.mk.injEq, PageID.mk.injEq, View.mk.injEq] at h; exact c9 h.2.2.2.2.2.2.2.2.1)
    refine zst ?_
    exact zrh m_pequal_ok hr
  have c9 := Decidable.not_not.1 c9
  refine zst ?_
  by_cases c10 : ¬ rs1 = rs2
  · have hr := decF (show ¬ ((⟨⟨r1, i1⟩, cs1, ⟨a1, a2, a3, a4, a5, a6, a7, rs1⟩⟩ : Page) = ⟨⟨r2, i2⟩, cs1, ⟨b1, b2, b3, b4, b5, b6, b7, rs2⟩⟩) from fun h => by simp only [Page.mk.injEq, PageID.mk.injEq, View.mk.injEq] at h; exact c10 h.2.2.2.2.2.2.2.2.2)
    have hE := eqc_fn rs1 rs2
    rw [decF c10] at hE
    refine zcd (hE) ?_
    exact zrh m_pequal_ok hr
  have c10 := Decidable.not_not.1 c10
  subst c10
  have hE := eqc_fn rs1 rs1
  rw [decT rfl] at hE
  refine zcd (hE) ?_
  subst c0 c1 c3 c4 c5 c6 c7 c8 c9
  have hr : decide ((⟨⟨r1, i1⟩, cs1, ⟨a1, a2, a3, a4, a5, a6, a7, rs1⟩⟩ : Page) = ⟨⟨r1, i1⟩, cs1, ⟨a1, a2, a3, a4, a5, a6, a7, rs1⟩⟩) = true := decT rfl
  exact zrh m_pequal_ok hr
end Go.Proofs.Ytcphobeommkgeaa
