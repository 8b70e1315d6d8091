/- Pages compared by the reference; empty views. -/
import Derived.Test.YtcphobeommkgeaaP28
import Derived.Test.YtcphobeommkgeaaC5
import Derived.Test.YtcphobeommkgeaaP22
namespace Go.Proofs.Ytcphobeommkgeaa
open Go Go.RowKit Rdn Rdn.Dp
set_option linter.unusedVariables false
set_option linter.unusedSimpArgs false
theorem m_rscan_ok : compF Try.prog 73 = some (26, Qr ([Qc 4 (.bool false)])
 (.seq (Qr ([Qm 6 0, Qn 7 6, Qm 8 1, Qn 9 8, Qb 10 .neq 7 9])
 (.cond (.t 10) (Qr ([Qc 4 (.bool false)])
 (.ret)) (.skip)))
 (.seq (Qr ([Qp 5 (.mov (Qi 0))])
 (.block 0 (.loop (.seq (Qr ([Qm 11 5, Qm 12 0, Qn 13 12, Qb 14 .lss 11 13])
 (.cond (.t 14) (.skip) (.exit 0)))
 (.seq (.block 1 (.seq (.dreg [Qm 17 0, Qm 18 5, Qx 19 4 17 18, QL 20 4 19, Qm 21 1, Qm 22 5, Qx 23 4 21 22, QL 24 4 23, Qp 25 (.eqs true [(some .u8), (some .u16), (some .i64), (some .i64)] (.t 20) (.t 24))] [[], [], [0, 1], [0, 1, 2], [], [], [4, 5], [4, 5, 6], [0, 1, 2, 3, 4, 5, 6, 7]])
 (.cond (.t 25) (Qr ([Qc 4 (.bool false)])
 (.ret)) (.skip))))
 (.reg [Qm 15 5, Qk 16 .add 15 1, Qm 5 16]))))))
 (Qr ([Qc 4 (.bool true)])
 (.ret)))), [.mov (.t 4)]) := by kernel_rfl
theorem m_rsview_ok : compF Try.prog 74 = some (59, Qr ([Qw 2 (.box 43 (.t 0)), Qw 3 (.box 43 (.t 1)), Qc 4 (.bool false)])
 (Qr ([Qf 5 0 0 2, Ql 6 1 5, Qf 7 0 0 3, Ql 8 1 7, Qb 9 .eql 6 8, Qm 10 9, Q1 11 10 (.fieldA 1 1 (.t 2)), Q1 12 10 (.load false 1 (.t 11)), Q1 13 10 (.fieldA 1 1 (.t 3)), Q1 14 10 (.load false 1 (.t 13)), Q1 15 10 (.bin 0 .eql (.t 12) (.t 14)), Qu 16 10 15, Qm 17 16, Q1 18 17 (.fieldA 2 2 (.t 2)), Q1 19 17 (.load false 1 (.t 18)), Q1 20 17 (.fieldA 2 2 (.t 3)), Q1 21 17 (.load false 1 (.t 20)), Q1 22 17 (.bin 0 .eql (.t 19) (.t 21)), Qu 23 17 22, Qm 24 23, Q1 25 24 (.fieldA 3 3 (.t 2)), Q1 26 24 (.load false 1 (.t 25)), Q1 27 24 (.fieldA 3 3 (.t 3)), Q1 28 24 (.load false 1 (.t 27)), Q1 29 24 (.bin 0 .eql (.t 26) (.t 28)), Qu 30 24 29, Qm 31 30, Q1 32 31 (.fieldA 4 4 (.t 2)), Q1 33 31 (.load false 1 (.t 32)), Q1 34 31 (.fieldA 4 4 (.t 3)), Q1 35 31 (.load false 1 (.t 34)), Q1 36 31 (.bin 0 .eql (.t 33) (.t 35)), Qu 37 31 36, Qm 38 37, Q1 39 38 (.fieldA 5 5 (.t 2)), Q1 40 38 (.load false 1 (.t 39)), Q1 41 38 (.fieldA 5 5 (.t 3)), Q1 42 38 (.load false 1 (.t 41)), Q1 43 38 (.bin 0 .eql (.t 40) (.t 42)), Qu 44 38 43, Qm 45 44, Q1 46 45 (.fieldA 6 6 (.t 2)), Q1 47 45 (.load false 1 (.t 46)), Q1 48 45 (.fieldA 6 6 (.t 3)), Q1 49 45 (.load false 1 (.t 48)), Q1 50 45 (.bin 0 .eql (.t 47) (.t 49)), Qu 51 45 50, Qm 52 51, Q1 53 52 (.fieldA 7 7 (.t 2)), Q1 54 52 (.load false 1 (.t 53)), Q1 55 52 (.fieldA 7 7 (.t 3)), Q1 56 52 (.load false 1 (.t 55)), ⟨(some 57), (some (52, true)), (.call 73 [(.t 54), (.t 56)])⟩, Qu 58 52 57, Qm 4 58])
 (.ret)), [.mov (.t 4)]) := by kernel_rfl
theorem m_rsequal_ok : compF Try.prog 84 = some (24, Qr ([Qw 2 (.box 45 (.t 0)), Qw 3 (.box 45 (.t 1)), Qc 4 (.bool false)])
 (Qr ([Qf 5 0 0 2, QL 6 2 5, Qf 7 0 0 3, QL 8 2 7, Qp 9 (.eqs false [(some .i64), (some .i64)] (.t 6) (.t 8)), Qm 10 9, Q1 11 10 (.fieldA 2 1 (.t 2)), Q1 12 10 (.load false 1 (.t 11)), Q1 13 10 (.fieldA 2 1 (.t 3)), Q1 14 10 (.load false 1 (.t 13)), ⟨(some 15), (some (10, true)), (.call 73 [(.t 12), (.t 14)])⟩, Qu 16 10 15, Qm 17 16, Q1 18 17 (.fieldA 3 2 (.t 2)), Q1 19 17 (.load true 8 (.t 18)), Q1 20 17 (.fieldA 3 2 (.t 3)), Q1 21 17 (.load true 8 (.t 20)), ⟨(some 22), (some (17, true)), (.call 74 [(.t 19), (.t 21)])⟩, Qu 23 17 22, Qm 4 23])
 (.ret)), [.mov (.t 4)]) := by kernel_rfl
theorem m_rspages_ok : compF Try.prog 85 = some (27, Qr ([Qc 4 (.bool false)])
 (.seq (Qr ([Qm 6 0, Qn 7 6, Qm 8 1, Qn 9 8, Qb 10 .neq 7 9])
 (.cond (.t 10) (Qr ([Qc 4 (.bool false)])
 (.ret)) (.skip)))
 (.seq (Qr ([Qp 5 (.mov (Qi 0))])
 (.block 0 (.loop (.seq (Qr ([Qm 11 5, Qm 12 0, Qn 13 12, Qb 14 .lss 11 13])
 (.cond (.t 14) (.skip) (.exit 0)))
 (.seq (.block 1 (.seq (.dreg [Qm 17 0, Qm 18 5, Qx 19 11 17 18, QL 20 11 19, Qm 21 1, Qm 22 5, Qx 23 11 21 22, QL 24 11 23, Qq 25 84 [(.t 20), (.t 24)], Qp 26 (.un .not (.t 25))] [[], [], [0, 1], [0, 1, 2], [], [], [4, 5], [4, 5, 6], [0, 1, 2, 3, 4, 5, 6, 7], [0, 1, 2, 3, 4, 5, 6, 7, 8]])
 (.cond (.t 26) (Qr ([Qc 4 (.bool false)])
 (.ret)) (.skip))))
 (.reg [Qm 15 5, Qk 16 .add 15 1, Qm 5 16]))))))
 (Qr ([Qc 4 (.bool true)])
 (.ret)))), [.mov (.t 4)]) := by kernel_rfl
theorem m_rsame_ok : compF Try.prog 35 = some (61, Qr ([Qw 2 (.box 30 (.t 0)), Qw 3 (.box 30 (.t 1)), Qc 4 (.bool false)])
 (.seq (Qr ([Qf 7 0 0 2, Ql 8 1 7, Qn 9 8, Qf 10 0 0 3, Ql 11 1 10, Qn 12 11, Qb 13 .neq 9 12, Qm 14 13, Q0 15 14 (.fieldA 1 1 (.t 2)), Q0 16 14 (.load false 1 (.t 15)), Q0 17 14 (.len (.t 16)), Q0 18 14 (.fieldA 1 1 (.t 3)), Q0 19 14 (.load false 1 (.t 18)), Q0 20 14 (.len (.t 19)), Q0 21 14 (.bin 0 .neq (.t 17) (.t 20)), Qt 22 14 21])
 (.cond (.t 22) (Qr ([Qc 4 (.bool false)])
 (.ret)) (.skip)))
 (.seq (Qr ([Qp 5 (.mov (Qi 0))])
 (.block 0 (.loop (.seq (Qr ([Qm 23 5, Qf 24 0 0 2, Ql 25 1 24, Qn 26 25, Qb 27 .lss 23 26])
 (.cond (.t 27) (.skip) (.exit 0)))
 (.seq (.block 1 (.seq (.dreg [Qf 30 0 0 2, Ql 31 1 30, Qm 32 5, Qx 33 1 31 32, Ql 34 1 33, Qf 35 0 0 3, Ql 36 1 35, Qm 37 5, Qx 38 1 36 37, Ql 39 1 38, Qq 40 73 [(.t 34), (.t 39)], Qp 41 (.un .not (.t 40))] [[], [0], [], [0, 1, 2], [0, 1, 2, 3], [], [5], [], [5, 6, 7], [5, 6, 7, 8], [0, 1, 2, 3, 4, 5, 6, 7, 8, 9], [0, 1, 2, 3, 4, 5, 6, 7, 8, 9, 10]])
 (.cond (.t 41) (Qr ([Qc 4 (.bool false)])
 (.ret)) (.skip))))
 (.reg [Qm 28 5, Qk 29 .add 28 1, Qm 5 29]))))))
 (.seq (Qr ([Qp 6 (.mov (Qi 0))])
 (.block 2 (.loop (.seq (Qr ([Qm 42 6, Qf 43 1 1 2, Ql 44 1 43, Qn 45 44, Qb 46 .lss 42 45])
 (.cond (.t 46) (.skip) (.exit 2)))
 (.seq (.block 3 (.seq (.dreg [Qf 49 1 1 2, Ql 50 1 49, Qm 51 6, Qx 52 8 50 51, QL 53 8 52, Qf 54 1 1 3, Ql 55 1 54, Qm 56 6, Qx 57 8 55 56, QL 58 8 57, Qq 59 74 [(.t 53), (.t 58)], Qp 60 (.un .not (.t 59))] [[], [0], [], [0, 1, 2], [0, 1, 2, 3], [], [5], [], [5, 6, 7], [5, 6, 7, 8], [0, 1, 2, 3, 4, 5, 6, 7, 8, 9], [0, 1, 2, 3, 4, 5, 6, 7, 8, 9, 10]])
 (.cond (.t 60) (Qr ([Qc 4 (.bool false)])
 (.ret)) (.skip))))
 (.reg [Qm 47 6, Qk 48 .add 47 1, Qm 6 48]))))))
 (Qr ([Qc 4 (.bool true)])
 (.ret))))), [.mov (.t 4)]) := by kernel_rfl
theorem m_wempty_ok : compF Try.prog 78 = some (42, Qr ([Qw 1 (.box 43 (.t 0)), Qc 2 (.bool false)])
 (Qr ([Qf 3 0 0 1, Ql 4 1 3, Qk 5 .eql 4 0, Qm 6 5, Q1 7 6 (.fieldA 1 1 (.t 1)), Q1 8 6 (.load false 1 (.t 7)), Q1 9 6 (.bin 0 .eql (.t 8) (Qi 0)), Qu 10 6 9, Qm 11 10, Q1 12 11 (.fieldA 2 2 (.t 1)), Q1 13 11 (.load false 1 (.t 12)), Q1 14 11 (.bin 0 .eql (.t 13) (Qi 0)), Qu 15 11 14, Qm 16 15, Q1 17 16 (.fieldA 3 3 (.t 1)), Q1 18 16 (.load false 1 (.t 17)), Q1 19 16 (.bin 0 .eql (.t 18) (Qi 0)), Qu 20 16 19, Qm 21 20, Q1 22 21 (.fieldA 4 4 (.t 1)), Q1 23 21 (.load false 1 (.t 22)), Q1 24 21 (.bin 0 .eql (.t 23) (Qi 0)), Qu 25 21 24, Qm 26 25, Q1 27 26 (.fieldA 5 5 (.t 1)), Q1 28 26 (.load false 1 (.t 27)), Q1 29 26 (.bin 0 .eql (.t 28) (Qi 0)), Qu 30 26 29, Qm 31 30, Q1 32 31 (.fieldA 6 6 (.t 1)), Q1 33 31 (.load false 1 (.t 32)), Q1 34 31 (.bin 0 .eql (.t 33) (.c (.int .u16 0))), Qu 35 31 34, Qm 36 35, Q1 37 36 (.fieldA 7 7 (.t 1)), Q1 38 36 (.load false 1 (.t 37)), Q1 39 36 (.len (.t 38)), Q1 40 36 (.bin 0 .eql (.t 39) (Qi 0)), Qu 41 36 40, Qm 2 41])
 (.ret)), [.mov (.t 2)]) := by kernel_rfl
theorem m_rzero_ok : compF Try.prog 103 = some (42, Qr ([Qw 1 (.box 43 (.t 0)), Qc 2 (.bool false)])
 (Qr ([Qf 3 0 0 1, Ql 4 1 3, Qk 5 .eql 4 0, Qm 6 5, Q1 7 6 (.fieldA 1 1 (.t 1)), Q1 8 6 (.load false 1 (.t 7)), Q1 9 6 (.bin 0 .eql (.t 8) (Qi 0)), Qu 10 6 9, Qm 11 10, Q1 12 11 (.fieldA 2 2 (.t 1)), Q1 13 11 (.load false 1 (.t 12)), Q1 14 11 (.bin 0 .eql (.t 13) (Qi 0)), Qu 15 11 14, Qm 16 15, Q1 17 16 (.fieldA 3 3 (.t 1)), Q1 18 16 (.load false 1 (.t 17)), Q1 19 16 (.bin 0 .eql (.t 18) (Qi 0)), Qu 20 16 19, Qm 21 20, Q1 22 21 (.fieldA 4 4 (.t 1)), Q1 23 21 (.load false 1 (.t 22)), Q1 24 21 (.bin 0 .eql (.t 23) (Qi 0)), Qu 25 21 24, Qm 26 25, Q1 27 26 (.fieldA 5 5 (.t 1)), Q1 28 26 (.load false 1 (.t 27)), Q1 29 26 (.bin 0 .eql (.t 28) (Qi 0)), Qu 30 26 29, Qm 31 30, Q1 32 31 (.fieldA 6 6 (.t 1)), Q1 33 31 (.load false 1 (.t 32)), Q1 34 31 (.bin 0 .eql (.t 33) (.c (.int .u16 0))), Qu 35 31 34, Qm 36 35, Q1 37 36 (.fieldA 7 7 (.t 1)), Q1 38 36 (.load false 1 (.t 37)), Q1 39 36 (.len (.t 38)), Q1 40 36 (.bin 0 .eql (.t 39) (Qi 0)), Qu 41 36 40, Qm 2 41])
 (.ret)), [.mov (.t 2)]) := by kernel_rfl
set_option maxHeartbeats 4000000 in
theorem rscan_fn (a b : List Canon) : Fnc Try.prog 73 [.sl false 4 (a.map canonV), .sl false 4 (b.map canonV)] (fun x obs => x = .bool (decide (a = b)) ∧ obs = []) := by
  refine Fnc.wf fun hw => ?_
  simp only [V.wfs, V.wf, wfs_map, List.length_map] at hw
  have hm := hw.1.2
  have hm' := hw.2.1.2
  by_cases hl : a.length = b.length
  · skip
    refine zgo m_rscan_ok fun W S => ?_
    refine ev_loopK [0, 1] (fun p : {p : Nat // p ≤ a.length ∧ a.take p = b.take p} => [(5, .int .i64 p.1)]) (fun _ => []) (fun p => a.length - p.1) (⟨0, by simp⟩) 0 (by simp only [go_sem]; rfl) ?_ (by first | rfl | (simp only [go_sem]; done)) (by simp) (by first | rfl | (simp only [go_sem]; done)) (by first | rfl | (simp only [go_sem]; done)) (by first | rfl | (simp only [go_sem]; done)) ?_
    · (simp only [go_sem]; (try simp []); done)
    intro J hJ
    rintro ⟨k, hk0, hk1⟩
    by_cases hlt : k < a.length
    · by_cases e : a[k]! = b[k]!
      · skip
        refine zst ?_
        exact zn0 (hJ _ (⟨k + 1, hlt, by rw [take_snoc hlt, take_snoc (by omega), hk1, e]⟩) (by first | omega | (dsimp only; omega) | (simp; omega))) hlt
      · have hne : a ≠ b := fun h => e (at_of_eq h k)
        refine zst ?_
        refine ret m_rscan_ok [] ?_; (first | (simp only [go_sem]; done) | (simp only [go_sem]; exact ⟨rfl, rfl⟩))
    · have hab := eq_of_take (by omega) (by omega) hk1
      refine zst ?_
      refine ret m_rscan_ok [] ?_; (first | (simp only [go_sem]; done) | (simp only [go_sem]; exact ⟨rfl, rfl⟩))
  · have hne : a ≠ b := fun h => hl (by rw [h])
    refine zgo m_rscan_ok fun W S => ?_
    refine ret m_rscan_ok [] ?_; (first | (simp only [go_sem]; done) | (simp only [go_sem]; exact ⟨rfl, rfl⟩))
set_option maxHeartbeats 8000000 in
theorem rsview_fn (a b : View) : Fnc Try.prog 74 [viewV false a, viewV false b] (fun x obs => x = .bool (decide (a = b)) ∧ obs = []) := by
  obtain ⟨a1, a2, a3, a4, a5, a6, a7, rs1⟩ := a
  obtain ⟨b1, b2, b3, b4, b5, b6, b7, rs2⟩ := b
  refine zgo m_rsview_ok fun W S => ?_
  by_cases c0 : ¬ a1 = b1
  · have hr := decF (show ¬ ((⟨a1, a2, a3, a4, a5, a6, a7, rs1⟩ : View) = ⟨b1, b2, b3, b4, b5, b6, b7, rs2⟩) from fun h => by simp only [View.mk.injEq] at h; exact c0 h.1)
    refine zst ?_
    exact zrh m_rsview_ok hr
  have c0 := Decidable.not_not.1 c0
  refine zst ?_
  by_cases c1 : ¬ a2 = b2
  · have hr := decF (show ¬ ((⟨a1, a2, a3, a4, a5, a6, a7, rs1⟩ : View) = ⟨b1, b2, b3, b4, b5, b6, b7, rs2⟩) from fun h => by simp only [View.mk.injEq] at h; exact c1 h.2.1)
    refine zst ?_
    exact zrh m_rsview_ok hr
  have c1 := Decidable.not_not.1 c1
  refine zst ?_
  by_cases c2 : ¬ a3 = b3
  · have hr := decF (show ¬ ((⟨a1, a2, a3, a4, a5, a6, a7, rs1⟩ : View) = ⟨b1, b2, b3, b4, b5, b6, b7, rs2⟩) from fun h => by simp only [View.mk.injEq] at h; exact c2 h.2.2.1)
    refine zst ?_
    exact zrh m_rsview_ok hr
  have c2 := Decidable.not_not.1 c2
  refine zst ?_
  by_cases c3 : ¬ a4 = b4
  · have hr := decF (show ¬ ((⟨a1, a2, a3, a4, a5, a6, a7, rs1⟩ : View) = ⟨b1, b2, b3, b4, b5, b6, b7, rs2⟩) from fun h => by simp only [View.mk.injEq] at h; exact c3 h.2.2.2.1)
    refine zst ?_
    exact zrh m_rsview_ok hr
  have c3 := Decidable.not_not.1 c3
  refine zst ?_
  by_cases c4 : ¬ a5 = b5
  · have hr := decF (show ¬ ((⟨a1, a2, a3, a4, a5, a6, a7, rs1⟩ : View) = ⟨b1, b2, b3, b4, b5, b6, b7, rs2⟩) from fun h => by simp only [View.mk.injEq] at h; exact c4 h.2.2.2.2.1)
    refine zst ?_
    exact zrh m_rsview_ok hr
  have c4 := Decidable.not_not.1 c4
  refine zst ?_
  by_cases c5 : ¬ a6 = b6
  · have hr := decF (show ¬ ((⟨a1, a2, a3, a4, a5, a6, a7, rs1⟩ : View) = ⟨b1, b2, b3, b4, b5, b6, b7, rs2⟩) from fun h => by simp only [View.mk.injEq] at h; exact c5 h.2.2.2.2.2.1)
    refine zst ?_
    exact zrh m_rsview_ok hr
  have c5 := Decidable.not_not.1 c5
  refine zst ?_
  by_cases c6 : ¬ a7 = b7
  · have hr := decF (show ¬ ((⟨a1, a2, a3, a4, a5, a6, a7, rs1⟩ : View) = ⟨b1, b2, b3, b4, b5, b6, b7, rs2⟩) from fun h => by simp only [View.mk.injEq] at h; exact c6 h.2.2.2.2.2.2.1)
    refine zst ?_
    exact zrh m_rsview_ok hr
  have c6 := Decidable.not_not.1 c6
  refine zst ?_
  by_cases c7 : ¬ rs1 = rs2
  · have hr := decF (show ¬ ((⟨a1, a2, a3, a4, a5, a6, a7, rs1⟩ : View) = ⟨b1, b2, b3, b4, b5, b6, b7, rs2⟩) from fun h => by simp only [View.mk.injEq] at h; exact c7 h.2.2.2.2.2.2.2)
    have hE := rscan_fn rs1 rs2
    rw [decF c7] at hE
    refine zcd (hE) ?_
    exact zrh m_rsview_ok hr
  have c7 := Decidable.not_not.1 c7
  subst c7
  have hE := rscan_fn rs1 rs1
  rw [decT rfl] at hE
  refine zcd (hE) ?_
  subst c0 c1 c2 c3 c4 c5 c6
  have hr : decide ((⟨a1, a2, a3, a4, a5, a6, a7, rs1⟩ : View) = ⟨a1, a2, a3, a4, a5, a6, a7, rs1⟩) = true := decT rfl
  exact zrh m_rsview_ok hr
set_option maxHeartbeats 8000000 in
theorem wempty_fn (a : View) : Fnc Try.prog 78 [viewV false a] (fun x obs => x = .bool (decide (a = zvw)) ∧ obs = []) := by
  obtain ⟨a1, a2, a3, a4, a5, a6, a7, rs1⟩ := a
  refine zgo m_wempty_ok fun W S => ?_
  by_cases c0 : ¬ a1 = 0
  · have hr := decF (show ¬ ((⟨a1, a2, a3, a4, a5, a6, a7, rs1⟩ : View) = zvw) from fun h => by simp only [zvw, View.mk.injEq] at h; exact c0 h.1)
    refine zst ?_
    exact zrh m_wempty_ok hr
  have c0 := Decidable.not_not.1 c0
  refine zst ?_
  by_cases c1 : ¬ a2 = 0
  · have hr := decF (show ¬ ((⟨a1, a2, a3, a4, a5, a6, a7, rs1⟩ : View) = zvw) from fun h => by simp only [zvw, View.mk.injEq] at h; exact c1 h.2.1)
    refine zst ?_
    exact zrh m_wempty_ok hr
  have c1 := Decidable.not_not.1 c1
  refine zst ?_
  by_cases c2 : ¬ a3 = 0
  · have hr := decF (show ¬ ((⟨a1, a2, a3, a4, a5, a6, a7, rs1⟩ : View) = zvw) from fun h => by simp only [zvw, View.mk.injEq] at h; exact c2 h.2.2.1)
    refine zst ?_
    exact zrh m_wempty_ok hr
  have c2 := Decidable.not_not.1 c2
  refine zst ?_
  by_cases c3 : ¬ a4 = 0
  · have hr := decF (show ¬ ((⟨a1, a2, a3, a4, a5, a6, a7, rs1⟩ : View) = zvw) from fun h => by simp only [zvw, View.mk.injEq] at h; exact c3 h.2.2.2.1)
    refine zst ?_
    exact zrh m_wempty_ok hr
  have c3 := Decidable.not_not.1 c3
  refine zst ?_
  by_cases c4 : ¬ a5 = 0
  · have hr := decF (show ¬ ((⟨a1, a2, a3, a4, a5, a6, a7, rs1⟩ : View) = zvw) from fun h => by simp only [zvw, View.mk.injEq] at h; exact c4 h.2.2.2.2.1)
    refine zst ?_
    exact zrh m_wempty_ok hr
  have c4 := Decidable.not_not.1 c4
  refine zst ?_
  by_cases c5 : ¬ a6 = 0
  · have hr := decF (show ¬ ((⟨a1, a2, a3, a4, a5, a6, a7, rs1⟩ : View) = zvw) from fun h => by simp only [zvw, View.mk.injEq] at h; exact c5 h.2.2.2.2.2.1)
    refine zst ?_
    exact zrh m_wempty_ok hr
  have c5 := Decidable.not_not.1 c5
  refine zst ?_
  by_cases c6 : ¬ a7 = 0
  · have hr := decF (show ¬ ((⟨a1, a2, a3, a4, a5, a6, a7, rs1⟩ : View) = zvw) from fun h => by simp only [zvw, View.mk.injEq] at h; exact c6 h.2.2.2.2.2.2.1)
    refine zst ?_
    exact zrh m_wempty_ok hr
  have c6 := Decidable.not_not.1 c6
  refine zst ?_
  by_cases c7 : ¬ rs1.length = 0
  · have hr := decF (show ¬ ((⟨a1, a2, a3, a4, a5, a6, a7, rs1⟩ : View) = zvw) from fun h => by simp only [zvw, View.mk.injEq] at h; exact c7 (by rw [h.2.2.2.2.2.2.2]; rfl))
    refine zst ?_
    exact zrh m_wempty_ok hr
  have c7 := Decidable.not_not.1 c7
  obtain rfl := List.eq_nil_of_length_eq_zero c7
  subst c0 c1 c2 c3 c4 c5 c6
  have hr : decide ((⟨0, 0, 0, 0, 0, 0, 0, []⟩ : View) = zvw) = true := decT rfl
  refine zst ?_
  exact zrh m_wempty_ok hr
set_option maxHeartbeats 8000000 in
theorem rzero_fn (a : View) : Fnc Try.prog 103 [viewV false a] (fun x obs => x = .bool (decide (a = zvw)) ∧ obs = []) := by
  obtain ⟨a1, a2, a3, a4, a5, a6, a7, rs1⟩ := a
  refine zgo m_rzero_ok fun W S => ?_
  by_cases c0 : ¬ a1 = 0
  · have hr := decF (show ¬ ((⟨a1, a2, a3, a4, a5, a6, a7, rs1⟩ : View) = zvw) from fun h => by simp only [zvw, View.mk.injEq] at h; exact c0 h.1)
    refine zst ?_
    exact zrh m_rzero_ok hr
  have c0 := Decidable.not_not.1 c0
  refine zst ?_
  by_cases c1 : ¬ a2 = 0
  · have hr := decF (show ¬ ((⟨a1, a2, a3, a4, a5, a6, a7, rs1⟩ : View) = zvw) from fun h => by simp only [zvw, View.mk.injEq] at h; exact c1 h.2.1)
    refine zst ?_
    exact zrh m_rzero_ok hr
  have c1 := Decidable.not_not.1 c1
  refine zst ?_
  by_cases c2 : ¬ a3 = 0
  · have hr := decF (show ¬ ((⟨a1, a2, a3, a4, a5, a6, a7, rs1⟩ : View) = zvw) from fun h => by simp only [zvw, View.mk.injEq] at h; exact c2 h.2.2.1)
    refine zst ?_
    exact zrh m_rzero_ok hr
  have c2 := Decidable.not_not.1 c2
  refine zst ?_
  by_cases c3 : ¬ a4 = 0
  · have hr := decF (show ¬ ((⟨a1, a2, a3, a4, a5, a6, a7, rs1⟩ : View) = zvw) from fun h => by simp only [zvw, View.mk.injEq] at h; exact c3 h.2.2.2.1)
    refine zst ?_
    exact zrh m_rzero_ok hr
  have c3 := Decidable.not_not.1 c3
  refine zst ?_
  by_cases c4 : ¬ a5 = 0
  · have hr := decF (show ¬ ((⟨a1, a2, a3, a4, a5, a6, a7, rs1⟩ : View) = zvw) from fun h => by simp only [zvw, View.mk.injEq] at h; exact c4 h.2.2.2.2.1)
    refine zst ?_
    exact zrh m_rzero_ok hr
  have c4 := Decidable.not_not.1 c4
  refine zst ?_
  by_cases c5 : ¬ a6 = 0
  · have hr := decF (show ¬ ((⟨a1, a2, a3, a4, a5, a6, a7, rs1⟩ : View) = zvw) from fun h => by simp only [zvw, View.mk.injEq] at h; exact c5 h.2.2.2.2.2.1)
    refine zst ?_
    exact zrh m_rzero_ok hr
  have c5 := Decidable.not_not.1 c5
  refine zst ?_
  by_cases c6 : ¬ a7 = 0
  · have hr := decF (show ¬ ((⟨a1, a2, a3, a4, a5, a6, a7, rs1⟩ : View) = zvw) from fun h => by simp only [zvw, View.mk.injEq] at h; exact c6 h.2.2.2.2.2.2.1)
    refine zst ?_
    exact zrh m_rzero_ok hr
  have c6 := Decidable.not_not.1 c6
  refine zst ?_
  by_cases c7 : ¬ rs1.length = 0
  · have hr := decF (show ¬ ((⟨a1, a2, a3, a4, a5, a6, a7, rs1⟩ : View) = zvw) from fun h => by simp only [zvw, View.mk.injEq] at h; exact c7 (by rw [h.2.2.2.2.2.2.2]; rfl))
    refine zst ?_
    exact zrh m_rzero_ok hr
  have c7 := Decidable.not_not.1 c7
  obtain rfl := List.eq_nil_of_length_eq_zero c7
  subst c0 c1 c2 c3 c4 c5 c6
  have hr : decide ((⟨0, 0, 0, 0, 0, 0, 0, []⟩ : View) = zvw) = true := decT rfl
  refine zst ?_
  exact zrh m_rzero_ok hr
set_option maxHeartbeats 8000000 in
theorem rsequal_fn (a b : Page) : Fnc Try.prog 84 [pgV false a, pgV false b] (fun x obs => x = .bool (decide (a = b)) ∧ obs = []) := by
  obtain ⟨⟨r1, i1⟩, cs1, v1⟩ := a
  obtain ⟨⟨r2, i2⟩, cs2, v2⟩ := b
  refine zgo m_rsequal_ok fun W S => ?_
  by_cases c0 : ¬ r1 = r2
  · have hr := decF (show ¬ ((⟨⟨r1, i1⟩, cs1, v1⟩ : Page) = ⟨⟨r2, i2⟩, cs2, v2⟩) from fun h => by simp only [Page.mk.injEq, PageID.mk.injEq] at h; exact c0 h.1.1)
    repeat (first | (simp only [Bool.false_and]; try simp only [go_sem]) | refine And.intro (by omega) ?_ | refine And.intro rfl ?_ | refine ev_ctl rfl rfl ?_ | refine evr_nil ?_ | refine evw_nil (by kernel_rfl) ?_ | (simp (disch := omega) only [takeAll, Nat.min_eq_left, Nat.min_eq_right, if_pos, if_neg, getD_map, wrapI64, modIn, fdivE, tmodE, tdivE, decT, decF, beqT, beqF, bneT, bneF, Int.toNat_natCast]; try simp only [go_sem]) | (refine ev_condTb rfl ?_ ?_; · (simp <;> omega)) | (refine ev_condFb rfl ?_ ?_; · (simp <;> omega)) | ((first | refine ev_region ?_ | refine evr_go rfl ?_ | refine evw_go rfl ?_ | refine ev_dr0 mixed rfl (by kernel_rfl) ?_ | refine ev_dr1 mixed rfl (by kernel_rfl) ?_ | refine ev_dr2 mixed rfl (by kernel_rfl) ?_); simp only [go_sem]))
    exact zrh m_rsequal_ok hr
  have c0 := Decidable.not_not.1 c0
  by_cases c1 : ¬ i1 = i2
  · have hr := decF (show ¬ ((⟨⟨r1, i1⟩, cs1, v1⟩ : Page) = ⟨⟨r2, i2⟩, cs2, v2⟩) from fun h => by simp only [Page.mk.injEq, PageID.mk.injEq] at h; exact c1 h.1.2)
    repeat (first | (simp only [Bool.true_and]; try simp only [go_sem]) | refine And.intro (by omega) ?_ | refine And.intro rfl ?_ | refine ev_ctl rfl rfl ?_ | refine evr_nil ?_ | refine evw_nil (by kernel_rfl) ?_ | (simp (disch := omega) only [takeAll, Nat.min_eq_left, Nat.min_eq_right, if_pos, if_neg, getD_map, wrapI64, modIn, fdivE, tmodE, tdivE, decT, decF, beqT, beqF, bneT, bneF, Int.toNat_natCast]; try simp only [go_sem]) | (refine ev_condTb rfl ?_ ?_; · (simp <;> omega)) | (refine ev_condFb rfl ?_ ?_; · (simp <;> omega)) | ((first | refine ev_region ?_ | refine evr_go rfl ?_ | refine evw_go rfl ?_ | refine ev_dr0 mixed rfl (by kernel_rfl) ?_ | refine ev_dr1 mixed rfl (by kernel_rfl) ?_ | refine ev_dr2 mixed rfl (by kernel_rfl) ?_); simp only [go_sem]))
    exact zrh m_rsequal_ok hr
  have c1 := Decidable.not_not.1 c1
  repeat (first | (simp only [Bool.true_and]; try simp only [go_sem]) | refine And.intro (by omega) ?_ | refine And.intro rfl ?_ | refine ev_ctl rfl rfl ?_ | refine evr_nil ?_ | refine evw_nil (by kernel_rfl) ?_ | (simp (disch := omega) only [takeAll, Nat.min_eq_left, Nat.min_eq_right, if_pos, if_neg, getD_map, wrapI64, modIn, fdivE, tmodE, tdivE, decT, decF, beqT, beqF, bneT, bneF, Int.toNat_natCast]; try simp only [go_sem]) | (refine ev_condTb rfl ?_ ?_; · (simp <;> omega)) | (refine ev_condFb rfl ?_ ?_; · (simp <;> omega)) | ((first | refine ev_region ?_ | refine evr_go rfl ?_ | refine evw_go rfl ?_ | refine ev_dr0 mixed rfl (by kernel_rfl) ?_ | refine ev_dr1 mixed rfl (by kernel_rfl) ?_ | refine ev_dr2 mixed rfl (by kernel_rfl) ?_); simp only [go_sem]))
  by_cases c2 : ¬ cs1 = cs2
  · have hr := decF (show ¬ ((⟨⟨r1, i1⟩, cs1, v1⟩ : Page) = ⟨⟨r2, i2⟩, cs2, v2⟩) from fun h => by simp only [Page.mk.injEq] at h; exact c2 h.2.1)
    have hE := rscan_fn cs1 cs2
    rw [decF c2] at hE
    refine zcd (hE) ?_
    exact zrh m_rsequal_ok hr
  have c2 := Decidable.not_not.1 c2
  subst c2
  have hE := rscan_fn cs1 cs1
  rw [decT rfl] at hE
  refine zcd (hE) ?_
  by_cases c3 : ¬ v1 = v2
  · have hr := decF (show ¬ ((⟨⟨r1, i1⟩, cs1, v1⟩ : Page) = ⟨⟨r2, i2⟩, cs1, v2⟩) from fun h => by simp only [Page.mk.injEq] at h; exact c3 h.2.2)
    have hV := rsview_fn v1 v2
    rw [decF c3] at hV
    refine zcd (hV) ?_
    exact zrh m_rsequal_ok hr
  have c3 := Decidable.not_not.1 c3
  subst c0 c1 c3
  have hV := rsview_fn v1 v1
  rw [decT rfl] at hV
  refine zcd (hV) ?_
  have hr : decide ((⟨⟨r1, i1⟩, cs1, v1⟩ : Page) = ⟨⟨r1, i1⟩, cs1, v1⟩) = true := decT rfl
  exact zrh m_rsequal_ok hr
theorem ext_at {α : Type} [Inhabited α] {a b : List α} (hl : a.length = b.length) (h : ∀ j, j < b.length → a[j]! = b[j]!) : a = b := by
  refine List.ext_getElem hl fun i h1 h2 => ?_
  have := h i h2
  rwa [getElem!_pos a i h1, getElem!_pos b i h2] at this
set_option maxHeartbeats 8000000 in
theorem rspages_fn (a b : List Page) : Fnc Try.prog 85 [.sl false 11 (a.map (pgV false)), .sl false 11 (b.map (pgV false))] (fun x obs => x = .bool (decide (a = b)) ∧ obs = []) := by
  refine Fnc.wf fun hw => ?_
  simp only [V.wfs, V.wf, List.length_map] at hw
  have hm := hw.1.2
  clear hw
  by_cases c0 : a.length = b.length
  rotate_left
  · rw [decF (show ¬ a = b from fun h => c0 (by rw [h]))]
    refine zgo m_rspages_ok fun W S => ?_
    exact zrt m_rspages_ok
  refine zgo m_rspages_ok fun W S => ?_
  refine ev_loopK [0, 1] (fun p : {p : Nat // p ≤ a.length ∧ ∀ j, j < p → a[j]! = b[j]!} => [(5, .int .i64 p.1)]) (fun _ => []) (fun p => a.length - p.1) (⟨0, by simp⟩) 0 (by simp only [go_sem]; rfl) ?_ (by first | rfl | (simp only [go_sem]; done)) (by simp) (by first | rfl | (simp only [go_sem]; done)) (by first | rfl | (simp only [go_sem]; done)) (by first | rfl | (simp only [go_sem]; done)) ?_
  · (simp only [go_sem]; (try simp []); done)
  intro J hJ
  rintro ⟨k, hk0, hk1⟩
  by_cases hlt : k < a.length
  · have hE := rsequal_fn a[k]! b[k]!
    by_cases c1 : a[k]! = b[k]!
    · rw [decT c1] at hE
      have hS : ∀ j, j < k + 1 → a[j]! = b[j]! := fun j hj => by
        by_cases e : j = k
        · subst e; exact c1
        · exact hk1 j (by omega)
      refine zst ?_
      refine zcd (hE) ?_
      refine ev_next 0 (hJ _ (⟨k + 1, hlt, hS⟩) (by first | omega | (dsimp only; omega) | (simp; omega))) rfl (by simp) ?_ (by first | rfl | (simp only [go_sem]; done)) (by first | rfl | (simp only [go_sem]; done)) ?_
      · (first | rfl | (simp only [go_sem]; done) | (simp only [go_sem]; simp only []; done) | (simp only []; done) | (simp only [go_sem]; simp []; done) | (simp []; done))
      · (simp only [go_sem]; (repeat' (refine And.intro ?_ ?_)) <;> first | exact trivial | with_reducible rfl | (simp only []; done) | (simp only []; with_reducible rfl) | (simp []; done) | (simp []; omega) | (simp only []; rfl) | skip)
    · rw [decF c1] at hE
      have hr := decF (show ¬ a = b from fun h => c1 (by rw [h]))
      refine zst ?_
      refine zcd (hE) ?_
      exact zrh m_rspages_ok hr
  · obtain rfl : k = a.length := by omega
    have hr := decT (ext_at c0 fun j hj => hk1 j (by omega))
    refine zst ?_
    exact zrh m_rspages_ok hr
set_option maxHeartbeats 8000000 in
theorem rsame_fn (a b : State) : Fnc Try.prog 35 [staV a, staV b] (fun x obs => x = .bool (decide (a = b)) ∧ obs = []) := by
  refine Fnc.wf fun hw => ?_
  simp only [V.wfs, V.wf, List.length_map] at hw
  have hm := hw.1.1.2
  have hm2 := hw.1.2.1.2
  clear hw
  obtain ⟨ar, at'⟩ := a
  obtain ⟨br, bt⟩ := b
  dsimp only at hm hm2
  by_cases c0 : ar.length = br.length
  rotate_left
  · rw [decF (show ¬ (⟨ar, at'⟩ : State) = ⟨br, bt⟩ from fun h => c0 (by injection h with h _; rw [h]))]
    refine zgo m_rsame_ok fun W S => ?_
    exact zrt m_rsame_ok
  by_cases c1 : at'.length = bt.length
  rotate_left
  · rw [decF (show ¬ (⟨ar, at'⟩ : State) = ⟨br, bt⟩ from fun h => c1 (by injection h with _ h; rw [h]))]
    refine zgo m_rsame_ok fun W S => ?_
    exact zrt m_rsame_ok
  refine zgo m_rsame_ok fun W S => ?_
  refine ev_loopK [2, 3] (fun p : {p : Nat // p ≤ ar.length ∧ ∀ j, j < p → ar[j]! = br[j]!} => [(5, .int .i64 p.1)]) (fun _ => [⟨.box false 30, true, 0, staV ⟨ar, at'⟩⟩, ⟨.box false 30, true, 0, staV ⟨br, bt⟩⟩]) (fun p => ar.length - p.1) (⟨0, by simp⟩) 2 (by simp only [go_sem]; rfl) ?_ (by first | rfl | (simp only [go_sem]; done)) (by simp) (by first | rfl | (simp only [go_sem]; done)) (by first | rfl | (simp only [go_sem]; done)) (by first | rfl | (simp only [go_sem]; done)) ?_
  · (simp only [go_sem]; (try simp []); done)
  intro J hJ
  rintro ⟨k, hk0, hk1⟩
  by_cases hlt : k < ar.length
  · have hE := rscan_fn ar[k]! br[k]!
    by_cases c2 : ar[k]! = br[k]!
    · rw [decT c2] at hE
      have hS : ∀ j, j < k + 1 → ar[j]! = br[j]! := fun j hj => by
        by_cases e : j = k
        · subst e; exact c2
        · exact hk1 j (by omega)
      refine zst ?_
      refine zcd (hE) ?_
      refine ev_next 2 (hJ _ (⟨k + 1, hlt, hS⟩) (by first | omega | (dsimp only; omega) | (simp; omega))) rfl (by simp) ?_ (by first | rfl | (simp only [go_sem]; done)) (by first | rfl | (simp only [go_sem]; done)) ?_
      · (first | rfl | (simp only [go_sem]; done) | (simp only [go_sem]; simp only []; done) | (simp only []; done) | (simp only [go_sem]; simp []; done) | (simp []; done))
      · (simp only [go_sem]; (repeat' (refine And.intro ?_ ?_)) <;> first | exact trivial | with_reducible rfl | (simp only []; done) | (simp only []; with_reducible rfl) | (simp []; done) | (simp []; omega) | (simp only []; rfl) | skip)
    · rw [decF c2] at hE
      have hr := decF (show ¬ (⟨ar, at'⟩ : State) = ⟨br, bt⟩ from fun h => c2 (by injection h with h _; rw [h]))
      refine zst ?_
      refine zcd (hE) ?_
      exact zrh m_rsame_ok hr
  · obtain rfl : k = ar.length := by omega
    obtain rfl := ext_at c0 fun j hj => hk1 j (by omega)
    refine zst ?_
    refine ev_loopK [2, 3] (fun p : {p : Nat // p ≤ at'.length ∧ ∀ j, j < p → at'[j]! = bt[j]!} => [(6, .int .i64 p.1)]) (fun _ => [⟨.box false 30, true, 0, staV ⟨ar, at'⟩⟩, ⟨.box false 30, true, 0, staV ⟨ar, bt⟩⟩]) (fun p => at'.length - p.1) (⟨0, by simp⟩) 2 (by simp only [go_sem]; rfl) ?_ (by first | rfl | (simp only [go_sem]; done)) (by simp) (by first | rfl | (simp only [go_sem]; done)) (by first | rfl | (simp only [go_sem]; done)) (by first | rfl | (simp only [go_sem]; done)) ?_
    · (simp only [go_sem]; (try simp []); done)
    intro J hJ
    rintro ⟨k, hk0, hk1⟩
    by_cases hlt : k < at'.length
    · have hE := rsview_fn at'[k]! bt[k]!
      by_cases c2 : at'[k]! = bt[k]!
      · rw [decT c2] at hE
        have hS : ∀ j, j < k + 1 → at'[j]! = bt[j]! := fun j hj => by
          by_cases e : j = k
          · subst e; exact c2
          · exact hk1 j (by omega)
        refine zst ?_
        refine zcd (hE) ?_
        refine ev_next 2 (hJ _ (⟨k + 1, hlt, hS⟩) (by first | omega | (dsimp only; omega) | (simp; omega))) rfl (by simp) ?_ (by first | rfl | (simp only [go_sem]; done)) (by first | rfl | (simp only [go_sem]; done)) ?_
        · (first | rfl | (simp only [go_sem]; done) | (simp only [go_sem]; simp only []; done) | (simp only []; done) | (simp only [go_sem]; simp []; done) | (simp []; done))
        · (simp only [go_sem]; (repeat' (refine And.intro ?_ ?_)) <;> first | exact trivial | with_reducible rfl | (simp only []; done) | (simp only []; with_reducible rfl) | (simp []; done) | (simp []; omega) | (simp only []; rfl) | skip)
      · rw [decF c2] at hE
        have hr := decF (show ¬ (⟨ar, at'⟩ : State) = ⟨ar, bt⟩ from fun h => c2 (by injection h with _ h; rw [h]))
        refine zst ?_
        refine zcd (hE) ?_
        exact zrh m_rsame_ok hr
    · obtain rfl : k = at'.length := by omega
      obtain rfl := ext_at c1 fun j hj => hk1 j (by omega)
      have hr := decT (show (⟨ar, at'⟩ : State) = ⟨ar, at'⟩ from rfl)
      refine zst ?_
      exact zrh m_rsame_ok hr
end Go.Proofs.Ytcphobeommkgeaa
