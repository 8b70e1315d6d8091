/- Pages: the functions of a state agree with the reference. -/
import Derived.Test.YtcphobeommkgeaaP35
import Derived.Test.YtcphobeommkgeaaC5
import Derived.Test.YtcphobeommkgeaaP21
namespace Go.Proofs.Ytcphobeommkgeaa
open Go Go.RowKit Rdn Rdn.Dp
set_option linter.unusedVariables false
set_option linter.unusedSimpArgs false
theorem m_sints_ok : compF Try.prog 86 = some (26, Qr ([Qc 4 (.bool false)])
 (.seq (Qr ([Qm 6 0, Qn 7 6, Qm 8 1, Qn 9 8, Qb 10 .neq 7 9])
 (.cond (.t 10) (Qr ([Qc 4 (.bool false)])
 (.ret)) (.skip)))
 (.seq (Qr ([Qp 5 (.mov (Qi 0))])
 (.block 0 (.loop (.seq (Qr ([Qm 11 5, Qm 12 0, Qn 13 12, Qb 14 .lss 11 13])
 (.cond (.t 14) (.skip) (.exit 0)))
 (.seq (.block 1 (.seq (.dreg [Qm 17 0, Qm 18 5, Qx 19 1 17 18, Ql 20 1 19, Qm 21 1, Qm 22 5, Qx 23 1 21 22, Ql 24 1 23, Qb 25 .neq 20 24] [[], [], [0, 1], [0, 1, 2], [], [], [4, 5], [4, 5, 6], [0, 1, 2, 3, 4, 5, 6, 7]])
 (.cond (.t 25) (Qr ([Qc 4 (.bool false)])
 (.ret)) (.skip))))
 (.reg [Qm 15 5, Qk 16 .add 15 1, Qm 5 16]))))))
 (Qr ([Qc 4 (.bool true)])
 (.ret)))), [.mov (.t 4)]) := by kernel_rfl
theorem m_sids_ok : compF Try.prog 42 = some (26, Qr ([Qc 4 (.bool false)])
 (.seq (Qr ([Qm 6 0, Qn 7 6, Qm 8 1, Qn 9 8, Qb 10 .neq 7 9])
 (.cond (.t 10) (Qr ([Qc 4 (.bool false)])
 (.ret)) (.skip)))
 (.seq (Qr ([Qp 5 (.mov (Qi 0))])
 (.block 0 (.loop (.seq (Qr ([Qm 11 5, Qm 12 0, Qn 13 12, Qb 14 .lss 11 13])
 (.cond (.t 14) (.skip) (.exit 0)))
 (.seq (.block 1 (.seq (.dreg [Qm 17 0, Qm 18 5, Qx 19 2 17 18, QL 20 2 19, Qm 21 1, Qm 22 5, Qx 23 2 21 22, QL 24 2 23, Qp 25 (.eqs true [(some .i64), (some .i64)] (.t 20) (.t 24))] [[], [], [0, 1], [0, 1, 2], [], [], [4, 5], [4, 5, 6], [0, 1, 2, 3, 4, 5, 6, 7]])
 (.cond (.t 25) (Qr ([Qc 4 (.bool false)])
 (.ret)) (.skip))))
 (.reg [Qm 15 5, Qk 16 .add 15 1, Qm 5 16]))))))
 (Qr ([Qc 4 (.bool true)])
 (.ret)))), [.mov (.t 4)]) := by kernel_rfl
theorem m_agree25_ok : compF Try.prog 43 = some (106, Qr ([Qw 2 (.box 30 (.t 0)), Qw 3 (.box 45 (.t 1)), Qc 4 (.bool false)])
 (Qr ([QL 18 2 2, Qf 19 0 0 3, QL 20 2 19, Qq 21 24 [(.t 18), (.t 20)], Qm 17 21, Qe 22 17 0, Qe 23 17 1, Qw 5 (.alloc 45 (.agg [.agg [.int .i64 0, .int .i64 0], .nilS, .agg [.int .i64 0, .int .i64 0, .int .i64 0, .int .i64 0, .int .i64 0, .int .i64 0, .int .u16 0, .nilS]])), Qs 11 5 22, Qm 6 23])
 (Qr ([QL 25 2 2, Qf 26 0 0 3, QL 27 2 26, Qq 28 52 [(.t 25), (.t 27)], Qm 24 28, Qe 29 24 0, Qe 30 24 1, Qw 7 (.alloc 45 (.agg [.agg [.int .i64 0, .int .i64 0], .nilS, .agg [.int .i64 0, .int .i64 0, .int .i64 0, .int .i64 0, .int .i64 0, .int .i64 0, .int .u16 0, .nilS]])), Qs 11 7 29, Qm 8 30])
 (Qr ([QL 32 2 2, QL 33 11 3, Qq 34 36 [(.t 32), (.t 33)], Qm 31 34, Qe 35 31 0, Qe 36 31 1, Qw 9 (.alloc 30 (.agg [.nilS, .nilS])), Qs 2 9 35, Qm 10 36])
 (Qr ([QL 38 2 2, QL 39 11 3, Qq 40 83 [(.t 38), (.t 39)], Qm 37 40, Qe 41 37 0, Qe 42 37 1, Qw 11 (.alloc 30 (.agg [.nilS, .nilS])), Qs 2 11 41, Qm 12 42])
 (Qr ([QL 44 2 2, Qq 45 23 [(.t 44)], Qm 43 45, Qe 46 43 0, Qe 47 43 1, Qm 13 46, Qm 14 47])
 (Qr ([QL 49 2 2, Qq 50 17 [(.t 49)], Qm 48 50, Qe 51 48 0, Qe 52 48 1, Qm 15 51, Qm 16 52])
 (.seq (.dreg [Qm 53 6, Qm 54 8, Qb 55 .eql 53 54, Qm 56 55, Q1 57 56 (.mov (.t 10)), Q1 58 56 (.mov (.t 12)), Q1 59 56 (.bin 0 .eql (.t 57) (.t 58)), Qu 60 56 59, Qm 61 60, Q1 62 61 (.mov (.t 14)), Q1 63 61 (.mov (.t 16)), Q1 64 61 (.bin 0 .eql (.t 62) (.t 63)), Qu 65 61 64, Qm 66 65, Q1 67 66 (.load true 11 (.t 5)), Q1 68 66 (.load true 11 (.t 7)), ⟨(some 69), (some (66, true)), (.call 84 [(.t 67), (.t 68)])⟩, Qu 70 66 69, Qm 71 70, Q1 72 71 (.load true 2 (.t 9)), Q1 73 71 (.load true 2 (.t 11)), ⟨(some 74), (some (71, true)), (.call 35 [(.t 72), (.t 73)])⟩, Qu 75 71 74, Qm 76 75, Q1 77 76 (.mov (.t 13)), Q1 78 76 (.mov (.t 15)), ⟨(some 79), (some (76, true)), (.call 85 [(.t 77), (.t 78)])⟩, Qu 80 76 79, Qm 81 80, Q1 82 81 (.load true 2 (.t 2)), ⟨(some 83), (some (81, true)), (.call 34 [(.t 82)])⟩, Q1 84 81 (.load true 2 (.t 2)), ⟨(some 85), (some (81, true)), (.call 46 [(.t 84)])⟩, ⟨(some 86), (some (81, true)), (.call 86 [(.t 83), (.t 85)])⟩, Qu 87 81 86, Qm 88 87, Q1 89 88 (.load true 11 (.t 3)), ⟨(some 90), (some (88, true)), (.call 22 [(.t 89)])⟩, Q1 91 88 (.b2s (.t 90)), Q1 92 88 (.load true 11 (.t 3)), ⟨(some 93), (some (88, true)), (.call 87 [(.t 92)])⟩, Q1 94 88 (.b2s (.t 93)), Q1 95 88 (.bin 0 .eql (.t 91) (.t 94)), Qu 96 88 95, Qm 97 96, Q1 98 97 (.load true 11 (.t 5)), Q1 99 97 (.load true 11 (.t 3)), ⟨(some 100), (some (97, true)), (.call 21 [(.t 98), (.t 99)])⟩, Q1 101 97 (.load true 11 (.t 7)), Q1 102 97 (.load true 11 (.t 3)), ⟨(some 103), (some (97, true)), (.call 84 [(.t 101), (.t 102)])⟩, Q1 104 97 (.bin 1 .eql (.t 100) (.t 103)), Qu 105 97 104, Qm 4 105] [[], [], [0, 1], [0, 1, 2], [0, 1, 2, 3], [0, 1, 2, 3], [0, 1, 2, 3, 4, 5], [0, 1, 2, 3, 4, 5, 6], [0, 1, 2, 3, 4, 5, 6, 7], [0, 1, 2, 3, 4, 5, 6, 7, 8], [0, 1, 2, 3, 4, 5, 6, 7, 8], [0, 1, 2, 3, 4, 5, 6, 7, 8, 9, 10], [0, 1, 2, 3, 4, 5, 6, 7, 8, 9, 10, 11], [0, 1, 2, 3, 4, 5, 6, 7, 8, 9, 10, 11, 12], [0, 1, 2, 3, 4, 5, 6, 7, 8, 9, 10, 11, 12, 13], [0, 1, 2, 3, 4, 5, 6, 7, 8, 9, 10, 11, 12, 13], [0, 1, 2, 3, 4, 5, 6, 7, 8, 9, 10, 11, 12, 13, 14, 15], [0, 1, 2, 3, 4, 5, 6, 7, 8, 9, 10, 11, 12, 13, 14, 15, 16], [0, 1, 2, 3, 4, 5, 6, 7, 8, 9, 10, 11, 12, 13, 14, 15, 16, 17], [0, 1, 2, 3, 4, 5, 6, 7, 8, 9, 10, 11, 12, 13, 14, 15, 16, 17, 18], [0, 1, 2, 3, 4, 5, 6, 7, 8, 9, 10, 11, 12, 13, 14, 15, 16, 17, 18], [0, 1, 2, 3, 4, 5, 6, 7, 8, 9, 10, 11, 12, 13, 14, 15, 16, 17, 18, 19, 20], [0, 1, 2, 3, 4, 5, 6, 7, 8, 9, 10, 11, 12, 13, 14, 15, 16, 17, 18, 19, 20, 21], [0, 1, 2, 3, 4, 5, 6, 7, 8, 9, 10, 11, 12, 13, 14, 15, 16, 17, 18, 19, 20, 21, 22], [0, 1, 2, 3, 4, 5, 6, 7, 8, 9, 10, 11, 12, 13, 14, 15, 16, 17, 18, 19, 20, 21, 22, 23], [0, 1, 2, 3, 4, 5, 6, 7, 8, 9, 10, 11, 12, 13, 14, 15, 16, 17, 18, 19, 20, 21, 22, 23], [0, 1, 2, 3, 4, 5, 6, 7, 8, 9, 10, 11, 12, 13, 14, 15, 16, 17, 18, 19, 20, 21, 22, 23, 24, 25], [0, 1, 2, 3, 4, 5, 6, 7, 8, 9, 10, 11, 12, 13, 14, 15, 16, 17, 18, 19, 20, 21, 22, 23, 24, 25, 26], [0, 1, 2, 3, 4, 5, 6, 7, 8, 9, 10, 11, 12, 13, 14, 15, 16, 17, 18, 19, 20, 21, 22, 23, 24, 25, 26, 27], [0, 1, 2, 3, 4, 5, 6, 7, 8, 9, 10, 11, 12, 13, 14, 15, 16, 17, 18, 19, 20, 21, 22, 23, 24, 25, 26, 27, 28], [0, 1, 2, 3, 4, 5, 6, 7, 8, 9, 10, 11, 12, 13, 14, 15, 16, 17, 18, 19, 20, 21, 22, 23, 24, 25, 26, 27, 28, 29], [0, 1, 2, 3, 4, 5, 6, 7, 8, 9, 10, 11, 12, 13, 14, 15, 16, 17, 18, 19, 20, 21, 22, 23, 24, 25, 26, 27, 28], [0, 1, 2, 3, 4, 5, 6, 7, 8, 9, 10, 11, 12, 13, 14, 15, 16, 17, 18, 19, 20, 21, 22, 23, 24, 25, 26, 27, 28, 29, 30, 31], [0, 1, 2, 3, 4, 5, 6, 7, 8, 9, 10, 11, 12, 13, 14, 15, 16, 17, 18, 19, 20, 21, 22, 23, 24, 25, 26, 27, 28, 29, 30, 31, 32], [0, 1, 2, 3, 4, 5, 6, 7, 8, 9, 10, 11, 12, 13, 14, 15, 16, 17, 18, 19, 20, 21, 22, 23, 24, 25, 26, 27, 28, 29, 30, 31, 32, 33], [0, 1, 2, 3, 4, 5, 6, 7, 8, 9, 10, 11, 12, 13, 14, 15, 16, 17, 18, 19, 20, 21, 22, 23, 24, 25, 26, 27, 28, 29, 30, 31, 32, 33, 34], [0, 1, 2, 3, 4, 5, 6, 7, 8, 9, 10, 11, 12, 13, 14, 15, 16, 17, 18, 19, 20, 21, 22, 23, 24, 25, 26, 27, 28, 29, 30, 31, 32, 33, 34, 35], [0, 1, 2, 3, 4, 5, 6, 7, 8, 9, 10, 11, 12, 13, 14, 15, 16, 17, 18, 19, 20, 21, 22, 23, 24, 25, 26, 27, 28, 29, 30, 31, 32, 33, 34, 35, 36], [0, 1, 2, 3, 4, 5, 6, 7, 8, 9, 10, 11, 12, 13, 14, 15, 16, 17, 18, 19, 20, 21, 22, 23, 24, 25, 26, 27, 28, 29, 30, 31, 32, 33, 34, 35, 36, 37], [0, 1, 2, 3, 4, 5, 6, 7, 8, 9, 10, 11, 12, 13, 14, 15, 16, 17, 18, 19, 20, 21, 22, 23, 24, 25, 26, 27, 28, 29, 30, 31, 32, 33, 34, 35], [0, 1, 2, 3, 4, 5, 6, 7, 8, 9, 10, 11, 12, 13, 14, 15, 16, 17, 18, 19, 20, 21, 22, 23, 24, 25, 26, 27, 28, 29, 30, 31, 32, 33, 34, 35, 36, 37, 39], [0, 1, 2, 3, 4, 5, 6, 7, 8, 9, 10, 11, 12, 13, 14, 15, 16, 17, 18, 19, 20, 21, 22, 23, 24, 25, 26, 27, 28, 29, 30, 31, 32, 33, 34, 35, 36, 37, 39, 40], [0, 1, 2, 3, 4, 5, 6, 7, 8, 9, 10, 11, 12, 13, 14, 15, 16, 17, 18, 19, 20, 21, 22, 23, 24, 25, 26, 27, 28, 29, 30, 31, 32, 33, 34, 35, 36, 37, 38, 39, 40, 41], [0, 1, 2, 3, 4, 5, 6, 7, 8, 9, 10, 11, 12, 13, 14, 15, 16, 17, 18, 19, 20, 21, 22, 23, 24, 25, 26, 27, 28, 29, 30, 31, 32, 33, 34, 35, 36, 37, 38, 39, 40, 41, 42], [0, 1, 2, 3, 4, 5, 6, 7, 8, 9, 10, 11, 12, 13, 14, 15, 16, 17, 18, 19, 20, 21, 22, 23, 24, 25, 26, 27, 28, 29, 30, 31, 32, 33, 34, 35, 36, 37, 38, 39, 40, 41, 42, 43], [0, 1, 2, 3, 4, 5, 6, 7, 8, 9, 10, 11, 12, 13, 14, 15, 16, 17, 18, 19, 20, 21, 22, 23, 24, 25, 26, 27, 28, 29, 30, 31, 32, 33, 34, 35, 36, 37, 38, 39, 40, 41, 42, 43, 44], [0, 1, 2, 3, 4, 5, 6, 7, 8, 9, 10, 11, 12, 13, 14, 15, 16, 17, 18, 19, 20, 21, 22, 23, 24, 25, 26, 27, 28, 29, 30, 31, 32, 33, 34, 35, 36, 37, 38, 39, 40, 41, 42, 43, 44], [0, 1, 2, 3, 4, 5, 6, 7, 8, 9, 10, 11, 12, 13, 14, 15, 16, 17, 18, 19, 20, 21, 22, 23, 24, 25, 26, 27, 28, 29, 30, 31, 32, 33, 34, 35, 36, 37, 38, 39, 40, 41, 42, 43, 44, 45, 46], [0, 1, 2, 3, 4, 5, 6, 7, 8, 9, 10, 11, 12, 13, 14, 15, 16, 17, 18, 19, 20, 21, 22, 23, 24, 25, 26, 27, 28, 29, 30, 31, 32, 33, 34, 35, 36, 37, 38, 39, 40, 41, 42, 43, 44], [0, 1, 2, 3, 4, 5, 6, 7, 8, 9, 10, 11, 12, 13, 14, 15, 16, 17, 18, 19, 20, 21, 22, 23, 24, 25, 26, 27, 28, 29, 30, 31, 32, 33, 34, 35, 36, 37, 38, 39, 40, 41, 42, 43, 44], [0, 1, 2, 3, 4, 5, 6, 7, 8, 9, 10, 11, 12, 13, 14, 15, 16, 17, 18, 19, 20, 21, 22, 23, 24, 25, 26, 27, 28, 29, 30, 31, 32, 33, 34, 35, 36, 37, 38, 39, 40, 41, 42, 43, 44, 45, 46, 47, 48, 49], [0, 1, 2, 3, 4, 5, 6, 7, 8, 9, 10, 11, 12, 13, 14, 15, 16, 17, 18, 19, 20, 21, 22, 23, 24, 25, 26, 27, 28, 29, 30, 31, 32, 33, 34, 35, 36, 37, 38, 39, 40, 41, 42, 43, 44, 45, 46, 47, 48, 49, 50], [0, 1, 2, 3, 4, 5, 6, 7, 8, 9, 10, 11, 12, 13, 14, 15, 16, 17, 18, 19, 20, 21, 22, 23, 24, 25, 26, 27, 28, 29, 30, 31, 32, 33, 34, 35, 36, 37, 38, 39, 40, 41, 42, 43, 44, 45, 46, 47, 48, 49, 50, 51], [0, 1, 2, 3, 4, 5, 6, 7, 8, 9, 10, 11, 12, 13, 14, 15, 16, 17, 18, 19, 20, 21, 22, 23, 24, 25, 26, 27, 28, 29, 30, 31, 32, 33, 34, 35, 36, 37, 38, 39, 40, 41, 42, 43, 44, 45, 46, 47, 48, 49, 50, 51, 52]])
 (.ret)))))))), [.mov (.t 4)]) := by kernel_rfl
set_option maxHeartbeats 4000000 in
theorem sints_fn (a b : List Int) : Fnc Try.prog 86 [.sl false 1 (a.map (V.int .i64)), .sl false 1 (b.map (V.int .i64))] (fun x obs => x = .bool (decide (a = b)) ∧ obs = []) := by
  refine Fnc.wf fun hw => ?_
  simp only [V.wfs, V.wf, wfs_map, List.length_map] at hw
  have hm := hw.1.2
  have hm' := hw.2.1.2
  by_cases hl : a.length = b.length
  · skip
    refine zgo m_sints_ok fun W S => ?_
    refine ev_loopK [0, 1] (fun p : {p : Nat // p ≤ a.length ∧ a.take p = b.take p} => [(5, .int .i64 p.1)]) (fun _ => []) (fun p => a.length - p.1) (⟨0, by simp⟩) 0 (by simp only [go_sem]; rfl) ?_ (by first | rfl | (simp only [go_sem]; done)) (by simp) (by first | rfl | (simp only [go_sem]; done)) (by first | rfl | (simp only [go_sem]; done)) (by first | rfl | (simp only [go_sem]; done)) ?_
    · (simp only [go_sem]; (try simp []); done)
    intro J hJ
    rintro ⟨k, hk0, hk1⟩
    by_cases hlt : k < a.length
    · by_cases e : a[k]! = b[k]!
      · skip
        refine zst ?_
        exact zn0 (hJ _ (⟨k + 1, hlt, by rw [take_snoc hlt, take_snoc (by omega), hk1, e]⟩) (by first | omega | (dsimp only; omega) | (simp; omega))) hlt
      · have hne : a ≠ b := fun h => e (at_of_eq h k)
        refine zst ?_
        refine ret m_sints_ok [] ?_; (first | (simp only [go_sem]; done) | (simp only [go_sem]; exact ⟨rfl, rfl⟩))
    · have hab := eq_of_take (by omega) (by omega) hk1
      refine zst ?_
      refine ret m_sints_ok [] ?_; (first | (simp only [go_sem]; done) | (simp only [go_sem]; exact ⟨rfl, rfl⟩))
  · have hne : a ≠ b := fun h => hl (by rw [h])
    refine zgo m_sints_ok fun W S => ?_
    refine ret m_sints_ok [] ?_; (first | (simp only [go_sem]; done) | (simp only [go_sem]; exact ⟨rfl, rfl⟩))
set_option maxHeartbeats 4000000 in
theorem sids_fn (a : List PageID) : Fnc Try.prog 42 [.sl false 2 (a.map pidV), .sl false 2 (a.map pidV)] (fun x obs => x = .bool true ∧ obs = []) := by
  refine Fnc.wf fun hw => ?_
  simp only [V.wfs, V.wf, wfs_map, List.length_map] at hw
  have hm := hw.1.2
  clear hw
  refine zgo m_sids_ok fun W S => ?_
  refine ev_loopK [0, 1] (fun p : {p : Nat // p ≤ a.length} => [(5, .int .i64 p.1)]) (fun _ => []) (fun p => a.length - p.1) (⟨0, by simp⟩) 0 (by simp only [go_sem]; rfl) ?_ (by first | rfl | (simp only [go_sem]; done)) (by simp) (by first | rfl | (simp only [go_sem]; done)) (by first | rfl | (simp only [go_sem]; done)) (by first | rfl | (simp only [go_sem]; done)) ?_
  · (simp only [go_sem]; (try simp []); done)
  intro J hJ
  rintro ⟨k, hk0⟩
  by_cases hlt : k < a.length
  · skip
    refine zst ?_
    repeat (first | (simp only [beq_self_eq_true, Bool.true_and, Bool.not_true]; try simp only [go_sem]) | refine And.intro (by omega) ?_ | refine And.intro rfl ?_ | refine ev_ctl rfl rfl ?_ | refine evr_nil ?_ | refine evw_nil (by kernel_rfl) ?_ | (simp (disch := omega) only [takeAll, Nat.min_eq_left, Nat.min_eq_right, if_pos, if_neg, getD_map, wrapI64, modIn, fdivE, tmodE, tdivE, decT, decF, beqT, beqF, bneT, bneF, Int.toNat_natCast]; try simp only [go_sem]) | (refine ev_condTb rfl ?_ ?_; · (simp <;> omega)) | (refine ev_condFb rfl ?_ ?_; · (simp <;> omega)) | ((first | refine ev_region ?_ | refine evr_go rfl ?_ | refine evw_go rfl ?_ | refine ev_dr0 mixed rfl (by kernel_rfl) ?_ | refine ev_dr1 mixed rfl (by kernel_rfl) ?_ | refine ev_dr2 mixed rfl (by kernel_rfl) ?_); simp only [go_sem]))
    refine ev_next 0 (hJ _ (⟨k + 1, hlt⟩) (by first | omega | (dsimp only; omega) | (simp; omega))) rfl (by simp) ?_ (by first | rfl | (simp only [go_sem]; done)) (by first | rfl | (simp only [go_sem]; done)) ?_
    · (first | rfl | (simp only [go_sem]; done) | (simp only [go_sem]; simp only []; done) | (simp only []; done) | (simp only [go_sem]; simp []; done) | (simp []; done))
    · (simp only [go_sem]; (repeat' (refine And.intro ?_ ?_)) <;> first | exact trivial | with_reducible rfl | (simp only []; done) | (simp only []; with_reducible rfl) | (simp []; done) | (simp []; omega) | (simp only []; rfl) | skip)
  · obtain rfl : k = a.length := by omega
    refine zst ?_
    exact zrt m_sids_ok
attribute [local irreducible] idsF shp sSet sGet sAll pgB
set_option maxHeartbeats 16000000 in
theorem agree25_fn (s : State) (p : Page) (L : LowS s) (h1 : p.cells.length ≤ 1000000) (h2 : p.view.regs.length ≤ 1000000) : Fnc Try.prog 43 [staV s, pgV false p] (fun x obs => x = .bool true ∧ obs = []) := by
  have f1 := pget_fn s p.id L
  have f2 := zget_fn s p.id L
  have f3 := pset_fn s p L (by omega)
  have f4 := zset_fn s p L (by omega)
  have f5 := pall_fn s L
  have f6 := zall_fn s L
  have f7 := psizes_fn s L.r
  have f8 := zsizes_fn s L.r
  have f9 := sints_fn (szs s) (szs s)
  rw [decT rfl] at f9
  have g1 := pbytes_fn p h1 h2
  have g2 := zbytes_fn p h1 h2
  generalize sGet s p.id = a at f1 f2
  generalize sSet s p = b at f3 f4
  generalize sAll s = c at f5 f6
  obtain ⟨a1, a2⟩ := a
  obtain ⟨b1, b2⟩ := b
  obtain ⟨c1, c2⟩ := c
  dsimp only at f1 f2 f3 f4 f5 f6
  have e1 := rsequal_fn a1 a1
  rw [decT rfl] at e1
  have e2 := rsame_fn b1 b1
  rw [decT rfl] at e2
  have e3 := rspages_fn c1 c1
  rw [decT rfl] at e3
  have e4 := pequal_fn a1 p
  have e5 := rsequal_fn a1 p
  generalize decide (a1 = p) = b at e4 e5
  refine zgo m_agree25_ok fun W S => ?_
  refine zcd (f1) ?_
  refine zcd (f2) ?_
  refine zcd (f3) ?_
  refine zcd (f4) ?_
  refine zcd (f5) ?_
  refine zcd (f6) ?_
  refine zcd (e1) ?_
  refine zcd (e2) ?_
  refine zcd (e3) ?_
  refine zcd (f7) ?_
  refine zcd (f8) ?_
  refine zcd (f9) ?_
  refine zcd (g1) ?_
  refine zcd (g2) ?_
  refine zcd (e4) ?_
  refine zcd (e5) ?_
  repeat (first | (simp only [beq_self_eq_true]; try simp only [go_sem]) | refine And.intro (by omega) ?_ | refine And.intro rfl ?_ | refine ev_ctl rfl rfl ?_ | refine evr_nil ?_ | refine evw_nil (by kernel_rfl) ?_ | (simp (disch := omega) only [takeAll, Nat.min_eq_left, Nat.min_eq_right, if_pos, if_neg, getD_map, wrapI64, modIn, fdivE, tmodE, tdivE, decT, decF, beqT, beqF, bneT, bneF, Int.toNat_natCast]; try simp only [go_sem]) | (refine ev_condTb rfl ?_ ?_; · (simp <;> omega)) | (refine ev_condFb rfl ?_ ?_; · (simp <;> omega)) | ((first | refine ev_region ?_ | refine evr_go rfl ?_ | refine evw_go rfl ?_ | refine ev_dr0 mixed rfl (by kernel_rfl) ?_ | refine ev_dr1 mixed rfl (by kernel_rfl) ?_ | refine ev_dr2 mixed rfl (by kernel_rfl) ?_); simp only [go_sem]))
  exact zrt m_agree25_ok
end Go.Proofs.Ytcphobeommkgeaa
