/- Pages: the reference. -/
import Derived.Test.YtcphobeommkgeaaP3
import Derived.Test.YtcphobeommkgeaaC5
namespace Go.Proofs.Ytcphobeommkgeaa
open Go Go.RowKit Rdn Rdn.Dp
set_option linter.unusedVariables false
set_option linter.unusedSimpArgs false
theorem m_zsizes_ok : compF Try.prog 46 = some (22, Qr ([Qw 1 (.box 30 (.t 0)), Qp 2 (.mov (.c (.nilS)))])
 (Qr ([Qp 3 (.mov (.c (.nilS)))])
 (.seq (Qr ([Qp 4 (.mov (Qi 0))])
 (.block 0 (.loop (.seq (Qr ([Qm 5 4, Qf 6 0 0 1, Ql 7 1 6, Qn 8 7, Qb 9 .lss 5 8])
 (.cond (.t 9) (.skip) (.exit 0)))
 (.seq (.block 1 (.reg [Qm 12 3, Qf 13 0 0 1, Ql 14 1 13, Qm 15 4, Qx 16 1 14 15, Ql 17 1 16, Qn 18 17, Qw 19 (.buildS 3 1 (.int .i64 0) 1 [(0, (.t 18))]), Qw 20 (.app 3 1 8 (.t 12) (.t 19)), Qm 3 20]))
 (.reg [Qm 10 4, Qk 11 .add 10 1, Qm 4 11]))))))
 (Qr ([Qm 21 3, Qm 2 21])
 (.ret)))), [.mov (.t 2)]) := by kernel_rfl
theorem m_zcheck_ok : compF Try.prog 82 = some (33, Qr ([Qp 4 (.mov (Qi 0))])
 (.seq (Qr ([Qm 6 0, Qn 7 6, Qk 8 .gtr 7 4, Qm 9 8, Q0 10 9 (.mov (.t 1)), Q0 11 9 (.bin 0 .gtr (.t 10) (Qi 4)), Qt 12 9 11])
 (.cond (.t 12) (Qr ([Qp 4 (.mov (Qi 3))])
 (.ret)) (.skip)))
 (.seq (Qr ([Qp 5 (.mov (Qi 0))])
 (.block 0 (.loop (.seq (Qr ([Qm 13 5, Qm 14 0, Qn 15 14, Qb 16 .lss 13 15])
 (.cond (.t 16) (.skip) (.exit 0)))
 (.seq (.block 1 (Qr ([Qm 19 0, Qm 20 5, Qx 21 1 19 20, Ql 22 1 21, Qk 23 .lss 22 1, Qm 24 23, Q0 25 24 (.mov (.t 0)), Q0 26 24 (.mov (.t 5)), Q0 27 24 (.idxA 1 (.t 25) (.t 26)), Q0 28 24 (.load false 1 (.t 27)), Q0 29 24 (.bin 0 .gtr (.t 28) (Qi 32)), Qt 30 24 29])
 (.cond (.t 30) (Qr ([Qp 4 (.mov (Qi 1))])
 (.ret)) (.skip))))
 (.reg [Qm 17 5, Qk 18 .add 17 1, Qm 5 18]))))))
 (.seq (Qr ([Qm 31 1, Qk 32 .lss 31 0])
 (.cond (.t 32) (Qr ([Qp 4 (.mov (Qi 1))])
 (.ret)) (.skip)))
 (Qr ([Qp 4 (.mov (Qi 0))])
 (.ret))))), [.mov (.t 4)]) := by kernel_rfl
theorem m_zshaped_ok : compF Try.prog 93 = some (10, Qr ([Qw 1 (.box 30 (.t 0)), Qc 2 (.bool false)])
 (.seq (.dreg [QL 3 2 1, Qq 4 46 [(.t 3)], Qf 5 1 1 1, Ql 6 1 5, Qn 7 6, Qq 8 82 [(.t 4), (.t 7)], Qk 9 .eql 8 0, Qm 2 9] [[], [0], [], [2], [2, 3], [0, 1, 2, 3, 4], [0, 1, 2, 3, 4, 5], [0, 1, 2, 3, 4, 5, 6]])
 (.ret)), [.mov (.t 2)]) := by kernel_rfl
theorem m_zlist_ok : compF Try.prog 40 = some (49, Qr ([Qp 4 (.mov (.c (.nilS))), Qp 5 (.mov (Qi 0))])
 (.seq (Qr ([Qm 11 0, Qm 12 1, Qq 13 82 [(.t 11), (.t 12)], Qm 6 13])
 (Qr ([Qm 14 6, Qk 15 .neq 14 0])
 (.cond (.t 15) (Qr ([Qm 16 6, Qp 4 (.mov (.c (.nilS))), Qm 5 16])
 (.ret)) (.skip))))
 (Qr ([Qp 7 (.mov (.c (.nilS)))])
 (.seq (Qr ([Qp 8 (.mov (Qi 0))])
 (.block 0 (.loop (.seq (Qr ([Qm 17 8, Qm 18 0, Qn 19 18, Qb 20 .lss 17 19])
 (.cond (.t 20) (.skip) (.exit 0)))
 (.seq (.block 1 (Qr ([Qp 9 (.mov (Qi 0))])
 (.block 2 (.loop (.seq (Qr ([Qm 23 9, Qk 24 .mul 23 8, Qm 25 0, Qm 26 8, Qx 27 1 25 26, Ql 28 1 27, Qb 29 .lss 24 28])
 (.cond (.t 29) (.skip) (.exit 2)))
 (.seq (.block 3 (.reg [Qm 32 7, Qm 33 8, Qm 34 9, Qw 35 (.build none [.int .i64 0, .int .i64 0] [(0, (.t 33)), (1, (.t 34))]), Qw 36 (.buildS 39 2 (.agg [.int .i64 0, .int .i64 0]) 1 [(0, (.t 35))]), Qw 37 (.app 39 2 16 (.t 32) (.t 36)), Qm 7 37]))
 (.reg [Qm 30 9, Qk 31 .add 30 1, Qm 9 31])))))))
 (.reg [Qm 21 8, Qk 22 .add 21 1, Qm 8 22]))))))
 (.seq (Qr ([Qp 10 (.mov (Qi 0))])
 (.block 4 (.loop (.seq (Qr ([Qm 38 10, Qm 39 1, Qb 40 .lss 38 39])
 (.cond (.t 40) (.skip) (.exit 4)))
 (.seq (.block 5 (.reg [Qm 43 7, Qm 44 10, Qw 45 (.build none [.int .i64 0, .int .i64 0] [(0, (Qi (-1))), (1, (.t 44))]), Qw 46 (.buildS 39 2 (.agg [.int .i64 0, .int .i64 0]) 1 [(0, (.t 45))]), Qw 47 (.app 39 2 16 (.t 43) (.t 46)), Qm 7 47]))
 (.reg [Qm 41 10, Qk 42 .add 41 1, Qm 10 42]))))))
 (Qr ([Qm 48 7, Qm 4 48, Qp 5 (.mov (Qi 0))])
 (.ret)))))), [.mov (.t 4), .mov (.t 5)]) := by kernel_rfl
theorem m_zcopied_ok : compF Try.prog 88 = some (9, Qr ([Qw 1 (.box 43 (.t 0)), Qw 2 (.alloc 43 (.agg [.int .i64 0, .int .i64 0, .int .i64 0, .int .i64 0, .int .i64 0, .int .i64 0, .int .u16 0, .nilS]))])
 (Qr ([Qw 3 (.buildS 84 4 (.agg [.int .u8 0, .int .u16 0, .int .i64 0, .int .i64 0]) 0 []), Qf 4 7 7 1, Ql 5 1 4, Qw 6 (.app 84 4 24 (.t 3) (.t 5)), Qf 7 7 7 1, Qs 1 7 6])
 (Qr ([QL 8 8 1, Qs 8 2 8])
 (.ret))), [.load true 8 (.t 2)]) := by kernel_rfl
theorem m_zget_ok : compF Try.prog 52 = some (92, Qr ([Qw 2 (.box 30 (.t 0)), Qw 3 (.box 39 (.t 1)), Qw 4 (.alloc 45 (.agg [.agg [.int .i64 0, .int .i64 0], .nilS, .agg [.int .i64 0, .int .i64 0, .int .i64 0, .int .i64 0, .int .i64 0, .int .i64 0, .int .u16 0, .nilS]])), Qp 5 (.mov (Qi 0))])
 (.seq (Qr ([QL 8 2 2, Qq 9 93 [(.t 8)], Qp 10 (.un .not (.t 9))])
 (.cond (.t 10) (Qr ([Qw 11 (.build none [.agg [.int .i64 0, .int .i64 0], .nilS, .agg [.int .i64 0, .int .i64 0, .int .i64 0, .int .i64 0, .int .i64 0, .int .i64 0, .int .u16 0, .nilS]] []), Qs 11 4 11, Qp 5 (.mov (Qi 1))])
 (.ret)) (.skip)))
 (.seq (Qr ([Qf 12 0 0 3, Ql 13 1 12, Qk 14 .eql 13 (-1)])
 (.cond (.t 14) (.seq (Qr ([Qf 15 1 1 3, Ql 16 1 15, Qk 17 .lss 16 0, Qm 18 17, Q0 19 18 (.fieldA 1 1 (.t 3)), Q0 20 18 (.load false 1 (.t 19)), Q0 21 18 (.fieldA 1 1 (.t 2)), Q0 22 18 (.load false 1 (.t 21)), Q0 23 18 (.len (.t 22)), Q0 24 18 (.bin 0 .geq (.t 20) (.t 23)), Qt 25 18 24])
 (.cond (.t 25) (Qr ([Qw 26 (.build none [.agg [.int .i64 0, .int .i64 0], .nilS, .agg [.int .i64 0, .int .i64 0, .int .i64 0, .int .i64 0, .int .i64 0, .int .i64 0, .int .u16 0, .nilS]] []), Qs 11 4 26, Qp 5 (.mov (Qi 30))])
 (.ret)) (.skip)))
 (.seq (.dreg [QL 27 2 3, Qf 28 1 1 2, Ql 29 1 28, Qf 30 1 1 3, Ql 31 1 30, Qx 32 8 29 31, QL 33 8 32, Qq 34 88 [(.t 33)], Qw 35 (.build none [.agg [.int .i64 0, .int .i64 0], .nilS, .agg [.int .i64 0, .int .i64 0, .int .i64 0, .int .i64 0, .int .i64 0, .int .i64 0, .int .u16 0, .nilS]] [(0, (.t 27)), (2, (.t 34))]), Qs 11 4 35, Qp 5 (.mov (Qi 0))] [[], [], [1], [], [3], [1, 2, 3, 4], [1, 2, 3, 4, 5], [1, 2, 3, 4, 5, 6], [0, 1, 2, 3, 4, 5, 6, 7], [0, 1, 2, 3, 4, 5, 6, 7, 8], [0, 1, 2, 3, 4, 5, 6, 7, 8, 9]])
 (.ret))) (.skip)))
 (.seq (.seq (.dreg [Qf 36 0 0 3, Ql 37 1 36, Qk 38 .lss 37 0, Qm 39 38, Q0 40 39 (.fieldA 0 0 (.t 3)), Q0 41 39 (.load false 1 (.t 40)), Q0 42 39 (.fieldA 0 0 (.t 2)), Q0 43 39 (.load false 1 (.t 42)), Q0 44 39 (.len (.t 43)), Q0 45 39 (.bin 0 .geq (.t 41) (.t 44)), Qt 46 39 45, Qm 47 46, Q0 48 47 (.fieldA 1 1 (.t 3)), Q0 49 47 (.load false 1 (.t 48)), Q0 50 47 (.bin 0 .lss (.t 49) (Qi 0)), Qt 51 47 50, Qm 52 51, Q0 53 52 (.fieldA 1 1 (.t 3)), Q0 54 52 (.load false 1 (.t 53)), Q0 55 52 (.bin 0 .gtr (.t 54) (Qi 32)), Qt 56 52 55, Qm 57 56, Q0 58 57 (.fieldA 1 1 (.t 3)), Q0 59 57 (.load false 1 (.t 58)), Q0 60 57 (.bin 0 .mul (.t 59) (Qi 8)), Q0 61 57 (.fieldA 0 0 (.t 2)), Q0 62 57 (.load false 1 (.t 61)), Q0 63 57 (.fieldA 0 0 (.t 3)), Q0 64 57 (.load false 1 (.t 63)), Q0 65 57 (.idxA 1 (.t 62) (.t 64)), Q0 66 57 (.load false 1 (.t 65)), Q0 67 57 (.len (.t 66)), Q0 68 57 (.bin 0 .geq (.t 60) (.t 67)), Qt 69 57 68] [[], [0], [0, 1], [0, 1, 2], [0, 1, 2, 3], [0, 1, 2, 3, 4], [0, 1, 2, 3], [0, 1, 2, 3, 6], [0, 1, 2, 3, 6, 7], [0, 1, 2, 3, 4, 5, 6, 7, 8], [0, 1, 2, 3, 4, 5, 6, 7, 8, 9], [0, 1, 2, 3, 4, 5, 6, 7, 8, 9, 10], [0, 1, 2, 3, 4, 5, 6, 7, 8, 9, 10, 11], [0, 1, 2, 3, 4, 5, 6, 7, 8, 9, 10, 11, 12], [0, 1, 2, 3, 4, 5, 6, 7, 8, 9, 10, 11, 12, 13], [0, 1, 2, 3, 4, 5, 6, 7, 8, 9, 10, 11, 12, 13, 14], [0, 1, 2, 3, 4, 5, 6, 7, 8, 9, 10, 11, 12, 13, 14, 15], [0, 1, 2, 3, 4, 5, 6, 7, 8, 9, 10, 11, 12, 13, 14, 15, 16], [0, 1, 2, 3, 4, 5, 6, 7, 8, 9, 10, 11, 12, 13, 14, 15, 16, 17], [0, 1, 2, 3, 4, 5, 6, 7, 8, 9, 10, 11, 12, 13, 14, 15, 16, 17, 18], [0, 1, 2, 3, 4, 5, 6, 7, 8, 9, 10, 11, 12, 13, 14, 15, 16, 17, 18, 19], [0, 1, 2, 3, 4, 5, 6, 7, 8, 9, 10, 11, 12, 13, 14, 15, 16, 17, 18, 19, 20], [0, 1, 2, 3, 4, 5, 6, 7, 8, 9, 10, 11, 12, 13, 14, 15, 16, 17, 18, 19, 20, 21], [0, 1, 2, 3, 4, 5, 6, 7, 8, 9, 10, 11, 12, 13, 14, 15, 16, 17, 18, 19, 20, 21, 22], [0, 1, 2, 3, 4, 5, 6, 7, 8, 9, 10, 11, 12, 13, 14, 15, 16, 17, 18, 19, 20, 21, 22, 23], [0, 1, 2, 3, 4, 5, 6, 7, 8, 9, 10, 11, 12, 13, 14, 15, 16, 17, 18, 19, 20, 21], [0, 1, 2, 3, 4, 5, 6, 7, 8, 9, 10, 11, 12, 13, 14, 15, 16, 17, 18, 19, 20, 21, 25], [0, 1, 2, 3, 4, 5, 6, 7, 8, 9, 10, 11, 12, 13, 14, 15, 16, 17, 18, 19, 20, 21], [0, 1, 2, 3, 4, 5, 6, 7, 8, 9, 10, 11, 12, 13, 14, 15, 16, 17, 18, 19, 20, 21, 27], [0, 1, 2, 3, 4, 5, 6, 7, 8, 9, 10, 11, 12, 13, 14, 15, 16, 17, 18, 19, 20, 21, 25, 26, 27, 28], [0, 1, 2, 3, 4, 5, 6, 7, 8, 9, 10, 11, 12, 13, 14, 15, 16, 17, 18, 19, 20, 21, 25, 26, 27, 28, 29], [0, 1, 2, 3, 4, 5, 6, 7, 8, 9, 10, 11, 12, 13, 14, 15, 16, 17, 18, 19, 20, 21, 25, 26, 27, 28, 29, 30], [0, 1, 2, 3, 4, 5, 6, 7, 8, 9, 10, 11, 12, 13, 14, 15, 16, 17, 18, 19, 20, 21, 22, 23, 24, 25, 26, 27, 28, 29, 30, 31], [0, 1, 2, 3, 4, 5, 6, 7, 8, 9, 10, 11, 12, 13, 14, 15, 16, 17, 18, 19, 20, 21, 22, 23, 24, 25, 26, 27, 28, 29, 30, 31, 32]])
 (.cond (.t 69) (Qr ([Qw 70 (.build none [.agg [.int .i64 0, .int .i64 0], .nilS, .agg [.int .i64 0, .int .i64 0, .int .i64 0, .int .i64 0, .int .i64 0, .int .i64 0, .int .u16 0, .nilS]] []), Qs 11 4 70, Qp 5 (.mov (Qi 30))])
 (.ret)) (.skip)))
 (Qr ([Qf 71 0 0 2, Ql 72 1 71, Qf 73 0 0 3, Ql 74 1 73, Qx 75 1 72 74, Ql 76 1 75, Qm 6 76])
 (Qr ([Qf 77 1 1 3, Ql 78 1 77, Qk 79 .mul 78 8, Qm 7 79])
 (.seq (.dreg [QL 80 2 3, Qw 81 (.buildS 84 4 (.agg [.int .u8 0, .int .u16 0, .int .i64 0, .int .i64 0]) 0 []), Qm 82 6, Qm 83 7, Qm 84 7, Qk 85 .add 84 8, Qm 86 6, Qn 87 86, Qp 88 (.mn (.t 85) (.t 87)), Qw 89 (.sl 4 (.t 82) (some (.t 83)) (some (.t 88)) none), Qw 90 (.app 84 4 24 (.t 81) (.t 89)), Qw 91 (.build none [.agg [.int .i64 0, .int .i64 0], .nilS, .agg [.int .i64 0, .int .i64 0, .int .i64 0, .int .i64 0, .int .i64 0, .int .i64 0, .int .u16 0, .nilS]] [(0, (.t 80)), (1, (.t 90))]), Qs 11 4 91, Qp 5 (.mov (Qi 0))] [[], [], [], [], [], [4], [], [6], [4, 5, 6, 7], [2, 3, 4, 5, 6, 7, 8], [1, 2, 3, 4, 5, 6, 7, 8, 9], [0, 1, 2, 3, 4, 5, 6, 7, 8, 9, 10], [0, 1, 2, 3, 4, 5, 6, 7, 8, 9, 10, 11], [0, 1, 2, 3, 4, 5, 6, 7, 8, 9, 10, 11, 12]])
 (.ret))))))), [.load true 11 (.t 4), .mov (.t 5)]) := by kernel_rfl
theorem m_zall_ok : compF Try.prog 17 = some (41, Qr ([Qw 1 (.box 30 (.t 0)), Qp 2 (.mov (.c (.nilS))), Qp 3 (.mov (Qi 0))])
 (.seq (.dreg [QL 11 2 1, Qq 12 46 [(.t 11)], Qf 13 1 1 1, Ql 14 1 13, Qn 15 14, Qq 16 40 [(.t 12), (.t 15)], Qm 10 16, Qe 17 10 0, Qe 18 10 1, Qm 4 17, Qm 5 18] [[], [0], [], [2], [2, 3], [0, 1, 2, 3, 4], [0, 1, 2, 3, 4, 5], [0, 1, 2, 3, 4, 5, 6], [0, 1, 2, 3, 4, 5, 6], [0, 1, 2, 3, 4, 5, 6, 7], [0, 1, 2, 3, 4, 5, 6, 7, 8, 9]])
 (.seq (Qr ([Qm 19 5, Qk 20 .neq 19 0])
 (.cond (.t 20) (Qr ([Qp 2 (.mov (.c (.nilS))), Qp 3 (.mov (Qi 1))])
 (.ret)) (.skip)))
 (Qr ([Qp 6 (.mov (.c (.nilS)))])
 (.seq (Qr ([Qp 7 (.mov (Qi 0))])
 (.block 0 (.loop (.seq (Qr ([Qm 21 7, Qm 22 4, Qn 23 22, Qb 24 .lss 21 23])
 (.cond (.t 24) (.skip) (.exit 0)))
 (.seq (.block 1 (.seq (.dreg [QL 28 2 1, Qm 29 4, Qm 30 7, Qx 31 2 29 30, QL 32 2 31, Qq 33 52 [(.t 28), (.t 32)], Qm 27 33, Qe 34 27 0, Qe 35 27 1, Qw 8 (.alloc 45 (.agg [.agg [.int .i64 0, .int .i64 0], .nilS, .agg [.int .i64 0, .int .i64 0, .int .i64 0, .int .i64 0, .int .i64 0, .int .i64 0, .int .u16 0, .nilS]])), Qs 11 8 34, Qm 9 35] [[], [], [], [1, 2], [1, 2, 3], [0, 1, 2, 3, 4], [0, 1, 2, 3, 4, 5], [0, 1, 2, 3, 4, 5, 6], [0, 1, 2, 3, 4, 5, 6], [], [0, 1, 2, 3, 4, 5, 6, 7, 9], [0, 1, 2, 3, 4, 5, 6, 7, 8, 9, 10]])
 (.reg [Qm 36 6, QL 37 11 8, Qw 38 (.buildS 45 11 (.agg [.agg [.int .i64 0, .int .i64 0], .nilS, .agg [.int .i64 0, .int .i64 0, .int .i64 0, .int .i64 0, .int .i64 0, .int .i64 0, .int .u16 0, .nilS]]) 1 [(0, (.t 37))]), Qw 39 (.app 45 11 120 (.t 36) (.t 38)), Qm 6 39])))
 (.reg [Qm 25 7, Qk 26 .add 25 1, Qm 7 26]))))))
 (Qr ([Qm 40 6, Qm 2 40, Qp 3 (.mov (Qi 0))])
 (.ret)))))), [.mov (.t 2), .mov (.t 3)]) := by kernel_rfl
attribute [local irreducible] idsF shp
attribute [local go_sem] snoc_pid
set_option maxHeartbeats 4000000 in
theorem zsizes_fn (s : State) (L : s.regions.length ≤ 5864062014634) : Fnc Try.prog 46 [staV s] (fun x obs => x = .sl true 1 (i64s (szs s)) ∧ obs = []) := by
  have hl := szs_len s
  refine zgo m_zsizes_ok fun W S => ?_
  refine ev_adopt (i := 3) (e := 3) (s := 1) rfl (by decide) ?_
  refine ev_loopK [1] (fun p : {p : Nat // p ≤ s.regions.length} => [(3, .own 1 p.1), (4, .int .i64 p.1)]) (fun p => [⟨.box false 30, true, 0, staV s⟩, ⟨.row 3, true, p.1, .arr 1 (i64s ((szs s).take p.1))⟩]) (fun p => s.regions.length - p.1) (⟨0, by simp⟩) 2 (by simp only [go_sem]; rfl) ?_ (by first | rfl | (simp only [go_sem]; done)) (by simp) (by first | rfl | (simp only [go_sem]; done)) (by first | rfl | (simp only [go_sem]; done)) (by first | rfl | (simp only [go_sem]; done)) ?_
  · (simp only [go_sem]; (try simp []); done)
  intro J hJ
  rintro ⟨k, hk0⟩
  by_cases hlt : k < s.regions.length
  · have hs := szs_take s k hlt
    refine zst ?_
    exact zn2 (hJ _ (⟨k + 1, hlt⟩) (by first | omega | (dsimp only; omega) | (simp; omega))) hs
  · obtain rfl : k = s.regions.length := by omega
    have ht : (szs s).take s.regions.length = szs s := List.take_of_length_le (by omega)
    dsimp only
    rw [ht]
    refine zst ?_
    exact zrt m_zsizes_ok
set_option maxHeartbeats 4000000 in
theorem zcheck_fn (z : List Int) (n : Int) : Fnc Try.prog 82 [.sl false 1 (i64s z), .int .i64 n] (fun x obs => x = .int .i64 (chk z n) ∧ obs = []) := by
  refine Fnc.wf fun hw => ?_
  simp only [V.wfs, V.wf, wfs_map, List.length_map] at hw
  have hm := hw.1.2
  clear hw
  by_cases c1 : 4 < z.length
  · rw [chk_3 (.inl c1)]
    refine zgo m_zcheck_ok fun W S => ?_
    exact zrt m_zcheck_ok
  by_cases c2 : 4 < n
  · rw [chk_3 (.inr c2)]
    refine zgo m_zcheck_ok fun W S => ?_
    exact zrt m_zcheck_ok
  refine zgo m_zcheck_ok fun W S => ?_
  refine ev_loopK [0, 1] (fun p : {p : Nat // p ≤ z.length ∧ ∀ j, j < p → 1 ≤ z[j]! ∧ z[j]! ≤ 32} => [(5, .int .i64 p.1)]) (fun _ => []) (fun p => z.length - p.1) (⟨0, by simp⟩) 0 (by simp only [go_sem]; rfl) ?_ (by first | rfl | (simp only [go_sem]; done)) (by simp) (by first | rfl | (simp only [go_sem]; done)) (by first | rfl | (simp only [go_sem]; done)) (by first | rfl | (simp only [go_sem]; done)) ?_
  · (simp only [go_sem]; (try simp []); done)
  intro J hJ
  rintro ⟨k, hk0, hk1⟩
  by_cases hlt : k < z.length
  · by_cases b1 : z[k]! < 1
    · rw [chk_1' (by omega) hlt (.inl b1)]
      refine zst ?_
      exact zrt m_zcheck_ok
    by_cases b2 : 32 < z[k]!
    · rw [chk_1' (by omega) hlt (.inr b2)]
      refine zst ?_
      exact zrt m_zcheck_ok
    have hS : ∀ j, j < k + 1 → 1 ≤ z[j]! ∧ z[j]! ≤ 32 := fun j hj => by
      by_cases e : j = k
      · subst e; omega
      · exact hk1 j (by omega)
    refine zst ?_
    refine ev_next 0 (hJ _ (⟨k + 1, hlt, hS⟩) (by first | omega | (dsimp only; omega) | (simp; omega))) rfl (by simp) ?_ (by first | rfl | (simp only [go_sem]; done)) (by first | rfl | (simp only [go_sem]; done)) ?_
    · (first | rfl | (simp only [go_sem]; done) | (simp only [go_sem]; simp only []; done) | (simp only []; done) | (simp only [go_sem]; simp []; done) | (simp []; done))
    · (simp only [go_sem]; (repeat' (refine And.intro ?_ ?_)) <;> first | exact trivial | with_reducible rfl | (simp only []; done) | (simp only []; with_reducible rfl) | (simp []; done) | (simp []; omega) | (simp only []; rfl) | skip)
  · obtain rfl : k = z.length := by omega
    by_cases c3 : n < 0
    · rw [chk_1 (by omega) c3]
      refine zst ?_
      exact zrt m_zcheck_ok
    · rw [chk_0 (by omega) (by omega) hk1]
      refine zst ?_
      exact zrt m_zcheck_ok
theorem shp_def (s : State) : shp s = decide (chk (szs s) s.threads.length = 0) := by unfold shp; rfl
set_option maxHeartbeats 4000000 in
theorem zshaped_fn (s : State) (L : s.regions.length ≤ 5864062014634) : Fnc Try.prog 93 [staV s] (fun x obs => x = .bool (shp s) ∧ obs = []) := by
  have f1 := zsizes_fn s L
  have f2 := zcheck_fn (szs s) s.threads.length
  rw [shp_def]
  generalize chk (szs s) s.threads.length = c at f2
  by_cases h : c = 0
  · rw [decT h]
    refine zgo m_zshaped_ok fun W S => ?_
    refine zcd (f1) ?_
    refine zcd (f2) ?_
    exact zrt m_zshaped_ok
  · rw [decF h]
    refine zgo m_zshaped_ok fun W S => ?_
    refine zcd (f1) ?_
    refine zcd (f2) ?_
    exact zrt m_zshaped_ok
attribute [local irreducible] idsR idsL idsT pcn
set_option maxHeartbeats 8000000 in
theorem zlist_fn (z : List Int) (n : Int) : Fnc Try.prog 40 [.sl false 1 (i64s z), .int .i64 n] (fun x obs => x = .tup [.sl false 2 ((sList z n).1.map pidV), .int .i64 (sList z n).2] ∧ obs = []) := by
  refine Fnc.low ?_
  refine Fnc.wf fun hw => ?_
  simp only [V.wfs, V.wf, wfs_map, List.length_map] at hw
  have hm := hw.1.2
  clear hw
  have fb := zcheck_fn z n
  by_cases c0 : chk z n = 0
  rotate_left
  · have hr : sList z n = ([], chk z n) := by unfold sList; rw [if_neg c0]
    rw [hr]
    generalize chk z n = c at fb c0
    refine zgo m_zlist_ok fun W S => ?_
    refine zcd (fb) ?_
    refine ev_nil2 4 true 2 rfl ?_
    exact zrt m_zlist_ok
  have hr : sList z n = (idsF z n, 0) := by unfold sList; rw [if_pos c0]
  obtain ⟨c1, c2, c3, hz⟩ := chk_ok c0
  rw [c0] at fb
  refine zgo m_zlist_ok fun W S => ?_
  refine zcd (fb) ?_
  refine ev_adopt (i := 7) (e := 39) (s := 2) rfl (by decide) ?_
  refine ev_loopK [0, 1] (fun p : {p : Nat // p ≤ z.length} => [(7, .own 0 (idsL z p.1).length), (8, .int .i64 p.1)]) (fun p => [⟨.row 39, true, (idsL z p.1).length, .arr 2 ((idsL z p.1).map pidV)⟩]) (fun p => z.length - p.1) (⟨0, by simp⟩) 1 (by simp only [go_sem]; rfl) ?_ (by first | rfl | (simp only [go_sem]; done) | (simp only [go_sem]; simp [idsL]; done)) (by simp) (by first | rfl | (simp only [go_sem]; done)) (by first | rfl | (simp only [go_sem]; done)) (by first | rfl | (simp only [go_sem]; done) | (simp only [idsL]; (try simp only [go_sem]); first | done | rfl)) ?_
  · (simp only [go_sem]; (try simp [idsL]); done)
  intro J hJ
  rintro ⟨p, hp⟩
  have hg := idsL_le (fun k hk => (hz k hk).2) hp
  have hJ0 := hJ
  by_cases hlt : p < z.length
  · have hzp := hz p hlt
    have hpc := pcn_le hzp.2
    have z1 : idsR p 0 = [] := idsR_zero p
    refine zst ?_
    refine ev_loopK [0, 1, 8] (fun q : {q : Nat // q ≤ pcn z[p]!} => [(7, .own 0 ((idsL z p).length + q.1)), (9, .int .i64 q.1)]) (fun q => [⟨.row 39, true, (idsL z p).length + q.1, .arr 2 ((idsL z p ++ idsR p q.1).map pidV)⟩]) (fun q => pcn z[p]! - q.1) (⟨0, by simp⟩) 1 (by simp only [go_sem]; rfl) ?_ (by first | rfl | (simp only [go_sem]; done) | (simp only [go_sem]; simp [z1, List.append_nil]; done)) (by simp) (by first | rfl | (simp only [go_sem]; done)) (by first | rfl | (simp only [go_sem]; done)) (by first | rfl | (simp only [go_sem]; done) | (simp only [z1, List.append_nil]; (try simp only [go_sem]); first | done | rfl)) ?_
    · (simp only [go_sem]; (try simp [z1, List.append_nil]); done)
    intro J hJ
    rintro ⟨q, hq⟩
    have hq' := pcn_lt (n := z[p]!) (i := q)
    have hql := idsR_len p q
    by_cases hlq : q < pcn z[p]!
    · have hq' := hq'.1 hlq
      have hs : idsL z p ++ idsR p q ++ [(⟨p, q⟩ : PageID)] = idsL z p ++ idsR p (q + 1) := by rw [List.append_assoc, idsR_snoc]
      have hgn : (idsL z p).length + q ≤ 1000 := by omega
      refine zst ?_
      refine ev_next 1 (hJ _ (⟨q + 1, hlq⟩) (by first | omega | (dsimp only; omega) | (simp; omega))) rfl (by simp) ?_ (by first | rfl | (simp only [go_sem]; done)) (by first | rfl | (simp only [go_sem]; done) | (simp only [hs, Nat.add_assoc]; (try simp only [go_sem]); first | done | rfl)) ?_
      · (first | rfl | (simp only [go_sem]; done) | (simp only [go_sem]; simp only [hs, Nat.add_assoc]; done) | (simp only [hs, Nat.add_assoc]; done) | (simp only [go_sem]; simp [hs, Nat.add_assoc]; done) | (simp [hs, Nat.add_assoc]; done))
      · (simp only [go_sem]; (repeat' (refine And.intro ?_ ?_)) <;> first | exact trivial | with_reducible rfl | (simp only [hs, Nat.add_assoc]; done) | (simp only [hs, Nat.add_assoc]; with_reducible rfl) | (simp [hs, Nat.add_assoc]; done) | (simp [hs, Nat.add_assoc]; omega) | (simp only [hs, Nat.add_assoc]; rfl) | skip)
    · have hq' : ¬ 8 * (q : Int) < z[p]! := fun h => hlq (hq'.2 h)
      obtain rfl : q = pcn z[p]! := by omega
      have hJ := hJ0
      have hs := idsL_snoc z p
      have hpc4 : pcn z[p]! ≤ 4 := hpc
      have hgl : (idsL z p).length + pcn z[p]! = (idsL z (p + 1)).length := by rw [← hs, List.length_append, hql]
      dsimp only
      rw [hs, hgl]
      refine zst ?_
      refine ev_next 1 (hJ _ (⟨p + 1, hlt⟩) (by first | omega | (dsimp only; omega) | (simp; omega))) rfl (by simp) ?_ (by first | rfl | (simp only [go_sem]; done)) (by first | rfl | (simp only [go_sem]; done)) ?_
      · (first | rfl | (simp only [go_sem]; done) | (simp only [go_sem]; simp only []; done) | (simp only []; done) | (simp only [go_sem]; simp []; done) | (simp []; done))
      · (simp only [go_sem]; (repeat' (refine And.intro ?_ ?_)) <;> first | exact trivial | with_reducible rfl | (simp only []; done) | (simp only []; with_reducible rfl) | (simp []; done) | (simp []; omega) | (simp only []; rfl) | skip)
  · obtain rfl : p = z.length := by omega
    have z1 : idsT 0 = [] := idsT_zero
    refine zst ?_
    refine ev_loopK [1] (fun q : {q : Nat // (q : Int) ≤ n} => [(7, .own 0 ((idsL z z.length).length + q.1)), (10, .int .i64 q.1)]) (fun q => [⟨.row 39, true, (idsL z z.length).length + q.1, .arr 2 ((idsL z z.length ++ idsT q.1).map pidV)⟩]) (fun q => n.toNat - q.1) (⟨0, by omega⟩) 1 (by simp only [go_sem]; rfl) ?_ (by first | rfl | (simp only [go_sem]; done) | (simp only [go_sem]; simp [z1, List.append_nil]; done)) (by simp) (by first | rfl | (simp only [go_sem]; done)) (by first | rfl | (simp only [go_sem]; done)) (by first | rfl | (simp only [go_sem]; done) | (simp only [z1, List.append_nil]; (try simp only [go_sem]); first | done | rfl)) ?_
    · (simp only [go_sem]; (try simp [z1, List.append_nil]); done)
    intro J hJ
    rintro ⟨q, hq⟩
    have hql := idsT_len q
    by_cases hlq : (q : Int) < n
    · have hs : idsL z z.length ++ idsT q ++ [(⟨-1, q⟩ : PageID)] = idsL z z.length ++ idsT (q + 1) := by rw [List.append_assoc, idsT_snoc]
      have hgn : (idsL z z.length).length + q ≤ 1000 := by omega
      refine zst ?_
      refine ev_next 1 (hJ _ (⟨q + 1, by omega⟩) (by first | omega | (dsimp only; omega) | (simp; omega))) rfl (by simp) ?_ (by first | rfl | (simp only [go_sem]; done)) (by first | rfl | (simp only [go_sem]; done) | (simp only [hs, Nat.add_assoc]; (try simp only [go_sem]); first | done | rfl)) ?_
      · (first | rfl | (simp only [go_sem]; done) | (simp only [go_sem]; simp only [hs, Nat.add_assoc]; done) | (simp only [hs, Nat.add_assoc]; done) | (simp only [go_sem]; simp [hs, Nat.add_assoc]; done) | (simp [hs, Nat.add_assoc]; done))
      · (simp only [go_sem]; (repeat' (refine And.intro ?_ ?_)) <;> first | exact trivial | with_reducible rfl | (simp only [hs, Nat.add_assoc]; done) | (simp only [hs, Nat.add_assoc]; with_reducible rfl) | (simp [hs, Nat.add_assoc]; done) | (simp [hs, Nat.add_assoc]; omega) | (simp only [hs, Nat.add_assoc]; rfl) | skip)
    · obtain rfl : q = n.toNat := by omega
      have hF : idsL z z.length ++ idsT n.toNat = idsF z n := by unfold idsF; rfl
      dsimp only
      rw [hF]
      refine zst ?_
      exact zrh m_zlist_ok hr
set_option maxHeartbeats 4000000 in
theorem zcopied_fn (v : View) (h : v.regs.length ≤ 5864062014634) : Fnc Try.prog 88 [viewV false v] (fun x obs => x = viewV true v ∧ obs = []) := by
  refine zgo m_zcopied_ok fun W S => ?_
  exact zrt m_zcopied_ok
set_option maxHeartbeats 8000000 in
theorem zget_fn (s : State) (d : PageID) (L : LowS s) : Fnc Try.prog 52 [staV s, pidV d] (fun x obs => x = .tup [pgV true (sGet s d).1, .int .i64 (sGet s d).2] ∧ obs = []) := by
  have f1 := zshaped_fn s L.r
  refine Fnc.wf fun hw => ?_
  simp only [V.wfs, V.wf, wfs_map, List.length_map] at hw
  have hi := inK_i64' hw.2.1.2.1
  clear hw
  cases c1 : shp s with
  | false =>
    rw [c1] at f1
    rw [sGet_1 c1]
    refine zgo m_zget_ok fun W S => ?_
    refine zcd (f1) ?_
    refine ev_obSub 2 _ rfl (zpg_sub true) rfl ?_
    exact zrt m_zget_ok
  | true =>
    rw [c1] at f1
    have H := shp_to c1
    have Hr := H.r
    have Ht := H.t
    by_cases c0 : d.region = -1
    · by_cases c2 : 0 ≤ d.index
      · by_cases c3 : d.index < s.threads.length
        · rw [sGet_0 c1 (.inl ⟨c0, c2, c3⟩), show getP s d = ⟨d, [], s.threads[d.index.toNat]!⟩ from if_pos c0]
          have fv := zcopied_fn s.threads[d.index.toNat]! (L.g _ (mem_at (by omega)))
          refine zgo m_zget_ok fun W S => ?_
          refine zcd (f1) ?_
          refine zcd (fv) ?_
          refine ev_obSub 2 _ rfl (pg_subT _ _) rfl ?_
          exact zrt m_zget_ok
        · rw [sGet_30 c1 (fun h => by unfold There at h; omega)]
          refine zgo m_zget_ok fun W S => ?_
          refine zcd (f1) ?_
          refine ev_obSub 2 _ rfl (zpg_sub true) rfl ?_
          exact zrt m_zget_ok
      · rw [sGet_30 c1 (fun h => by unfold There at h; omega)]
        refine zgo m_zget_ok fun W S => ?_
        refine zcd (f1) ?_
        refine ev_obSub 2 _ rfl (zpg_sub true) rfl ?_
        exact zrt m_zget_ok
    by_cases c2 : 0 ≤ d.region
    rotate_left
    · rw [sGet_30 c1 (fun h => by unfold There at h; omega)]
      refine zgo m_zget_ok fun W S => ?_
      refine zcd (f1) ?_
      refine ev_obSub 2 _ rfl (zpg_sub true) rfl ?_
      exact zrt m_zget_ok
    by_cases c3 : d.region < s.regions.length
    rotate_left
    · rw [sGet_30 c1 (fun h => by unfold There at h; omega)]
      refine zgo m_zget_ok fun W S => ?_
      refine zcd (f1) ?_
      refine ev_obSub 2 _ rfl (zpg_sub true) rfl ?_
      exact zrt m_zget_ok
    by_cases c4 : 0 ≤ d.index
    rotate_left
    · rw [sGet_30 c1 (fun h => by unfold There at h; omega)]
      refine zgo m_zget_ok fun W S => ?_
      refine zcd (f1) ?_
      refine ev_obSub 2 _ rfl (zpg_sub true) rfl ?_
      exact zrt m_zget_ok
    by_cases c5 : d.index ≤ 32
    rotate_left
    · rw [sGet_30 c1 (fun h => by unfold There at h; omega)]
      refine zgo m_zget_ok fun W S => ?_
      refine zcd (f1) ?_
      refine ev_obSub 2 _ rfl (zpg_sub true) rfl ?_
      exact zrt m_zget_ok
    have hz := H.z d.region.toNat (by omega)
    by_cases c6 : 8 * d.index < s.regions[d.region.toNat]!.length
    rotate_left
    · rw [sGet_30 c1 (fun h => by unfold There at h; omega)]
      refine zgo m_zget_ok fun W S => ?_
      refine zcd (f1) ?_
      refine ev_obSub 2 _ rfl (zpg_sub true) rfl ?_
      exact zrt m_zget_ok
    have hp := prt_yes (l := s.regions[d.region.toNat]!) c4 c5
    have hl := prt_len s.regions[d.region.toNat]! d.index
    have h8 : d.index * 8 = 8 * d.index := Int.mul_comm _ _
    rw [sGet_0 c1 (.inr ⟨c2, c3, c4, c5, c6⟩), show getP s d = ⟨d, prt s.regions[d.region.toNat]! d.index, zvw⟩ from if_neg c0]
    by_cases c7 : 8 * d.index + 8 ≤ (s.regions[d.region.toNat]!.length : Int)
    · rw [show min (8 * d.index + 8) (s.regions[d.region.toNat]!.length : Int) = 8 * d.index + 8 by omega] at hp
      have hD : ((s.regions[d.region.toNat]!.map canonV).take (d.index * 8 + 8).toNat).drop (d.index * 8).toNat = (prt s.regions[d.region.toNat]! d.index).map canonV := by rw [h8, hp, List.map_drop, List.map_take]
      refine zgo m_zget_ok fun W S => ?_
      (first | refine callD (f1) ?_ | refine callDw (f1) ?_); refine zev ?_
      refine zso ?_
      refine ev_draw (fu := fu8) mixed [] 0 rfl (by kernel_rfl) ?_; simp only [go_sem]
      refine zso ?_
      refine ev_draw (fu := fu8) mixed [1] 1 rfl (by kernel_rfl) ?_; simp only [go_sem]
      repeat (first | (simp only [hD]; try simp only [go_sem]) | refine And.intro (by omega) ?_ | refine And.intro rfl ?_ | refine ev_ctl rfl rfl ?_ | refine evr_nil ?_ | refine evw_nil (by kernel_rfl) ?_ | (simp (disch := omega) only [takeAll, Nat.min_eq_left, Nat.min_eq_right, if_pos, if_neg, getD_map, wrapI64, modIn, fdivE, tmodE, tdivE, decT, decF, beqT, beqF, bneT, bneF, Int.toNat_natCast]; try simp only [go_sem]) | (refine ev_condTb rfl ?_ ?_; · (simp <;> omega)) | (refine ev_condFb rfl ?_ ?_; · (simp <;> omega)) | ((first | refine ev_region ?_ | refine evr_go rfl ?_ | refine evw_gom [1] rfl ?_ | refine ev_dr0 mixed rfl (by kernel_rfl) ?_ | refine ev_dr1 mixed rfl (by kernel_rfl) ?_ | refine ev_dr2 mixed rfl (by kernel_rfl) ?_); simp only [go_sem]))
      refine ev_frzBox 2 1 3 rfl rfl rfl ?_
      simp only [go_sem]
      refine ev_obSub 2 _ rfl (pg_subR _ _) rfl ?_
      exact zrt m_zget_ok
    · rw [show min (8 * d.index + 8) (s.regions[d.region.toNat]!.length : Int) = s.regions[d.region.toNat]!.length by omega] at hp
      have hD : ((s.regions[d.region.toNat]!.map canonV).take s.regions[d.region.toNat]!.length).drop (d.index * 8).toNat = (prt s.regions[d.region.toNat]! d.index).map canonV := by rw [h8, hp, Int.toNat_natCast, List.map_drop, List.map_take]
      refine zgo m_zget_ok fun W S => ?_
      (first | refine callD (f1) ?_ | refine callDw (f1) ?_); refine zev ?_
      refine zso ?_
      refine ev_draw (fu := fu8) mixed [] 0 rfl (by kernel_rfl) ?_; simp only [go_sem]
      refine zso ?_
      refine ev_draw (fu := fu8) mixed [1] 1 rfl (by kernel_rfl) ?_; simp only [go_sem]
      repeat (first | (simp only [hD]; try simp only [go_sem]) | refine And.intro (by omega) ?_ | refine And.intro rfl ?_ | refine ev_ctl rfl rfl ?_ | refine evr_nil ?_ | refine evw_nil (by kernel_rfl) ?_ | (simp (disch := omega) only [takeAll, Nat.min_eq_left, Nat.min_eq_right, if_pos, if_neg, getD_map, wrapI64, modIn, fdivE, tmodE, tdivE, decT, decF, beqT, beqF, bneT, bneF, Int.toNat_natCast]; try simp only [go_sem]) | (refine ev_condTb rfl ?_ ?_; · (simp <;> omega)) | (refine ev_condFb rfl ?_ ?_; · (simp <;> omega)) | ((first | refine ev_region ?_ | refine evr_go rfl ?_ | refine evw_gom [1] rfl ?_ | refine ev_dr0 mixed rfl (by kernel_rfl) ?_ | refine ev_dr1 mixed rfl (by kernel_rfl) ?_ | refine ev_dr2 mixed rfl (by kernel_rfl) ?_); simp only [go_sem]))
      refine ev_frzBox 2 1 3 rfl rfl rfl ?_
      simp only [go_sem]
      refine ev_obSub 2 _ rfl (pg_subR _ _) rfl ?_
      exact zrt m_zget_ok
set_option maxHeartbeats 8000000 in
theorem zall_fn (s : State) (L : LowS s) : Fnc Try.prog 17 [staV s] (fun x obs => x = .tup [.sl true 11 ((sAll s).1.map (pgV true)), .int .i64 (sAll s).2] ∧ obs = []) := by
  have f2 := zsizes_fn s L.r
  have f3 := zlist_fn (szs s) s.threads.length
  cases c1 : shp s with
  | false =>
    have hc : chk (szs s) s.threads.length ≠ 0 := fun h => by rw [shp_def, decT h] at c1; cases c1
    rw [show sList (szs s) s.threads.length = ([], chk (szs s) s.threads.length) from if_neg hc] at f3
    rw [sAll_1 c1]
    generalize chk (szs s) s.threads.length = c at f3 hc
    refine zgo m_zall_ok fun W S => ?_
    refine zcd (f2) ?_
    refine zcd (f3) ?_
    refine ev_nil2 2 true 11 rfl ?_
    exact zrt m_zall_ok
  | true =>
    rw [sAll_0 c1]
    rw [sList_sh c1] at f3
    have hn := idsF_le' c1
    have hT : ∀ k, k < (idsF (szs s) s.threads.length).length → There s (idsF (szs s) s.threads.length)[k]! := fun k hk => mem_idsF (mem_at hk) (shp_to c1)
    have hP : pgs s = (idsF (szs s) s.threads.length).map (getP s) := rfl
    generalize idsF (szs s) s.threads.length = D at f3 hn hT hP
    rw [hP]
    refine zgo m_zall_ok fun W S => ?_
    refine zcd (f2) ?_
    refine zcd (f3) ?_
    refine ev_adopt (i := 6) (e := 45) (s := 11) rfl (by decide) ?_
    refine ev_loopK [1, 4] (fun p : {p : Nat // p ≤ D.length} => [(6, .own 1 p.1), (7, .int .i64 p.1)]) (fun p => [⟨.box false 30, true, 0, staV s⟩, ⟨.row 45, true, p.1, .arr 11 (((D.take p.1).map (getP s)).map (pgV true))⟩]) (fun p => D.length - p.1) (⟨0, by simp⟩) 2 (by simp only [go_sem]; rfl) ?_ (by first | rfl | (simp only [go_sem]; done)) (by simp) (by first | rfl | (simp only [go_sem]; done)) (by first | rfl | (simp only [go_sem]; done)) (by first | rfl | (simp only [go_sem]; done)) ?_
    · (simp only [go_sem]; (try simp []); done)
    intro J hJ
    rintro ⟨k, hk0⟩
    by_cases hlt : k < D.length
    · have f4 := zget_fn s D[k]! L
      rw [sGet_0 c1 (hT k hlt)] at f4
      have hs : ((D.take k).map (getP s)).map (pgV true) ++ [pgV true (getP s D[k]!)] = ((D.take (k + 1)).map (getP s)).map (pgV true) := by rw [take_snoc hlt, List.map_append, List.map_append]; rfl
      have hgl : ((D.take k).map (getP s)).length = k := by rw [List.length_map, List.length_take]; omega
      refine zst ?_
      refine zcd (f4) ?_
      exact zn2 (hJ _ (⟨k + 1, hlt⟩) (by first | omega | (dsimp only; omega) | (simp; omega))) hs
    · obtain rfl : k = D.length := by omega
      dsimp only
      rw [List.take_length]
      refine zst ?_
      exact zrt m_zall_ok
end Go.Proofs.Ytcphobeommkgeaa
