/- Pages: the reference. -/
import Derived.Test.YtcphobeommkgeaaP3
import Derived.Test.YtcphobeommkgeaaZt
import Derived.Test.YtcphobeommkgeaaCut
namespace Go.Proofs.Ytcphobeommkgeaa
open Go Go.RowKit Rdn Rdn.Dp
set_option linter.unusedVariables false
set_option linter.unusedSimpArgs false
def m_zsizes : MC := .seq (.reg [⟨(some 1), none, (.m (.box 30 (.t 0)))⟩, ⟨(some 2), none, (.p (.mov (.c (.nilS))))⟩])
 (.seq (.reg [⟨(some 3), none, (.p (.mov (.c (.nilS))))⟩])
 (.seq (.seq (.reg [⟨(some 4), none, (.p (.mov (.c (.int .i64 0))))⟩])
 (.block 0 (.loop (.seq (.seq (.reg [⟨(some 5), none, (.p (.mov (.t 4)))⟩, ⟨(some 6), none, (.p (.fieldA 0 0 (.t 1)))⟩, ⟨(some 7), none, (.p (.load false 1 (.t 6)))⟩, ⟨(some 8), none, (.p (.len (.t 7)))⟩, ⟨(some 9), none, (.p (.bin 0 .lss (.t 5) (.t 8)))⟩])
 (.cond (.t 9) (.skip) (.exit 0)))
 (.seq (.block 1 (.reg [⟨(some 12), none, (.p (.mov (.t 3)))⟩, ⟨(some 13), none, (.p (.fieldA 0 0 (.t 1)))⟩, ⟨(some 14), none, (.p (.load false 1 (.t 13)))⟩, ⟨(some 15), none, (.p (.mov (.t 4)))⟩, ⟨(some 16), none, (.p (.idxA 1 (.t 14) (.t 15)))⟩, ⟨(some 17), none, (.p (.load false 1 (.t 16)))⟩, ⟨(some 18), none, (.p (.len (.t 17)))⟩, ⟨(some 19), none, (.m (.buildS 3 1 (.int .i64 0) 1 [(0, (.t 18))]))⟩, ⟨(some 20), none, (.m (.app 3 1 8 (.t 12) (.t 19)))⟩, ⟨(some 3), none, (.p (.mov (.t 20)))⟩]))
 (.reg [⟨(some 10), none, (.p (.mov (.t 4)))⟩, ⟨(some 11), none, (.p (.bin 0 .add (.t 10) (.c (.int .i64 1))))⟩, ⟨(some 4), none, (.p (.mov (.t 11)))⟩]))))))
 (.seq (.reg [⟨(some 21), none, (.p (.mov (.t 3)))⟩, ⟨(some 2), none, (.p (.mov (.t 21)))⟩])
 (.ret))))
theorem m_zsizes_ok : compF Try.prog 46 = some (22, m_zsizes, [.mov (.t 2)]) := by kernel_rfl
def m_zcheck : MC := .seq (.reg [⟨(some 4), none, (.p (.mov (.c (.int .i64 0))))⟩])
 (.seq (.seq (.reg [⟨(some 6), none, (.p (.mov (.t 0)))⟩, ⟨(some 7), none, (.p (.len (.t 6)))⟩, ⟨(some 8), none, (.p (.bin 0 .gtr (.t 7) (.c (.int .i64 4))))⟩, ⟨(some 9), none, (.p (.mov (.t 8)))⟩, ⟨(some 10), (some (9, false)), (.p (.mov (.t 1)))⟩, ⟨(some 11), (some (9, false)), (.p (.bin 0 .gtr (.t 10) (.c (.int .i64 4))))⟩, ⟨(some 12), none, (.p (.pick (.t 9) (.c (.bool true)) (.t 11)))⟩])
 (.cond (.t 12) (.seq (.reg [⟨(some 4), none, (.p (.mov (.c (.int .i64 3))))⟩])
 (.ret)) (.skip)))
 (.seq (.seq (.reg [⟨(some 5), none, (.p (.mov (.c (.int .i64 0))))⟩])
 (.block 0 (.loop (.seq (.seq (.reg [⟨(some 13), none, (.p (.mov (.t 5)))⟩, ⟨(some 14), none, (.p (.mov (.t 0)))⟩, ⟨(some 15), none, (.p (.len (.t 14)))⟩, ⟨(some 16), none, (.p (.bin 0 .lss (.t 13) (.t 15)))⟩])
 (.cond (.t 16) (.skip) (.exit 0)))
 (.seq (.block 1 (.seq (.reg [⟨(some 19), none, (.p (.mov (.t 0)))⟩, ⟨(some 20), none, (.p (.mov (.t 5)))⟩, ⟨(some 21), none, (.p (.idxA 1 (.t 19) (.t 20)))⟩, ⟨(some 22), none, (.p (.load false 1 (.t 21)))⟩, ⟨(some 23), none, (.p (.bin 0 .lss (.t 22) (.c (.int .i64 1))))⟩, ⟨(some 24), none, (.p (.mov (.t 23)))⟩, ⟨(some 25), (some (24, false)), (.p (.mov (.t 0)))⟩, ⟨(some 26), (some (24, false)), (.p (.mov (.t 5)))⟩, ⟨(some 27), (some (24, false)), (.p (.idxA 1 (.t 25) (.t 26)))⟩, ⟨(some 28), (some (24, false)), (.p (.load false 1 (.t 27)))⟩, ⟨(some 29), (some (24, false)), (.p (.bin 0 .gtr (.t 28) (.c (.int .i64 32))))⟩, ⟨(some 30), none, (.p (.pick (.t 24) (.c (.bool true)) (.t 29)))⟩])
 (.cond (.t 30) (.seq (.reg [⟨(some 4), none, (.p (.mov (.c (.int .i64 1))))⟩])
 (.ret)) (.skip))))
 (.reg [⟨(some 17), none, (.p (.mov (.t 5)))⟩, ⟨(some 18), none, (.p (.bin 0 .add (.t 17) (.c (.int .i64 1))))⟩, ⟨(some 5), none, (.p (.mov (.t 18)))⟩]))))))
 (.seq (.seq (.reg [⟨(some 31), none, (.p (.mov (.t 1)))⟩, ⟨(some 32), none, (.p (.bin 0 .lss (.t 31) (.c (.int .i64 0))))⟩])
 (.cond (.t 32) (.seq (.reg [⟨(some 4), none, (.p (.mov (.c (.int .i64 1))))⟩])
 (.ret)) (.skip)))
 (.seq (.reg [⟨(some 4), none, (.p (.mov (.c (.int .i64 0))))⟩])
 (.ret)))))
theorem m_zcheck_ok : compF Try.prog 82 = some (33, m_zcheck, [.mov (.t 4)]) := by kernel_rfl
def m_zshaped : MC := .seq (.reg [⟨(some 1), none, (.m (.box 30 (.t 0)))⟩, ⟨(some 2), none, (.p (.mov (.c (.bool false))))⟩])
 (.seq (.dreg [⟨(some 3), none, (.p (.load true 2 (.t 1)))⟩, ⟨(some 4), none, (.call 46 [(.t 3)])⟩, ⟨(some 5), none, (.p (.fieldA 1 1 (.t 1)))⟩, ⟨(some 6), none, (.p (.load false 1 (.t 5)))⟩, ⟨(some 7), none, (.p (.len (.t 6)))⟩, ⟨(some 8), none, (.call 82 [(.t 4), (.t 7)])⟩, ⟨(some 9), none, (.p (.bin 0 .eql (.t 8) (.c (.int .i64 0))))⟩, ⟨(some 2), none, (.p (.mov (.t 9)))⟩] [[], [0], [], [2], [2, 3], [0, 1, 2, 3, 4], [0, 1, 2, 3, 4, 5], [0, 1, 2, 3, 4, 5, 6]])
 (.ret))
theorem m_zshaped_ok : compF Try.prog 93 = some (10, m_zshaped, [.mov (.t 2)]) := by kernel_rfl
def m_zlist : MC := .seq (.reg [⟨(some 4), none, (.p (.mov (.c (.nilS))))⟩, ⟨(some 5), none, (.p (.mov (.c (.int .i64 0))))⟩])
 (.seq (.seq (.reg [⟨(some 11), none, (.p (.mov (.t 0)))⟩, ⟨(some 12), none, (.p (.mov (.t 1)))⟩, ⟨(some 13), none, (.call 82 [(.t 11), (.t 12)])⟩, ⟨(some 6), none, (.p (.mov (.t 13)))⟩])
 (.seq (.reg [⟨(some 14), none, (.p (.mov (.t 6)))⟩, ⟨(some 15), none, (.p (.bin 0 .neq (.t 14) (.c (.int .i64 0))))⟩])
 (.cond (.t 15) (.seq (.reg [⟨(some 16), none, (.p (.mov (.t 6)))⟩, ⟨(some 4), none, (.p (.mov (.c (.nilS))))⟩, ⟨(some 5), none, (.p (.mov (.t 16)))⟩])
 (.ret)) (.skip))))
 (.seq (.reg [⟨(some 7), none, (.p (.mov (.c (.nilS))))⟩])
 (.seq (.seq (.reg [⟨(some 8), none, (.p (.mov (.c (.int .i64 0))))⟩])
 (.block 0 (.loop (.seq (.seq (.reg [⟨(some 17), none, (.p (.mov (.t 8)))⟩, ⟨(some 18), none, (.p (.mov (.t 0)))⟩, ⟨(some 19), none, (.p (.len (.t 18)))⟩, ⟨(some 20), none, (.p (.bin 0 .lss (.t 17) (.t 19)))⟩])
 (.cond (.t 20) (.skip) (.exit 0)))
 (.seq (.block 1 (.seq (.reg [⟨(some 9), none, (.p (.mov (.c (.int .i64 0))))⟩])
 (.block 2 (.loop (.seq (.seq (.reg [⟨(some 23), none, (.p (.mov (.t 9)))⟩, ⟨(some 24), none, (.p (.bin 0 .mul (.t 23) (.c (.int .i64 8))))⟩, ⟨(some 25), none, (.p (.mov (.t 0)))⟩, ⟨(some 26), none, (.p (.mov (.t 8)))⟩, ⟨(some 27), none, (.p (.idxA 1 (.t 25) (.t 26)))⟩, ⟨(some 28), none, (.p (.load false 1 (.t 27)))⟩, ⟨(some 29), none, (.p (.bin 0 .lss (.t 24) (.t 28)))⟩])
 (.cond (.t 29) (.skip) (.exit 2)))
 (.seq (.block 3 (.reg [⟨(some 32), none, (.p (.mov (.t 7)))⟩, ⟨(some 33), none, (.p (.mov (.t 8)))⟩, ⟨(some 34), none, (.p (.mov (.t 9)))⟩, ⟨(some 35), none, (.m (.build none [.int .i64 0, .int .i64 0] [(0, (.t 33)), (1, (.t 34))]))⟩, ⟨(some 36), none, (.m (.buildS 39 2 (.agg [.int .i64 0, .int .i64 0]) 1 [(0, (.t 35))]))⟩, ⟨(some 37), none, (.m (.app 39 2 16 (.t 32) (.t 36)))⟩, ⟨(some 7), none, (.p (.mov (.t 37)))⟩]))
 (.reg [⟨(some 30), none, (.p (.mov (.t 9)))⟩, ⟨(some 31), none, (.p (.bin 0 .add (.t 30) (.c (.int .i64 1))))⟩, ⟨(some 9), none, (.p (.mov (.t 31)))⟩])))))))
 (.reg [⟨(some 21), none, (.p (.mov (.t 8)))⟩, ⟨(some 22), none, (.p (.bin 0 .add (.t 21) (.c (.int .i64 1))))⟩, ⟨(some 8), none, (.p (.mov (.t 22)))⟩]))))))
 (.seq (.seq (.reg [⟨(some 10), none, (.p (.mov (.c (.int .i64 0))))⟩])
 (.block 4 (.loop (.seq (.seq (.reg [⟨(some 38), none, (.p (.mov (.t 10)))⟩, ⟨(some 39), none, (.p (.mov (.t 1)))⟩, ⟨(some 40), none, (.p (.bin 0 .lss (.t 38) (.t 39)))⟩])
 (.cond (.t 40) (.skip) (.exit 4)))
 (.seq (.block 5 (.reg [⟨(some 43), none, (.p (.mov (.t 7)))⟩, ⟨(some 44), none, (.p (.mov (.t 10)))⟩, ⟨(some 45), none, (.m (.build none [.int .i64 0, .int .i64 0] [(0, (.c (.int .i64 (-1)))), (1, (.t 44))]))⟩, ⟨(some 46), none, (.m (.buildS 39 2 (.agg [.int .i64 0, .int .i64 0]) 1 [(0, (.t 45))]))⟩, ⟨(some 47), none, (.m (.app 39 2 16 (.t 43) (.t 46)))⟩, ⟨(some 7), none, (.p (.mov (.t 47)))⟩]))
 (.reg [⟨(some 41), none, (.p (.mov (.t 10)))⟩, ⟨(some 42), none, (.p (.bin 0 .add (.t 41) (.c (.int .i64 1))))⟩, ⟨(some 10), none, (.p (.mov (.t 42)))⟩]))))))
 (.seq (.reg [⟨(some 48), none, (.p (.mov (.t 7)))⟩, ⟨(some 4), none, (.p (.mov (.t 48)))⟩, ⟨(some 5), none, (.p (.mov (.c (.int .i64 0))))⟩])
 (.ret))))))
theorem m_zlist_ok : compF Try.prog 40 = some (49, m_zlist, [.mov (.t 4), .mov (.t 5)]) := by kernel_rfl
def m_zcopied : MC := .seq (.reg [⟨(some 1), none, (.m (.box 43 (.t 0)))⟩, ⟨(some 2), none, (.m (.alloc 43 (.agg [.int .i64 0, .int .i64 0, .int .i64 0, .int .i64 0, .int .i64 0, .int .i64 0, .int .u16 0, .nilS])))⟩])
 (.seq (.reg [⟨(some 3), none, (.m (.buildS 84 4 (.agg [.int .u8 0, .int .u16 0, .int .i64 0, .int .i64 0]) 0 []))⟩, ⟨(some 4), none, (.p (.fieldA 7 7 (.t 1)))⟩, ⟨(some 5), none, (.p (.load false 1 (.t 4)))⟩, ⟨(some 6), none, (.m (.app 84 4 24 (.t 3) (.t 5)))⟩, ⟨(some 7), none, (.p (.fieldA 7 7 (.t 1)))⟩, ⟨none, none, (.m (.store 1 (.t 7) (.t 6)))⟩])
 (.seq (.reg [⟨(some 8), none, (.p (.load true 8 (.t 1)))⟩, ⟨none, none, (.m (.store 8 (.t 2) (.t 8)))⟩])
 (.ret)))
theorem m_zcopied_ok : compF Try.prog 88 = some (9, m_zcopied, [.load true 8 (.t 2)]) := by kernel_rfl
def m_zget : MC := .seq (.reg [⟨(some 2), none, (.m (.box 30 (.t 0)))⟩, ⟨(some 3), none, (.m (.box 39 (.t 1)))⟩, ⟨(some 4), none, (.m (.alloc 45 (.agg [.agg [.int .i64 0, .int .i64 0], .nilS, .agg [.int .i64 0, .int .i64 0, .int .i64 0, .int .i64 0, .int .i64 0, .int .i64 0, .int .u16 0, .nilS]])))⟩, ⟨(some 5), none, (.p (.mov (.c (.int .i64 0))))⟩])
 (.seq (.seq (.reg [⟨(some 8), none, (.p (.load true 2 (.t 2)))⟩, ⟨(some 9), none, (.call 93 [(.t 8)])⟩, ⟨(some 10), none, (.p (.un .not (.t 9)))⟩])
 (.cond (.t 10) (.seq (.reg [⟨(some 11), none, (.m (.build none [.agg [.int .i64 0, .int .i64 0], .nilS, .agg [.int .i64 0, .int .i64 0, .int .i64 0, .int .i64 0, .int .i64 0, .int .i64 0, .int .u16 0, .nilS]] []))⟩, ⟨none, none, (.m (.store 11 (.t 4) (.t 11)))⟩, ⟨(some 5), none, (.p (.mov (.c (.int .i64 1))))⟩])
 (.ret)) (.skip)))
 (.seq (.seq (.reg [⟨(some 12), none, (.p (.fieldA 0 0 (.t 3)))⟩, ⟨(some 13), none, (.p (.load false 1 (.t 12)))⟩, ⟨(some 14), none, (.p (.bin 0 .eql (.t 13) (.c (.int .i64 (-1)))))⟩])
 (.cond (.t 14) (.seq (.seq (.reg [⟨(some 15), none, (.p (.fieldA 1 1 (.t 3)))⟩, ⟨(some 16), none, (.p (.load false 1 (.t 15)))⟩, ⟨(some 17), none, (.p (.bin 0 .lss (.t 16) (.c (.int .i64 0))))⟩, ⟨(some 18), none, (.p (.mov (.t 17)))⟩, ⟨(some 19), (some (18, false)), (.p (.fieldA 1 1 (.t 3)))⟩, ⟨(some 20), (some (18, false)), (.p (.load false 1 (.t 19)))⟩, ⟨(some 21), (some (18, false)), (.p (.fieldA 1 1 (.t 2)))⟩, ⟨(some 22), (some (18, false)), (.p (.load false 1 (.t 21)))⟩, ⟨(some 23), (some (18, false)), (.p (.len (.t 22)))⟩, ⟨(some 24), (some (18, false)), (.p (.bin 0 .geq (.t 20) (.t 23)))⟩, ⟨(some 25), none, (.p (.pick (.t 18) (.c (.bool true)) (.t 24)))⟩])
 (.cond (.t 25) (.seq (.reg [⟨(some 26), none, (.m (.build none [.agg [.int .i64 0, .int .i64 0], .nilS, .agg [.int .i64 0, .int .i64 0, .int .i64 0, .int .i64 0, .int .i64 0, .int .i64 0, .int .u16 0, .nilS]] []))⟩, ⟨none, none, (.m (.store 11 (.t 4) (.t 26)))⟩, ⟨(some 5), none, (.p (.mov (.c (.int .i64 30))))⟩])
 (.ret)) (.skip)))
 (.seq (.dreg [⟨(some 27), none, (.p (.load true 2 (.t 3)))⟩, ⟨(some 28), none, (.p (.fieldA 1 1 (.t 2)))⟩, ⟨(some 29), none, (.p (.load false 1 (.t 28)))⟩, ⟨(some 30), none, (.p (.fieldA 1 1 (.t 3)))⟩, ⟨(some 31), none, (.p (.load false 1 (.t 30)))⟩, ⟨(some 32), none, (.p (.idxA 8 (.t 29) (.t 31)))⟩, ⟨(some 33), none, (.p (.load true 8 (.t 32)))⟩, ⟨(some 34), none, (.call 88 [(.t 33)])⟩, ⟨(some 35), none, (.m (.build none [.agg [.int .i64 0, .int .i64 0], .nilS, .agg [.int .i64 0, .int .i64 0, .int .i64 0, .int .i64 0, .int .i64 0, .int .i64 0, .int .u16 0, .nilS]] [(0, (.t 27)), (2, (.t 34))]))⟩, ⟨none, none, (.m (.store 11 (.t 4) (.t 35)))⟩, ⟨(some 5), none, (.p (.mov (.c (.int .i64 0))))⟩] [[], [], [1], [], [3], [1, 2, 3, 4], [1, 2, 3, 4, 5], [1, 2, 3, 4, 5, 6], [0, 1, 2, 3, 4, 5, 6, 7], [0, 1, 2, 3, 4, 5, 6, 7, 8], [0, 1, 2, 3, 4, 5, 6, 7, 8, 9]])
 (.ret))) (.skip)))
 (.seq (.seq (.dreg [⟨(some 36), none, (.p (.fieldA 0 0 (.t 3)))⟩, ⟨(some 37), none, (.p (.load false 1 (.t 36)))⟩, ⟨(some 38), none, (.p (.bin 0 .lss (.t 37) (.c (.int .i64 0))))⟩, ⟨(some 39), none, (.p (.mov (.t 38)))⟩, ⟨(some 40), (some (39, false)), (.p (.fieldA 0 0 (.t 3)))⟩, ⟨(some 41), (some (39, false)), (.p (.load false 1 (.t 40)))⟩, ⟨(some 42), (some (39, false)), (.p (.fieldA 0 0 (.t 2)))⟩, ⟨(some 43), (some (39, false)), (.p (.load false 1 (.t 42)))⟩, ⟨(some 44), (some (39, false)), (.p (.len (.t 43)))⟩, ⟨(some 45), (some (39, false)), (.p (.bin 0 .geq (.t 41) (.t 44)))⟩, ⟨(some 46), none, (.p (.pick (.t 39) (.c (.bool true)) (.t 45)))⟩, ⟨(some 47), none, (.p (.mov (.t 46)))⟩, ⟨(some 48), (some (47, false)), (.p (.fieldA 1 1 (.t 3)))⟩, ⟨(some 49), (some (47, false)), (.p (.load false 1 (.t 48)))⟩, ⟨(some 50), (some (47, false)), (.p (.bin 0 .lss (.t 49) (.c (.int .i64 0))))⟩, ⟨(some 51), none, (.p (.pick (.t 47) (.c (.bool true)) (.t 50)))⟩, ⟨(some 52), none, (.p (.mov (.t 51)))⟩, ⟨(some 53), (some (52, false)), (.p (.fieldA 1 1 (.t 3)))⟩, ⟨(some 54), (some (52, false)), (.p (.load false 1 (.t 53)))⟩, ⟨(some 55), (some (52, false)), (.p (.bin 0 .gtr (.t 54) (.c (.int .i64 32))))⟩, ⟨(some 56), none, (.p (.pick (.t 52) (.c (.bool true)) (.t 55)))⟩, ⟨(some 57), none, (.p (.mov (.t 56)))⟩, ⟨(some 58), (some (57, false)), (.p (.fieldA 1 1 (.t 3)))⟩, ⟨(some 59), (some (57, false)), (.p (.load false 1 (.t 58)))⟩, ⟨(some 60), (some (57, false)), (.p (.bin 0 .mul (.t 59) (.c (.int .i64 8))))⟩, ⟨(some 61), (some (57, false)), (.p (.fieldA 0 0 (.t 2)))⟩, ⟨(some 62), (some (57, false)), (.p (.load false 1 (.t 61)))⟩, ⟨(some 63), (some (57, false)), (.p (.fieldA 0 0 (.t 3)))⟩, ⟨(some 64), (some (57, false)), (.p (.load false 1 (.t 63)))⟩, ⟨(some 65), (some (57, false)), (.p (.idxA 1 (.t 62) (.t 64)))⟩, ⟨(some 66), (some (57, false)), (.p (.load false 1 (.t 65)))⟩, ⟨(some 67), (some (57, false)), (.p (.len (.t 66)))⟩, ⟨(some 68), (some (57, false)), (.p (.bin 0 .geq (.t 60) (.t 67)))⟩, ⟨(some 69), none, (.p (.pick (.t 57) (.c (.bool true)) (.t 68)))⟩] [[], [0], [0, 1], [0, 1, 2], [0, 1, 2, 3], [0, 1, 2, 3, 4], [0, 1, 2, 3], [0, 1, 2, 3, 6], [0, 1, 2, 3, 6, 7], [0, 1, 2, 3, 4, 5, 6, 7, 8], [0, 1, 2, 3, 4, 5, 6, 7, 8, 9], [0, 1, 2, 3, 4, 5, 6, 7, 8, 9, 10], [0, 1, 2, 3, 4, 5, 6, 7, 8, 9, 10, 11], [0, 1, 2, 3, 4, 5, 6, 7, 8, 9, 10, 11, 12], [0, 1, 2, 3, 4, 5, 6, 7, 8, 9, 10, 11, 12, 13], [0, 1, 2, 3, 4, 5, 6, 7, 8, 9, 10, 11, 12, 13, 14], [0, 1, 2, 3, 4, 5, 6, 7, 8, 9, 10, 11, 12, 13, 14, 15], [0, 1, 2, 3, 4, 5, 6, 7, 8, 9, 10, 11, 12, 13, 14, 15, 16], [0, 1, 2, 3, 4, 5, 6, 7, 8, 9, 10, 11, 12, 13, 14, 15, 16, 17], [0, 1, 2, 3, 4, 5, 6, 7, 8, 9, 10, 11, 12, 13, 14, 15, 16, 17, 18], [0, 1, 2, 3, 4, 5, 6, 7, 8, 9, 10, 11, 12, 13, 14, 15, 16, 17, 18, 19], [0, 1, 2, 3, 4, 5, 6, 7, 8, 9, 10, 11, 12, 13, 14, 15, 16, 17, 18, 19, 20], [0, 1, 2, 3, 4, 5, 6, 7, 8, 9, 10, 11, 12, 13, 14, 15, 16, 17, 18, 19, 20, 21], [0, 1, 2, 3, 4, 5, 6, 7, 8, 9, 10, 11, 12, 13, 14, 15, 16, 17, 18, 19, 20, 21, 22], [0, 1, 2, 3, 4, 5, 6, 7, 8, 9, 10, 11, 12, 13, 14, 15, 16, 17, 18, 19, 20, 21, 22, 23], [0, 1, 2, 3, 4, 5, 6, 7, 8, 9, 10, 11, 12, 13, 14, 15, 16, 17, 18, 19, 20, 21], [0, 1, 2, 3, 4, 5, 6, 7, 8, 9, 10, 11, 12, 13, 14, 15, 16, 17, 18, 19, 20, 21, 25], [0, 1, 2, 3, 4, 5, 6, 7, 8, 9, 10, 11, 12, 13, 14, 15, 16, 17, 18, 19, 20, 21], [0, 1, 2, 3, 4, 5, 6, 7, 8, 9, 10, 11, 12, 13, 14, 15, 16, 17, 18, 19, 20, 21, 27], [0, 1, 2, 3, 4, 5, 6, 7, 8, 9, 10, 11, 12, 13, 14, 15, 16, 17, 18, 19, 20, 21, 25, 26, 27, 28], [0, 1, 2, 3, 4, 5, 6, 7, 8, 9, 10, 11, 12, 13, 14, 15, 16, 17, 18, 19, 20, 21, 25, 26, 27, 28, 29], [0, 1, 2, 3, 4, 5, 6, 7, 8, 9, 10, 11, 12, 13, 14, 15, 16, 17, 18, 19, 20, 21, 25, 26, 27, 28, 29, 30], [0, 1, 2, 3, 4, 5, 6, 7, 8, 9, 10, 11, 12, 13, 14, 15, 16, 17, 18, 19, 20, 21, 22, 23, 24, 25, 26, 27, 28, 29, 30, 31], [0, 1, 2, 3, 4, 5, 6, 7, 8, 9, 10, 11, 12, 13, 14, 15, 16, 17, 18, 19, 20, 21, 22, 23, 24, 25, 26, 27, 28, 29, 30, 31, 32]])
 (.cond (.t 69) (.seq (.reg [⟨(some 70), none, (.m (.build none [.agg [.int .i64 0, .int .i64 0], .nilS, .agg [.int .i64 0, .int .i64 0, .int .i64 0, .int .i64 0, .int .i64 0, .int .i64 0, .int .u16 0, .nilS]] []))⟩, ⟨none, none, (.m (.store 11 (.t 4) (.t 70)))⟩, ⟨(some 5), none, (.p (.mov (.c (.int .i64 30))))⟩])
 (.ret)) (.skip)))
 (.seq (.reg [⟨(some 71), none, (.p (.fieldA 0 0 (.t 2)))⟩, ⟨(some 72), none, (.p (.load false 1 (.t 71)))⟩, ⟨(some 73), none, (.p (.fieldA 0 0 (.t 3)))⟩, ⟨(some 74), none, (.p (.load false 1 (.t 73)))⟩, ⟨(some 75), none, (.p (.idxA 1 (.t 72) (.t 74)))⟩, ⟨(some 76), none, (.p (.load false 1 (.t 75)))⟩, ⟨(some 6), none, (.p (.mov (.t 76)))⟩])
 (.seq (.reg [⟨(some 77), none, (.p (.fieldA 1 1 (.t 3)))⟩, ⟨(some 78), none, (.p (.load false 1 (.t 77)))⟩, ⟨(some 79), none, (.p (.bin 0 .mul (.t 78) (.c (.int .i64 8))))⟩, ⟨(some 7), none, (.p (.mov (.t 79)))⟩])
 (.seq (.dreg [⟨(some 80), none, (.p (.load true 2 (.t 3)))⟩, ⟨(some 81), none, (.m (.buildS 84 4 (.agg [.int .u8 0, .int .u16 0, .int .i64 0, .int .i64 0]) 0 []))⟩, ⟨(some 82), none, (.p (.mov (.t 6)))⟩, ⟨(some 83), none, (.p (.mov (.t 7)))⟩, ⟨(some 84), none, (.p (.mov (.t 7)))⟩, ⟨(some 85), none, (.p (.bin 0 .add (.t 84) (.c (.int .i64 8))))⟩, ⟨(some 86), none, (.p (.mov (.t 6)))⟩, ⟨(some 87), none, (.p (.len (.t 86)))⟩, ⟨(some 88), none, (.p (.mn (.t 85) (.t 87)))⟩, ⟨(some 89), none, (.m (.sl 4 (.t 82) (some (.t 83)) (some (.t 88)) none))⟩, ⟨(some 90), none, (.m (.app 84 4 24 (.t 81) (.t 89)))⟩, ⟨(some 91), none, (.m (.build none [.agg [.int .i64 0, .int .i64 0], .nilS, .agg [.int .i64 0, .int .i64 0, .int .i64 0, .int .i64 0, .int .i64 0, .int .i64 0, .int .u16 0, .nilS]] [(0, (.t 80)), (1, (.t 90))]))⟩, ⟨none, none, (.m (.store 11 (.t 4) (.t 91)))⟩, ⟨(some 5), none, (.p (.mov (.c (.int .i64 0))))⟩] [[], [], [], [], [], [4], [], [6], [4, 5, 6, 7], [2, 3, 4, 5, 6, 7, 8], [1, 2, 3, 4, 5, 6, 7, 8, 9], [0, 1, 2, 3, 4, 5, 6, 7, 8, 9, 10], [0, 1, 2, 3, 4, 5, 6, 7, 8, 9, 10, 11], [0, 1, 2, 3, 4, 5, 6, 7, 8, 9, 10, 11, 12]])
 (.ret)))))))
theorem m_zget_ok : compF Try.prog 52 = some (92, m_zget, [.load true 11 (.t 4), .mov (.t 5)]) := by kernel_rfl
def m_zall : MC := .seq (.reg [⟨(some 1), none, (.m (.box 30 (.t 0)))⟩, ⟨(some 2), none, (.p (.mov (.c (.nilS))))⟩, ⟨(some 3), none, (.p (.mov (.c (.int .i64 0))))⟩])
 (.seq (.dreg [⟨(some 11), none, (.p (.load true 2 (.t 1)))⟩, ⟨(some 12), none, (.call 46 [(.t 11)])⟩, ⟨(some 13), none, (.p (.fieldA 1 1 (.t 1)))⟩, ⟨(some 14), none, (.p (.load false 1 (.t 13)))⟩, ⟨(some 15), none, (.p (.len (.t 14)))⟩, ⟨(some 16), none, (.call 40 [(.t 12), (.t 15)])⟩, ⟨(some 10), none, (.p (.mov (.t 16)))⟩, ⟨(some 17), none, (.p (.ext (.t 10) 0))⟩, ⟨(some 18), none, (.p (.ext (.t 10) 1))⟩, ⟨(some 4), none, (.p (.mov (.t 17)))⟩, ⟨(some 5), none, (.p (.mov (.t 18)))⟩] [[], [0], [], [2], [2, 3], [0, 1, 2, 3, 4], [0, 1, 2, 3, 4, 5], [0, 1, 2, 3, 4, 5, 6], [0, 1, 2, 3, 4, 5, 6], [0, 1, 2, 3, 4, 5, 6, 7], [0, 1, 2, 3, 4, 5, 6, 7, 8, 9]])
 (.seq (.seq (.reg [⟨(some 19), none, (.p (.mov (.t 5)))⟩, ⟨(some 20), none, (.p (.bin 0 .neq (.t 19) (.c (.int .i64 0))))⟩])
 (.cond (.t 20) (.seq (.reg [⟨(some 2), none, (.p (.mov (.c (.nilS))))⟩, ⟨(some 3), none, (.p (.mov (.c (.int .i64 1))))⟩])
 (.ret)) (.skip)))
 (.seq (.reg [⟨(some 6), none, (.p (.mov (.c (.nilS))))⟩])
 (.seq (.seq (.reg [⟨(some 7), none, (.p (.mov (.c (.int .i64 0))))⟩])
 (.block 0 (.loop (.seq (.seq (.reg [⟨(some 21), none, (.p (.mov (.t 7)))⟩, ⟨(some 22), none, (.p (.mov (.t 4)))⟩, ⟨(some 23), none, (.p (.len (.t 22)))⟩, ⟨(some 24), none, (.p (.bin 0 .lss (.t 21) (.t 23)))⟩])
 (.cond (.t 24) (.skip) (.exit 0)))
 (.seq (.block 1 (.seq (.dreg [⟨(some 28), none, (.p (.load true 2 (.t 1)))⟩, ⟨(some 29), none, (.p (.mov (.t 4)))⟩, ⟨(some 30), none, (.p (.mov (.t 7)))⟩, ⟨(some 31), none, (.p (.idxA 2 (.t 29) (.t 30)))⟩, ⟨(some 32), none, (.p (.load true 2 (.t 31)))⟩, ⟨(some 33), none, (.call 52 [(.t 28), (.t 32)])⟩, ⟨(some 27), none, (.p (.mov (.t 33)))⟩, ⟨(some 34), none, (.p (.ext (.t 27) 0))⟩, ⟨(some 35), none, (.p (.ext (.t 27) 1))⟩, ⟨(some 8), none, (.m (.alloc 45 (.agg [.agg [.int .i64 0, .int .i64 0], .nilS, .agg [.int .i64 0, .int .i64 0, .int .i64 0, .int .i64 0, .int .i64 0, .int .i64 0, .int .u16 0, .nilS]])))⟩, ⟨none, none, (.m (.store 11 (.t 8) (.t 34)))⟩, ⟨(some 9), none, (.p (.mov (.t 35)))⟩] [[], [], [], [1, 2], [1, 2, 3], [0, 1, 2, 3, 4], [0, 1, 2, 3, 4, 5], [0, 1, 2, 3, 4, 5, 6], [0, 1, 2, 3, 4, 5, 6], [], [0, 1, 2, 3, 4, 5, 6, 7, 9], [0, 1, 2, 3, 4, 5, 6, 7, 8, 9, 10]])
 (.reg [⟨(some 36), none, (.p (.mov (.t 6)))⟩, ⟨(some 37), none, (.p (.load true 11 (.t 8)))⟩, ⟨(some 38), none, (.m (.buildS 45 11 (.agg [.agg [.int .i64 0, .int .i64 0], .nilS, .agg [.int .i64 0, .int .i64 0, .int .i64 0, .int .i64 0, .int .i64 0, .int .i64 0, .int .u16 0, .nilS]]) 1 [(0, (.t 37))]))⟩, ⟨(some 39), none, (.m (.app 45 11 120 (.t 36) (.t 38)))⟩, ⟨(some 6), none, (.p (.mov (.t 39)))⟩])))
 (.reg [⟨(some 25), none, (.p (.mov (.t 7)))⟩, ⟨(some 26), none, (.p (.bin 0 .add (.t 25) (.c (.int .i64 1))))⟩, ⟨(some 7), none, (.p (.mov (.t 26)))⟩]))))))
 (.seq (.reg [⟨(some 40), none, (.p (.mov (.t 6)))⟩, ⟨(some 2), none, (.p (.mov (.t 40)))⟩, ⟨(some 3), none, (.p (.mov (.c (.int .i64 0))))⟩])
 (.ret))))))
theorem m_zall_ok : compF Try.prog 17 = some (41, m_zall, [.mov (.t 2), .mov (.t 3)]) := by kernel_rfl
attribute [local irreducible] idsF shp
attribute [local go_sem] snoc_pid
set_option maxHeartbeats 4000000 in
theorem zsizes_fn (s : State) (L : s.regions.length ≤ 5864062014634) : Fnc Try.prog 46 [staV s] (fun x obs => x = .sl true 1 (i64s (szs s)) ∧ obs = []) := by
  have hl := szs_len s
  refine Fnc.intro m_zsizes_ok (by simp) fun W S => ?_
  unfold m_zsizes
  simp only [ents, Nat.zero_add, Nat.reduceAdd]
  refine zst ?_
  refine ev_adopt (i := 3) (e := 3) (s := 1) rfl (by decide) ?_
  refine ev_loopK [1] (fun p : {p : Nat // p ≤ s.regions.length} => [(3, .own 1 p.1), (4, .int .i64 p.1)]) (fun p => [⟨.box false 30, true, 0, staV s⟩, ⟨.row 3, true, p.1, .arr 1 (i64s ((szs s).take p.1))⟩]) (fun p => s.regions.length - p.1) (⟨0, by simp⟩) 2 (by simp only [go_sem]; rfl) ?_ (by first | rfl | (simp only [go_sem]; done)) (by simp) (by first | rfl | (simp only [go_sem]; done)) (by first | rfl | (simp only [go_sem]; done)) (by first | rfl | (simp only [go_sem]; done)) ?_
  · (simp only [go_sem]; (try simp []); done)
  intro J hJ
  rintro ⟨k, hk0⟩
  by_cases hlt : k < s.regions.length
  · have hs := szs_take s k hlt
    refine zst ?_
    refine ev_next 2 (hJ _ (⟨k + 1, hlt⟩) (by first | omega | (dsimp only; omega) | (simp; omega))) rfl (by simp) ?_ (by first | rfl | (simp only [go_sem]; done)) (by first | rfl | (simp only [go_sem]; done) | (simp only [hs]; (try simp only [go_sem]); first | done | rfl)) ?_
    · (first | rfl | (simp only [go_sem]; done) | (simp only [go_sem]; simp only [hs]; done) | (simp only [hs]; done) | (simp only [go_sem]; simp [hs]; done) | (simp [hs]; done))
    · (simp only [go_sem]; (repeat' (refine And.intro ?_ ?_)) <;> first | exact trivial | with_reducible rfl | (simp only [hs]; done) | (simp only [hs]; with_reducible rfl) | (simp [hs]; done) | (simp [hs]; omega) | (simp only [hs]; rfl) | skip)
  · obtain rfl : k = s.regions.length := by omega
    have ht : (szs s).take s.regions.length = szs s := List.take_of_length_le (by omega)
    dsimp only
    rw [ht]
    refine zst ?_
    refine ret m_zsizes_ok [] ?_; (first | (simp only [go_sem]; done) | (simp only [go_sem]; ((try dsimp only); (repeat' (refine And.intro ?_ ?_)) <;> first | with_reducible rfl | (simp only [go_sem]; done) | (simp only [go_sem]; rfl) | (simp only []; (try simp only [go_sem]); first | done | rfl) | (simp only [go_sem]; simp []; done) | (simp []; done) | rfl)))
set_option maxHeartbeats 4000000 in
theorem zcheck_fn (z : List Int) (n : Int) : Fnc Try.prog 82 [.sl false 1 (i64s z), .int .i64 n] (fun x obs => x = .int .i64 (chk z n) ∧ obs = []) := by
  refine Fnc.wf fun hw => ?_
  simp only [V.wfs, V.wf, wfs_map, List.length_map] at hw
  have hm := hw.1.2
  clear hw
  by_cases c1 : 4 < z.length
  · rw [chk_3 (.inl c1)]
    refine Fnc.intro m_zcheck_ok (by simp) fun W S => ?_
    unfold m_zcheck
    simp only [ents, Nat.zero_add, Nat.reduceAdd]
    refine zst ?_
    refine ret m_zcheck_ok [] ?_; (first | (simp only [go_sem]; done) | (simp only [go_sem]; ((try dsimp only); (repeat' (refine And.intro ?_ ?_)) <;> first | with_reducible rfl | (simp only [go_sem]; done) | (simp only [go_sem]; rfl) | (simp only []; (try simp only [go_sem]); first | done | rfl) | (simp only [go_sem]; simp []; done) | (simp []; done) | rfl)))
  by_cases c2 : 4 < n
  · rw [chk_3 (.inr c2)]
    refine Fnc.intro m_zcheck_ok (by simp) fun W S => ?_
    unfold m_zcheck
    simp only [ents, Nat.zero_add, Nat.reduceAdd]
    refine zst ?_
    refine ret m_zcheck_ok [] ?_; (first | (simp only [go_sem]; done) | (simp only [go_sem]; ((try dsimp only); (repeat' (refine And.intro ?_ ?_)) <;> first | with_reducible rfl | (simp only [go_sem]; done) | (simp only [go_sem]; rfl) | (simp only []; (try simp only [go_sem]); first | done | rfl) | (simp only [go_sem]; simp []; done) | (simp []; done) | rfl)))
  refine Fnc.intro m_zcheck_ok (by simp) fun W S => ?_
  unfold m_zcheck
  simp only [ents, Nat.zero_add, Nat.reduceAdd]
  refine zst ?_
  refine ev_loopK [0, 1] (fun p : {p : Nat // p ≤ z.length ∧ ∀ j, j < p → 1 ≤ z[j]! ∧ z[j]! ≤ 32} => [(5, .int .i64 p.1)]) (fun _ => []) (fun p => z.length - p.1) (⟨0, by simp⟩) 0 (by simp only [go_sem]; rfl) ?_ (by first | rfl | (simp only [go_sem]; done)) (by simp) (by first | rfl | (simp only [go_sem]; done)) (by first | rfl | (simp only [go_sem]; done)) (by first | rfl | (simp only [go_sem]; done)) ?_
  · (simp only [go_sem]; (try simp []); done)
  intro J hJ
  rintro ⟨k, hk0, hk1⟩
  by_cases hlt : k < z.length
  · by_cases b1 : z[k]! < 1
    · rw [chk_1' (by omega) hlt (.inl b1)]
      refine zst ?_
      refine ret m_zcheck_ok [] ?_; (first | (simp only [go_sem]; done) | (simp only [go_sem]; ((try dsimp only); (repeat' (refine And.intro ?_ ?_)) <;> first | with_reducible rfl | (simp only [go_sem]; done) | (simp only [go_sem]; rfl) | (simp only []; (try simp only [go_sem]); first | done | rfl) | (simp only [go_sem]; simp []; done) | (simp []; done) | rfl)))
    by_cases b2 : 32 < z[k]!
    · rw [chk_1' (by omega) hlt (.inr b2)]
      refine zst ?_
      refine ret m_zcheck_ok [] ?_; (first | (simp only [go_sem]; done) | (simp only [go_sem]; ((try dsimp only); (repeat' (refine And.intro ?_ ?_)) <;> first | with_reducible rfl | (simp only [go_sem]; done) | (simp only [go_sem]; rfl) | (simp only []; (try simp only [go_sem]); first | done | rfl) | (simp only [go_sem]; simp []; done) | (simp []; done) | rfl)))
    have hS : ∀ j, j < k + 1 → 1 ≤ z[j]! ∧ z[j]! ≤ 32 := fun j hj => by
      by_cases e : j = k
      · subst e; omega
      · exact hk1 j (by omega)
    refine zst ?_
    refine ev_next 0 (hJ _ (⟨k + 1, hlt, hS⟩) (by first | omega | (dsimp only; omega) | (simp; omega))) rfl (by simp) ?_ (by first | rfl | (simp only [go_sem]; done)) (by first | rfl | (simp only [go_sem]; done)) ?_
    · (first | rfl | (simp only [go_sem]; done) | (simp only [go_sem]; simp only []; done) | (simp only []; done) | (simp only [go_sem]; simp []; done) | (simp []; done))
    · (simp only [go_sem]; (repeat' (refine And.intro ?_ ?_)) <;> first | exact trivial | with_reducible rfl | (simp only []; done) | (simp only []; with_reducible rfl) | (simp []; done) | (simp []; omega) | (simp only []; rfl) | skip)
  · obtain rfl : k = z.length := by omega
    by_cases c3 : n < 0
    · rw [chk_1 (by omega) c3]
      refine zst ?_
      refine ret m_zcheck_ok [] ?_; (first | (simp only [go_sem]; done) | (simp only [go_sem]; ((try dsimp only); (repeat' (refine And.intro ?_ ?_)) <;> first | with_reducible rfl | (simp only [go_sem]; done) | (simp only [go_sem]; rfl) | (simp only []; (try simp only [go_sem]); first | done | rfl) | (simp only [go_sem]; simp []; done) | (simp []; done) | rfl)))
    · rw [chk_0 (by omega) (by omega) hk1]
      refine zst ?_
      refine ret m_zcheck_ok [] ?_; (first | (simp only [go_sem]; done) | (simp only [go_sem]; ((try dsimp only); (repeat' (refine And.intro ?_ ?_)) <;> first | with_reducible rfl | (simp only [go_sem]; done) | (simp only [go_sem]; rfl) | (simp only []; (try simp only [go_sem]); first | done | rfl) | (simp only [go_sem]; simp []; done) | (simp []; done) | rfl)))
theorem shp_def (s : State) : shp s = decide (chk (szs s) s.threads.length = 0) := by unfold shp; rfl
set_option maxHeartbeats 4000000 in
theorem zshaped_fn (s : State) (L : s.regions.length ≤ 5864062014634) : Fnc Try.prog 93 [staV s] (fun x obs => x = .bool (shp s) ∧ obs = []) := by
  have f1 := zsizes_fn s L
  have f2 := zcheck_fn (szs s) s.threads.length
  rw [shp_def]
  generalize chk (szs s) s.threads.length = c at f2
  by_cases h : c = 0
  · rw [decT h]
    refine Fnc.intro m_zshaped_ok (by simp) fun W S => ?_
    unfold m_zshaped
    simp only [ents, Nat.zero_add, Nat.reduceAdd]
    refine zst ?_
    (first | refine callD (f1) ?_ | refine callDw (f1) ?_); simp only [go_sem]
    refine zst ?_
    (first | refine callD (f2) ?_ | refine callDw (f2) ?_); simp only [go_sem]
    refine zst ?_
    refine ret m_zshaped_ok [] ?_; (first | (simp only [go_sem]; done) | (simp only [go_sem]; ((try dsimp only); (repeat' (refine And.intro ?_ ?_)) <;> first | with_reducible rfl | (simp only [go_sem]; done) | (simp only [go_sem]; rfl) | (simp only []; (try simp only [go_sem]); first | done | rfl) | (simp only [go_sem]; simp []; done) | (simp []; done) | rfl)))
  · rw [decF h]
    refine Fnc.intro m_zshaped_ok (by simp) fun W S => ?_
    unfold m_zshaped
    simp only [ents, Nat.zero_add, Nat.reduceAdd]
    refine zst ?_
    (first | refine callD (f1) ?_ | refine callDw (f1) ?_); simp only [go_sem]
    refine zst ?_
    (first | refine callD (f2) ?_ | refine callDw (f2) ?_); simp only [go_sem]
    refine zst ?_
    refine ret m_zshaped_ok [] ?_; (first | (simp only [go_sem]; done) | (simp only [go_sem]; ((try dsimp only); (repeat' (refine And.intro ?_ ?_)) <;> first | with_reducible rfl | (simp only [go_sem]; done) | (simp only [go_sem]; rfl) | (simp only []; (try simp only [go_sem]); first | done | rfl) | (simp only [go_sem]; simp []; done) | (simp []; done) | rfl)))
attribute [local irreducible] idsR idsL idsT pcn
set_option maxHeartbeats 8000000 in
theorem zlist_fn (z : List Int) (n : Int) : Fnc Try.prog 40 [.sl false 1 (i64s z), .int .i64 n] (fun x obs => x = .tup [.sl false 2 ((sList z n).1.map pidV), .int .i64 (sList z n).2] ∧ obs = []) := by
  refine Fnc.low ?_
  refine Fnc.wf fun hw => ?_
  simp only [V.wfs, V.wf, wfs_map, List.length_map] at hw
  have hm := hw.1.2
  clear hw
  have fb := zcheck_fn z n
  by_cases c0 : chk z n = 0
  rotate_left
  · have hr : sList z n = ([], chk z n) := by unfold sList; rw [if_neg c0]
    rw [hr]
    generalize chk z n = c at fb c0
    refine Fnc.intro m_zlist_ok (by simp) fun W S => ?_
    unfold m_zlist
    simp only [ents, Nat.zero_add, Nat.reduceAdd]
    refine zst ?_
    (first | refine callD (fb) ?_ | refine callDw (fb) ?_); simp only [go_sem]
    refine zst ?_
    refine ev_nil2 4 true 2 rfl ?_
    refine ret m_zlist_ok [] ?_; (first | (simp only [go_sem]; done) | (simp only [go_sem]; ((try dsimp only); (repeat' (refine And.intro ?_ ?_)) <;> first | with_reducible rfl | (simp only [go_sem]; done) | (simp only [go_sem]; rfl) | (simp only []; (try simp only [go_sem]); first | done | rfl) | (simp only [go_sem]; simp []; done) | (simp []; done) | rfl)))
  have hr : sList z n = (idsF z n, 0) := by unfold sList; rw [if_pos c0]
  obtain ⟨c1, c2, c3, hz⟩ := chk_ok c0
  rw [c0] at fb
  refine Fnc.intro m_zlist_ok (by simp) fun W S => ?_
  unfold m_zlist
  simp only [ents, Nat.zero_add, Nat.reduceAdd]
  refine zst ?_
  (first | refine callD (fb) ?_ | refine callDw (fb) ?_); simp only [go_sem]
  refine zst ?_
  refine ev_adopt (i := 7) (e := 39) (s := 2) rfl (by decide) ?_
  refine ev_loopK [0, 1] (fun p : {p : Nat // p ≤ z.length} => [(7, .own 0 (idsL z p.1).length), (8, .int .i64 p.1)]) (fun p => [⟨.row 39, true, (idsL z p.1).length, .arr 2 ((idsL z p.1).map pidV)⟩]) (fun p => z.length - p.1) (⟨0, by simp⟩) 1 (by simp only [go_sem]; rfl) ?_ (by first | rfl | (simp only [go_sem]; done) | (simp only [go_sem]; simp [idsL]; done)) (by simp) (by first | rfl | (simp only [go_sem]; done)) (by first | rfl | (simp only [go_sem]; done)) (by first | rfl | (simp only [go_sem]; done) | (simp only [idsL]; (try simp only [go_sem]); first | done | rfl)) ?_
  · (simp only [go_sem]; (try simp [idsL]); done)
  intro J hJ
  rintro ⟨p, hp⟩
  have hg := idsL_le (fun k hk => (hz k hk).2) hp
  have hJ0 := hJ
  by_cases hlt : p < z.length
  · have hzp := hz p hlt
    have hpc := pcn_le hzp.2
    have z1 : idsR p 0 = [] := idsR_zero p
    refine zst ?_
    refine ev_loopK [0, 1, 8] (fun q : {q : Nat // q ≤ pcn z[p]!} => [(7, .own 0 ((idsL z p).length + q.1)), (9, .int .i64 q.1)]) (fun q => [⟨.row 39, true, (idsL z p).length + q.1, .arr 2 ((idsL z p ++ idsR p q.1).map pidV)⟩]) (fun q => pcn z[p]! - q.1) (⟨0, by simp⟩) 1 (by simp only [go_sem]; rfl) ?_ (by first | rfl | (simp only [go_sem]; done) | (simp only [go_sem]; simp [z1, List.append_nil]; done)) (by simp) (by first | rfl | (simp only [go_sem]; done)) (by first | rfl | (simp only [go_sem]; done)) (by first | rfl | (simp only [go_sem]; done) | (simp only [z1, List.append_nil]; (try simp only [go_sem]); first | done | rfl)) ?_
    · (simp only [go_sem]; (try simp [z1, List.append_nil]); done)
    intro J hJ
    rintro ⟨q, hq⟩
    have hq' := pcn_lt (n := z[p]!) (i := q)
    have hql := idsR_len p q
    by_cases hlq : q < pcn z[p]!
    · have hq' := hq'.1 hlq
      have hs : idsL z p ++ idsR p q ++ [(⟨p, q⟩ : PageID)] = idsL z p ++ idsR p (q + 1) := by rw [List.append_assoc, idsR_snoc]
      have hgn : (idsL z p).length + q ≤ 1000 := by omega
      refine zst ?_
      refine ev_next 1 (hJ _ (⟨q + 1, hlq⟩) (by first | omega | (dsimp only; omega) | (simp; omega))) rfl (by simp) ?_ (by first | rfl | (simp only [go_sem]; done)) (by first | rfl | (simp only [go_sem]; done) | (simp only [hs, Nat.add_assoc]; (try simp only [go_sem]); first | done | rfl)) ?_
      · (first | rfl | (simp only [go_sem]; done) | (simp only [go_sem]; simp only [hs, Nat.add_assoc]; done) | (simp only [hs, Nat.add_assoc]; done) | (simp only [go_sem]; simp [hs, Nat.add_assoc]; done) | (simp [hs, Nat.add_assoc]; done))
      · (simp only [go_sem]; (repeat' (refine And.intro ?_ ?_)) <;> first | exact trivial | with_reducible rfl | (simp only [hs, Nat.add_assoc]; done) | (simp only [hs, Nat.add_assoc]; with_reducible rfl) | (simp [hs, Nat.add_assoc]; done) | (simp [hs, Nat.add_assoc]; omega) | (simp only [hs, Nat.add_assoc]; rfl) | skip)
    · have hq' : ¬ 8 * (q : Int) < z[p]! := fun h => hlq (hq'.2 h)
      obtain rfl : q = pcn z[p]! := by omega
      have hJ := hJ0
      have hs := idsL_snoc z p
      have hpc4 : pcn z[p]! ≤ 4 := hpc
      have hgl : (idsL z p).length + pcn z[p]! = (idsL z (p + 1)).length := by rw [← hs, List.length_append, hql]
      dsimp only
      rw [hs, hgl]
      refine zst ?_
      refine ev_next 1 (hJ _ (⟨p + 1, hlt⟩) (by first | omega | (dsimp only; omega) | (simp; omega))) rfl (by simp) ?_ (by first | rfl | (simp only [go_sem]; done)) (by first | rfl | (simp only [go_sem]; done)) ?_
      · (first | rfl | (simp only [go_sem]; done) | (simp only [go_sem]; simp only []; done) | (simp only []; done) | (simp only [go_sem]; simp []; done) | (simp []; done))
      · (simp only [go_sem]; (repeat' (refine And.intro ?_ ?_)) <;> first | exact trivial | with_reducible rfl | (simp only []; done) | (simp only []; with_reducible rfl) | (simp []; done) | (simp []; omega) | (simp only []; rfl) | skip)
  · obtain rfl : p = z.length := by omega
    have z1 : idsT 0 = [] := idsT_zero
    refine zst ?_
    refine ev_loopK [1] (fun q : {q : Nat // (q : Int) ≤ n} => [(7, .own 0 ((idsL z z.length).length + q.1)), (10, .int .i64 q.1)]) (fun q => [⟨.row 39, true, (idsL z z.length).length + q.1, .arr 2 ((idsL z z.length ++ idsT q.1).map pidV)⟩]) (fun q => n.toNat - q.1) (⟨0, by omega⟩) 1 (by simp only [go_sem]; rfl) ?_ (by first | rfl | (simp only [go_sem]; done) | (simp only [go_sem]; simp [z1, List.append_nil]; done)) (by simp) (by first | rfl | (simp only [go_sem]; done)) (by first | rfl | (simp only [go_sem]; done)) (by first | rfl | (simp only [go_sem]; done) | (simp only [z1, List.append_nil]; (try simp only [go_sem]); first | done | rfl)) ?_
    · (simp only [go_sem]; (try simp [z1, List.append_nil]); done)
    intro J hJ
    rintro ⟨q, hq⟩
    have hql := idsT_len q
    by_cases hlq : (q : Int) < n
    · have hs : idsL z z.length ++ idsT q ++ [(⟨-1, q⟩ : PageID)] = idsL z z.length ++ idsT (q + 1) := by rw [List.append_assoc, idsT_snoc]
      have hgn : (idsL z z.length).length + q ≤ 1000 := by omega
      refine zst ?_
      refine ev_next 1 (hJ _ (⟨q + 1, by omega⟩) (by first | omega | (dsimp only; omega) | (simp; omega))) rfl (by simp) ?_ (by first | rfl | (simp only [go_sem]; done)) (by first | rfl | (simp only [go_sem]; done) | (simp only [hs, Nat.add_assoc]; (try simp only [go_sem]); first | done | rfl)) ?_
      · (first | rfl | (simp only [go_sem]; done) | (simp only [go_sem]; simp only [hs, Nat.add_assoc]; done) | (simp only [hs, Nat.add_assoc]; done) | (simp only [go_sem]; simp [hs, Nat.add_assoc]; done) | (simp [hs, Nat.add_assoc]; done))
      · (simp only [go_sem]; (repeat' (refine And.intro ?_ ?_)) <;> first | exact trivial | with_reducible rfl | (simp only [hs, Nat.add_assoc]; done) | (simp only [hs, Nat.add_assoc]; with_reducible rfl) | (simp [hs, Nat.add_assoc]; done) | (simp [hs, Nat.add_assoc]; omega) | (simp only [hs, Nat.add_assoc]; rfl) | skip)
    · obtain rfl : q = n.toNat := by omega
      have hF : idsL z z.length ++ idsT n.toNat = idsF z n := by unfold idsF; rfl
      dsimp only
      rw [hF]
      refine zst ?_
      refine ret m_zlist_ok [] ?_; (first | (simp only [go_sem]; done) | (simp only [go_sem]; ((try dsimp only); (repeat' (refine And.intro ?_ ?_)) <;> first | with_reducible rfl | (simp only [go_sem]; done) | (simp only [go_sem]; rfl) | (simp only [go_sem, hr]; done) | (simp only [hr]; (try simp only [go_sem]); first | done | rfl) | (simp only [go_sem]; simp [hr]; done) | (simp [hr]; done) | rfl)))
set_option maxHeartbeats 4000000 in
theorem zcopied_fn (v : View) (h : v.regs.length ≤ 5864062014634) : Fnc Try.prog 88 [viewV false v] (fun x obs => x = viewV true v ∧ obs = []) := by
  refine Fnc.intro m_zcopied_ok (by simp) fun W S => ?_
  unfold m_zcopied
  simp only [ents, Nat.zero_add, Nat.reduceAdd]
  refine zst ?_
  refine ret m_zcopied_ok [] ?_; (first | (simp only [go_sem]; done) | (simp only [go_sem]; ((try dsimp only); (repeat' (refine And.intro ?_ ?_)) <;> first | with_reducible rfl | (simp only [go_sem]; done) | (simp only [go_sem]; rfl) | (simp only []; (try simp only [go_sem]); first | done | rfl) | (simp only [go_sem]; simp []; done) | (simp []; done) | rfl)))
set_option maxHeartbeats 8000000 in
theorem zget_fn (s : State) (d : PageID) (L : LowS s) : Fnc Try.prog 52 [staV s, pidV d] (fun x obs => x = .tup [pgV true (sGet s d).1, .int .i64 (sGet s d).2] ∧ obs = []) := by
  have f1 := zshaped_fn s L.r
  refine Fnc.wf fun hw => ?_
  simp only [V.wfs, V.wf, wfs_map, List.length_map] at hw
  have hi := inK_i64' hw.2.1.2.1
  clear hw
  cases c1 : shp s with
  | false =>
    rw [c1] at f1
    rw [sGet_1 c1]
    refine Fnc.intro m_zget_ok (by simp) fun W S => ?_
    unfold m_zget
    simp only [ents, Nat.zero_add, Nat.reduceAdd]
    refine zst ?_
    (first | refine callD (f1) ?_ | refine callDw (f1) ?_); simp only [go_sem]
    refine zst ?_
    refine ev_obSub 2 _ rfl (zpg_sub true) rfl ?_
    refine ret m_zget_ok [] ?_; (first | (simp only [go_sem]; done) | (simp only [go_sem]; ((try dsimp only); (repeat' (refine And.intro ?_ ?_)) <;> first | with_reducible rfl | (simp only [go_sem]; done) | (simp only [go_sem]; rfl) | (simp only []; (try simp only [go_sem]); first | done | rfl) | (simp only [go_sem]; simp []; done) | (simp []; done) | rfl)))
  | true =>
    rw [c1] at f1
    have H := shp_to c1
    have Hr := H.r
    have Ht := H.t
    by_cases c0 : d.region = -1
    · by_cases c2 : 0 ≤ d.index
      · by_cases c3 : d.index < s.threads.length
        · rw [sGet_0 c1 (.inl ⟨c0, c2, c3⟩), show getP s d = ⟨d, [], s.threads[d.index.toNat]!⟩ from if_pos c0]
          have fv := zcopied_fn s.threads[d.index.toNat]! (L.g _ (mem_at (by omega)))
          refine Fnc.intro m_zget_ok (by simp) fun W S => ?_
          unfold m_zget
          simp only [ents, Nat.zero_add, Nat.reduceAdd]
          refine zst ?_
          (first | refine callD (f1) ?_ | refine callDw (f1) ?_); simp only [go_sem]
          refine zst ?_
          (first | refine callD (fv) ?_ | refine callDw (fv) ?_); simp only [go_sem]
          refine zst ?_
          refine ev_obSub 2 _ rfl (pg_subT _ _) rfl ?_
          refine ret m_zget_ok [] ?_; (first | (simp only [go_sem]; done) | (simp only [go_sem]; ((try dsimp only); (repeat' (refine And.intro ?_ ?_)) <;> first | with_reducible rfl | (simp only [go_sem]; done) | (simp only [go_sem]; rfl) | (simp only []; (try simp only [go_sem]); first | done | rfl) | (simp only [go_sem]; simp []; done) | (simp []; done) | rfl)))
        · rw [sGet_30 c1 (fun h => by unfold There at h; omega)]
          refine Fnc.intro m_zget_ok (by simp) fun W S => ?_
          unfold m_zget
          simp only [ents, Nat.zero_add, Nat.reduceAdd]
          refine zst ?_
          (first | refine callD (f1) ?_ | refine callDw (f1) ?_); simp only [go_sem]
          refine zst ?_
          refine ev_obSub 2 _ rfl (zpg_sub true) rfl ?_
          refine ret m_zget_ok [] ?_; (first | (simp only [go_sem]; done) | (simp only [go_sem]; ((try dsimp only); (repeat' (refine And.intro ?_ ?_)) <;> first | with_reducible rfl | (simp only [go_sem]; done) | (simp only [go_sem]; rfl) | (simp only []; (try simp only [go_sem]); first | done | rfl) | (simp only [go_sem]; simp []; done) | (simp []; done) | rfl)))
      · rw [sGet_30 c1 (fun h => by unfold There at h; omega)]
        refine Fnc.intro m_zget_ok (by simp) fun W S => ?_
        unfold m_zget
        simp only [ents, Nat.zero_add, Nat.reduceAdd]
        refine zst ?_
        (first | refine callD (f1) ?_ | refine callDw (f1) ?_); simp only [go_sem]
        refine zst ?_
        refine ev_obSub 2 _ rfl (zpg_sub true) rfl ?_
        refine ret m_zget_ok [] ?_; (first | (simp only [go_sem]; done) | (simp only [go_sem]; ((try dsimp only); (repeat' (refine And.intro ?_ ?_)) <;> first | with_reducible rfl | (simp only [go_sem]; done) | (simp only [go_sem]; rfl) | (simp only []; (try simp only [go_sem]); first | done | rfl) | (simp only [go_sem]; simp []; done) | (simp []; done) | rfl)))
    by_cases c2 : 0 ≤ d.region
    rotate_left
    · rw [sGet_30 c1 (fun h => by unfold There at h; omega)]
      refine Fnc.intro m_zget_ok (by simp) fun W S => ?_
      unfold m_zget
      simp only [ents, Nat.zero_add, Nat.reduceAdd]
      refine zst ?_
      (first | refine callD (f1) ?_ | refine callDw (f1) ?_); simp only [go_sem]
      refine zst ?_
      refine ev_obSub 2 _ rfl (zpg_sub true) rfl ?_
      refine ret m_zget_ok [] ?_; (first | (simp only [go_sem]; done) | (simp only [go_sem]; ((try dsimp only); (repeat' (refine And.intro ?_ ?_)) <;> first | with_reducible rfl | (simp only [go_sem]; done) | (simp only [go_sem]; rfl) | (simp only []; (try simp only [go_sem]); first | done | rfl) | (simp only [go_sem]; simp []; done) | (simp []; done) | rfl)))
    by_cases c3 : d.region < s.regions.length
    rotate_left
    · rw [sGet_30 c1 (fun h => by unfold There at h; omega)]
      refine Fnc.intro m_zget_ok (by simp) fun W S => ?_
      unfold m_zget
      simp only [ents, Nat.zero_add, Nat.reduceAdd]
      refine zst ?_
      (first | refine callD (f1) ?_ | refine callDw (f1) ?_); simp only [go_sem]
      refine zst ?_
      refine ev_obSub 2 _ rfl (zpg_sub true) rfl ?_
      refine ret m_zget_ok [] ?_; (first | (simp only [go_sem]; done) | (simp only [go_sem]; ((try dsimp only); (repeat' (refine And.intro ?_ ?_)) <;> first | with_reducible rfl | (simp only [go_sem]; done) | (simp only [go_sem]; rfl) | (simp only []; (try simp only [go_sem]); first | done | rfl) | (simp only [go_sem]; simp []; done) | (simp []; done) | rfl)))
    by_cases c4 : 0 ≤ d.index
    rotate_left
    · rw [sGet_30 c1 (fun h => by unfold There at h; omega)]
      refine Fnc.intro m_zget_ok (by simp) fun W S => ?_
      unfold m_zget
      simp only [ents, Nat.zero_add, Nat.reduceAdd]
      refine zst ?_
      (first | refine callD (f1) ?_ | refine callDw (f1) ?_); simp only [go_sem]
      refine zst ?_
      refine ev_obSub 2 _ rfl (zpg_sub true) rfl ?_
      refine ret m_zget_ok [] ?_; (first | (simp only [go_sem]; done) | (simp only [go_sem]; ((try dsimp only); (repeat' (refine And.intro ?_ ?_)) <;> first | with_reducible rfl | (simp only [go_sem]; done) | (simp only [go_sem]; rfl) | (simp only []; (try simp only [go_sem]); first | done | rfl) | (simp only [go_sem]; simp []; done) | (simp []; done) | rfl)))
    by_cases c5 : d.index ≤ 32
    rotate_left
    · rw [sGet_30 c1 (fun h => by unfold There at h; omega)]
      refine Fnc.intro m_zget_ok (by simp) fun W S => ?_
      unfold m_zget
      simp only [ents, Nat.zero_add, Nat.reduceAdd]
      refine zst ?_
      (first | refine callD (f1) ?_ | refine callDw (f1) ?_); simp only [go_sem]
      refine zst ?_
      refine ev_obSub 2 _ rfl (zpg_sub true) rfl ?_
      refine ret m_zget_ok [] ?_; (first | (simp only [go_sem]; done) | (simp only [go_sem]; ((try dsimp only); (repeat' (refine And.intro ?_ ?_)) <;> first | with_reducible rfl | (simp only [go_sem]; done) | (simp only [go_sem]; rfl) | (simp only []; (try simp only [go_sem]); first | done | rfl) | (simp only [go_sem]; simp []; done) | (simp []; done) | rfl)))
    have hz := H.z d.region.toNat (by omega)
    by_cases c6 : 8 * d.index < s.regions[d.region.toNat]!.length
    rotate_left
    · rw [sGet_30 c1 (fun h => by unfold There at h; omega)]
      refine Fnc.intro m_zget_ok (by simp) fun W S => ?_
      unfold m_zget
      simp only [ents, Nat.zero_add, Nat.reduceAdd]
      refine zst ?_
      (first | refine callD (f1) ?_ | refine callDw (f1) ?_); simp only [go_sem]
      refine zst ?_
      refine ev_obSub 2 _ rfl (zpg_sub true) rfl ?_
      refine ret m_zget_ok [] ?_; (first | (simp only [go_sem]; done) | (simp only [go_sem]; ((try dsimp only); (repeat' (refine And.intro ?_ ?_)) <;> first | with_reducible rfl | (simp only [go_sem]; done) | (simp only [go_sem]; rfl) | (simp only []; (try simp only [go_sem]); first | done | rfl) | (simp only [go_sem]; simp []; done) | (simp []; done) | rfl)))
    have hp := prt_yes (l := s.regions[d.region.toNat]!) c4 c5
    have hl := prt_len s.regions[d.region.toNat]! d.index
    have h8 : d.index * 8 = 8 * d.index := Int.mul_comm _ _
    rw [sGet_0 c1 (.inr ⟨c2, c3, c4, c5, c6⟩), show getP s d = ⟨d, prt s.regions[d.region.toNat]! d.index, zvw⟩ from if_neg c0]
    by_cases c7 : 8 * d.index + 8 ≤ (s.regions[d.region.toNat]!.length : Int)
    · rw [show min (8 * d.index + 8) (s.regions[d.region.toNat]!.length : Int) = 8 * d.index + 8 by omega] at hp
      have hD : ((s.regions[d.region.toNat]!.map canonV).take (d.index * 8 + 8).toNat).drop (d.index * 8).toNat = (prt s.regions[d.region.toNat]! d.index).map canonV := by rw [h8, hp, List.map_drop, List.map_take]
      refine Fnc.intro m_zget_ok (by simp) fun W S => ?_
      unfold m_zget
      simp only [ents, Nat.zero_add, Nat.reduceAdd]
      refine zst ?_
      (first | refine callD (f1) ?_ | refine callDw (f1) ?_); refine zev ?_
      refine zso ?_
      refine ev_draw (fu := fu8) mixed [] 0 rfl (by kernel_rfl) ?_; simp only [go_sem]
      refine zso ?_
      refine ev_draw (fu := fu8) mixed [1] 1 rfl (by kernel_rfl) ?_; simp only [go_sem]
      repeat (first | (simp only [hD]; try simp only [go_sem]) | refine And.intro (by omega) ?_ | refine And.intro rfl ?_ | refine ev_ctl rfl rfl ?_ | refine evr_nil ?_ | refine evw_nil (by kernel_rfl) ?_ | (simp (disch := omega) only [takeAll, Nat.min_eq_left, Nat.min_eq_right, if_pos, if_neg, getD_map, wrapI64, modIn, fdivE, tmodE, tdivE, decT, decF, beqT, beqF, bneT, bneF, Int.toNat_natCast]; try simp only [go_sem]) | (refine ev_condTb rfl ?_ ?_; · (simp <;> omega)) | (refine ev_condFb rfl ?_ ?_; · (simp <;> omega)) | ((first | refine ev_region ?_ | refine evr_go rfl ?_ | refine evw_gom [1] rfl ?_ | refine ev_dr0 mixed rfl (by kernel_rfl) ?_ | refine ev_dr1 mixed rfl (by kernel_rfl) ?_ | refine ev_dr2 mixed rfl (by kernel_rfl) ?_); simp only [go_sem]))
      refine ev_frzBox 2 1 3 rfl rfl rfl ?_
      simp only [go_sem]
      refine ev_obSub 2 _ rfl (pg_subR _ _) rfl ?_
      refine ret m_zget_ok [] ?_; (first | (simp only [go_sem]; done) | (simp only [go_sem]; ((try dsimp only); (repeat' (refine And.intro ?_ ?_)) <;> first | with_reducible rfl | (simp only [go_sem]; done) | (simp only [go_sem]; rfl) | (simp only []; (try simp only [go_sem]); first | done | rfl) | (simp only [go_sem]; simp []; done) | (simp []; done) | rfl)))
    · rw [show min (8 * d.index + 8) (s.regions[d.region.toNat]!.length : Int) = s.regions[d.region.toNat]!.length by omega] at hp
      have hD : ((s.regions[d.region.toNat]!.map canonV).take s.regions[d.region.toNat]!.length).drop (d.index * 8).toNat = (prt s.regions[d.region.toNat]! d.index).map canonV := by rw [h8, hp, Int.toNat_natCast, List.map_drop, List.map_take]
      refine Fnc.intro m_zget_ok (by simp) fun W S => ?_
      unfold m_zget
      simp only [ents, Nat.zero_add, Nat.reduceAdd]
      refine zst ?_
      (first | refine callD (f1) ?_ | refine callDw (f1) ?_); refine zev ?_
      refine zso ?_
      refine ev_draw (fu := fu8) mixed [] 0 rfl (by kernel_rfl) ?_; simp only [go_sem]
      refine zso ?_
      refine ev_draw (fu := fu8) mixed [1] 1 rfl (by kernel_rfl) ?_; simp only [go_sem]
      repeat (first | (simp only [hD]; try simp only [go_sem]) | refine And.intro (by omega) ?_ | refine And.intro rfl ?_ | refine ev_ctl rfl rfl ?_ | refine evr_nil ?_ | refine evw_nil (by kernel_rfl) ?_ | (simp (disch := omega) only [takeAll, Nat.min_eq_left, Nat.min_eq_right, if_pos, if_neg, getD_map, wrapI64, modIn, fdivE, tmodE, tdivE, decT, decF, beqT, beqF, bneT, bneF, Int.toNat_natCast]; try simp only [go_sem]) | (refine ev_condTb rfl ?_ ?_; · (simp <;> omega)) | (refine ev_condFb rfl ?_ ?_; · (simp <;> omega)) | ((first | refine ev_region ?_ | refine evr_go rfl ?_ | refine evw_gom [1] rfl ?_ | refine ev_dr0 mixed rfl (by kernel_rfl) ?_ | refine ev_dr1 mixed rfl (by kernel_rfl) ?_ | refine ev_dr2 mixed rfl (by kernel_rfl) ?_); simp only [go_sem]))
      refine ev_frzBox 2 1 3 rfl rfl rfl ?_
      simp only [go_sem]
      refine ev_obSub 2 _ rfl (pg_subR _ _) rfl ?_
      refine ret m_zget_ok [] ?_; (first | (simp only [go_sem]; done) | (simp only [go_sem]; ((try dsimp only); (repeat' (refine And.intro ?_ ?_)) <;> first | with_reducible rfl | (simp only [go_sem]; done) | (simp only [go_sem]; rfl) | (simp only []; (try simp only [go_sem]); first | done | rfl) | (simp only [go_sem]; simp []; done) | (simp []; done) | rfl)))
set_option maxHeartbeats 8000000 in
theorem zall_fn (s : State) (L : LowS s) : Fnc Try.prog 17 [staV s] (fun x obs => x = .tup [.sl true 11 ((sAll s).1.map (pgV true)), .int .i64 (sAll s).2] ∧ obs = []) := by
  have f2 := zsizes_fn s L.r
  have f3 := zlist_fn (szs s) s.threads.length
  cases c1 : shp s with
  | false =>
    have hc : chk (szs s) s.threads.length ≠ 0 := fun h => by rw [shp_def, decT h] at c1; cases c1
    rw [show sList (szs s) s.threads.length = ([], chk (szs s) s.threads.length) from if_neg hc] at f3
    rw [sAll_1 c1]
    generalize chk (szs s) s.threads.length = c at f3 hc
    refine Fnc.intro m_zall_ok (by simp) fun W S => ?_
    unfold m_zall
    simp only [ents, Nat.zero_add, Nat.reduceAdd]
    refine zst ?_
    (first | refine callD (f2) ?_ | refine callDw (f2) ?_); simp only [go_sem]
    refine zst ?_
    (first | refine callD (f3) ?_ | refine callDw (f3) ?_); simp only [go_sem]
    refine zst ?_
    refine ev_nil2 2 true 11 rfl ?_
    refine ret m_zall_ok [] ?_; (first | (simp only [go_sem]; done) | (simp only [go_sem]; ((try dsimp only); (repeat' (refine And.intro ?_ ?_)) <;> first | with_reducible rfl | (simp only [go_sem]; done) | (simp only [go_sem]; rfl) | (simp only []; (try simp only [go_sem]); first | done | rfl) | (simp only [go_sem]; simp []; done) | (simp []; done) | rfl)))
  | true =>
    rw [sAll_0 c1]
    rw [sList_sh c1] at f3
    have hn := idsF_le' c1
    have hT : ∀ k, k < (idsF (szs s) s.threads.length).length → There s (idsF (szs s) s.threads.length)[k]! := fun k hk => mem_idsF (mem_at hk) (shp_to c1)
    have hP : pgs s = (idsF (szs s) s.threads.length).map (getP s) := rfl
    generalize idsF (szs s) s.threads.length = D at f3 hn hT hP
    rw [hP]
    refine Fnc.intro m_zall_ok (by simp) fun W S => ?_
    unfold m_zall
    simp only [ents, Nat.zero_add, Nat.reduceAdd]
    refine zst ?_
    (first | refine callD (f2) ?_ | refine callDw (f2) ?_); simp only [go_sem]
    refine zst ?_
    (first | refine callD (f3) ?_ | refine callDw (f3) ?_); simp only [go_sem]
    refine zst ?_
    refine ev_adopt (i := 6) (e := 45) (s := 11) rfl (by decide) ?_
    refine ev_loopK [1, 4] (fun p : {p : Nat // p ≤ D.length} => [(6, .own 1 p.1), (7, .int .i64 p.1)]) (fun p => [⟨.box false 30, true, 0, staV s⟩, ⟨.row 45, true, p.1, .arr 11 (((D.take p.1).map (getP s)).map (pgV true))⟩]) (fun p => D.length - p.1) (⟨0, by simp⟩) 2 (by simp only [go_sem]; rfl) ?_ (by first | rfl | (simp only [go_sem]; done)) (by simp) (by first | rfl | (simp only [go_sem]; done)) (by first | rfl | (simp only [go_sem]; done)) (by first | rfl | (simp only [go_sem]; done)) ?_
    · (simp only [go_sem]; (try simp []); done)
    intro J hJ
    rintro ⟨k, hk0⟩
    by_cases hlt : k < D.length
    · have f4 := zget_fn s D[k]! L
      rw [sGet_0 c1 (hT k hlt)] at f4
      have hs : ((D.take k).map (getP s)).map (pgV true) ++ [pgV true (getP s D[k]!)] = ((D.take (k + 1)).map (getP s)).map (pgV true) := by rw [take_snoc hlt, List.map_append, List.map_append]; rfl
      have hgl : ((D.take k).map (getP s)).length = k := by rw [List.length_map, List.length_take]; omega
      refine zst ?_
      (first | refine callD (f4) ?_ | refine callDw (f4) ?_); simp only [go_sem]
      refine zst ?_
      refine ev_next 2 (hJ _ (⟨k + 1, hlt⟩) (by first | omega | (dsimp only; omega) | (simp; omega))) rfl (by simp) ?_ (by first | rfl | (simp only [go_sem]; done)) (by first | rfl | (simp only [go_sem]; done) | (simp only [hs]; (try simp only [go_sem]); first | done | rfl)) ?_
      · (first | rfl | (simp only [go_sem]; done) | (simp only [go_sem]; simp only [hs]; done) | (simp only [hs]; done) | (simp only [go_sem]; simp [hs]; done) | (simp [hs]; done))
      · (simp only [go_sem]; (repeat' (refine And.intro ?_ ?_)) <;> first | exact trivial | with_reducible rfl | (simp only [hs]; done) | (simp only [hs]; with_reducible rfl) | (simp [hs]; done) | (simp [hs]; omega) | (simp only [hs]; rfl) | skip)
    · obtain rfl : k = D.length := by omega
      dsimp only
      rw [List.take_length]
      refine zst ?_
      refine ret m_zall_ok [] ?_; (first | (simp only [go_sem]; done) | (simp only [go_sem]; ((try dsimp only); (repeat' (refine And.intro ?_ ?_)) <;> first | with_reducible rfl | (simp only [go_sem]; done) | (simp only [go_sem]; rfl) | (simp only []; (try simp only [go_sem]); first | done | rfl) | (simp only [go_sem]; simp []; done) | (simp []; done) | rfl)))
end Go.Proofs.Ytcphobeommkgeaa
