/- Trees: the reference. -/
import Derived.Test.YtcphobeommkgeaaM5
import Derived.Test.YtcphobeommkgeaaZt
import Derived.Test.YtcphobeommkgeaaSub
namespace Go.Proofs.Ytcphobeommkgeaa
open Go Go.RowKit Rdn Rdn.Dp
set_option linter.unusedVariables false
set_option linter.unusedSimpArgs false
def m_rup : MC := .seq (.reg [⟨(some 2), none, (.p (.mov (.c (.nilS))))⟩])
 (.seq (.reg [⟨(some 3), none, (.p (.mov (.c (.nilS))))⟩])
 (.seq (.seq (.reg [⟨(some 4), none, (.p (.mov (.c (.int .i64 0))))⟩])
 (.block 0 (.loop (.seq (.seq (.reg [⟨(some 5), none, (.p (.mov (.t 4)))⟩, ⟨(some 6), none, (.p (.mov (.t 0)))⟩, ⟨(some 7), none, (.p (.len (.t 6)))⟩, ⟨(some 8), none, (.p (.bin 0 .lss (.t 5) (.t 7)))⟩])
 (.cond (.t 8) (.skip) (.exit 0)))
 (.seq (.block 1 (.seq (.reg [⟨(some 11), none, (.p (.mov (.t 4)))⟩, ⟨(some 12), none, (.p (.bin 0 .add (.t 11) (.c (.int .i64 1))))⟩, ⟨(some 13), none, (.p (.mov (.t 0)))⟩, ⟨(some 14), none, (.p (.len (.t 13)))⟩, ⟨(some 15), none, (.p (.bin 0 .lss (.t 12) (.t 14)))⟩])
 (.cond (.t 15) (.dreg [⟨(some 16), none, (.p (.mov (.t 3)))⟩, ⟨(some 17), none, (.p (.mov (.t 0)))⟩, ⟨(some 18), none, (.p (.mov (.t 4)))⟩, ⟨(some 19), none, (.p (.idxA 1 (.t 17) (.t 18)))⟩, ⟨(some 20), none, (.p (.load false 1 (.t 19)))⟩, ⟨(some 21), none, (.p (.mov (.t 0)))⟩, ⟨(some 22), none, (.p (.mov (.t 4)))⟩, ⟨(some 23), none, (.p (.bin 0 .add (.t 22) (.c (.int .i64 1))))⟩, ⟨(some 24), none, (.p (.idxA 1 (.t 21) (.t 23)))⟩, ⟨(some 25), none, (.p (.load false 1 (.t 24)))⟩, ⟨(some 26), none, (.call 98 [(.t 20), (.t 25)])⟩, ⟨(some 27), none, (.m (.buildS 54 1 (.int .u32 0) 1 [(0, (.t 26))]))⟩, ⟨(some 28), none, (.m (.app 54 1 4 (.t 16) (.t 27)))⟩, ⟨(some 3), none, (.p (.mov (.t 28)))⟩] [[], [], [], [1, 2], [1, 2, 3], [], [], [6], [5, 6, 7], [5, 6, 7, 8], [1, 2, 3, 4, 5, 6, 7, 8, 9], [1, 2, 3, 4, 5, 6, 7, 8, 9, 10], [0, 1, 2, 3, 4, 5, 6, 7, 8, 9, 10, 11], [0, 1, 2, 3, 4, 5, 6, 7, 8, 9, 10, 11, 12]]) (.reg [⟨(some 29), none, (.p (.mov (.t 3)))⟩, ⟨(some 30), none, (.p (.mov (.t 0)))⟩, ⟨(some 31), none, (.p (.mov (.t 4)))⟩, ⟨(some 32), none, (.p (.idxA 1 (.t 30) (.t 31)))⟩, ⟨(some 33), none, (.p (.load false 1 (.t 32)))⟩, ⟨(some 34), none, (.m (.buildS 54 1 (.int .u32 0) 1 [(0, (.t 33))]))⟩, ⟨(some 35), none, (.m (.app 54 1 4 (.t 29) (.t 34)))⟩, ⟨(some 3), none, (.p (.mov (.t 35)))⟩]))))
 (.reg [⟨(some 9), none, (.p (.mov (.t 4)))⟩, ⟨(some 10), none, (.p (.bin 0 .add (.t 9) (.c (.int .i64 2))))⟩, ⟨(some 4), none, (.p (.mov (.t 10)))⟩]))))))
 (.seq (.reg [⟨(some 36), none, (.p (.mov (.t 3)))⟩, ⟨(some 2), none, (.p (.mov (.t 36)))⟩])
 (.ret))))
theorem m_rup_ok : compF Try.prog 61 = some (37, m_rup, [.mov (.t 2)]) := by kernel_rfl
def m_rbuild : MC := .seq (.reg [⟨(some 2), none, (.m (.alloc 57 (.agg [.nilS])))⟩, ⟨(some 3), none, (.p (.mov (.c (.int .i64 0))))⟩])
 (.seq (.seq (.reg [⟨(some 5), none, (.p (.mov (.t 0)))⟩, ⟨(some 6), none, (.p (.len (.t 5)))⟩, ⟨(some 7), none, (.p (.bin 0 .lss (.t 6) (.c (.int .i64 1))))⟩, ⟨(some 8), none, (.p (.mov (.t 7)))⟩, ⟨(some 9), (some (8, false)), (.p (.mov (.t 0)))⟩, ⟨(some 10), (some (8, false)), (.p (.len (.t 9)))⟩, ⟨(some 11), (some (8, false)), (.p (.bin 0 .gtr (.t 10) (.c (.int .i64 20))))⟩, ⟨(some 12), none, (.p (.pick (.t 8) (.c (.bool true)) (.t 11)))⟩])
 (.cond (.t 12) (.seq (.reg [⟨(some 13), none, (.m (.build none [.nilS] []))⟩, ⟨none, none, (.m (.store 1 (.t 2) (.t 13)))⟩, ⟨(some 3), none, (.p (.mov (.c (.int .i64 1))))⟩])
 (.ret)) (.skip)))
 (.seq (.reg [⟨(some 14), none, (.m (.buildS 54 1 (.int .u32 0) 0 []))⟩, ⟨(some 15), none, (.p (.mov (.t 0)))⟩, ⟨(some 16), none, (.m (.app 54 1 4 (.t 14) (.t 15)))⟩, ⟨(some 17), none, (.m (.buildS 53 1 (.nilS) 1 [(0, (.t 16))]))⟩, ⟨(some 18), none, (.m (.build none [.nilS] [(0, (.t 17))]))⟩, ⟨(some 4), none, (.m (.alloc 57 (.agg [.nilS])))⟩, ⟨none, none, (.m (.store 1 (.t 4) (.t 18)))⟩])
 (.seq (.block 0 (.loop (.seq (.seq (.reg [⟨(some 19), none, (.p (.mov (.t 0)))⟩, ⟨(some 20), none, (.p (.len (.t 19)))⟩, ⟨(some 21), none, (.p (.bin 0 .gtr (.t 20) (.c (.int .i64 1))))⟩])
 (.cond (.t 21) (.skip) (.exit 0)))
 (.block 1 (.seq (.reg [⟨(some 22), none, (.p (.mov (.t 0)))⟩, ⟨(some 23), none, (.call 61 [(.t 22)])⟩, ⟨(some 0), none, (.p (.mov (.t 23)))⟩])
 (.reg [⟨(some 24), none, (.p (.fieldA 0 0 (.t 4)))⟩, ⟨(some 25), none, (.p (.load false 1 (.t 24)))⟩, ⟨(some 26), none, (.p (.mov (.t 0)))⟩, ⟨(some 27), none, (.m (.buildS 53 1 (.nilS) 1 [(0, (.t 26))]))⟩, ⟨(some 28), none, (.m (.app 53 1 24 (.t 25) (.t 27)))⟩, ⟨(some 29), none, (.p (.fieldA 0 0 (.t 4)))⟩, ⟨none, none, (.m (.store 1 (.t 29) (.t 28)))⟩]))))))
 (.seq (.reg [⟨(some 30), none, (.p (.load true 1 (.t 4)))⟩, ⟨none, none, (.m (.store 1 (.t 2) (.t 30)))⟩, ⟨(some 3), none, (.p (.mov (.c (.int .i64 0))))⟩])
 (.ret)))))
theorem m_rbuild_ok : compF Try.prog 26 = some (31, m_rbuild, [.load true 1 (.t 2), .mov (.t 3)]) := by kernel_rfl
def m_rsameT : MC := .seq (.reg [⟨(some 2), none, (.m (.box 57 (.t 0)))⟩, ⟨(some 3), none, (.m (.box 57 (.t 1)))⟩, ⟨(some 4), none, (.p (.mov (.c (.bool false))))⟩])
 (.seq (.seq (.reg [⟨(some 7), none, (.p (.fieldA 0 0 (.t 2)))⟩, ⟨(some 8), none, (.p (.load false 1 (.t 7)))⟩, ⟨(some 9), none, (.p (.len (.t 8)))⟩, ⟨(some 10), none, (.p (.fieldA 0 0 (.t 3)))⟩, ⟨(some 11), none, (.p (.load false 1 (.t 10)))⟩, ⟨(some 12), none, (.p (.len (.t 11)))⟩, ⟨(some 13), none, (.p (.bin 0 .neq (.t 9) (.t 12)))⟩])
 (.cond (.t 13) (.seq (.reg [⟨(some 4), none, (.p (.mov (.c (.bool false))))⟩])
 (.ret)) (.skip)))
 (.seq (.seq (.reg [⟨(some 5), none, (.p (.mov (.c (.int .i64 0))))⟩])
 (.block 0 (.loop (.seq (.seq (.reg [⟨(some 14), none, (.p (.mov (.t 5)))⟩, ⟨(some 15), none, (.p (.fieldA 0 0 (.t 2)))⟩, ⟨(some 16), none, (.p (.load false 1 (.t 15)))⟩, ⟨(some 17), none, (.p (.len (.t 16)))⟩, ⟨(some 18), none, (.p (.bin 0 .lss (.t 14) (.t 17)))⟩])
 (.cond (.t 18) (.skip) (.exit 0)))
 (.seq (.block 1 (.seq (.seq (.dreg [⟨(some 21), none, (.p (.fieldA 0 0 (.t 2)))⟩, ⟨(some 22), none, (.p (.load false 1 (.t 21)))⟩, ⟨(some 23), none, (.p (.mov (.t 5)))⟩, ⟨(some 24), none, (.p (.idxA 1 (.t 22) (.t 23)))⟩, ⟨(some 25), none, (.p (.load false 1 (.t 24)))⟩, ⟨(some 26), none, (.p (.len (.t 25)))⟩, ⟨(some 27), none, (.p (.fieldA 0 0 (.t 3)))⟩, ⟨(some 28), none, (.p (.load false 1 (.t 27)))⟩, ⟨(some 29), none, (.p (.mov (.t 5)))⟩, ⟨(some 30), none, (.p (.idxA 1 (.t 28) (.t 29)))⟩, ⟨(some 31), none, (.p (.load false 1 (.t 30)))⟩, ⟨(some 32), none, (.p (.len (.t 31)))⟩, ⟨(some 33), none, (.p (.bin 0 .neq (.t 26) (.t 32)))⟩] [[], [0], [], [0, 1, 2], [0, 1, 2, 3], [0, 1, 2, 3, 4], [], [6], [], [6, 7, 8], [6, 7, 8, 9], [6, 7, 8, 9, 10], [0, 1, 2, 3, 4, 5, 6, 7, 8, 9, 10, 11]])
 (.cond (.t 33) (.seq (.reg [⟨(some 4), none, (.p (.mov (.c (.bool false))))⟩])
 (.ret)) (.skip)))
 (.seq (.reg [⟨(some 6), none, (.p (.mov (.c (.int .i64 0))))⟩])
 (.block 2 (.loop (.seq (.seq (.reg [⟨(some 34), none, (.p (.mov (.t 6)))⟩, ⟨(some 35), none, (.p (.fieldA 0 0 (.t 2)))⟩, ⟨(some 36), none, (.p (.load false 1 (.t 35)))⟩, ⟨(some 37), none, (.p (.mov (.t 5)))⟩, ⟨(some 38), none, (.p (.idxA 1 (.t 36) (.t 37)))⟩, ⟨(some 39), none, (.p (.load false 1 (.t 38)))⟩, ⟨(some 40), none, (.p (.len (.t 39)))⟩, ⟨(some 41), none, (.p (.bin 0 .lss (.t 34) (.t 40)))⟩])
 (.cond (.t 41) (.skip) (.exit 2)))
 (.seq (.block 3 (.seq (.dreg [⟨(some 44), none, (.p (.fieldA 0 0 (.t 2)))⟩, ⟨(some 45), none, (.p (.load false 1 (.t 44)))⟩, ⟨(some 46), none, (.p (.mov (.t 5)))⟩, ⟨(some 47), none, (.p (.idxA 1 (.t 45) (.t 46)))⟩, ⟨(some 48), none, (.p (.load false 1 (.t 47)))⟩, ⟨(some 49), none, (.p (.mov (.t 6)))⟩, ⟨(some 50), none, (.p (.idxA 1 (.t 48) (.t 49)))⟩, ⟨(some 51), none, (.p (.load false 1 (.t 50)))⟩, ⟨(some 52), none, (.p (.fieldA 0 0 (.t 3)))⟩, ⟨(some 53), none, (.p (.load false 1 (.t 52)))⟩, ⟨(some 54), none, (.p (.mov (.t 5)))⟩, ⟨(some 55), none, (.p (.idxA 1 (.t 53) (.t 54)))⟩, ⟨(some 56), none, (.p (.load false 1 (.t 55)))⟩, ⟨(some 57), none, (.p (.mov (.t 6)))⟩, ⟨(some 58), none, (.p (.idxA 1 (.t 56) (.t 57)))⟩, ⟨(some 59), none, (.p (.load false 1 (.t 58)))⟩, ⟨(some 60), none, (.p (.bin 0 .neq (.t 51) (.t 59)))⟩] [[], [0], [], [0, 1, 2], [0, 1, 2, 3], [], [0, 1, 2, 3, 4, 5], [0, 1, 2, 3, 4, 5, 6], [], [8], [], [8, 9, 10], [8, 9, 10, 11], [], [8, 9, 10, 11, 12, 13], [8, 9, 10, 11, 12, 13, 14], [0, 1, 2, 3, 4, 5, 6, 7, 8, 9, 10, 11, 12, 13, 14, 15]])
 (.cond (.t 60) (.seq (.reg [⟨(some 4), none, (.p (.mov (.c (.bool false))))⟩])
 (.ret)) (.skip))))
 (.reg [⟨(some 42), none, (.p (.mov (.t 6)))⟩, ⟨(some 43), none, (.p (.bin 0 .add (.t 42) (.c (.int .i64 1))))⟩, ⟨(some 6), none, (.p (.mov (.t 43)))⟩]))))))))
 (.reg [⟨(some 19), none, (.p (.mov (.t 5)))⟩, ⟨(some 20), none, (.p (.bin 0 .add (.t 19) (.c (.int .i64 1))))⟩, ⟨(some 5), none, (.p (.mov (.t 20)))⟩]))))))
 (.seq (.reg [⟨(some 4), none, (.p (.mov (.c (.bool true))))⟩])
 (.ret))))
theorem m_rsameT_ok : compF Try.prog 31 = some (61, m_rsameT, [.mov (.t 4)]) := by kernel_rfl
def m_rval : MC := .seq (.reg [⟨(some 1), none, (.m (.box 57 (.t 0)))⟩, ⟨(some 2), none, (.p (.mov (.c (.bool false))))⟩])
 (.seq (.seq (.reg [⟨(some 5), none, (.p (.fieldA 0 0 (.t 1)))⟩, ⟨(some 6), none, (.p (.load false 1 (.t 5)))⟩, ⟨(some 7), none, (.p (.len (.t 6)))⟩, ⟨(some 8), none, (.p (.bin 0 .eql (.t 7) (.c (.int .i64 0))))⟩])
 (.cond (.t 8) (.seq (.reg [⟨(some 2), none, (.p (.mov (.c (.bool false))))⟩])
 (.ret)) (.skip)))
 (.seq (.reg [⟨(some 10), none, (.p (.fieldA 0 0 (.t 1)))⟩, ⟨(some 11), none, (.p (.load false 1 (.t 10)))⟩, ⟨(some 12), none, (.p (.idxA 1 (.t 11) (.c (.int .i64 0))))⟩, ⟨(some 13), none, (.p (.load false 1 (.t 12)))⟩, ⟨(some 14), none, (.call 26 [(.t 13)])⟩, ⟨(some 9), none, (.p (.mov (.t 14)))⟩, ⟨(some 15), none, (.p (.ext (.t 9) 0))⟩, ⟨(some 16), none, (.p (.ext (.t 9) 1))⟩, ⟨(some 3), none, (.m (.alloc 57 (.agg [.nilS])))⟩, ⟨none, none, (.m (.store 1 (.t 3) (.t 15)))⟩, ⟨(some 4), none, (.p (.mov (.t 16)))⟩])
 (.seq (.reg [⟨(some 17), none, (.p (.mov (.t 4)))⟩, ⟨(some 18), none, (.p (.bin 0 .eql (.t 17) (.c (.int .i64 0))))⟩, ⟨(some 19), none, (.p (.mov (.t 18)))⟩, ⟨(some 20), (some (19, true)), (.p (.load true 1 (.t 3)))⟩, ⟨(some 21), (some (19, true)), (.p (.load true 1 (.t 1)))⟩, ⟨(some 22), (some (19, true)), (.call 31 [(.t 20), (.t 21)])⟩, ⟨(some 23), none, (.p (.pick (.t 19) (.t 22) (.c (.bool false))))⟩, ⟨(some 2), none, (.p (.mov (.t 23)))⟩])
 (.ret))))
theorem m_rval_ok : compF Try.prog 65 = some (24, m_rval, [.mov (.t 2)]) := by kernel_rfl
def m_rrt : MC := .seq (.reg [⟨(some 1), none, (.m (.box 57 (.t 0)))⟩, ⟨(some 2), none, (.p (.mov (.c (.int .u32 0))))⟩])
 (.seq (.seq (.reg [⟨(some 3), none, (.p (.load true 1 (.t 1)))⟩, ⟨(some 4), none, (.call 65 [(.t 3)])⟩, ⟨(some 5), none, (.p (.un .not (.t 4)))⟩])
 (.cond (.t 5) (.seq (.reg [⟨(some 2), none, (.p (.mov (.c (.int .u32 0))))⟩])
 (.ret)) (.skip)))
 (.seq (.reg [⟨(some 6), none, (.p (.fieldA 0 0 (.t 1)))⟩, ⟨(some 7), none, (.p (.load false 1 (.t 6)))⟩, ⟨(some 8), none, (.p (.fieldA 0 0 (.t 1)))⟩, ⟨(some 9), none, (.p (.load false 1 (.t 8)))⟩, ⟨(some 10), none, (.p (.len (.t 9)))⟩, ⟨(some 11), none, (.p (.bin 0 .sub (.t 10) (.c (.int .i64 1))))⟩, ⟨(some 12), none, (.p (.idxA 1 (.t 7) (.t 11)))⟩, ⟨(some 13), none, (.p (.load false 1 (.t 12)))⟩, ⟨(some 14), none, (.p (.idxA 1 (.t 13) (.c (.int .i64 0))))⟩, ⟨(some 15), none, (.p (.load false 1 (.t 14)))⟩, ⟨(some 2), none, (.p (.mov (.t 15)))⟩])
 (.ret)))
theorem m_rrt_ok : compF Try.prog 66 = some (16, m_rrt, [.mov (.t 2)]) := by kernel_rfl
def m_rtup : MC := .seq (.reg [⟨(some 3), none, (.m (.box 57 (.t 0)))⟩, ⟨(some 6), none, (.m (.alloc 57 (.agg [.nilS])))⟩, ⟨(some 7), none, (.p (.mov (.c (.int .i64 0))))⟩])
 (.seq (.seq (.reg [⟨(some 11), none, (.p (.load true 1 (.t 3)))⟩, ⟨(some 12), none, (.call 65 [(.t 11)])⟩, ⟨(some 13), none, (.p (.un .not (.t 12)))⟩])
 (.cond (.t 13) (.seq (.reg [⟨(some 14), none, (.m (.build none [.nilS] []))⟩, ⟨none, none, (.m (.store 1 (.t 6) (.t 14)))⟩, ⟨(some 7), none, (.p (.mov (.c (.int .i64 1))))⟩])
 (.ret)) (.skip)))
 (.seq (.seq (.reg [⟨(some 15), none, (.p (.mov (.t 1)))⟩, ⟨(some 16), none, (.p (.bin 0 .lss (.t 15) (.c (.int .i64 0))))⟩, ⟨(some 17), none, (.p (.mov (.t 16)))⟩, ⟨(some 18), (some (17, false)), (.p (.mov (.t 1)))⟩, ⟨(some 19), (some (17, false)), (.p (.fieldA 0 0 (.t 3)))⟩, ⟨(some 20), (some (17, false)), (.p (.load false 1 (.t 19)))⟩, ⟨(some 21), (some (17, false)), (.p (.idxA 1 (.t 20) (.c (.int .i64 0))))⟩, ⟨(some 22), (some (17, false)), (.p (.load false 1 (.t 21)))⟩, ⟨(some 23), (some (17, false)), (.p (.len (.t 22)))⟩, ⟨(some 24), (some (17, false)), (.p (.bin 0 .geq (.t 18) (.t 23)))⟩, ⟨(some 25), none, (.p (.pick (.t 17) (.c (.bool true)) (.t 24)))⟩])
 (.cond (.t 25) (.seq (.reg [⟨(some 26), none, (.m (.build none [.nilS] []))⟩, ⟨none, none, (.m (.store 1 (.t 6) (.t 26)))⟩, ⟨(some 7), none, (.p (.mov (.c (.int .i64 6))))⟩])
 (.ret)) (.skip)))
 (.seq (.reg [⟨(some 27), none, (.m (.buildS 54 1 (.int .u32 0) 0 []))⟩, ⟨(some 28), none, (.p (.fieldA 0 0 (.t 3)))⟩, ⟨(some 29), none, (.p (.load false 1 (.t 28)))⟩, ⟨(some 30), none, (.p (.idxA 1 (.t 29) (.c (.int .i64 0))))⟩, ⟨(some 31), none, (.p (.load false 1 (.t 30)))⟩, ⟨(some 32), none, (.m (.app 54 1 4 (.t 27) (.t 31)))⟩, ⟨(some 8), none, (.p (.mov (.t 32)))⟩])
 (.seq (.reg [⟨(some 33), none, (.p (.mov (.t 8)))⟩, ⟨(some 34), none, (.p (.mov (.t 1)))⟩, ⟨(some 35), none, (.p (.mov (.t 2)))⟩, ⟨(some 36), none, (.p (.idxA 1 (.t 33) (.t 34)))⟩, ⟨none, none, (.m (.store 1 (.t 36) (.t 35)))⟩])
 (.seq (.reg [⟨(some 38), none, (.p (.mov (.t 8)))⟩, ⟨(some 39), none, (.call 26 [(.t 38)])⟩, ⟨(some 37), none, (.p (.mov (.t 39)))⟩, ⟨(some 40), none, (.p (.ext (.t 37) 0))⟩, ⟨(some 41), none, (.p (.ext (.t 37) 1))⟩, ⟨(some 9), none, (.m (.alloc 57 (.agg [.nilS])))⟩, ⟨none, none, (.m (.store 1 (.t 9) (.t 40)))⟩, ⟨(some 10), none, (.p (.mov (.t 41)))⟩])
 (.seq (.reg [⟨(some 42), none, (.p (.load true 1 (.t 9)))⟩, ⟨none, none, (.m (.store 1 (.t 6) (.t 42)))⟩, ⟨(some 7), none, (.p (.mov (.c (.int .i64 0))))⟩])
 (.ret)))))))
theorem m_rtup_ok : compF Try.prog 62 = some (43, m_rtup, [.load true 1 (.t 6), .mov (.t 7)]) := by kernel_rfl
attribute [local irreducible] djoin
theorem up_snoc {l : List Int} {k : Nat} (h : 2 * k < l.length) : (up l).take (k + 1) = (up l).take k ++ [if 2 * k + 1 = l.length then l[2 * k]! else djoin l[2 * k]! l[2 * k + 1]!] := by
  rw [take_snoc (by rw [up_len]; omega), up_at (by omega)]
theorem vld_0 {L : List (List Int)} (c0 : L.length = 0) : vld L = false := by unfold vld; rw [decF (by omega)]; rfl
theorem vld_1 {L : List (List Int)} (c0 : ¬ L.length = 0) (c1 : 1 ≤ L[0]!.length ∧ L[0]!.length ≤ 20) : vld L = decide (bld L[0]! = L) := by unfold vld; rw [decT (by omega), decT c1.1, decT c1.2]; rfl
theorem vld_2 {L : List (List Int)} (c0 : ¬ L.length = 0) (c1 : ¬ (1 ≤ L[0]!.length ∧ L[0]!.length ≤ 20)) : vld L = false := by
  unfold vld
  by_cases c2 : 1 ≤ L[0]!.length
  · rw [decT (by omega), decT c2, decF (fun h => c1 ⟨c2, h⟩)]; rfl
  · rw [decT (by omega), decF c2]; rfl
theorem root_1 {L : List (List Int)} (c : vld L = true) : rootOf L = (L[L.length - 1]!)[0]! := if_pos c
theorem root_2 {L : List (List Int)} (c : vld L = false) : rootOf L = 0 := if_neg (by rw [c]; exact Bool.false_ne_true)
theorem lev_zero (l : List Int) : lev l 0 = l := rfl
theorem lev_up (l : List Int) (k : Nat) : up (lev l k) = lev l (k + 1) := rfl
theorem bld_blk (l : List Int) : blk' l (dep l.length) = bld l := rfl
attribute [local irreducible] bld lev vld up
set_option maxHeartbeats 8000000 in
theorem rup_fn (l : List Int) (hL : l.length ≤ 20) : Fnc Try.prog 61 [dsV l] (fun x obs => x = dtV (up l) ∧ obs = []) := by
  have hul := up_len l
  refine Fnc.intro m_rup_ok (by simp) fun W S => ?_
  unfold m_rup
  simp only [ents, Nat.zero_add, Nat.reduceAdd]
  refine zst ?_
  refine ev_adopt (i := 3) (e := 54) (s := 1) rfl (by decide) ?_
  refine ev_loopK [0] (fun p : {p : Nat // p ≤ (l.length + 1) / 2} => [(3, .own 0 p.1), (4, .int .i64 (2 * (p.1 : Int)))]) (fun p => [⟨.row 54, true, p.1, .arr 1 (u32s ((up l).take p.1))⟩]) (fun p => (l.length + 1) / 2 - p.1) (⟨0, by simp⟩) 1 (by simp only [go_sem]; rfl) ?_ (by first | rfl | (simp only [go_sem]; done)) (by simp) (by first | rfl | (simp only [go_sem]; done)) (by first | rfl | (simp only [go_sem]; done)) (by first | rfl | (simp only [go_sem]; done)) ?_
  · (simp only [go_sem]; (try simp []); done)
  intro J hJ
  rintro ⟨k, hk0⟩
  by_cases hlt : 2 * k < l.length
  · have hs := up_snoc hlt
    have h2 : (2 * (k : Int)).toNat = 2 * k := by omega
    have h3 : (2 * (k : Int) + 1).toNat = 2 * k + 1 := by omega
    have h4 : 2 * (k : Int) + 2 = 2 * ((k + 1 : Nat) : Int) := by omega
    by_cases c : 2 * k + 1 = l.length
    · rw [if_pos c] at hs
      repeat (first | (simp only [h2]; try simp only [go_sem]) | refine And.intro (by omega) ?_ | refine And.intro rfl ?_ | refine ev_ctl rfl rfl ?_ | refine evr_nil ?_ | refine evw_nil (by kernel_rfl) ?_ | (simp (disch := omega) only [takeAll, Nat.min_eq_left, Nat.min_eq_right, if_pos, if_neg, getD_map, wrapI64, modIn, fdivE, tmodE, tdivE, decT, decF, beqT, beqF, bneT, bneF, Int.toNat_natCast]; try simp only [go_sem]) | (refine ev_condTb rfl ?_ ?_; · (simp <;> omega)) | (refine ev_condFb rfl ?_ ?_; · (simp <;> omega)) | ((first | refine ev_region ?_ | refine evr_go rfl ?_ | refine evw_go rfl ?_ | refine ev_dr0 mixed rfl (by kernel_rfl) ?_ | refine ev_dr1 mixed rfl (by kernel_rfl) ?_ | refine ev_dr2 mixed rfl (by kernel_rfl) ?_); simp only [go_sem]))
      refine ev_next 1 (hJ _ (⟨k + 1, by omega⟩) (by first | omega | (dsimp only; omega) | (simp; omega))) rfl (by simp) ?_ (by first | rfl | (simp only [go_sem]; done)) (by first | rfl | (simp only [go_sem]; done) | (simp only [hs, h4, List.map_append]; (try simp only [go_sem]); first | done | rfl)) ?_
      · (first | rfl | (simp only [go_sem]; done) | (simp only [go_sem]; simp only [hs, h4, List.map_append]; done) | (simp only [hs, h4, List.map_append]; done) | (simp only [go_sem]; simp [hs, h4, List.map_append]; done) | (simp [hs, h4, List.map_append]; done))
      · (simp only [go_sem]; (repeat' (refine And.intro ?_ ?_)) <;> first | exact trivial | with_reducible rfl | (simp only [hs, h4, List.map_append]; done) | (simp only [hs, h4, List.map_append]; with_reducible rfl) | (simp [hs, h4, List.map_append]; done) | (simp [hs, h4, List.map_append]; omega) | (simp only [hs, h4, List.map_append]; rfl) | skip)
    · rw [if_neg c] at hs
      repeat (first | (simp only [h2, h3]; try simp only [go_sem]) | refine And.intro (by omega) ?_ | refine And.intro rfl ?_ | refine ev_ctl rfl rfl ?_ | refine evr_nil ?_ | refine evw_nil (by kernel_rfl) ?_ | (simp (disch := omega) only [takeAll, Nat.min_eq_left, Nat.min_eq_right, if_pos, if_neg, getD_map, wrapI64, modIn, fdivE, tmodE, tdivE, decT, decF, beqT, beqF, bneT, bneF, Int.toNat_natCast]; try simp only [go_sem]) | (refine ev_condTb rfl ?_ ?_; · (simp <;> omega)) | (refine ev_condFb rfl ?_ ?_; · (simp <;> omega)) | ((first | refine ev_region ?_ | refine evr_go rfl ?_ | refine evw_go rfl ?_ | refine ev_dr0 mixed rfl (by kernel_rfl) ?_ | refine ev_dr1 mixed rfl (by kernel_rfl) ?_ | refine ev_dr2 mixed rfl (by kernel_rfl) ?_); simp only [go_sem]))
      (first | refine callD (rJoin_fn l[2 * k]! l[2 * k + 1]!) ?_ | refine callDw (rJoin_fn l[2 * k]! l[2 * k + 1]!) ?_); simp only [go_sem]
      refine zst ?_
      refine ev_next 1 (hJ _ (⟨k + 1, by omega⟩) (by first | omega | (dsimp only; omega) | (simp; omega))) rfl (by simp) ?_ (by first | rfl | (simp only [go_sem]; done)) (by first | rfl | (simp only [go_sem]; done) | (simp only [hs, h4, List.map_append]; (try simp only [go_sem]); first | done | rfl)) ?_
      · (first | rfl | (simp only [go_sem]; done) | (simp only [go_sem]; simp only [hs, h4, List.map_append]; done) | (simp only [hs, h4, List.map_append]; done) | (simp only [go_sem]; simp [hs, h4, List.map_append]; done) | (simp [hs, h4, List.map_append]; done))
      · (simp only [go_sem]; (repeat' (refine And.intro ?_ ?_)) <;> first | exact trivial | with_reducible rfl | (simp only [hs, h4, List.map_append]; done) | (simp only [hs, h4, List.map_append]; with_reducible rfl) | (simp [hs, h4, List.map_append]; done) | (simp [hs, h4, List.map_append]; omega) | (simp only [hs, h4, List.map_append]; rfl) | skip)
  · obtain rfl : k = (l.length + 1) / 2 := by omega
    have htl : (up l).take ((l.length + 1) / 2) = up l := List.take_of_length_le (by omega)
    dsimp only
    rw [htl]
    repeat (first | refine ev_seq ?_ | refine ev_block ?_ | refine ev_skip ?_ | refine ev_inBlock ?_ | refine evr_nil ?_ | refine evw_nil (by kernel_rfl) ?_ | refine ev_exit rfl ?_ | refine ev_round ?_ | refine ev_condT rfl ?_ | refine ev_condF rfl ?_ | refine ev_condTb rfl (by first | exact decT (by omega) | exact beqT (by omega) | exact bneT (by omega) | exact notT (decF (by omega)) | exact notT (beqF (by omega))) ?_ | refine ev_condFb rfl (by first | exact decF (by omega) | exact beqF (by omega) | exact bneF (by omega) | exact notF (decT (by omega)) | exact notF (beqT (by omega))) ?_)
    refine ev_freeze 3 rfl rfl ?_
    refine zst ?_
    refine ret m_rup_ok [] ?_; (first | (simp only [go_sem]; done) | (simp only [go_sem]; ((try dsimp only); (repeat' (refine And.intro ?_ ?_)) <;> first | with_reducible rfl | (simp only [go_sem]; done) | (simp only [go_sem]; rfl) | (simp only []; (try simp only [go_sem]); first | done | rfl) | (simp only [go_sem]; simp []; done) | (simp []; done) | rfl)))
set_option maxHeartbeats 8000000 in
theorem rbuild_fn (l : List Int) (h1 : 1 ≤ l.length) (h2 : l.length ≤ 20) : Fnc Try.prog 26 [dsV l] (fun x obs => x = .tup [.agg [.sl false 1 ((bld l).map dsV)], .int .i64 0] ∧ obs = []) := by
  refine Fnc.low ?_
  refine Fnc.intro m_rbuild_ok (by simp) fun W S => ?_
  unfold m_rbuild
  simp only [ents, Nat.zero_add, Nat.reduceAdd]
  refine zst ?_
  refine ev_loopK [2, 4] (fun p : {p : Nat // p ≤ dep l.length} => [(0, dsV (lev l p.1))]) (fun p => [⟨.box false 57, true, 0, .agg [.nilS]⟩, ⟨.row 54, false, 1, .arr 1 (u32s l)⟩, ⟨.row 53, true, p.1, .arr 1 ((blk' l p.1).map dtV)⟩, ⟨.box false 57, true, 0, .agg [.own 2 p.1]⟩]) (fun p => dep l.length - p.1) (⟨0, by simp⟩) 4 (by simp only [go_sem]; rfl) ?_ (by first | rfl | (simp only [go_sem]; done) | (simp only [go_sem]; simp [lev_zero, blk_zero]; done)) (by simp) (by first | rfl | (simp only [go_sem]; done)) (by first | rfl | (simp only [go_sem]; done)) (by first | rfl | (simp only [go_sem]; done) | (simp only [lev_zero, blk_zero]; (try simp only [go_sem]); first | done | rfl)) ?_
  · (simp only [go_sem]; (try simp [lev_zero, blk_zero]); done)
  intro J hJ
  rintro ⟨k, hk0⟩
  have hll := lev_len l k
  have hd := hl_dep h1 h2 hk0
  have hle := hl_le h1 k
  rw [← hll] at hd hle
  by_cases hlt : k < dep l.length
  · have hs := blk_snoc l k
    have hbl := blk_len l k
    have h5 := dep_le l.length
    have hlv : up (lev l k) = lev l (k + 1) := lev_up l k
    refine zst ?_
    (first | refine callD (rup_fn (lev l k) (by omega)) ?_ | refine callDw (rup_fn (lev l k) (by omega)) ?_); simp only [go_sem]
    refine zst ?_
    refine ev_lowS 0 rfl ?_
    refine ev_next 4 (hJ _ (⟨k + 1, hlt⟩) (by first | omega | (dsimp only; omega) | (simp; omega))) rfl (by simp) ?_ (by first | rfl | (simp only [go_sem]; done)) (by first | rfl | (simp only [go_sem]; done) | (simp only [hlv, hs]; (try simp only [go_sem]); first | done | rfl)) ?_
    · (first | rfl | (simp only [go_sem]; done) | (simp only [go_sem]; simp only [hlv, hs]; done) | (simp only [hlv, hs]; done) | (simp only [go_sem]; simp [hlv, hs]; done) | (simp [hlv, hs]; done))
    · (simp only [go_sem]; (repeat' (refine And.intro ?_ ?_)) <;> first | exact trivial | with_reducible rfl | (simp only [hlv, hs]; done) | (simp only [hlv, hs]; with_reducible rfl) | (simp [hlv, hs]; done) | (simp [hlv, hs]; omega) | (simp only [hlv, hs]; rfl) | skip)
  · obtain rfl : k = dep l.length := by omega
    refine zst ?_
    refine ret m_rbuild_ok [] ?_; (first | (simp only [go_sem]; done) | (simp only [go_sem]; ((try dsimp only); (repeat' (refine And.intro ?_ ?_)) <;> first | with_reducible rfl | (simp only [go_sem]; done) | (simp only [go_sem]; rfl) | (simp only [go_sem, bld_blk]; done) | (simp only [bld_blk]; (try simp only [go_sem]); first | done | rfl) | (simp only [go_sem]; simp [bld_blk]; done) | (simp [bld_blk]; done) | rfl)))
set_option maxHeartbeats 8000000 in
theorem rbuild_bad (l : List Int) (h : ¬ (1 ≤ l.length ∧ l.length ≤ 20)) : Fnc Try.prog 26 [dsV l] (fun x obs => x = .tup [.agg [.nilS], .int .i64 1] ∧ obs = []) := by
  refine Fnc.wf fun hw => ?_
  simp only [V.wfs, V.wf, wfs_map, List.length_map] at hw
  have hm := hw.1.2
  clear hw
  by_cases c : l.length = 0
  · skip
    refine Fnc.intro m_rbuild_ok (by simp) fun W S => ?_
    unfold m_rbuild
    simp only [ents, Nat.zero_add, Nat.reduceAdd]
    refine zst ?_
    refine ret m_rbuild_ok [] ?_; (first | (simp only [go_sem]; done) | (simp only [go_sem]; ((try dsimp only); (repeat' (refine And.intro ?_ ?_)) <;> first | with_reducible rfl | (simp only [go_sem]; done) | (simp only [go_sem]; rfl) | (simp only []; (try simp only [go_sem]); first | done | rfl) | (simp only [go_sem]; simp []; done) | (simp []; done) | rfl)))
  · skip
    refine Fnc.intro m_rbuild_ok (by simp) fun W S => ?_
    unfold m_rbuild
    simp only [ents, Nat.zero_add, Nat.reduceAdd]
    refine zst ?_
    refine ret m_rbuild_ok [] ?_; (first | (simp only [go_sem]; done) | (simp only [go_sem]; ((try dsimp only); (repeat' (refine And.intro ?_ ?_)) <;> first | with_reducible rfl | (simp only [go_sem]; done) | (simp only [go_sem]; rfl) | (simp only []; (try simp only [go_sem]); first | done | rfl) | (simp only [go_sem]; simp []; done) | (simp []; done) | rfl)))
theorem wf_tr {w : List (List Int)} (h : (trV w).wf) : w.length ≤ 140737488355328 ∧ ∀ k, k < w.length → w[k]!.length ≤ 140737488355328 := by
  simp only [V.wf, V.wfs, wfs_map, List.length_map] at h
  exact ⟨h.1.2, fun k hk => (h.1.1 _ (mem_at hk)).2⟩
set_option maxHeartbeats 8000000 in
theorem rsameT_fn (a b : List (List Int)) : Fnc Try.prog 31 [trV a, trV b] (fun x obs => x = .bool (decide (a = b)) ∧ obs = []) := by
  refine Fnc.wf fun hw => ?_
  obtain ⟨wa, wb, _⟩ := hw
  have hm := (wf_tr wa).1
  have hm' := (wf_tr wb).1
  by_cases hl : a.length = b.length
  · skip
    refine Fnc.intro m_rsameT_ok (by simp) fun W S => ?_
    unfold m_rsameT
    simp only [ents, Nat.zero_add, Nat.reduceAdd]
    refine zst ?_
    refine ev_loopK [2, 3] (fun p : {p : Nat // p ≤ a.length ∧ a.take p = b.take p} => [(5, .int .i64 p.1)]) (fun _ => [⟨.box false 57, true, 0, trV a⟩, ⟨.box false 57, true, 0, trV b⟩]) (fun p => a.length - p.1) (⟨0, by simp⟩) 2 (by simp only [go_sem]; rfl) ?_ (by first | rfl | (simp only [go_sem]; done)) (by simp) (by first | rfl | (simp only [go_sem]; done)) (by first | rfl | (simp only [go_sem]; done)) (by first | rfl | (simp only [go_sem]; done)) ?_
    · (simp only [go_sem]; (try simp []); done)
    intro J hJ
    rintro ⟨k, hk0, hk1⟩
    have hJ0 := hJ
    by_cases hlt : k < a.length
    · have w1 := (wf_tr wa).2 k hlt
      have w2 := (wf_tr wb).2 k (by omega)
      by_cases e : a[k]!.length = b[k]!.length
      · skip
        refine zst ?_
        refine ev_loopK [2, 3, 5] (fun p : {p : Nat // p ≤ a[k]!.length ∧ a[k]!.take p = b[k]!.take p} => [(6, .int .i64 p.1)]) (fun _ => [⟨.box false 57, true, 0, trV a⟩, ⟨.box false 57, true, 0, trV b⟩]) (fun p => a[k]!.length - p.1) (⟨0, by simp⟩) 2 (by simp only [go_sem]; rfl) ?_ (by first | rfl | (simp only [go_sem]; done)) (by simp) (by first | rfl | (simp only [go_sem]; done)) (by first | rfl | (simp only [go_sem]; done)) (by first | rfl | (simp only [go_sem]; done)) ?_
        · (simp only [go_sem]; (try simp []); done)
        intro J hJ
        rintro ⟨j, hj0, hj1⟩
        by_cases hlj : j < a[k]!.length
        · by_cases ej : a[k]![j]! = b[k]![j]!
          · skip
            refine zst ?_
            refine ev_next 2 (hJ _ (⟨j + 1, hlj, by rw [take_snoc hlj, take_snoc (by omega), hj1, ej]⟩) (by first | omega | (dsimp only; omega) | (simp; omega))) rfl (by simp) ?_ (by first | rfl | (simp only [go_sem]; done)) (by first | rfl | (simp only [go_sem]; done)) ?_
            · (first | rfl | (simp only [go_sem]; done) | (simp only [go_sem]; simp only []; done) | (simp only []; done) | (simp only [go_sem]; simp []; done) | (simp []; done))
            · (simp only [go_sem]; (repeat' (refine And.intro ?_ ?_)) <;> first | exact trivial | with_reducible rfl | (simp only []; done) | (simp only []; with_reducible rfl) | (simp []; done) | (simp []; omega) | (simp only []; rfl) | skip)
          · have hr : decide (a = b) = false := decF fun h => ej (by rw [h])
            refine zst ?_
            refine ret m_rsameT_ok [] ?_; (first | (simp only [go_sem]; done) | (simp only [go_sem]; ((try dsimp only); (repeat' (refine And.intro ?_ ?_)) <;> first | with_reducible rfl | (simp only [go_sem]; done) | (simp only [go_sem]; rfl) | (simp only [go_sem, hr]; done) | (simp only [hr]; (try simp only [go_sem]); first | done | rfl) | (simp only [go_sem]; simp [hr]; done) | (simp [hr]; done) | rfl)))
        · have hab := eq_of_take (by omega) (by omega) hj1
          have hJ := hJ0
          refine zst ?_
          refine ev_next 2 (hJ _ (⟨k + 1, hlt, by rw [take_snoc hlt, take_snoc (by omega), hk1, hab]⟩) (by first | omega | (dsimp only; omega) | (simp; omega))) rfl (by simp) ?_ (by first | rfl | (simp only [go_sem]; done)) (by first | rfl | (simp only [go_sem]; done)) ?_
          · (first | rfl | (simp only [go_sem]; done) | (simp only [go_sem]; simp only []; done) | (simp only []; done) | (simp only [go_sem]; simp []; done) | (simp []; done))
          · (simp only [go_sem]; (repeat' (refine And.intro ?_ ?_)) <;> first | exact trivial | with_reducible rfl | (simp only []; done) | (simp only []; with_reducible rfl) | (simp []; done) | (simp []; omega) | (simp only []; rfl) | skip)
      · have hr : decide (a = b) = false := decF fun h => e (by rw [h])
        refine zst ?_
        refine ret m_rsameT_ok [] ?_; (first | (simp only [go_sem]; done) | (simp only [go_sem]; ((try dsimp only); (repeat' (refine And.intro ?_ ?_)) <;> first | with_reducible rfl | (simp only [go_sem]; done) | (simp only [go_sem]; rfl) | (simp only [go_sem, hr]; done) | (simp only [hr]; (try simp only [go_sem]); first | done | rfl) | (simp only [go_sem]; simp [hr]; done) | (simp [hr]; done) | rfl)))
    · have hr : decide (a = b) = true := decT (eq_of_take (by omega) (by omega) hk1)
      refine zst ?_
      refine ret m_rsameT_ok [] ?_; (first | (simp only [go_sem]; done) | (simp only [go_sem]; ((try dsimp only); (repeat' (refine And.intro ?_ ?_)) <;> first | with_reducible rfl | (simp only [go_sem]; done) | (simp only [go_sem]; rfl) | (simp only [go_sem, hr]; done) | (simp only [hr]; (try simp only [go_sem]); first | done | rfl) | (simp only [go_sem]; simp [hr]; done) | (simp [hr]; done) | rfl)))
  · have hr : decide (a = b) = false := decF fun h => hl (by rw [h])
    refine Fnc.intro m_rsameT_ok (by simp) fun W S => ?_
    unfold m_rsameT
    simp only [ents, Nat.zero_add, Nat.reduceAdd]
    refine zst ?_
    refine ret m_rsameT_ok [] ?_; (first | (simp only [go_sem]; done) | (simp only [go_sem]; ((try dsimp only); (repeat' (refine And.intro ?_ ?_)) <;> first | with_reducible rfl | (simp only [go_sem]; done) | (simp only [go_sem]; rfl) | (simp only [go_sem, hr]; done) | (simp only [hr]; (try simp only [go_sem]); first | done | rfl) | (simp only [go_sem]; simp [hr]; done) | (simp [hr]; done) | rfl)))
set_option maxHeartbeats 8000000 in
theorem rval_fn (L : List (List Int)) : Fnc Try.prog 65 [trV L] (fun x obs => x = .bool (vld L) ∧ obs = []) := by
  refine Fnc.wf fun hw => ?_
  have hm := (wf_tr hw.1).1
  by_cases c0 : L.length = 0
  · have hr : vld L = false := vld_0 c0
    refine Fnc.intro m_rval_ok (by simp) fun W S => ?_
    unfold m_rval
    simp only [ents, Nat.zero_add, Nat.reduceAdd]
    refine zst ?_
    refine ret m_rval_ok [] ?_; (first | (simp only [go_sem]; done) | (simp only [go_sem]; ((try dsimp only); (repeat' (refine And.intro ?_ ?_)) <;> first | with_reducible rfl | (simp only [go_sem]; done) | (simp only [go_sem]; rfl) | (simp only [go_sem, hr]; done) | (simp only [hr]; (try simp only [go_sem]); first | done | rfl) | (simp only [go_sem]; simp [hr]; done) | (simp [hr]; done) | rfl)))
  by_cases c1 : 1 ≤ L[0]!.length ∧ L[0]!.length ≤ 20
  · have hr : vld L = decide (bld L[0]! = L) := vld_1 c0 c1
    have hB := rbuild_fn L[0]! c1.1 c1.2
    refine Fnc.intro m_rval_ok (by simp) fun W S => ?_
    unfold m_rval
    simp only [ents, Nat.zero_add, Nat.reduceAdd]
    refine zst ?_
    (first | refine callD (hB) ?_ | refine callDw (hB) ?_); simp only [go_sem]
    refine zst ?_
    (first | refine callD (rsameT_fn (bld L[0]!) L) ?_ | refine callDw (rsameT_fn (bld L[0]!) L) ?_); simp only [go_sem]
    refine zst ?_
    refine ret m_rval_ok [] ?_; (first | (simp only [go_sem]; done) | (simp only [go_sem]; ((try dsimp only); (repeat' (refine And.intro ?_ ?_)) <;> first | with_reducible rfl | (simp only [go_sem]; done) | (simp only [go_sem]; rfl) | (simp only [go_sem, hr]; done) | (simp only [hr]; (try simp only [go_sem]); first | done | rfl) | (simp only [go_sem]; simp [hr]; done) | (simp [hr]; done) | rfl)))
  · have hr : vld L = false := vld_2 c0 c1
    have hB := rbuild_bad L[0]! c1
    refine Fnc.intro m_rval_ok (by simp) fun W S => ?_
    unfold m_rval
    simp only [ents, Nat.zero_add, Nat.reduceAdd]
    refine zst ?_
    (first | refine callD (hB) ?_ | refine callDw (hB) ?_); simp only [go_sem]
    refine zst ?_
    refine ret m_rval_ok [] ?_; (first | (simp only [go_sem]; done) | (simp only [go_sem]; ((try dsimp only); (repeat' (refine And.intro ?_ ?_)) <;> first | with_reducible rfl | (simp only [go_sem]; done) | (simp only [go_sem]; rfl) | (simp only [go_sem, hr]; done) | (simp only [hr]; (try simp only [go_sem]); first | done | rfl) | (simp only [go_sem]; simp [hr]; done) | (simp [hr]; done) | rfl)))
attribute [local irreducible] rootOf
set_option maxHeartbeats 8000000 in
theorem rrt_fn (L : List (List Int)) : Fnc Try.prog 66 [trV L] (fun x obs => x = .int .u32 (rootOf L) ∧ obs = []) := by
  refine Fnc.wf fun hw => ?_
  have hm := (wf_tr hw.1).1
  have hv := rval_fn L
  by_cases c : vld L = true
  · have ht := top_len c
    have hl := (vld_to c).1
    have hr : rootOf L = (L[L.length - 1]!)[0]! := root_1 c
    have hi : ((L.length : Int) - 1).toNat = L.length - 1 := by omega
    rw [c] at hv
    refine Fnc.intro m_rrt_ok (by simp) fun W S => ?_
    unfold m_rrt
    simp only [ents, Nat.zero_add, Nat.reduceAdd]
    refine zst ?_
    (first | refine callD (hv) ?_ | refine callDw (hv) ?_); refine zev ?_
    repeat (first | (simp only [hi]; try simp only [go_sem]) | refine And.intro (by omega) ?_ | refine And.intro rfl ?_ | refine ev_ctl rfl rfl ?_ | refine evr_nil ?_ | refine evw_nil (by kernel_rfl) ?_ | (simp (disch := omega) only [takeAll, Nat.min_eq_left, Nat.min_eq_right, if_pos, if_neg, getD_map, wrapI64, modIn, fdivE, tmodE, tdivE, decT, decF, beqT, beqF, bneT, bneF, Int.toNat_natCast]; try simp only [go_sem]) | (refine ev_condTb rfl ?_ ?_; · (simp <;> omega)) | (refine ev_condFb rfl ?_ ?_; · (simp <;> omega)) | ((first | refine ev_region ?_ | refine evr_go rfl ?_ | refine evw_go rfl ?_ | refine ev_dr0 mixed rfl (by kernel_rfl) ?_ | refine ev_dr1 mixed rfl (by kernel_rfl) ?_ | refine ev_dr2 mixed rfl (by kernel_rfl) ?_); simp only [go_sem]))
    refine ret m_rrt_ok [] ?_; (first | (simp only [go_sem]; done) | (simp only [go_sem]; ((try dsimp only); (repeat' (refine And.intro ?_ ?_)) <;> first | with_reducible rfl | (simp only [go_sem]; done) | (simp only [go_sem]; rfl) | (simp only [go_sem, hr]; done) | (simp only [hr]; (try simp only [go_sem]); first | done | rfl) | (simp only [go_sem]; simp [hr]; done) | (simp [hr]; done) | rfl)))
  · rw [Bool.not_eq_true] at c
    have hr : rootOf L = 0 := root_2 c
    rw [c] at hv
    refine Fnc.intro m_rrt_ok (by simp) fun W S => ?_
    unfold m_rrt
    simp only [ents, Nat.zero_add, Nat.reduceAdd]
    refine zst ?_
    (first | refine callD (hv) ?_ | refine callDw (hv) ?_); simp only [go_sem]
    refine zst ?_
    refine ret m_rrt_ok [] ?_; (first | (simp only [go_sem]; done) | (simp only [go_sem]; ((try dsimp only); (repeat' (refine And.intro ?_ ?_)) <;> first | with_reducible rfl | (simp only [go_sem]; done) | (simp only [go_sem]; rfl) | (simp only [go_sem, hr]; done) | (simp only [hr]; (try simp only [go_sem]); first | done | rfl) | (simp only [go_sem]; simp [hr]; done) | (simp [hr]; done) | rfl)))
end Go.Proofs.Ytcphobeommkgeaa
