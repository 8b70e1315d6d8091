/- Pages: one page, and all of them. -/
import Derived.Test.YtcphobeommkgeaaP2
import Derived.Test.YtcphobeommkgeaaZt
namespace Go.Proofs.Ytcphobeommkgeaa
open Go Go.RowKit Rdn Rdn.Dp
set_option linter.unusedVariables false
set_option linter.unusedSimpArgs false
def m_psizes : MC := .seq (.reg [⟨(some 1), none, (.m (.box 30 (.t 0)))⟩, ⟨(some 2), none, (.p (.mov (.c (.nilS))))⟩])
 (.seq (.reg [⟨(some 3), none, (.p (.mov (.c (.nilS))))⟩])
 (.seq (.seq (.reg [⟨(some 6), none, (.p (.fieldA 0 0 (.t 1)))⟩, ⟨(some 7), none, (.p (.load false 1 (.t 6)))⟩, ⟨(some 8), none, (.p (.len (.t 7)))⟩, ⟨(some 9), none, (.p (.mov (.c (.int .i64 0))))⟩])
 (.block 0 (.loop (.seq (.reg [⟨(some 10), none, (.p (.bin 0 .lss (.t 9) (.t 8)))⟩])
 (.seq (.cond (.t 10) (.skip) (.exit 0))
 (.seq (.block 1 (.seq (.reg [⟨(some 11), none, (.p (.idxA 1 (.t 7) (.t 9)))⟩, ⟨(some 12), none, (.p (.load false 1 (.t 11)))⟩, ⟨(some 5), none, (.p (.mov (.t 12)))⟩])
 (.reg [⟨(some 13), none, (.p (.mov (.t 3)))⟩, ⟨(some 14), none, (.p (.mov (.t 5)))⟩, ⟨(some 15), none, (.p (.len (.t 14)))⟩, ⟨(some 16), none, (.m (.buildS 3 1 (.int .i64 0) 1 [(0, (.t 15))]))⟩, ⟨(some 17), none, (.m (.app 3 1 8 (.t 13) (.t 16)))⟩, ⟨(some 3), none, (.p (.mov (.t 17)))⟩])))
 (.reg [⟨(some 18), none, (.p (.bin 0 .add (.t 9) (.c (.int .i64 1))))⟩, ⟨(some 9), none, (.p (.mov (.t 18)))⟩])))))))
 (.seq (.reg [⟨(some 19), none, (.p (.mov (.t 3)))⟩, ⟨(some 2), none, (.p (.mov (.t 19)))⟩])
 (.ret))))
theorem m_psizes_ok : compF Try.prog 34 = some (20, m_psizes, [.mov (.t 2)]) := by kernel_rfl
def m_part : MC := .seq (.reg [⟨(some 4), none, (.p (.mov (.c (.nilS))))⟩])
 (.seq (.seq (.reg [⟨(some 6), none, (.p (.mov (.t 1)))⟩, ⟨(some 7), none, (.p (.bin 0 .lss (.t 6) (.c (.int .i64 0))))⟩, ⟨(some 8), none, (.p (.mov (.t 7)))⟩, ⟨(some 9), (some (8, false)), (.p (.mov (.t 1)))⟩, ⟨(some 10), (some (8, false)), (.p (.bin 0 .gtr (.t 9) (.c (.int .i64 32))))⟩, ⟨(some 11), none, (.p (.pick (.t 8) (.c (.bool true)) (.t 10)))⟩, ⟨(some 12), none, (.p (.mov (.t 11)))⟩, ⟨(some 13), (some (12, false)), (.p (.mov (.t 1)))⟩, ⟨(some 14), (some (12, false)), (.p (.bin 0 .mul (.t 13) (.c (.int .i64 8))))⟩, ⟨(some 15), (some (12, false)), (.p (.mov (.t 0)))⟩, ⟨(some 16), (some (12, false)), (.p (.len (.t 15)))⟩, ⟨(some 17), (some (12, false)), (.p (.bin 0 .geq (.t 14) (.t 16)))⟩, ⟨(some 18), none, (.p (.pick (.t 12) (.c (.bool true)) (.t 17)))⟩])
 (.cond (.t 18) (.seq (.reg [⟨(some 4), none, (.p (.mov (.c (.nilS))))⟩])
 (.ret)) (.skip)))
 (.seq (.reg [⟨(some 19), none, (.p (.mov (.t 1)))⟩, ⟨(some 20), none, (.p (.bin 0 .mul (.t 19) (.c (.int .i64 8))))⟩, ⟨(some 5), none, (.p (.mov (.t 20)))⟩])
 (.seq (.reg [⟨(some 21), none, (.p (.mov (.t 0)))⟩, ⟨(some 22), none, (.p (.mov (.t 5)))⟩, ⟨(some 23), none, (.p (.mov (.t 5)))⟩, ⟨(some 24), none, (.p (.bin 0 .add (.t 23) (.c (.int .i64 8))))⟩, ⟨(some 25), none, (.p (.mov (.t 0)))⟩, ⟨(some 26), none, (.p (.len (.t 25)))⟩, ⟨(some 27), none, (.p (.mn (.t 24) (.t 26)))⟩, ⟨(some 28), none, (.m (.sl 4 (.t 21) (some (.t 22)) (some (.t 27)) none))⟩, ⟨(some 4), none, (.p (.mov (.t 28)))⟩])
 (.ret))))
theorem m_part_ok : compF Try.prog 77 = some (29, m_part, [.mov (.t 4)]) := by kernel_rfl
def m_there : MC := .seq (.reg [⟨(some 2), none, (.m (.box 30 (.t 0)))⟩, ⟨(some 3), none, (.m (.box 39 (.t 1)))⟩, ⟨(some 4), none, (.p (.mov (.c (.bool false))))⟩])
 (.seq (.seq (.reg [⟨(some 5), none, (.p (.fieldA 0 0 (.t 3)))⟩, ⟨(some 6), none, (.p (.load false 1 (.t 5)))⟩, ⟨(some 7), none, (.p (.bin 0 .eql (.t 6) (.c (.int .i64 (-1)))))⟩])
 (.cond (.t 7) (.seq (.reg [⟨(some 8), none, (.p (.fieldA 1 1 (.t 3)))⟩, ⟨(some 9), none, (.p (.load false 1 (.t 8)))⟩, ⟨(some 10), none, (.p (.bin 0 .geq (.t 9) (.c (.int .i64 0))))⟩, ⟨(some 11), none, (.p (.mov (.t 10)))⟩, ⟨(some 12), (some (11, true)), (.p (.fieldA 1 1 (.t 3)))⟩, ⟨(some 13), (some (11, true)), (.p (.load false 1 (.t 12)))⟩, ⟨(some 14), (some (11, true)), (.p (.fieldA 1 1 (.t 2)))⟩, ⟨(some 15), (some (11, true)), (.p (.load false 1 (.t 14)))⟩, ⟨(some 16), (some (11, true)), (.p (.len (.t 15)))⟩, ⟨(some 17), (some (11, true)), (.p (.bin 0 .lss (.t 13) (.t 16)))⟩, ⟨(some 18), none, (.p (.pick (.t 11) (.t 17) (.c (.bool false))))⟩, ⟨(some 4), none, (.p (.mov (.t 18)))⟩])
 (.ret)) (.skip)))
 (.seq (.dreg [⟨(some 19), none, (.p (.fieldA 0 0 (.t 3)))⟩, ⟨(some 20), none, (.p (.load false 1 (.t 19)))⟩, ⟨(some 21), none, (.p (.bin 0 .geq (.t 20) (.c (.int .i64 0))))⟩, ⟨(some 22), none, (.p (.mov (.t 21)))⟩, ⟨(some 23), (some (22, true)), (.p (.fieldA 0 0 (.t 3)))⟩, ⟨(some 24), (some (22, true)), (.p (.load false 1 (.t 23)))⟩, ⟨(some 25), (some (22, true)), (.p (.fieldA 0 0 (.t 2)))⟩, ⟨(some 26), (some (22, true)), (.p (.load false 1 (.t 25)))⟩, ⟨(some 27), (some (22, true)), (.p (.len (.t 26)))⟩, ⟨(some 28), (some (22, true)), (.p (.bin 0 .lss (.t 24) (.t 27)))⟩, ⟨(some 29), none, (.p (.pick (.t 22) (.t 28) (.c (.bool false))))⟩, ⟨(some 30), none, (.p (.mov (.t 29)))⟩, ⟨(some 31), (some (30, true)), (.p (.fieldA 0 0 (.t 2)))⟩, ⟨(some 32), (some (30, true)), (.p (.load false 1 (.t 31)))⟩, ⟨(some 33), (some (30, true)), (.p (.fieldA 0 0 (.t 3)))⟩, ⟨(some 34), (some (30, true)), (.p (.load false 1 (.t 33)))⟩, ⟨(some 35), (some (30, true)), (.p (.idxA 1 (.t 32) (.t 34)))⟩, ⟨(some 36), (some (30, true)), (.p (.load false 1 (.t 35)))⟩, ⟨(some 37), (some (30, true)), (.p (.fieldA 1 1 (.t 3)))⟩, ⟨(some 38), (some (30, true)), (.p (.load false 1 (.t 37)))⟩, ⟨(some 39), (some (30, true)), (.call 77 [(.t 36), (.t 38)])⟩, ⟨(some 40), (some (30, true)), (.p (.len (.t 39)))⟩, ⟨(some 41), (some (30, true)), (.p (.bin 0 .gtr (.t 40) (.c (.int .i64 0))))⟩, ⟨(some 42), none, (.p (.pick (.t 30) (.t 41) (.c (.bool false))))⟩, ⟨(some 4), none, (.p (.mov (.t 42)))⟩] [[], [0], [0, 1], [0, 1, 2], [0, 1, 2, 3], [0, 1, 2, 3, 4], [0, 1, 2, 3], [0, 1, 2, 3, 6], [0, 1, 2, 3, 6, 7], [0, 1, 2, 3, 4, 5, 6, 7, 8], [0, 1, 2, 3, 4, 5, 6, 7, 8, 9], [0, 1, 2, 3, 4, 5, 6, 7, 8, 9, 10], [0, 1, 2, 3, 4, 5, 6, 7, 8, 9, 10, 11], [0, 1, 2, 3, 4, 5, 6, 7, 8, 9, 10, 11, 12], [0, 1, 2, 3, 4, 5, 6, 7, 8, 9, 10, 11], [0, 1, 2, 3, 4, 5, 6, 7, 8, 9, 10, 11, 14], [0, 1, 2, 3, 4, 5, 6, 7, 8, 9, 10, 11, 12, 13, 14, 15], [0, 1, 2, 3, 4, 5, 6, 7, 8, 9, 10, 11, 12, 13, 14, 15, 16], [0, 1, 2, 3, 4, 5, 6, 7, 8, 9, 10, 11], [0, 1, 2, 3, 4, 5, 6, 7, 8, 9, 10, 11, 18], [0, 1, 2, 3, 4, 5, 6, 7, 8, 9, 10, 11, 12, 13, 14, 15, 16, 17, 18, 19], [0, 1, 2, 3, 4, 5, 6, 7, 8, 9, 10, 11, 12, 13, 14, 15, 16, 17, 18, 19, 20], [0, 1, 2, 3, 4, 5, 6, 7, 8, 9, 10, 11, 12, 13, 14, 15, 16, 17, 18, 19, 20, 21], [0, 1, 2, 3, 4, 5, 6, 7, 8, 9, 10, 11, 12, 13, 14, 15, 16, 17, 18, 19, 20, 21, 22], [0, 1, 2, 3, 4, 5, 6, 7, 8, 9, 10, 11, 12, 13, 14, 15, 16, 17, 18, 19, 20, 21, 22, 23]])
 (.ret)))
theorem m_there_ok : compF Try.prog 97 = some (43, m_there, [.mov (.t 4)]) := by kernel_rfl
def m_find : MC := .seq (.reg [⟨(some 2), none, (.m (.box 30 (.t 0)))⟩, ⟨(some 3), none, (.m (.box 39 (.t 1)))⟩, ⟨(some 4), none, (.p (.mov (.c (.int .i64 0))))⟩])
 (.seq (.seq (.reg [⟨(some 5), none, (.p (.load true 2 (.t 2)))⟩, ⟨(some 6), none, (.call 57 [(.t 5)])⟩, ⟨(some 7), none, (.p (.un .not (.t 6)))⟩])
 (.cond (.t 7) (.seq (.reg [⟨(some 4), none, (.p (.mov (.c (.int .i64 1))))⟩])
 (.ret)) (.skip)))
 (.seq (.seq (.reg [⟨(some 8), none, (.p (.load true 2 (.t 2)))⟩, ⟨(some 9), none, (.p (.load true 2 (.t 3)))⟩, ⟨(some 10), none, (.call 97 [(.t 8), (.t 9)])⟩, ⟨(some 11), none, (.p (.un .not (.t 10)))⟩])
 (.cond (.t 11) (.seq (.reg [⟨(some 4), none, (.p (.mov (.c (.int .i64 30))))⟩])
 (.ret)) (.skip)))
 (.seq (.reg [⟨(some 4), none, (.p (.mov (.c (.int .i64 0))))⟩])
 (.ret))))
theorem m_find_ok : compF Try.prog 59 = some (12, m_find, [.mov (.t 4)]) := by kernel_rfl
def m_ccl : MC := .seq (.reg [⟨(some 2), none, (.p (.mov (.c (.nilS))))⟩])
 (.seq (.seq (.reg [⟨(some 3), none, (.p (.mov (.t 0)))⟩, ⟨(some 4), none, (.p (.bin 2 .eql (.t 3) (.c (.nilS))))⟩])
 (.cond (.t 4) (.seq (.reg [⟨(some 2), none, (.p (.mov (.c (.nilS))))⟩])
 (.ret)) (.skip)))
 (.seq (.reg [⟨(some 5), none, (.m (.buildS 84 4 (.agg [.int .u8 0, .int .u16 0, .int .i64 0, .int .i64 0]) 0 []))⟩, ⟨(some 6), none, (.p (.mov (.t 0)))⟩, ⟨(some 7), none, (.m (.app 84 4 24 (.t 5) (.t 6)))⟩, ⟨(some 2), none, (.p (.mov (.t 7)))⟩])
 (.ret)))
theorem m_ccl_ok : compF Try.prog 96 = some (8, m_ccl, [.mov (.t 2)]) := by kernel_rfl
def m_vcop : MC := .seq (.reg [⟨(some 1), none, (.m (.box 43 (.t 0)))⟩, ⟨(some 2), none, (.m (.alloc 43 (.agg [.int .i64 0, .int .i64 0, .int .i64 0, .int .i64 0, .int .i64 0, .int .i64 0, .int .u16 0, .nilS])))⟩])
 (.seq (.reg [⟨(some 3), none, (.p (.fieldA 7 7 (.t 1)))⟩, ⟨(some 4), none, (.p (.load false 1 (.t 3)))⟩, ⟨(some 5), none, (.call 96 [(.t 4)])⟩, ⟨(some 6), none, (.p (.fieldA 7 7 (.t 1)))⟩, ⟨none, none, (.m (.store 1 (.t 6) (.t 5)))⟩])
 (.seq (.reg [⟨(some 7), none, (.p (.load true 8 (.t 1)))⟩, ⟨none, none, (.m (.store 8 (.t 2) (.t 7)))⟩])
 (.ret)))
theorem m_vcop_ok : compF Try.prog 76 = some (8, m_vcop, [.load true 8 (.t 2)]) := by kernel_rfl
def m_get : MC := .seq (.reg [⟨(some 2), none, (.m (.box 30 (.t 0)))⟩, ⟨(some 3), none, (.m (.box 39 (.t 1)))⟩, ⟨(some 4), none, (.m (.alloc 45 (.agg [.agg [.int .i64 0, .int .i64 0], .nilS, .agg [.int .i64 0, .int .i64 0, .int .i64 0, .int .i64 0, .int .i64 0, .int .i64 0, .int .u16 0, .nilS]])))⟩])
 (.seq (.seq (.reg [⟨(some 5), none, (.p (.fieldA 0 0 (.t 3)))⟩, ⟨(some 6), none, (.p (.load false 1 (.t 5)))⟩, ⟨(some 7), none, (.p (.bin 0 .eql (.t 6) (.c (.int .i64 (-1)))))⟩])
 (.cond (.t 7) (.seq (.dreg [⟨(some 8), none, (.p (.load true 2 (.t 3)))⟩, ⟨(some 9), none, (.p (.fieldA 1 1 (.t 2)))⟩, ⟨(some 10), none, (.p (.load false 1 (.t 9)))⟩, ⟨(some 11), none, (.p (.fieldA 1 1 (.t 3)))⟩, ⟨(some 12), none, (.p (.load false 1 (.t 11)))⟩, ⟨(some 13), none, (.p (.idxA 8 (.t 10) (.t 12)))⟩, ⟨(some 14), none, (.p (.load true 8 (.t 13)))⟩, ⟨(some 15), none, (.call 76 [(.t 14)])⟩, ⟨(some 16), none, (.m (.build none [.agg [.int .i64 0, .int .i64 0], .nilS, .agg [.int .i64 0, .int .i64 0, .int .i64 0, .int .i64 0, .int .i64 0, .int .i64 0, .int .u16 0, .nilS]] [(0, (.t 8)), (2, (.t 15))]))⟩, ⟨none, none, (.m (.store 11 (.t 4) (.t 16)))⟩] [[], [], [1], [], [3], [1, 2, 3, 4], [1, 2, 3, 4, 5], [1, 2, 3, 4, 5, 6], [0, 1, 2, 3, 4, 5, 6, 7], [0, 1, 2, 3, 4, 5, 6, 7, 8]])
 (.ret)) (.skip)))
 (.seq (.dreg [⟨(some 17), none, (.p (.load true 2 (.t 3)))⟩, ⟨(some 18), none, (.p (.fieldA 0 0 (.t 2)))⟩, ⟨(some 19), none, (.p (.load false 1 (.t 18)))⟩, ⟨(some 20), none, (.p (.fieldA 0 0 (.t 3)))⟩, ⟨(some 21), none, (.p (.load false 1 (.t 20)))⟩, ⟨(some 22), none, (.p (.idxA 1 (.t 19) (.t 21)))⟩, ⟨(some 23), none, (.p (.load false 1 (.t 22)))⟩, ⟨(some 24), none, (.p (.fieldA 1 1 (.t 3)))⟩, ⟨(some 25), none, (.p (.load false 1 (.t 24)))⟩, ⟨(some 26), none, (.call 77 [(.t 23), (.t 25)])⟩, ⟨(some 27), none, (.call 96 [(.t 26)])⟩, ⟨(some 28), none, (.m (.build none [.agg [.int .i64 0, .int .i64 0], .nilS, .agg [.int .i64 0, .int .i64 0, .int .i64 0, .int .i64 0, .int .i64 0, .int .i64 0, .int .u16 0, .nilS]] [(0, (.t 17)), (1, (.t 27))]))⟩, ⟨none, none, (.m (.store 11 (.t 4) (.t 28)))⟩] [[], [], [1], [], [3], [1, 2, 3, 4], [1, 2, 3, 4, 5], [], [7], [1, 2, 3, 4, 5, 6, 7, 8], [1, 2, 3, 4, 5, 6, 7, 8, 9], [0, 1, 2, 3, 4, 5, 6, 7, 8, 9, 10], [0, 1, 2, 3, 4, 5, 6, 7, 8, 9, 10, 11]])
 (.ret)))
theorem m_get_ok : compF Try.prog 58 = some (29, m_get, [.load true 11 (.t 4)]) := by kernel_rfl
def m_pget : MC := .seq (.reg [⟨(some 2), none, (.m (.box 30 (.t 0)))⟩, ⟨(some 3), none, (.m (.box 39 (.t 1)))⟩, ⟨(some 4), none, (.m (.alloc 45 (.agg [.agg [.int .i64 0, .int .i64 0], .nilS, .agg [.int .i64 0, .int .i64 0, .int .i64 0, .int .i64 0, .int .i64 0, .int .i64 0, .int .u16 0, .nilS]])))⟩, ⟨(some 5), none, (.p (.mov (.c (.int .i64 0))))⟩])
 (.seq (.seq (.reg [⟨(some 7), none, (.p (.load true 2 (.t 2)))⟩, ⟨(some 8), none, (.p (.load true 2 (.t 3)))⟩, ⟨(some 9), none, (.call 59 [(.t 7), (.t 8)])⟩, ⟨(some 6), none, (.p (.mov (.t 9)))⟩])
 (.seq (.reg [⟨(some 10), none, (.p (.mov (.t 6)))⟩, ⟨(some 11), none, (.p (.bin 0 .neq (.t 10) (.c (.int .i64 0))))⟩])
 (.cond (.t 11) (.seq (.reg [⟨(some 12), none, (.m (.build none [.agg [.int .i64 0, .int .i64 0], .nilS, .agg [.int .i64 0, .int .i64 0, .int .i64 0, .int .i64 0, .int .i64 0, .int .i64 0, .int .u16 0, .nilS]] []))⟩, ⟨(some 13), none, (.p (.mov (.t 6)))⟩, ⟨none, none, (.m (.store 11 (.t 4) (.t 12)))⟩, ⟨(some 5), none, (.p (.mov (.t 13)))⟩])
 (.ret)) (.skip))))
 (.seq (.reg [⟨(some 14), none, (.p (.load true 2 (.t 2)))⟩, ⟨(some 15), none, (.p (.load true 2 (.t 3)))⟩, ⟨(some 16), none, (.call 58 [(.t 14), (.t 15)])⟩, ⟨none, none, (.m (.store 11 (.t 4) (.t 16)))⟩, ⟨(some 5), none, (.p (.mov (.c (.int .i64 0))))⟩])
 (.ret)))
theorem m_pget_ok : compF Try.prog 24 = some (17, m_pget, [.load true 11 (.t 4), .mov (.t 5)]) := by kernel_rfl
def m_pall : MC := .seq (.reg [⟨(some 1), none, (.m (.box 30 (.t 0)))⟩, ⟨(some 2), none, (.p (.mov (.c (.nilS))))⟩, ⟨(some 3), none, (.p (.mov (.c (.int .i64 0))))⟩])
 (.seq (.seq (.reg [⟨(some 9), none, (.p (.load true 2 (.t 1)))⟩, ⟨(some 10), none, (.call 57 [(.t 9)])⟩, ⟨(some 11), none, (.p (.un .not (.t 10)))⟩])
 (.cond (.t 11) (.seq (.reg [⟨(some 2), none, (.p (.mov (.c (.nilS))))⟩, ⟨(some 3), none, (.p (.mov (.c (.int .i64 1))))⟩])
 (.ret)) (.skip)))
 (.seq (.dreg [⟨(some 13), none, (.p (.load true 2 (.t 1)))⟩, ⟨(some 14), none, (.call 34 [(.t 13)])⟩, ⟨(some 15), none, (.p (.fieldA 1 1 (.t 1)))⟩, ⟨(some 16), none, (.p (.load false 1 (.t 15)))⟩, ⟨(some 17), none, (.p (.len (.t 16)))⟩, ⟨(some 18), none, (.call 39 [(.t 14), (.t 17)])⟩, ⟨(some 12), none, (.p (.mov (.t 18)))⟩, ⟨(some 19), none, (.p (.ext (.t 12) 0))⟩, ⟨(some 20), none, (.p (.ext (.t 12) 1))⟩, ⟨(some 4), none, (.p (.mov (.t 19)))⟩, ⟨(some 5), none, (.p (.mov (.t 20)))⟩] [[], [0], [], [2], [2, 3], [0, 1, 2, 3, 4], [0, 1, 2, 3, 4, 5], [0, 1, 2, 3, 4, 5, 6], [0, 1, 2, 3, 4, 5, 6], [0, 1, 2, 3, 4, 5, 6, 7], [0, 1, 2, 3, 4, 5, 6, 7, 8, 9]])
 (.seq (.reg [⟨(some 6), none, (.p (.mov (.c (.nilS))))⟩])
 (.seq (.seq (.reg [⟨(some 21), none, (.p (.mov (.t 4)))⟩, ⟨(some 22), none, (.p (.len (.t 21)))⟩, ⟨(some 23), none, (.p (.mov (.c (.int .i64 0))))⟩])
 (.block 0 (.loop (.seq (.reg [⟨(some 24), none, (.p (.bin 0 .lss (.t 23) (.t 22)))⟩])
 (.seq (.cond (.t 24) (.skip) (.exit 0))
 (.seq (.block 1 (.seq (.reg [⟨(some 25), none, (.p (.idxA 2 (.t 21) (.t 23)))⟩, ⟨(some 26), none, (.p (.load true 2 (.t 25)))⟩, ⟨(some 8), none, (.m (.alloc 39 (.agg [.int .i64 0, .int .i64 0])))⟩, ⟨none, none, (.m (.store 2 (.t 8) (.t 26)))⟩])
 (.reg [⟨(some 27), none, (.p (.mov (.t 6)))⟩, ⟨(some 28), none, (.p (.load true 2 (.t 1)))⟩, ⟨(some 29), none, (.p (.load true 2 (.t 8)))⟩, ⟨(some 30), none, (.call 58 [(.t 28), (.t 29)])⟩, ⟨(some 31), none, (.m (.buildS 45 11 (.agg [.agg [.int .i64 0, .int .i64 0], .nilS, .agg [.int .i64 0, .int .i64 0, .int .i64 0, .int .i64 0, .int .i64 0, .int .i64 0, .int .u16 0, .nilS]]) 1 [(0, (.t 30))]))⟩, ⟨(some 32), none, (.m (.app 45 11 120 (.t 27) (.t 31)))⟩, ⟨(some 6), none, (.p (.mov (.t 32)))⟩])))
 (.reg [⟨(some 33), none, (.p (.bin 0 .add (.t 23) (.c (.int .i64 1))))⟩, ⟨(some 23), none, (.p (.mov (.t 33)))⟩])))))))
 (.seq (.reg [⟨(some 34), none, (.p (.mov (.t 6)))⟩, ⟨(some 2), none, (.p (.mov (.t 34)))⟩, ⟨(some 3), none, (.p (.mov (.c (.int .i64 0))))⟩])
 (.ret))))))
theorem m_pall_ok : compF Try.prog 23 = some (35, m_pall, [.mov (.t 2), .mov (.t 3)]) := by kernel_rfl
attribute [local irreducible] idsF shp
set_option maxHeartbeats 4000000 in
theorem ccl_fn (l : List Canon) (hb : l.length ≤ 5864062014634) : Fnc Try.prog 96 [.sl false 4 (l.map canonV)] (fun x obs => x = .sl true 4 (l.map canonV) ∧ obs = []) := by
  refine Fnc.intro m_ccl_ok (by simp) fun W S => ?_
  unfold m_ccl
  simp only [ents, Nat.zero_add, Nat.reduceAdd]
  repeat (first | refine ev_seq ?_ | refine ev_block ?_ | refine ev_skip ?_ | refine ev_inBlock ?_ | refine evr_nil ?_ | refine evw_nil (by kernel_rfl) ?_ | refine ev_exit rfl ?_ | refine ev_round ?_ | refine ev_condT rfl ?_ | refine ev_condF rfl ?_ | refine ev_condTb rfl (by first | exact decT (by omega) | exact beqT (by omega) | exact bneT (by omega) | exact notT (decF (by omega)) | exact notT (beqF (by omega))) ?_ | refine ev_condFb rfl (by first | exact decF (by omega) | exact beqF (by omega) | exact bneF (by omega) | exact notF (decT (by omega)) | exact notF (beqT (by omega))) ?_)
  (first | refine ev_seq ?_ | refine ev_block ?_ | refine ev_skip ?_ | refine ev_inBlock ?_ | refine evr_nil ?_ | refine evw_nil (by kernel_rfl) ?_ | refine ev_exit rfl ?_ | refine ev_round ?_ | refine ev_condT rfl ?_ | refine ev_condF rfl ?_ | refine ev_condTb rfl (by first | exact decT (by omega) | exact beqT (by omega) | exact bneT (by omega) | exact notT (decF (by omega)) | exact notT (beqF (by omega))) ?_ | refine ev_condFb rfl (by first | exact decF (by omega) | exact beqF (by omega) | exact bneF (by omega) | exact notF (decT (by omega)) | exact notF (beqT (by omega))) ?_ | ((first | refine ev_region ?_ | (refine evr_skip rfl ?_; refine ev_all (fu := [(), (), (), (), (), (), (), ()]) ?_) | (refine evw_skip rfl ?_; refine evw_all (md := []) (fu := [(), (), (), (), (), (), (), ()]) ?_) | refine evr_goP ?_ | refine evr_goM ?_ | refine evw_goP ?_ | refine evw_goM ?_ | refine ev_draw (fu := [(), (), (), (), (), (), (), ()]) mixed [] 0 rfl (by kernel_rfl) ?_ | refine ev_draw (fu := [(), (), (), (), (), (), (), ()]) mixed [] 1 rfl (by kernel_rfl) ?_ | refine ev_draw (fu := [(), (), (), (), (), (), (), ()]) mixed [] 2 rfl (by kernel_rfl) ?_); refine zev ?_))
  repeat (first | refine ev_seq ?_ | refine ev_block ?_ | refine ev_skip ?_ | refine ev_inBlock ?_ | refine evr_nil ?_ | refine evw_nil (by kernel_rfl) ?_ | refine ev_exit rfl ?_ | refine ev_round ?_ | refine ev_condT rfl ?_ | refine ev_condF rfl ?_ | refine ev_condTb rfl (by first | exact decT (by omega) | exact beqT (by omega) | exact bneT (by omega) | exact notT (decF (by omega)) | exact notT (beqF (by omega))) ?_ | refine ev_condFb rfl (by first | exact decF (by omega) | exact beqF (by omega) | exact bneF (by omega) | exact notF (decT (by omega)) | exact notF (beqT (by omega))) ?_)
  refine ev_reg ?_
  refine evr_p rfl trivial ?_
  refine evr_nilq rfl rfl fun b hb0 => ?_
  cases b with
  | false =>
    simp only [aopP, X.ev, slotV, AS.put, if_true]
    refine zst ?_
    refine ret m_ccl_ok [] ?_; (first | (simp only [go_sem]; done) | (simp only [go_sem]; ((try dsimp only); (repeat' (refine And.intro ?_ ?_)) <;> first | with_reducible rfl | (simp only [go_sem]; done) | (simp only [go_sem]; rfl) | (simp only []; (try simp only [go_sem]); first | done | rfl) | (simp only [go_sem]; simp []; done) | (simp []; done) | rfl)))
  | true =>
    have hl : l = [] := by
      cases l with
      | nil => rfl
      | cons a l => exact absurd (hb0 (by simp)) (by simp)
    subst hl
    simp only [aopP, X.ev, slotV, AS.put, if_true]
    repeat (first | refine ev_seq ?_ | refine ev_block ?_ | refine ev_skip ?_ | refine ev_inBlock ?_ | refine evr_nil ?_ | refine evw_nil (by kernel_rfl) ?_ | refine ev_exit rfl ?_ | refine ev_round ?_ | refine ev_condT rfl ?_ | refine ev_condF rfl ?_ | refine ev_condTb rfl (by first | exact decT (by omega) | exact beqT (by omega) | exact bneT (by omega) | exact notT (decF (by omega)) | exact notT (beqF (by omega))) ?_ | refine ev_condFb rfl (by first | exact decF (by omega) | exact beqF (by omega) | exact bneF (by omega) | exact notF (decT (by omega)) | exact notF (beqT (by omega))) ?_)
    (first | refine ev_seq ?_ | refine ev_block ?_ | refine ev_skip ?_ | refine ev_inBlock ?_ | refine evr_nil ?_ | refine evw_nil (by kernel_rfl) ?_ | refine ev_exit rfl ?_ | refine ev_round ?_ | refine ev_condT rfl ?_ | refine ev_condF rfl ?_ | refine ev_condTb rfl (by first | exact decT (by omega) | exact beqT (by omega) | exact bneT (by omega) | exact notT (decF (by omega)) | exact notT (beqF (by omega))) ?_ | refine ev_condFb rfl (by first | exact decF (by omega) | exact beqF (by omega) | exact bneF (by omega) | exact notF (decT (by omega)) | exact notF (beqT (by omega))) ?_ | ((first | refine ev_region ?_ | (refine evr_skip rfl ?_; refine ev_all (fu := [(), (), (), (), (), (), (), ()]) ?_) | (refine evw_skip rfl ?_; refine evw_all (md := []) (fu := [(), (), (), (), (), (), (), ()]) ?_) | refine evr_goP ?_ | refine evr_goM ?_ | refine evw_goP ?_ | refine evw_goM ?_ | refine ev_draw (fu := [(), (), (), (), (), (), (), ()]) mixed [] 0 rfl (by kernel_rfl) ?_ | refine ev_draw (fu := [(), (), (), (), (), (), (), ()]) mixed [] 1 rfl (by kernel_rfl) ?_ | refine ev_draw (fu := [(), (), (), (), (), (), (), ()]) mixed [] 2 rfl (by kernel_rfl) ?_); refine zev ?_))
    repeat (first | refine ev_seq ?_ | refine ev_block ?_ | refine ev_skip ?_ | refine ev_inBlock ?_ | refine evr_nil ?_ | refine evw_nil (by kernel_rfl) ?_ | refine ev_exit rfl ?_ | refine ev_round ?_ | refine ev_condT rfl ?_ | refine ev_condF rfl ?_ | refine ev_condTb rfl (by first | exact decT (by omega) | exact beqT (by omega) | exact bneT (by omega) | exact notT (decF (by omega)) | exact notT (beqF (by omega))) ?_ | refine ev_condFb rfl (by first | exact decF (by omega) | exact beqF (by omega) | exact bneF (by omega) | exact notF (decT (by omega)) | exact notF (beqT (by omega))) ?_)
    refine ev_nil2 2 true 4 rfl ?_
    refine ret m_ccl_ok [] ?_; (first | (simp only [go_sem]; done) | (simp only [go_sem]; ((try dsimp only); (repeat' (refine And.intro ?_ ?_)) <;> first | with_reducible rfl | (simp only [go_sem]; done) | (simp only [go_sem]; rfl) | (simp only []; (try simp only [go_sem]); first | done | rfl) | (simp only [go_sem]; simp []; done) | (simp []; done) | rfl)))
set_option maxHeartbeats 4000000 in
theorem ccl_own (l : List Canon) (hb : l.length ≤ 5864062014634) : Fnc Try.prog 96 [.sl false 4 (l.map canonV)] (fun x obs => x = .own 0 0 ∧ obs = [⟨.row 84, true, 0, .arr 4 (l.map canonV)⟩]) := by
  refine Fnc.intro m_ccl_ok (by simp) fun W S => ?_
  unfold m_ccl
  simp only [ents, Nat.zero_add, Nat.reduceAdd]
  repeat (first | refine ev_seq ?_ | refine ev_block ?_ | refine ev_skip ?_ | refine ev_inBlock ?_ | refine evr_nil ?_ | refine evw_nil (by kernel_rfl) ?_ | refine ev_exit rfl ?_ | refine ev_round ?_ | refine ev_condT rfl ?_ | refine ev_condF rfl ?_ | refine ev_condTb rfl (by first | exact decT (by omega) | exact beqT (by omega) | exact bneT (by omega) | exact notT (decF (by omega)) | exact notT (beqF (by omega))) ?_ | refine ev_condFb rfl (by first | exact decF (by omega) | exact beqF (by omega) | exact bneF (by omega) | exact notF (decT (by omega)) | exact notF (beqT (by omega))) ?_)
  (first | refine ev_seq ?_ | refine ev_block ?_ | refine ev_skip ?_ | refine ev_inBlock ?_ | refine evr_nil ?_ | refine evw_nil (by kernel_rfl) ?_ | refine ev_exit rfl ?_ | refine ev_round ?_ | refine ev_condT rfl ?_ | refine ev_condF rfl ?_ | refine ev_condTb rfl (by first | exact decT (by omega) | exact beqT (by omega) | exact bneT (by omega) | exact notT (decF (by omega)) | exact notT (beqF (by omega))) ?_ | refine ev_condFb rfl (by first | exact decF (by omega) | exact beqF (by omega) | exact bneF (by omega) | exact notF (decT (by omega)) | exact notF (beqT (by omega))) ?_ | ((first | refine ev_region ?_ | (refine evr_skip rfl ?_; refine ev_all (fu := [(), (), (), (), (), (), (), ()]) ?_) | (refine evw_skip rfl ?_; refine evw_all (md := []) (fu := [(), (), (), (), (), (), (), ()]) ?_) | refine evr_goP ?_ | refine evr_goM ?_ | refine evw_goP ?_ | refine evw_goM ?_ | refine ev_draw (fu := [(), (), (), (), (), (), (), ()]) mixed [] 0 rfl (by kernel_rfl) ?_ | refine ev_draw (fu := [(), (), (), (), (), (), (), ()]) mixed [] 1 rfl (by kernel_rfl) ?_ | refine ev_draw (fu := [(), (), (), (), (), (), (), ()]) mixed [] 2 rfl (by kernel_rfl) ?_); refine zev ?_))
  repeat (first | refine ev_seq ?_ | refine ev_block ?_ | refine ev_skip ?_ | refine ev_inBlock ?_ | refine evr_nil ?_ | refine evw_nil (by kernel_rfl) ?_ | refine ev_exit rfl ?_ | refine ev_round ?_ | refine ev_condT rfl ?_ | refine ev_condF rfl ?_ | refine ev_condTb rfl (by first | exact decT (by omega) | exact beqT (by omega) | exact bneT (by omega) | exact notT (decF (by omega)) | exact notT (beqF (by omega))) ?_ | refine ev_condFb rfl (by first | exact decF (by omega) | exact beqF (by omega) | exact bneF (by omega) | exact notF (decT (by omega)) | exact notF (beqT (by omega))) ?_)
  refine ev_reg ?_
  refine evr_p rfl trivial ?_
  refine evr_nilq rfl rfl fun b hb0 => ?_
  cases b with
  | false =>
    simp only [aopP, X.ev, slotV, AS.put, if_true]
    refine zst ?_
    refine ret m_ccl_ok [0] ?_; (first | (simp only [go_sem]; done) | (simp only [go_sem]; ((try dsimp only); (repeat' (refine And.intro ?_ ?_)) <;> first | with_reducible rfl | (simp only [go_sem]; done) | (simp only [go_sem]; rfl) | (simp only []; (try simp only [go_sem]); first | done | rfl) | (simp only [go_sem]; simp []; done) | (simp []; done) | rfl)))
  | true =>
    have hl : l = [] := by
      cases l with
      | nil => rfl
      | cons a l => exact absurd (hb0 (by simp)) (by simp)
    subst hl
    simp only [aopP, X.ev, slotV, AS.put, if_true]
    repeat (first | refine ev_seq ?_ | refine ev_block ?_ | refine ev_skip ?_ | refine ev_inBlock ?_ | refine evr_nil ?_ | refine evw_nil (by kernel_rfl) ?_ | refine ev_exit rfl ?_ | refine ev_round ?_ | refine ev_condT rfl ?_ | refine ev_condF rfl ?_ | refine ev_condTb rfl (by first | exact decT (by omega) | exact beqT (by omega) | exact bneT (by omega) | exact notT (decF (by omega)) | exact notT (beqF (by omega))) ?_ | refine ev_condFb rfl (by first | exact decF (by omega) | exact beqF (by omega) | exact bneF (by omega) | exact notF (decT (by omega)) | exact notF (beqT (by omega))) ?_)
    (first | refine ev_seq ?_ | refine ev_block ?_ | refine ev_skip ?_ | refine ev_inBlock ?_ | refine evr_nil ?_ | refine evw_nil (by kernel_rfl) ?_ | refine ev_exit rfl ?_ | refine ev_round ?_ | refine ev_condT rfl ?_ | refine ev_condF rfl ?_ | refine ev_condTb rfl (by first | exact decT (by omega) | exact beqT (by omega) | exact bneT (by omega) | exact notT (decF (by omega)) | exact notT (beqF (by omega))) ?_ | refine ev_condFb rfl (by first | exact decF (by omega) | exact beqF (by omega) | exact bneF (by omega) | exact notF (decT (by omega)) | exact notF (beqT (by omega))) ?_ | ((first | refine ev_region ?_ | (refine evr_skip rfl ?_; refine ev_all (fu := [(), (), (), (), (), (), (), ()]) ?_) | (refine evw_skip rfl ?_; refine evw_all (md := []) (fu := [(), (), (), (), (), (), (), ()]) ?_) | refine evr_goP ?_ | refine evr_goM ?_ | refine evw_goP ?_ | refine evw_goM ?_ | refine ev_draw (fu := [(), (), (), (), (), (), (), ()]) mixed [] 0 rfl (by kernel_rfl) ?_ | refine ev_draw (fu := [(), (), (), (), (), (), (), ()]) mixed [] 1 rfl (by kernel_rfl) ?_ | refine ev_draw (fu := [(), (), (), (), (), (), (), ()]) mixed [] 2 rfl (by kernel_rfl) ?_); refine zev ?_))
    repeat (first | refine ev_seq ?_ | refine ev_block ?_ | refine ev_skip ?_ | refine ev_inBlock ?_ | refine evr_nil ?_ | refine evw_nil (by kernel_rfl) ?_ | refine ev_exit rfl ?_ | refine ev_round ?_ | refine ev_condT rfl ?_ | refine ev_condF rfl ?_ | refine ev_condTb rfl (by first | exact decT (by omega) | exact beqT (by omega) | exact bneT (by omega) | exact notT (decF (by omega)) | exact notT (beqF (by omega))) ?_ | refine ev_condFb rfl (by first | exact decF (by omega) | exact beqF (by omega) | exact bneF (by omega) | exact notF (decT (by omega)) | exact notF (beqT (by omega))) ?_)
    refine ev_adopt (i := 2) (e := 84) (s := 4) rfl (by decide) ?_
    refine ret m_ccl_ok [0] ?_; (first | (simp only [go_sem]; done) | (simp only [go_sem]; ((try dsimp only); (repeat' (refine And.intro ?_ ?_)) <;> first | with_reducible rfl | (simp only [go_sem]; done) | (simp only [go_sem]; rfl) | (simp only []; (try simp only [go_sem]); first | done | rfl) | (simp only [go_sem]; simp []; done) | (simp []; done) | rfl)))
/-- A state of which copies can be made. -/
structure LowS (s : State) : Prop where
  r : s.regions.length ≤ 5864062014634
  c : ∀ x ∈ s.regions, x.length ≤ 5864062014634
  t : s.threads.length ≤ 5864062014634
  g : ∀ x ∈ s.threads, x.regs.length ≤ 5864062014634
set_option maxHeartbeats 4000000 in
theorem psizes_fn (s : State) (L : s.regions.length ≤ 5864062014634) : Fnc Try.prog 34 [staV s] (fun x obs => x = .sl true 1 (i64s (szs s)) ∧ obs = []) := by
  have hl := szs_len s
  refine Fnc.intro m_psizes_ok (by simp) fun W S => ?_
  unfold m_psizes
  simp only [ents, Nat.zero_add, Nat.reduceAdd]
  refine zst ?_
  refine ev_adopt (i := 3) (e := 3) (s := 1) rfl (by decide) ?_
  refine ev_loopK [7, 8] (fun p : {p : Nat // p ≤ s.regions.length} => [(3, .own 1 p.1), (9, .int .i64 p.1)]) (fun p => [⟨.box false 30, true, 0, staV s⟩, ⟨.row 3, true, p.1, .arr 1 (i64s ((szs s).take p.1))⟩]) (fun p => s.regions.length - p.1) (⟨0, by simp⟩) 2 (by simp only [go_sem]; rfl) ?_ (by first | rfl | (simp only [go_sem]; done)) (by simp) (by first | rfl | (simp only [go_sem]; done)) (by first | rfl | (simp only [go_sem]; done)) (by first | rfl | (simp only [go_sem]; done)) ?_
  · (simp only [go_sem]; (try simp []); done)
  intro J hJ
  rintro ⟨k, hk0⟩
  by_cases hlt : k < s.regions.length
  · have hs := szs_take s k hlt
    refine zst ?_
    refine ev_next 2 (hJ _ (⟨k + 1, hlt⟩) (by first | omega | (dsimp only; omega) | (simp; omega))) rfl (by simp) ?_ (by first | rfl | (simp only [go_sem]; done)) (by first | rfl | (simp only [go_sem]; done) | (simp only [hs]; (try simp only [go_sem]); first | done | rfl)) ?_
    · (first | rfl | (simp only [go_sem]; done) | (simp only [go_sem]; simp only [hs]; done) | (simp only [hs]; done) | (simp only [go_sem]; simp [hs]; done) | (simp [hs]; done))
    · (simp only [go_sem]; (repeat' (refine And.intro ?_ ?_)) <;> first | exact trivial | with_reducible rfl | (simp only [hs]; done) | (simp only [hs]; with_reducible rfl) | (simp [hs]; done) | (simp [hs]; omega) | (simp only [hs]; rfl) | skip)
  · obtain rfl : k = s.regions.length := by omega
    have ht : (szs s).take s.regions.length = szs s := List.take_of_length_le (by omega)
    dsimp only
    rw [ht]
    refine zst ?_
    refine ret m_psizes_ok [] ?_; (first | (simp only [go_sem]; done) | (simp only [go_sem]; ((try dsimp only); (repeat' (refine And.intro ?_ ?_)) <;> first | with_reducible rfl | (simp only [go_sem]; done) | (simp only [go_sem]; rfl) | (simp only []; (try simp only [go_sem]); first | done | rfl) | (simp only [go_sem]; simp []; done) | (simp []; done) | rfl)))
theorem prt_no {l : List Canon} {i : Int} (h : i < 0 ∨ 32 < i ∨ (l.length : Int) ≤ 8 * i) : prt l i = [] := by
  unfold prt
  split
  · rw [List.drop_eq_nil_of_le (by omega)]; rfl
  · rfl
theorem prt_yes {l : List Canon} {i : Int} (h : 0 ≤ i) (h2 : i ≤ 32) : prt l i = (l.take (min (8 * i + 8) (l.length : Int)).toNat).drop (8 * i).toNat := by
  unfold prt
  rw [if_pos ⟨h, h2⟩, List.take_drop]
  by_cases c : 8 * i + 8 ≤ (l.length : Int)
  · rw [show (min (8 * i + 8) (l.length : Int)).toNat = (8 * i).toNat + 8 by omega, Nat.add_comm]
  · rw [show (min (8 * i + 8) (l.length : Int)).toNat = l.length by omega, List.take_of_length_le (i := l.length) (Nat.le_refl _), List.take_of_length_le (by omega)]
set_option maxHeartbeats 4000000 in
theorem part_fn (l : List Canon) (i : Int) : Fnc Try.prog 77 [.sl false 4 (l.map canonV), .int .i64 i] (fun x obs => x = .sl false 4 ((prt l i).map canonV) ∧ obs = []) := by
  refine Fnc.low ?_
  refine Fnc.wf fun hw => ?_
  simp only [V.wfs, V.wf, wfs_map, List.length_map] at hw
  have hm := hw.1.2
  have hi := inK_i64' hw.2.1
  clear hw
  by_cases c1 : i < 0
  · rw [prt_no (.inl c1)]
    refine Fnc.intro m_part_ok (by simp) fun W S => ?_
    unfold m_part
    simp only [ents, Nat.zero_add, Nat.reduceAdd]
    refine zst ?_
    refine ev_nil2 4 true 4 rfl ?_
    refine ret m_part_ok [] ?_; (first | (simp only [go_sem]; done) | (simp only [go_sem]; ((try dsimp only); (repeat' (refine And.intro ?_ ?_)) <;> first | with_reducible rfl | (simp only [go_sem]; done) | (simp only [go_sem]; rfl) | (simp only []; (try simp only [go_sem]); first | done | rfl) | (simp only [go_sem]; simp []; done) | (simp []; done) | rfl)))
  by_cases c2 : 32 < i
  · rw [prt_no (.inr (.inl c2))]
    refine Fnc.intro m_part_ok (by simp) fun W S => ?_
    unfold m_part
    simp only [ents, Nat.zero_add, Nat.reduceAdd]
    refine zst ?_
    refine ev_nil2 4 true 4 rfl ?_
    refine ret m_part_ok [] ?_; (first | (simp only [go_sem]; done) | (simp only [go_sem]; ((try dsimp only); (repeat' (refine And.intro ?_ ?_)) <;> first | with_reducible rfl | (simp only [go_sem]; done) | (simp only [go_sem]; rfl) | (simp only []; (try simp only [go_sem]); first | done | rfl) | (simp only [go_sem]; simp []; done) | (simp []; done) | rfl)))
  by_cases c3 : (l.length : Int) ≤ 8 * i
  · rw [prt_no (.inr (.inr c3))]
    refine Fnc.intro m_part_ok (by simp) fun W S => ?_
    unfold m_part
    simp only [ents, Nat.zero_add, Nat.reduceAdd]
    refine zst ?_
    refine ev_nil2 4 true 4 rfl ?_
    refine ret m_part_ok [] ?_; (first | (simp only [go_sem]; done) | (simp only [go_sem]; ((try dsimp only); (repeat' (refine And.intro ?_ ?_)) <;> first | with_reducible rfl | (simp only [go_sem]; done) | (simp only [go_sem]; rfl) | (simp only []; (try simp only [go_sem]); first | done | rfl) | (simp only [go_sem]; simp []; done) | (simp []; done) | rfl)))
  have hp := prt_yes (l := l) (by omega) (Int.not_lt.1 c2)
  have h8 : i * 8 = 8 * i := Int.mul_comm _ _
  have hT : (l.map canonV).take l.length = l.map canonV := List.take_of_length_le (by simp)
  by_cases c4 : 8 * i + 8 ≤ (l.length : Int)
  · rw [show min (8 * i + 8) (l.length : Int) = 8 * i + 8 by omega] at hp
    rw [hp]
    have hD : ((l.map canonV).take (i * 8 + 8).toNat).drop (i * 8).toNat = ((l.take (8 * i + 8).toNat).drop (8 * i).toNat).map canonV := by rw [h8, List.map_drop, List.map_take]
    refine Fnc.intro m_part_ok (by simp) fun W S => ?_
    unfold m_part
    simp only [ents, Nat.zero_add, Nat.reduceAdd]
    refine zst ?_
    refine ret m_part_ok [] ?_; (first | (simp only [go_sem]; done) | (simp only [go_sem]; ((try dsimp only); (repeat' (refine And.intro ?_ ?_)) <;> first | with_reducible rfl | (simp only [go_sem]; done) | (simp only [go_sem]; rfl) | (simp only [go_sem, hD]; done) | (simp only [hD]; (try simp only [go_sem]); first | done | rfl) | (simp only [go_sem]; simp [hD]; done) | (simp [hD]; done) | rfl)))
  · rw [show min (8 * i + 8) (l.length : Int) = l.length by omega] at hp
    rw [hp]
    have hD : ((l.map canonV).take l.length).drop (i * 8).toNat = (l.drop (8 * i).toNat).map canonV := by rw [h8, hT, List.map_drop]
    refine Fnc.intro m_part_ok (by simp) fun W S => ?_
    unfold m_part
    simp only [ents, Nat.zero_add, Nat.reduceAdd]
    refine zst ?_
    refine ret m_part_ok [] ?_; (first | (simp only [go_sem]; done) | (simp only [go_sem]; ((try dsimp only); (repeat' (refine And.intro ?_ ?_)) <;> first | with_reducible rfl | (simp only [go_sem]; done) | (simp only [go_sem]; rfl) | (simp only [go_sem, hD]; done) | (simp only [hD]; (try simp only [go_sem]); first | done | rfl) | (simp only [go_sem]; simp [hD]; done) | (simp [hD]; done) | rfl)))
set_option maxHeartbeats 8000000 in
theorem there_fn (s : State) (d : PageID) (h : shp s = true) : Fnc Try.prog 97 [staV s, pidV d] (fun x obs => x = .bool (decide (There s d)) ∧ obs = []) := by
  have H := shp_to h
  have Hr := H.r
  have Ht := H.t
  refine Fnc.wf fun hw => ?_
  simp only [V.wfs, V.wf, wfs_map, List.length_map] at hw
  have hi := inK_i64' hw.2.1.2.1
  clear hw
  by_cases c0 : d.region = -1
  · by_cases c1 : 0 ≤ d.index
    · by_cases c2 : d.index < s.threads.length
      · rw [decT (show There s d from .inl ⟨c0, c1, c2⟩)]
        refine Fnc.intro m_there_ok (by simp) fun W S => ?_
        unfold m_there
        simp only [ents, Nat.zero_add, Nat.reduceAdd]
        refine zst ?_
        refine ret m_there_ok [] ?_; (first | (simp only [go_sem]; done) | (simp only [go_sem]; ((try dsimp only); (repeat' (refine And.intro ?_ ?_)) <;> first | with_reducible rfl | (simp only [go_sem]; done) | (simp only [go_sem]; rfl) | (simp only []; (try simp only [go_sem]); first | done | rfl) | (simp only [go_sem]; simp []; done) | (simp []; done) | rfl)))
      · rw [decF (show ¬ There s d from fun h => by unfold There at h; omega)]
        refine Fnc.intro m_there_ok (by simp) fun W S => ?_
        unfold m_there
        simp only [ents, Nat.zero_add, Nat.reduceAdd]
        refine zst ?_
        refine ret m_there_ok [] ?_; (first | (simp only [go_sem]; done) | (simp only [go_sem]; ((try dsimp only); (repeat' (refine And.intro ?_ ?_)) <;> first | with_reducible rfl | (simp only [go_sem]; done) | (simp only [go_sem]; rfl) | (simp only []; (try simp only [go_sem]); first | done | rfl) | (simp only [go_sem]; simp []; done) | (simp []; done) | rfl)))
    · rw [decF (show ¬ There s d from fun h => by unfold There at h; omega)]
      refine Fnc.intro m_there_ok (by simp) fun W S => ?_
      unfold m_there
      simp only [ents, Nat.zero_add, Nat.reduceAdd]
      refine zst ?_
      refine ret m_there_ok [] ?_; (first | (simp only [go_sem]; done) | (simp only [go_sem]; ((try dsimp only); (repeat' (refine And.intro ?_ ?_)) <;> first | with_reducible rfl | (simp only [go_sem]; done) | (simp only [go_sem]; rfl) | (simp only []; (try simp only [go_sem]); first | done | rfl) | (simp only [go_sem]; simp []; done) | (simp []; done) | rfl)))
  by_cases c1 : 0 ≤ d.region
  rotate_left
  · rw [decF (show ¬ There s d from fun h => by unfold There at h; omega)]
    refine Fnc.intro m_there_ok (by simp) fun W S => ?_
    unfold m_there
    simp only [ents, Nat.zero_add, Nat.reduceAdd]
    refine zst ?_
    refine ret m_there_ok [] ?_; (first | (simp only [go_sem]; done) | (simp only [go_sem]; ((try dsimp only); (repeat' (refine And.intro ?_ ?_)) <;> first | with_reducible rfl | (simp only [go_sem]; done) | (simp only [go_sem]; rfl) | (simp only []; (try simp only [go_sem]); first | done | rfl) | (simp only [go_sem]; simp []; done) | (simp []; done) | rfl)))
  by_cases c2 : d.region < s.regions.length
  rotate_left
  · rw [decF (show ¬ There s d from fun h => by unfold There at h; omega)]
    refine Fnc.intro m_there_ok (by simp) fun W S => ?_
    unfold m_there
    simp only [ents, Nat.zero_add, Nat.reduceAdd]
    refine zst ?_
    refine ret m_there_ok [] ?_; (first | (simp only [go_sem]; done) | (simp only [go_sem]; ((try dsimp only); (repeat' (refine And.intro ?_ ?_)) <;> first | with_reducible rfl | (simp only [go_sem]; done) | (simp only [go_sem]; rfl) | (simp only []; (try simp only [go_sem]); first | done | rfl) | (simp only [go_sem]; simp []; done) | (simp []; done) | rfl)))
  have fp := part_fn s.regions[d.region.toNat]! d.index
  have hz := H.z d.region.toNat (by omega)
  by_cases c3 : 0 ≤ d.index ∧ d.index ≤ 32 ∧ 8 * d.index < s.regions[d.region.toNat]!.length
  · rw [decT (show There s d from .inr ⟨c1, c2, c3⟩)]
    have hl : 0 < (prt s.regions[d.region.toNat]! d.index).length := by
      unfold prt
      rw [if_pos ⟨c3.1, c3.2.1⟩, List.length_take, List.length_drop]; omega
    refine Fnc.intro m_there_ok (by simp) fun W S => ?_
    unfold m_there
    simp only [ents, Nat.zero_add, Nat.reduceAdd]
    refine zst ?_
    (first | refine callD (fp) ?_ | refine callDw (fp) ?_); simp only [go_sem]
    refine zst ?_
    refine ret m_there_ok [] ?_; (first | (simp only [go_sem]; done) | (simp only [go_sem]; ((try dsimp only); (repeat' (refine And.intro ?_ ?_)) <;> first | with_reducible rfl | (simp only [go_sem]; done) | (simp only [go_sem]; rfl) | (simp only []; (try simp only [go_sem]); first | done | rfl) | (simp only [go_sem]; simp []; done) | (simp []; done) | rfl)))
  · rw [decF (show ¬ There s d from fun h => by unfold There at h; omega)]
    have hl : (prt s.regions[d.region.toNat]! d.index).length = 0 := by rw [prt_no (by omega)]; rfl
    refine Fnc.intro m_there_ok (by simp) fun W S => ?_
    unfold m_there
    simp only [ents, Nat.zero_add, Nat.reduceAdd]
    refine zst ?_
    (first | refine callD (fp) ?_ | refine callDw (fp) ?_); simp only [go_sem]
    refine zst ?_
    refine ret m_there_ok [] ?_; (first | (simp only [go_sem]; done) | (simp only [go_sem]; ((try dsimp only); (repeat' (refine And.intro ?_ ?_)) <;> first | with_reducible rfl | (simp only [go_sem]; done) | (simp only [go_sem]; rfl) | (simp only []; (try simp only [go_sem]); first | done | rfl) | (simp only [go_sem]; simp []; done) | (simp []; done) | rfl)))
set_option maxHeartbeats 4000000 in
theorem find_fn (s : State) (d : PageID) : Fnc Try.prog 59 [staV s, pidV d] (fun x obs => x = .int .i64 (sGet s d).2 ∧ obs = []) := by
  have f1 := shaped_fn s
  cases c1 : shp s with
  | false =>
    rw [c1] at f1
    rw [sGet_1 c1]
    refine Fnc.intro m_find_ok (by simp) fun W S => ?_
    unfold m_find
    simp only [ents, Nat.zero_add, Nat.reduceAdd]
    refine zst ?_
    (first | refine callD (f1) ?_ | refine callDw (f1) ?_); simp only [go_sem]
    refine zst ?_
    refine ret m_find_ok [] ?_; (first | (simp only [go_sem]; done) | (simp only [go_sem]; ((try dsimp only); (repeat' (refine And.intro ?_ ?_)) <;> first | with_reducible rfl | (simp only [go_sem]; done) | (simp only [go_sem]; rfl) | (simp only []; (try simp only [go_sem]); first | done | rfl) | (simp only [go_sem]; simp []; done) | (simp []; done) | rfl)))
  | true =>
    rw [c1] at f1
    have f2 := there_fn s d c1
    by_cases c2 : There s d
    · rw [decT c2] at f2
      rw [sGet_0 c1 c2]
      refine Fnc.intro m_find_ok (by simp) fun W S => ?_
      unfold m_find
      simp only [ents, Nat.zero_add, Nat.reduceAdd]
      refine zst ?_
      (first | refine callD (f1) ?_ | refine callDw (f1) ?_); simp only [go_sem]
      refine zst ?_
      (first | refine callD (f2) ?_ | refine callDw (f2) ?_); simp only [go_sem]
      refine zst ?_
      refine ret m_find_ok [] ?_; (first | (simp only [go_sem]; done) | (simp only [go_sem]; ((try dsimp only); (repeat' (refine And.intro ?_ ?_)) <;> first | with_reducible rfl | (simp only [go_sem]; done) | (simp only [go_sem]; rfl) | (simp only []; (try simp only [go_sem]); first | done | rfl) | (simp only [go_sem]; simp []; done) | (simp []; done) | rfl)))
    · rw [decF c2] at f2
      rw [sGet_30 c1 c2]
      refine Fnc.intro m_find_ok (by simp) fun W S => ?_
      unfold m_find
      simp only [ents, Nat.zero_add, Nat.reduceAdd]
      refine zst ?_
      (first | refine callD (f1) ?_ | refine callDw (f1) ?_); simp only [go_sem]
      refine zst ?_
      (first | refine callD (f2) ?_ | refine callDw (f2) ?_); simp only [go_sem]
      refine zst ?_
      refine ret m_find_ok [] ?_; (first | (simp only [go_sem]; done) | (simp only [go_sem]; ((try dsimp only); (repeat' (refine And.intro ?_ ?_)) <;> first | with_reducible rfl | (simp only [go_sem]; done) | (simp only [go_sem]; rfl) | (simp only []; (try simp only [go_sem]); first | done | rfl) | (simp only [go_sem]; simp []; done) | (simp []; done) | rfl)))
abbrev zvwV : V := .agg [.int .i64 0, .int .i64 0, .int .i64 0, .int .i64 0, .int .i64 0, .int .i64 0, .int .u16 0, .nilS]
theorem zvw_sub (t : Bool) : SubV zvwV (viewV t zvw) := SubV.agg ⟨SubV.refl _, SubV.refl _, SubV.refl _, SubV.refl _, SubV.refl _, SubV.refl _, SubV.refl _, SubV.nil _ _, trivial⟩
theorem pg_subT (d : PageID) (v : View) : SubV (.agg [pidV d, .nilS, viewV true v]) (pgV true ⟨d, [], v⟩) := SubV.agg ⟨SubV.refl _, SubV.nil _ _, SubV.refl _, trivial⟩
theorem pg_subR (d : PageID) (c : List Canon) : SubV (.agg [pidV d, .sl true 4 (c.map canonV), zvwV]) (pgV true ⟨d, c, zvw⟩) := SubV.agg ⟨SubV.refl _, SubV.refl _, zvw_sub _, trivial⟩
theorem zpg_sub (t : Bool) : SubV (.agg [.agg [.int .i64 0, .int .i64 0], .nilS, zvwV]) (pgV t zpg) := SubV.agg ⟨SubV.refl _, SubV.nil _ _, zvw_sub _, trivial⟩
set_option maxHeartbeats 4000000 in
theorem vcop_fn (v : View) (h : v.regs.length ≤ 5864062014634) : Fnc Try.prog 76 [viewV false v] (fun x obs => x = viewV true v ∧ obs = []) := by
  refine Fnc.intro m_vcop_ok (by simp) fun W S => ?_
  unfold m_vcop
  simp only [ents, Nat.zero_add, Nat.reduceAdd]
  refine zst ?_
  (first | refine callD (ccl_fn v.regs (by omega)) ?_ | refine callDw (ccl_fn v.regs (by omega)) ?_); simp only [go_sem]
  refine zst ?_
  refine ret m_vcop_ok [] ?_; (first | (simp only [go_sem]; done) | (simp only [go_sem]; ((try dsimp only); (repeat' (refine And.intro ?_ ?_)) <;> first | with_reducible rfl | (simp only [go_sem]; done) | (simp only [go_sem]; rfl) | (simp only []; (try simp only [go_sem]); first | done | rfl) | (simp only [go_sem]; simp []; done) | (simp []; done) | rfl)))
set_option maxHeartbeats 8000000 in
theorem get_fn (s : State) (d : PageID) (L : LowS s) (h : There s d) : Fnc Try.prog 58 [staV s, pidV d] (fun x obs => x = pgV true (getP s d) ∧ obs = []) := by
  by_cases c0 : d.region = -1
  · have h1 : 0 ≤ d.index ∧ d.index < s.threads.length := by unfold There at h; omega
    have fv := vcop_fn s.threads[d.index.toNat]! (L.g _ (mem_at (by omega)))
    have hr : getP s d = ⟨d, [], s.threads[d.index.toNat]!⟩ := if_pos c0
    rw [hr]
    refine Fnc.intro m_get_ok (by simp) fun W S => ?_
    unfold m_get
    simp only [ents, Nat.zero_add, Nat.reduceAdd]
    refine zst ?_
    (first | refine callD (fv) ?_ | refine callDw (fv) ?_); simp only [go_sem]
    refine zst ?_
    refine ev_obSub 2 _ rfl (pg_subT _ _) rfl ?_
    refine ret m_get_ok [] ?_; (first | (simp only [go_sem]; done) | (simp only [go_sem]; ((try dsimp only); (repeat' (refine And.intro ?_ ?_)) <;> first | with_reducible rfl | (simp only [go_sem]; done) | (simp only [go_sem]; rfl) | (simp only []; (try simp only [go_sem]); first | done | rfl) | (simp only [go_sem]; simp []; done) | (simp []; done) | rfl)))
  · have h1 : 0 ≤ d.region ∧ d.region < s.regions.length := by unfold There at h; omega
    have hr : getP s d = ⟨d, prt s.regions[d.region.toNat]! d.index, zvw⟩ := if_neg c0
    have fp := part_fn s.regions[d.region.toNat]! d.index
    have hl := prt_len s.regions[d.region.toNat]! d.index
    have fc := ccl_fn (prt s.regions[d.region.toNat]! d.index) (by omega)
    rw [hr]
    refine Fnc.intro m_get_ok (by simp) fun W S => ?_
    unfold m_get
    simp only [ents, Nat.zero_add, Nat.reduceAdd]
    refine zst ?_
    (first | refine callD (fp) ?_ | refine callDw (fp) ?_); simp only [go_sem]
    refine zst ?_
    (first | refine callD (fc) ?_ | refine callDw (fc) ?_); simp only [go_sem]
    refine zst ?_
    refine ev_obSub 2 _ rfl (pg_subR _ _) rfl ?_
    refine ret m_get_ok [] ?_; (first | (simp only [go_sem]; done) | (simp only [go_sem]; ((try dsimp only); (repeat' (refine And.intro ?_ ?_)) <;> first | with_reducible rfl | (simp only [go_sem]; done) | (simp only [go_sem]; rfl) | (simp only []; (try simp only [go_sem]); first | done | rfl) | (simp only [go_sem]; simp []; done) | (simp []; done) | rfl)))
set_option maxHeartbeats 4000000 in
theorem pget_fn (s : State) (d : PageID) (L : LowS s) : Fnc Try.prog 24 [staV s, pidV d] (fun x obs => x = .tup [pgV true (sGet s d).1, .int .i64 (sGet s d).2] ∧ obs = []) := by
  have f1 := find_fn s d
  cases c1 : shp s with
  | false =>
    rw [sGet_1 c1] at f1 ⊢
    refine Fnc.intro m_pget_ok (by simp) fun W S => ?_
    unfold m_pget
    simp only [ents, Nat.zero_add, Nat.reduceAdd]
    refine zst ?_
    (first | refine callD (f1) ?_ | refine callDw (f1) ?_); simp only [go_sem]
    refine zst ?_
    refine ev_obSub 2 _ rfl (zpg_sub true) rfl ?_
    refine ret m_pget_ok [] ?_; (first | (simp only [go_sem]; done) | (simp only [go_sem]; ((try dsimp only); (repeat' (refine And.intro ?_ ?_)) <;> first | with_reducible rfl | (simp only [go_sem]; done) | (simp only [go_sem]; rfl) | (simp only []; (try simp only [go_sem]); first | done | rfl) | (simp only [go_sem]; simp []; done) | (simp []; done) | rfl)))
  | true =>
    by_cases c2 : There s d
    · rw [sGet_0 c1 c2] at f1 ⊢
      have f2 := get_fn s d L c2
      refine Fnc.intro m_pget_ok (by simp) fun W S => ?_
      unfold m_pget
      simp only [ents, Nat.zero_add, Nat.reduceAdd]
      refine zst ?_
      (first | refine callD (f1) ?_ | refine callDw (f1) ?_); simp only [go_sem]
      refine zst ?_
      (first | refine callD (f2) ?_ | refine callDw (f2) ?_); simp only [go_sem]
      refine zst ?_
      refine ret m_pget_ok [] ?_; (first | (simp only [go_sem]; done) | (simp only [go_sem]; ((try dsimp only); (repeat' (refine And.intro ?_ ?_)) <;> first | with_reducible rfl | (simp only [go_sem]; done) | (simp only [go_sem]; rfl) | (simp only []; (try simp only [go_sem]); first | done | rfl) | (simp only [go_sem]; simp []; done) | (simp []; done) | rfl)))
    · rw [sGet_30 c1 c2] at f1 ⊢
      refine Fnc.intro m_pget_ok (by simp) fun W S => ?_
      unfold m_pget
      simp only [ents, Nat.zero_add, Nat.reduceAdd]
      refine zst ?_
      (first | refine callD (f1) ?_ | refine callDw (f1) ?_); simp only [go_sem]
      refine zst ?_
      refine ev_obSub 2 _ rfl (zpg_sub true) rfl ?_
      refine ret m_pget_ok [] ?_; (first | (simp only [go_sem]; done) | (simp only [go_sem]; ((try dsimp only); (repeat' (refine And.intro ?_ ?_)) <;> first | with_reducible rfl | (simp only [go_sem]; done) | (simp only [go_sem]; rfl) | (simp only []; (try simp only [go_sem]); first | done | rfl) | (simp only [go_sem]; simp []; done) | (simp []; done) | rfl)))
theorem snoc_pg (t : Bool) (l : List Page) (p : Page) (r : List V) : l.map (pgV t) ++ (pgV t p :: r) = (l ++ [p]).map (pgV t) ++ r := by simp
theorem sList_sh {s : State} (h : shp s = true) : sList (szs s) s.threads.length = (idsF (szs s) s.threads.length, 0) := by
  have h := shp_chk h
  unfold sList
  rw [if_pos h]
theorem idsF_le' {s : State} (h : shp s = true) : (idsF (szs s) s.threads.length).length ≤ 20 := idsF_le (shp_chk h)
set_option maxHeartbeats 8000000 in
theorem pall_fn (s : State) (L : LowS s) : Fnc Try.prog 23 [staV s] (fun x obs => x = .tup [.sl true 11 ((sAll s).1.map (pgV true)), .int .i64 (sAll s).2] ∧ obs = []) := by
  have f1 := shaped_fn s
  cases c1 : shp s with
  | false =>
    rw [c1] at f1
    rw [sAll_1 c1]
    refine Fnc.intro m_pall_ok (by simp) fun W S => ?_
    unfold m_pall
    simp only [ents, Nat.zero_add, Nat.reduceAdd]
    refine zst ?_
    (first | refine callD (f1) ?_ | refine callDw (f1) ?_); simp only [go_sem]
    refine zst ?_
    refine ev_nil2 2 true 11 rfl ?_
    refine ret m_pall_ok [] ?_; (first | (simp only [go_sem]; done) | (simp only [go_sem]; ((try dsimp only); (repeat' (refine And.intro ?_ ?_)) <;> first | with_reducible rfl | (simp only [go_sem]; done) | (simp only [go_sem]; rfl) | (simp only []; (try simp only [go_sem]); first | done | rfl) | (simp only [go_sem]; simp []; done) | (simp []; done) | rfl)))
  | true =>
    rw [c1] at f1
    rw [sAll_0 c1]
    have f2 := psizes_fn s L.r
    have f3 := plist_fn (szs s) s.threads.length
    rw [sList_sh c1] at f3
    have hn := idsF_le' c1
    have hT : ∀ k, k < (idsF (szs s) s.threads.length).length → There s (idsF (szs s) s.threads.length)[k]! := fun k hk => mem_idsF (mem_at hk) (shp_to c1)
    have hP : pgs s = (idsF (szs s) s.threads.length).map (getP s) := rfl
    generalize idsF (szs s) s.threads.length = D at f3 hn hT hP
    rw [hP]
    refine Fnc.intro m_pall_ok (by simp) fun W S => ?_
    unfold m_pall
    simp only [ents, Nat.zero_add, Nat.reduceAdd]
    refine zst ?_
    (first | refine callD (f1) ?_ | refine callDw (f1) ?_); simp only [go_sem]
    refine zst ?_
    (first | refine callD (f2) ?_ | refine callDw (f2) ?_); simp only [go_sem]
    refine zst ?_
    (first | refine callD (f3) ?_ | refine callDw (f3) ?_); simp only [go_sem]
    refine zst ?_
    refine ev_adopt (i := 6) (e := 45) (s := 11) rfl (by decide) ?_
    refine ev_loopK [1, 21, 22] (fun p : {p : Nat // p ≤ D.length} => [(6, .own 1 p.1), (23, .int .i64 p.1)]) (fun p => [⟨.box false 30, true, 0, staV s⟩, ⟨.row 45, true, p.1, .arr 11 (((D.take p.1).map (getP s)).map (pgV true))⟩]) (fun p => D.length - p.1) (⟨0, by simp⟩) 2 (by simp only [go_sem]; rfl) ?_ (by first | rfl | (simp only [go_sem]; done)) (by simp) (by first | rfl | (simp only [go_sem]; done)) (by first | rfl | (simp only [go_sem]; done)) (by first | rfl | (simp only [go_sem]; done)) ?_
    · (simp only [go_sem]; (try simp []); done)
    intro J hJ
    rintro ⟨k, hk0⟩
    by_cases hlt : k < D.length
    · have f4 := get_fn s D[k]! L (hT k hlt)
      have hs : ((D.take k).map (getP s)).map (pgV true) ++ [pgV true (getP s D[k]!)] = ((D.take (k + 1)).map (getP s)).map (pgV true) := by rw [take_snoc hlt, List.map_append, List.map_append]; rfl
      have hgl : ((D.take k).map (getP s)).length = k := by rw [List.length_map, List.length_take]; omega
      refine zst ?_
      (first | refine callD (f4) ?_ | refine callDw (f4) ?_); simp only [go_sem]
      refine zst ?_
      refine ev_next 2 (hJ _ (⟨k + 1, hlt⟩) (by first | omega | (dsimp only; omega) | (simp; omega))) rfl (by simp) ?_ (by first | rfl | (simp only [go_sem]; done)) (by first | rfl | (simp only [go_sem]; done) | (simp only [hs]; (try simp only [go_sem]); first | done | rfl)) ?_
      · (first | rfl | (simp only [go_sem]; done) | (simp only [go_sem]; simp only [hs]; done) | (simp only [hs]; done) | (simp only [go_sem]; simp [hs]; done) | (simp [hs]; done))
      · (simp only [go_sem]; (repeat' (refine And.intro ?_ ?_)) <;> first | exact trivial | with_reducible rfl | (simp only [hs]; done) | (simp only [hs]; with_reducible rfl) | (simp [hs]; done) | (simp [hs]; omega) | (simp only [hs]; rfl) | skip)
    · obtain rfl : k = D.length := by omega
      dsimp only
      rw [List.take_length]
      refine zst ?_
      refine ret m_pall_ok [] ?_; (first | (simp only [go_sem]; done) | (simp only [go_sem]; ((try dsimp only); (repeat' (refine And.intro ?_ ?_)) <;> first | with_reducible rfl | (simp only [go_sem]; done) | (simp only [go_sem]; rfl) | (simp only []; (try simp only [go_sem]); first | done | rfl) | (simp only [go_sem]; simp []; done) | (simp []; done) | rfl)))
end Go.Proofs.Ytcphobeommkgeaa
