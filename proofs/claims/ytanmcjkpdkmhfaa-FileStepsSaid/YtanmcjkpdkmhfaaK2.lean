/- Files at their beginning: what is valid. -/
import Derived.Test.YtanmcjkpdkmhfaaK1
import Derived.Test.YtanmcjkpdkmhfaaZt
namespace Go.Proofs.Ytanmcjkpdkmhfaa
open Go Go.RowKit Rdn Rdn.Dp
set_option linter.unusedVariables false
set_option linter.unusedSimpArgs false
def m_cell : MC := .seq (.reg [⟨(some 1), none, (.m (.box 71 (.t 0)))⟩, ⟨(some 2), none, (.p (.mov (.c (.bool false))))⟩])
 (.seq (.seq (.reg [⟨(some 3), none, (.p (.fieldA 0 0 (.t 1)))⟩, ⟨(some 4), none, (.p (.load false 1 (.t 3)))⟩])
 (.block 0 (.seq (.seq (.reg [⟨(some 6), none, (.p (.bin 0 .eql (.t 4) (.c (.int .u8 0))))⟩, ⟨(some 5), none, (.p (.mov (.t 6)))⟩])
 (.cond (.t 5) (.skip) (.reg [⟨(some 7), none, (.p (.bin 0 .eql (.t 4) (.c (.int .u8 2))))⟩, ⟨(some 5), none, (.p (.mov (.t 7)))⟩])))
 (.cond (.t 5) (.seq (.reg [⟨(some 8), none, (.p (.fieldA 2 2 (.t 1)))⟩, ⟨(some 9), none, (.p (.load false 1 (.t 8)))⟩, ⟨(some 10), none, (.p (.bin 0 .eql (.t 9) (.c (.int .i64 0))))⟩, ⟨(some 11), none, (.p (.mov (.t 10)))⟩, ⟨(some 12), (some (11, true)), (.p (.fieldA 3 3 (.t 1)))⟩, ⟨(some 13), (some (11, true)), (.p (.load false 1 (.t 12)))⟩, ⟨(some 14), (some (11, true)), (.p (.bin 0 .eql (.t 13) (.c (.int .i64 0))))⟩, ⟨(some 15), none, (.p (.pick (.t 11) (.t 14) (.c (.bool false))))⟩, ⟨(some 2), none, (.p (.mov (.t 15)))⟩])
 (.ret)) (.seq (.reg [⟨(some 17), none, (.p (.bin 0 .eql (.t 4) (.c (.int .u8 1))))⟩, ⟨(some 16), none, (.p (.mov (.t 17)))⟩])
 (.cond (.t 16) (.seq (.seq (.reg [⟨(some 18), none, (.p (.fieldA 2 2 (.t 1)))⟩, ⟨(some 19), none, (.p (.load false 1 (.t 18)))⟩, ⟨(some 20), none, (.p (.bin 0 .eql (.t 19) (.c (.int .i64 (-1)))))⟩])
 (.cond (.t 20) (.seq (.reg [⟨(some 21), none, (.p (.fieldA 1 1 (.t 1)))⟩, ⟨(some 22), none, (.p (.load false 1 (.t 21)))⟩, ⟨(some 23), none, (.p (.bin 0 .eql (.t 22) (.c (.int .u16 0))))⟩, ⟨(some 24), none, (.p (.mov (.t 23)))⟩, ⟨(some 25), (some (24, true)), (.p (.fieldA 3 3 (.t 1)))⟩, ⟨(some 26), (some (24, true)), (.p (.load false 1 (.t 25)))⟩, ⟨(some 27), (some (24, true)), (.p (.bin 0 .geq (.t 26) (.c (.int .i64 0))))⟩, ⟨(some 28), none, (.p (.pick (.t 24) (.t 27) (.c (.bool false))))⟩, ⟨(some 29), none, (.p (.mov (.t 28)))⟩, ⟨(some 30), (some (29, true)), (.p (.fieldA 3 3 (.t 1)))⟩, ⟨(some 31), (some (29, true)), (.p (.load false 1 (.t 30)))⟩, ⟨(some 32), (some (29, true)), (.p (.bin 0 .leq (.t 31) (.c (.int .i64 65535))))⟩, ⟨(some 33), none, (.p (.pick (.t 29) (.t 32) (.c (.bool false))))⟩, ⟨(some 2), none, (.p (.mov (.t 33)))⟩])
 (.ret)) (.skip)))
 (.seq (.reg [⟨(some 34), none, (.p (.fieldA 1 1 (.t 1)))⟩, ⟨(some 35), none, (.p (.load false 1 (.t 34)))⟩, ⟨(some 36), none, (.p (.bin 0 .eql (.t 35) (.c (.int .u16 0))))⟩, ⟨(some 37), none, (.p (.mov (.t 36)))⟩, ⟨(some 38), (some (37, true)), (.p (.fieldA 2 2 (.t 1)))⟩, ⟨(some 39), (some (37, true)), (.p (.load false 1 (.t 38)))⟩, ⟨(some 40), (some (37, true)), (.p (.bin 0 .geq (.t 39) (.c (.int .i64 0))))⟩, ⟨(some 41), none, (.p (.pick (.t 37) (.t 40) (.c (.bool false))))⟩, ⟨(some 42), none, (.p (.mov (.t 41)))⟩, ⟨(some 43), (some (42, true)), (.p (.fieldA 2 2 (.t 1)))⟩, ⟨(some 44), (some (42, true)), (.p (.load false 1 (.t 43)))⟩, ⟨(some 45), (some (42, true)), (.p (.bin 0 .lss (.t 44) (.c (.int .i64 4))))⟩, ⟨(some 46), none, (.p (.pick (.t 42) (.t 45) (.c (.bool false))))⟩, ⟨(some 47), none, (.p (.mov (.t 46)))⟩, ⟨(some 48), (some (47, true)), (.p (.fieldA 3 3 (.t 1)))⟩, ⟨(some 49), (some (47, true)), (.p (.load false 1 (.t 48)))⟩, ⟨(some 50), (some (47, true)), (.p (.bin 0 .geq (.t 49) (.c (.int .i64 0))))⟩, ⟨(some 51), none, (.p (.pick (.t 47) (.t 50) (.c (.bool false))))⟩, ⟨(some 52), none, (.p (.mov (.t 51)))⟩, ⟨(some 53), (some (52, true)), (.p (.fieldA 3 3 (.t 1)))⟩, ⟨(some 54), (some (52, true)), (.p (.load false 1 (.t 53)))⟩, ⟨(some 55), (some (52, true)), (.p (.bin 0 .lss (.t 54) (.c (.int .i64 32))))⟩, ⟨(some 56), none, (.p (.pick (.t 52) (.t 55) (.c (.bool false))))⟩, ⟨(some 2), none, (.p (.mov (.t 56)))⟩])
 (.ret))) (.skip)))))))
 (.seq (.reg [⟨(some 2), none, (.p (.mov (.c (.bool false))))⟩])
 (.ret)))
theorem m_cell_ok : compF Try.prog 56 = some (57, m_cell, [.mov (.t 2)]) := by kernel_rfl
def m_cells : MC := .seq (.reg [⟨(some 4), none, (.p (.mov (.c (.bool false))))⟩])
 (.seq (.seq (.reg [⟨(some 7), none, (.p (.mov (.t 0)))⟩, ⟨(some 8), none, (.p (.len (.t 7)))⟩, ⟨(some 9), none, (.p (.mov (.c (.int .i64 0))))⟩])
 (.block 0 (.loop (.seq (.reg [⟨(some 10), none, (.p (.bin 0 .lss (.t 9) (.t 8)))⟩])
 (.seq (.cond (.t 10) (.skip) (.exit 0))
 (.seq (.block 1 (.seq (.reg [⟨(some 11), none, (.p (.idxA 4 (.t 7) (.t 9)))⟩, ⟨(some 12), none, (.p (.load true 4 (.t 11)))⟩, ⟨(some 6), none, (.m (.alloc 71 (.agg [.int .u8 0, .int .u16 0, .int .i64 0, .int .i64 0])))⟩, ⟨none, none, (.m (.store 4 (.t 6) (.t 12)))⟩])
 (.seq (.reg [⟨(some 13), none, (.p (.load true 4 (.t 6)))⟩, ⟨(some 14), none, (.call 56 [(.t 13)])⟩, ⟨(some 15), none, (.p (.un .not (.t 14)))⟩])
 (.cond (.t 15) (.seq (.reg [⟨(some 4), none, (.p (.mov (.c (.bool false))))⟩])
 (.ret)) (.skip)))))
 (.reg [⟨(some 16), none, (.p (.bin 0 .add (.t 9) (.c (.int .i64 1))))⟩, ⟨(some 9), none, (.p (.mov (.t 16)))⟩])))))))
 (.seq (.reg [⟨(some 17), none, (.p (.mov (.t 0)))⟩, ⟨(some 18), none, (.p (.len (.t 17)))⟩, ⟨(some 19), none, (.p (.mov (.t 1)))⟩, ⟨(some 20), none, (.p (.bin 0 .leq (.t 18) (.t 19)))⟩, ⟨(some 4), none, (.p (.mov (.t 20)))⟩])
 (.ret)))
theorem m_cells_ok : compF Try.prog 40 = some (21, m_cells, [.mov (.t 4)]) := by kernel_rfl
def m_fval : MC := .seq (.reg [⟨(some 1), none, (.m (.box 26 (.t 0)))⟩, ⟨(some 2), none, (.p (.mov (.c (.bool false))))⟩])
 (.seq (.seq (.reg [⟨(some 7), none, (.p (.fieldA 0 0 (.t 1)))⟩, ⟨(some 8), none, (.p (.load false 1 (.t 7)))⟩, ⟨(some 9), none, (.p (.len (.t 8)))⟩, ⟨(some 10), none, (.p (.bin 0 .gtr (.t 9) (.c (.int .i64 4))))⟩, ⟨(some 11), none, (.p (.mov (.t 10)))⟩, ⟨(some 12), (some (11, false)), (.p (.fieldA 1 1 (.t 1)))⟩, ⟨(some 13), (some (11, false)), (.p (.load false 1 (.t 12)))⟩, ⟨(some 14), (some (11, false)), (.p (.len (.t 13)))⟩, ⟨(some 15), (some (11, false)), (.p (.bin 0 .neq (.t 14) (.c (.int .i64 8))))⟩, ⟨(some 16), none, (.p (.pick (.t 11) (.c (.bool true)) (.t 15)))⟩])
 (.cond (.t 16) (.seq (.reg [⟨(some 2), none, (.p (.mov (.c (.bool false))))⟩])
 (.ret)) (.skip)))
 (.seq (.seq (.reg [⟨(some 17), none, (.p (.fieldA 0 0 (.t 1)))⟩, ⟨(some 18), none, (.p (.load false 1 (.t 17)))⟩, ⟨(some 19), none, (.p (.len (.t 18)))⟩, ⟨(some 20), none, (.p (.mov (.c (.int .i64 0))))⟩])
 (.block 0 (.loop (.seq (.reg [⟨(some 21), none, (.p (.bin 0 .lss (.t 20) (.t 19)))⟩])
 (.seq (.cond (.t 21) (.skip) (.exit 0))
 (.seq (.block 1 (.seq (.reg [⟨(some 22), none, (.p (.idxA 1 (.t 18) (.t 20)))⟩, ⟨(some 23), none, (.p (.load false 1 (.t 22)))⟩, ⟨(some 4), none, (.p (.mov (.t 23)))⟩])
 (.seq (.reg [⟨(some 24), none, (.p (.mov (.t 4)))⟩, ⟨(some 25), none, (.call 40 [(.t 24), (.c (.int .i64 64))])⟩, ⟨(some 26), none, (.p (.un .not (.t 25)))⟩])
 (.cond (.t 26) (.seq (.reg [⟨(some 2), none, (.p (.mov (.c (.bool false))))⟩])
 (.ret)) (.skip)))))
 (.reg [⟨(some 27), none, (.p (.bin 0 .add (.t 20) (.c (.int .i64 1))))⟩, ⟨(some 20), none, (.p (.mov (.t 27)))⟩])))))))
 (.seq (.seq (.reg [⟨(some 28), none, (.p (.fieldA 1 1 (.t 1)))⟩, ⟨(some 29), none, (.p (.load false 1 (.t 28)))⟩, ⟨(some 30), none, (.p (.len (.t 29)))⟩, ⟨(some 31), none, (.p (.mov (.c (.int .i64 0))))⟩])
 (.block 2 (.loop (.seq (.reg [⟨(some 32), none, (.p (.bin 0 .lss (.t 31) (.t 30)))⟩])
 (.seq (.cond (.t 32) (.skip) (.exit 2))
 (.seq (.block 3 (.seq (.reg [⟨(some 33), none, (.p (.idxA 3 (.t 29) (.t 31)))⟩, ⟨(some 34), none, (.p (.load true 3 (.t 33)))⟩, ⟨(some 6), none, (.m (.alloc 36 (.agg [.int .i64 0, .int .i64 0, .bool false])))⟩, ⟨none, none, (.m (.store 3 (.t 6) (.t 34)))⟩])
 (.seq (.dreg [⟨(some 35), none, (.p (.fieldA 0 0 (.t 6)))⟩, ⟨(some 36), none, (.p (.load false 1 (.t 35)))⟩, ⟨(some 37), none, (.p (.bin 0 .eql (.t 36) (.c (.int .i64 (-1)))))⟩, ⟨(some 38), none, (.p (.mov (.t 37)))⟩, ⟨(some 39), (some (38, true)), (.p (.fieldA 1 1 (.t 6)))⟩, ⟨(some 40), (some (38, true)), (.p (.load false 1 (.t 39)))⟩, ⟨(some 41), (some (38, true)), (.p (.bin 0 .neq (.t 40) (.c (.int .i64 0))))⟩, ⟨(some 42), (some (38, true)), (.p (.mov (.t 41)))⟩, ⟨(some 43), (some (42, false)), (.p (.fieldA 2 2 (.t 6)))⟩, ⟨(some 44), (some (42, false)), (.p (.load false 1 (.t 43)))⟩, ⟨(some 45), (some (38, true)), (.p (.pick (.t 42) (.c (.bool true)) (.t 44)))⟩, ⟨(some 46), none, (.p (.pick (.t 38) (.t 45) (.c (.bool false))))⟩, ⟨(some 47), none, (.p (.mov (.t 46)))⟩, ⟨(some 48), (some (47, false)), (.p (.fieldA 0 0 (.t 6)))⟩, ⟨(some 49), (some (47, false)), (.p (.load false 1 (.t 48)))⟩, ⟨(some 50), (some (47, false)), (.p (.bin 0 .lss (.t 49) (.c (.int .i64 (-1)))))⟩, ⟨(some 51), none, (.p (.pick (.t 47) (.c (.bool true)) (.t 50)))⟩, ⟨(some 52), none, (.p (.mov (.t 51)))⟩, ⟨(some 53), (some (52, false)), (.p (.fieldA 0 0 (.t 6)))⟩, ⟨(some 54), (some (52, false)), (.p (.load false 1 (.t 53)))⟩, ⟨(some 55), (some (52, false)), (.p (.fieldA 0 0 (.t 1)))⟩, ⟨(some 56), (some (52, false)), (.p (.load false 1 (.t 55)))⟩, ⟨(some 57), (some (52, false)), (.p (.len (.t 56)))⟩, ⟨(some 58), (some (52, false)), (.p (.bin 0 .geq (.t 54) (.t 57)))⟩, ⟨(some 59), none, (.p (.pick (.t 52) (.c (.bool true)) (.t 58)))⟩, ⟨(some 60), none, (.p (.mov (.t 59)))⟩, ⟨(some 61), (some (60, false)), (.p (.fieldA 0 0 (.t 6)))⟩, ⟨(some 62), (some (60, false)), (.p (.load false 1 (.t 61)))⟩, ⟨(some 63), (some (60, false)), (.p (.bin 0 .geq (.t 62) (.c (.int .i64 0))))⟩, ⟨(some 64), (some (60, false)), (.p (.mov (.t 63)))⟩, ⟨(some 65), (some (64, true)), (.p (.fieldA 1 1 (.t 6)))⟩, ⟨(some 66), (some (64, true)), (.p (.load false 1 (.t 65)))⟩, ⟨(some 67), (some (64, true)), (.p (.bin 0 .lss (.t 66) (.c (.int .i64 0))))⟩, ⟨(some 68), (some (64, true)), (.p (.mov (.t 67)))⟩, ⟨(some 69), (some (68, false)), (.p (.fieldA 1 1 (.t 6)))⟩, ⟨(some 70), (some (68, false)), (.p (.load false 1 (.t 69)))⟩, ⟨(some 71), (some (68, false)), (.p (.fieldA 0 0 (.t 1)))⟩, ⟨(some 72), (some (68, false)), (.p (.load false 1 (.t 71)))⟩, ⟨(some 73), (some (68, false)), (.p (.fieldA 0 0 (.t 6)))⟩, ⟨(some 74), (some (68, false)), (.p (.load false 1 (.t 73)))⟩, ⟨(some 75), (some (68, false)), (.p (.idxA 1 (.t 72) (.t 74)))⟩, ⟨(some 76), (some (68, false)), (.p (.load false 1 (.t 75)))⟩, ⟨(some 77), (some (68, false)), (.p (.len (.t 76)))⟩, ⟨(some 78), (some (68, false)), (.p (.bin 0 .gtr (.t 70) (.t 77)))⟩, ⟨(some 79), (some (64, true)), (.p (.pick (.t 68) (.c (.bool true)) (.t 78)))⟩, ⟨(some 80), (some (60, false)), (.p (.pick (.t 64) (.t 79) (.c (.bool false))))⟩, ⟨(some 81), none, (.p (.pick (.t 60) (.c (.bool true)) (.t 80)))⟩] [[], [0], [0, 1], [0, 1, 2], [0, 1, 2, 3], [0, 1, 2, 3, 4], [0, 1, 2, 3, 4, 5], [0, 1, 2, 3, 4, 5, 6], [0, 1, 2, 3, 4, 5, 6, 7], [0, 1, 2, 3, 4, 5, 6, 7, 8], [0, 1, 2, 3, 4, 5, 6, 7, 8, 9], [0, 1, 2, 3, 4, 5, 6, 7, 8, 9, 10], [0, 1, 2, 3, 4, 5, 6, 7, 8, 9, 10, 11], [0, 1, 2, 3, 4, 5, 6, 7, 8, 9, 10, 11, 12], [0, 1, 2, 3, 4, 5, 6, 7, 8, 9, 10, 11, 12, 13], [0, 1, 2, 3, 4, 5, 6, 7, 8, 9, 10, 11, 12, 13, 14], [0, 1, 2, 3, 4, 5, 6, 7, 8, 9, 10, 11, 12, 13, 14, 15], [0, 1, 2, 3, 4, 5, 6, 7, 8, 9, 10, 11, 12, 13, 14, 15, 16], [0, 1, 2, 3, 4, 5, 6, 7, 8, 9, 10, 11, 12, 13, 14, 15, 16, 17], [0, 1, 2, 3, 4, 5, 6, 7, 8, 9, 10, 11, 12, 13, 14, 15, 16, 17, 18], [0, 1, 2, 3, 4, 5, 6, 7, 8, 9, 10, 11, 12, 13, 14, 15, 16, 17], [0, 1, 2, 3, 4, 5, 6, 7, 8, 9, 10, 11, 12, 13, 14, 15, 16, 17, 20], [0, 1, 2, 3, 4, 5, 6, 7, 8, 9, 10, 11, 12, 13, 14, 15, 16, 17, 20, 21], [0, 1, 2, 3, 4, 5, 6, 7, 8, 9, 10, 11, 12, 13, 14, 15, 16, 17, 18, 19, 20, 21, 22], [0, 1, 2, 3, 4, 5, 6, 7, 8, 9, 10, 11, 12, 13, 14, 15, 16, 17, 18, 19, 20, 21, 22, 23], [0, 1, 2, 3, 4, 5, 6, 7, 8, 9, 10, 11, 12, 13, 14, 15, 16, 17, 18, 19, 20, 21, 22, 23, 24], [0, 1, 2, 3, 4, 5, 6, 7, 8, 9, 10, 11, 12, 13, 14, 15, 16, 17, 18, 19, 20, 21, 22, 23, 24, 25], [0, 1, 2, 3, 4, 5, 6, 7, 8, 9, 10, 11, 12, 13, 14, 15, 16, 17, 18, 19, 20, 21, 22, 23, 24, 25, 26], [0, 1, 2, 3, 4, 5, 6, 7, 8, 9, 10, 11, 12, 13, 14, 15, 16, 17, 18, 19, 20, 21, 22, 23, 24, 25, 26, 27], [0, 1, 2, 3, 4, 5, 6, 7, 8, 9, 10, 11, 12, 13, 14, 15, 16, 17, 18, 19, 20, 21, 22, 23, 24, 25, 26, 27, 28], [0, 1, 2, 3, 4, 5, 6, 7, 8, 9, 10, 11, 12, 13, 14, 15, 16, 17, 18, 19, 20, 21, 22, 23, 24, 25, 26, 27, 28, 29], [0, 1, 2, 3, 4, 5, 6, 7, 8, 9, 10, 11, 12, 13, 14, 15, 16, 17, 18, 19, 20, 21, 22, 23, 24, 25, 26, 27, 28, 29, 30], [0, 1, 2, 3, 4, 5, 6, 7, 8, 9, 10, 11, 12, 13, 14, 15, 16, 17, 18, 19, 20, 21, 22, 23, 24, 25, 26, 27, 28, 29, 30, 31], [0, 1, 2, 3, 4, 5, 6, 7, 8, 9, 10, 11, 12, 13, 14, 15, 16, 17, 18, 19, 20, 21, 22, 23, 24, 25, 26, 27, 28, 29, 30, 31, 32], [0, 1, 2, 3, 4, 5, 6, 7, 8, 9, 10, 11, 12, 13, 14, 15, 16, 17, 18, 19, 20, 21, 22, 23, 24, 25, 26, 27, 28, 29, 30, 31, 32, 33], [0, 1, 2, 3, 4, 5, 6, 7, 8, 9, 10, 11, 12, 13, 14, 15, 16, 17, 18, 19, 20, 21, 22, 23, 24, 25, 26, 27, 28, 29, 30, 31, 32, 33, 34], [0, 1, 2, 3, 4, 5, 6, 7, 8, 9, 10, 11, 12, 13, 14, 15, 16, 17, 18, 19, 20, 21, 22, 23, 24, 25, 26, 27, 28, 29, 30, 31, 32, 33], [0, 1, 2, 3, 4, 5, 6, 7, 8, 9, 10, 11, 12, 13, 14, 15, 16, 17, 18, 19, 20, 21, 22, 23, 24, 25, 26, 27, 28, 29, 30, 31, 32, 33, 36], [0, 1, 2, 3, 4, 5, 6, 7, 8, 9, 10, 11, 12, 13, 14, 15, 16, 17, 18, 19, 20, 21, 22, 23, 24, 25, 26, 27, 28, 29, 30, 31, 32, 33], [0, 1, 2, 3, 4, 5, 6, 7, 8, 9, 10, 11, 12, 13, 14, 15, 16, 17, 18, 19, 20, 21, 22, 23, 24, 25, 26, 27, 28, 29, 30, 31, 32, 33, 38], [0, 1, 2, 3, 4, 5, 6, 7, 8, 9, 10, 11, 12, 13, 14, 15, 16, 17, 18, 19, 20, 21, 22, 23, 24, 25, 26, 27, 28, 29, 30, 31, 32, 33, 36, 37, 38, 39], [0, 1, 2, 3, 4, 5, 6, 7, 8, 9, 10, 11, 12, 13, 14, 15, 16, 17, 18, 19, 20, 21, 22, 23, 24, 25, 26, 27, 28, 29, 30, 31, 32, 33, 36, 37, 38, 39, 40], [0, 1, 2, 3, 4, 5, 6, 7, 8, 9, 10, 11, 12, 13, 14, 15, 16, 17, 18, 19, 20, 21, 22, 23, 24, 25, 26, 27, 28, 29, 30, 31, 32, 33, 36, 37, 38, 39, 40, 41], [0, 1, 2, 3, 4, 5, 6, 7, 8, 9, 10, 11, 12, 13, 14, 15, 16, 17, 18, 19, 20, 21, 22, 23, 24, 25, 26, 27, 28, 29, 30, 31, 32, 33, 34, 35, 36, 37, 38, 39, 40, 41, 42], [0, 1, 2, 3, 4, 5, 6, 7, 8, 9, 10, 11, 12, 13, 14, 15, 16, 17, 18, 19, 20, 21, 22, 23, 24, 25, 26, 27, 28, 29, 30, 31, 32, 33, 34, 35, 36, 37, 38, 39, 40, 41, 42, 43], [0, 1, 2, 3, 4, 5, 6, 7, 8, 9, 10, 11, 12, 13, 14, 15, 16, 17, 18, 19, 20, 21, 22, 23, 24, 25, 26, 27, 28, 29, 30, 31, 32, 33, 34, 35, 36, 37, 38, 39, 40, 41, 42, 43, 44], [0, 1, 2, 3, 4, 5, 6, 7, 8, 9, 10, 11, 12, 13, 14, 15, 16, 17, 18, 19, 20, 21, 22, 23, 24, 25, 26, 27, 28, 29, 30, 31, 32, 33, 34, 35, 36, 37, 38, 39, 40, 41, 42, 43, 44, 45]])
 (.cond (.t 81) (.seq (.reg [⟨(some 2), none, (.p (.mov (.c (.bool false))))⟩])
 (.ret)) (.skip)))))
 (.reg [⟨(some 82), none, (.p (.bin 0 .add (.t 31) (.c (.int .i64 1))))⟩, ⟨(some 31), none, (.p (.mov (.t 82)))⟩])))))))
 (.seq (.reg [⟨(some 2), none, (.p (.mov (.c (.bool true))))⟩])
 (.ret)))))
theorem m_fval_ok : compF Try.prog 16 = some (83, m_fval, [.mov (.t 2)]) := by kernel_rfl
def m_copyin : MC := .seq (.reg [⟨(some 2), none, (.p (.mov (.c (.nilS))))⟩])
 (.seq (.reg [⟨(some 3), none, (.p (.mov (.c (.nilS))))⟩])
 (.seq (.seq (.reg [⟨(some 6), none, (.p (.mov (.t 0)))⟩, ⟨(some 7), none, (.p (.len (.t 6)))⟩, ⟨(some 8), none, (.p (.mov (.c (.int .i64 0))))⟩])
 (.block 0 (.loop (.seq (.reg [⟨(some 9), none, (.p (.bin 0 .lss (.t 8) (.t 7)))⟩])
 (.seq (.cond (.t 9) (.skip) (.exit 0))
 (.seq (.block 1 (.seq (.reg [⟨(some 10), none, (.p (.idxA 1 (.t 6) (.t 8)))⟩, ⟨(some 11), none, (.p (.load false 1 (.t 10)))⟩, ⟨(some 5), none, (.p (.mov (.t 11)))⟩])
 (.reg [⟨(some 12), none, (.p (.mov (.t 3)))⟩, ⟨(some 13), none, (.p (.mov (.t 5)))⟩, ⟨(some 14), none, (.m (.app 69 1 2 (.c (.nilS)) (.t 13)))⟩, ⟨(some 15), none, (.m (.buildS 52 1 (.nilS) 1 [(0, (.t 14))]))⟩, ⟨(some 16), none, (.m (.app 52 1 24 (.t 12) (.t 15)))⟩, ⟨(some 3), none, (.p (.mov (.t 16)))⟩])))
 (.reg [⟨(some 17), none, (.p (.bin 0 .add (.t 8) (.c (.int .i64 1))))⟩, ⟨(some 8), none, (.p (.mov (.t 17)))⟩])))))))
 (.seq (.reg [⟨(some 18), none, (.p (.mov (.t 3)))⟩, ⟨(some 2), none, (.p (.mov (.t 18)))⟩])
 (.ret))))
theorem m_copyin_ok : compF Try.prog 65 = some (19, m_copyin, [.mov (.t 2)]) := by kernel_rfl
/-- Words as canonical cells. -/
def numC (l : List Int) : List Canon := l.map fun v => ⟨0, v, 0, 0⟩
theorem numC_len (l : List Int) : (numC l).length = l.length := by simp [numC]
theorem numC_at {l : List Int} {k : Nat} (h : k < l.length) : (numC l)[k]! = ⟨0, l[k]!, 0, 0⟩ := by simp [numC, h]
theorem numC_zero : numC [] = [] := rfl
theorem numC_snoc {l : List Int} {k : Nat} (h : k < l.length) : numC (l.take k) ++ [⟨0, l[k]!, 0, 0⟩] = numC (l.take (k + 1)) := by rw [take_snoc h]; simp [numC]
set_option maxHeartbeats 4000000 in
theorem cell_fn (v : Int) : Fnc Try.prog 56 [canonV ⟨0, v, 0, 0⟩] (fun x obs => x = .bool true ∧ obs = []) := by
  refine Fnc.intro m_cell_ok (by simp) fun W S => ?_
  unfold m_cell
  simp only [ents, Nat.zero_add, Nat.reduceAdd]
  refine zst ?_
  refine ret m_cell_ok [] ?_; (first | (simp only [go_sem]; done) | (simp only [go_sem]; ((try dsimp only); (repeat' (refine And.intro ?_ ?_)) <;> first | with_reducible rfl | (simp only [go_sem]; done) | (simp only [go_sem]; rfl) | (simp only []; (try simp only [go_sem]); first | done | rfl) | (simp only [go_sem]; simp []; done) | (simp []; done) | rfl)))
set_option maxHeartbeats 4000000 in
theorem cells_fn (l : List Int) (n : Int) (hb : l.length ≤ 140737488355328) (hn : (l.length : Int) ≤ n) : Fnc Try.prog 40 [.sl false 4 ((numC l).map canonV), .int .i64 n] (fun x obs => x = .bool true ∧ obs = []) := by
  have hl := numC_len l
  refine Fnc.intro m_cells_ok (by simp) fun W S => ?_
  unfold m_cells
  simp only [ents, Nat.zero_add, Nat.reduceAdd]
  refine zst ?_
  refine ev_loopK [0, 1, 7, 8] (fun p : {p : Nat // p ≤ l.length} => [(9, .int .i64 p.1)]) (fun _ => []) (fun p => l.length - p.1) (⟨0, by simp⟩) 0 (by simp only [go_sem]; rfl) ?_ (by first | rfl | (simp only [go_sem]; done)) (by simp) (by first | rfl | (simp only [go_sem]; done)) (by first | rfl | (simp only [go_sem]; done)) (by first | rfl | (simp only [go_sem]; done)) ?_
  · (simp only [go_sem]; (try simp []); done)
  intro J hJ
  rintro ⟨k, hk0⟩
  by_cases hlt : k < l.length
  · have ha := numC_at hlt
    repeat (first | (simp only [ha]; try simp only [go_sem]) | refine And.intro (by omega) ?_ | refine And.intro rfl ?_ | refine ev_ctl rfl rfl ?_ | refine evr_nil ?_ | refine evw_nil (by kernel_rfl) ?_ | (simp (disch := omega) only [takeAll, Nat.min_eq_left, Nat.min_eq_right, if_pos, if_neg, getD_map, wrapI64, modIn, fdivE, tmodE, tdivE, decT, decF, beqT, beqF, bneT, bneF, Int.toNat_natCast]; try simp only [go_sem]) | (refine ev_condTb rfl ?_ ?_; · (simp <;> omega)) | (refine ev_condFb rfl ?_ ?_; · (simp <;> omega)) | ((first | refine ev_region ?_ | refine evr_go rfl ?_ | refine evw_go rfl ?_ | refine ev_dr0 mixed rfl (by kernel_rfl) ?_ | refine ev_dr1 mixed rfl (by kernel_rfl) ?_ | refine ev_dr2 mixed rfl (by kernel_rfl) ?_); simp only [go_sem]))
    (first | refine callD (cell_fn l[k]!) ?_ | refine callDw (cell_fn l[k]!) ?_); simp only [go_sem]
    refine zst ?_
    refine ev_next 0 (hJ _ (⟨k + 1, hlt⟩) (by first | omega | (dsimp only; omega) | (simp; omega))) rfl (by simp) ?_ (by first | rfl | (simp only [go_sem]; done)) (by first | rfl | (simp only [go_sem]; done) | (simp only [hlt]; (try simp only [go_sem]); first | done | rfl)) ?_
    · (first | rfl | (simp only [go_sem]; done) | (simp only [go_sem]; simp only [hlt]; done) | (simp only [hlt]; done) | (simp only [go_sem]; simp [hlt]; done) | (simp [hlt]; done))
    · (simp only [go_sem]; (repeat' (refine And.intro ?_ ?_)) <;> first | exact trivial | with_reducible rfl | (simp only [hlt]; done) | (simp only [hlt]; with_reducible rfl) | (simp [hlt]; done) | (simp [hlt]; omega) | (simp only [hlt]; rfl) | skip)
  · obtain rfl : k = l.length := by omega
    refine zst ?_
    refine ret m_cells_ok [] ?_; (first | (simp only [go_sem]; done) | (simp only [go_sem]; ((try dsimp only); (repeat' (refine And.intro ?_ ?_)) <;> first | with_reducible rfl | (simp only [go_sem]; done) | (simp only [go_sem]; rfl) | (simp only []; (try simp only [go_sem]); first | done | rfl) | (simp only [go_sem]; simp []; done) | (simp []; done) | rfl)))
abbrev openN : V := .agg [.int .i64 (-1), .int .i64 0, .bool false]
abbrev csV (w : List Int) : V := .sl false 4 ((numC w).map canonV)
abbrev fsV (w0 w1 : List Int) : V := .agg [.sl false 1 [csV w0, csV w1], .sl false 3 [openN, openN, openN, openN, openN, openN, openN, openN]]
attribute [local irreducible] numC
set_option maxRecDepth 100000 in
set_option maxHeartbeats 16000000 in
theorem fval_fn (w0 w1 : List Int) (h0 : w0.length ≤ 64) (h1 : w1.length ≤ 64) : Fnc Try.prog 16 [fsV w0 w1] (fun x obs => x = .bool true ∧ obs = []) := by
  refine Fnc.intro m_fval_ok (by simp) fun W S => ?_
  unfold m_fval
  simp only [ents, Nat.zero_add, Nat.reduceAdd]
  refine zst ?_
  refine ev_unroll 3 ?_
  refine zst ?_
  (first | refine callD (cells_fn w0 64 (by omega) (by omega)) ?_ | refine callDw (cells_fn w0 64 (by omega) (by omega)) ?_); simp only [go_sem]
  refine zst ?_
  (first | refine callD (cells_fn w1 64 (by omega) (by omega)) ?_ | refine callDw (cells_fn w1 64 (by omega) (by omega)) ?_); simp only [go_sem]
  refine zst ?_
  refine ev_unroll 9 ?_
  refine zst ?_
  refine ret m_fval_ok [] ?_; (first | (simp only [go_sem]; done) | (simp only [go_sem]; ((try dsimp only); (repeat' (refine And.intro ?_ ?_)) <;> first | with_reducible rfl | (simp only [go_sem]; done) | (simp only [go_sem]; rfl) | (simp only []; (try simp only [go_sem]); first | done | rfl) | (simp only [go_sem]; simp []; done) | (simp []; done) | rfl)))
abbrev wsV (w : List Int) : V := .sl false 1 (u16s w)
set_option maxRecDepth 100000 in
set_option maxHeartbeats 16000000 in
theorem copyin_fn (w0 w1 : List Int) (h0 : w0.length ≤ 64) (h1 : w1.length ≤ 64) : Fnc Try.prog 65 [.sl false 1 [wsV w0, wsV w1]] (fun x obs => x = .sl false 1 [wsV w0, wsV w1] ∧ obs = []) := by
  refine Fnc.low ?_
  refine Fnc.intro m_copyin_ok (by simp) fun W S => ?_
  unfold m_copyin
  simp only [ents, Nat.zero_add, Nat.reduceAdd]
  refine zst ?_
  refine ev_unroll 3 ?_
  refine zst ?_
  refine ret m_copyin_ok [] ?_; (first | (simp only [go_sem]; done) | (simp only [go_sem]; ((try dsimp only); (repeat' (refine And.intro ?_ ?_)) <;> first | with_reducible rfl | (simp only [go_sem]; done) | (simp only [go_sem]; rfl) | (simp only [go_sem, wsV]; done) | (simp only [wsV]; (try simp only [go_sem]); first | done | rfl) | (simp only [go_sem]; simp [wsV]; done) | (simp [wsV]; done) | rfl)))
end Go.Proofs.Ytanmcjkpdkmhfaa
