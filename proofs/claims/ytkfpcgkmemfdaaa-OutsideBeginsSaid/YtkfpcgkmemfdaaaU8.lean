/- The outside: clock and random numbers. -/
import Derived.Test.YtkfpcgkmemfdaaaUQ
import Derived.Test.YtkfpcgkmemfdaaaZt
namespace Go.Proofs.Ytkfpcgkmemfdaaa
open Go Go.RowKit Rdn Rdn.Dp
set_option linter.unusedVariables false
set_option linter.unusedSimpArgs false
def m_wnumb : MC := .seq (.reg [⟨(some 2), none, (.m (.alloc 47 (.agg [.int .u8 0, .int .u16 0, .int .i64 0, .int .i64 0])))⟩])
 (.seq (.reg [⟨(some 3), none, (.p (.mov (.t 0)))⟩, ⟨(some 4), none, (.p (.conv .u16 (.t 3)))⟩, ⟨(some 5), none, (.m (.build none [.int .u8 0, .int .u16 0, .int .i64 0, .int .i64 0] [(0, (.c (.int .u8 0))), (1, (.t 4))]))⟩, ⟨none, none, (.m (.store 4 (.t 2) (.t 5)))⟩])
 (.ret))
theorem m_wnumb_ok : compF Try.prog 38 = some (6, m_wnumb, [.load true 4 (.t 2)]) := by kernel_rfl
def m_wfirst : MC := .seq (.reg [⟨(some 2), none, (.p (.mov (.c (.nilS))))⟩, ⟨(some 3), none, (.m (.alloc 47 (.agg [.int .u8 0, .int .u16 0, .int .i64 0, .int .i64 0])))⟩, ⟨(some 4), none, (.p (.mov (.c (.bool false))))⟩])
 (.seq (.seq (.reg [⟨(some 5), none, (.p (.mov (.t 0)))⟩, ⟨(some 6), none, (.p (.len (.t 5)))⟩, ⟨(some 7), none, (.p (.bin 0 .eql (.t 6) (.c (.int .i64 0))))⟩])
 (.cond (.t 7) (.seq (.reg [⟨(some 8), none, (.p (.mov (.t 0)))⟩, ⟨(some 9), none, (.m (.build none [.int .u8 0, .int .u16 0, .int .i64 0, .int .i64 0] []))⟩, ⟨(some 2), none, (.p (.mov (.t 8)))⟩, ⟨none, none, (.m (.store 4 (.t 3) (.t 9)))⟩, ⟨(some 4), none, (.p (.mov (.c (.bool false))))⟩])
 (.ret)) (.skip)))
 (.seq (.dreg [⟨(some 10), none, (.p (.mov (.t 0)))⟩, ⟨(some 11), none, (.m (.sl 1 (.t 10) (some (.c (.int .i64 1))) none none))⟩, ⟨(some 12), none, (.p (.mov (.t 0)))⟩, ⟨(some 13), none, (.p (.idxA 1 (.t 12) (.c (.int .i64 0))))⟩, ⟨(some 14), none, (.p (.load false 1 (.t 13)))⟩, ⟨(some 15), none, (.p (.conv .i64 (.t 14)))⟩, ⟨(some 16), none, (.call 38 [(.t 15)])⟩, ⟨(some 2), none, (.p (.mov (.t 11)))⟩, ⟨none, none, (.m (.store 4 (.t 3) (.t 16)))⟩, ⟨(some 4), none, (.p (.mov (.c (.bool true))))⟩] [[], [0], [], [2], [2, 3], [2, 3, 4], [2, 3, 4, 5], [0, 1, 2, 3, 4, 5, 6], [0, 1, 2, 3, 4, 5, 6, 7], [0, 1, 2, 3, 4, 5, 6, 7, 8]])
 (.ret)))
theorem m_wfirst_ok : compF Try.prog 45 = some (17, m_wfirst, [.mov (.t 2), .load true 4 (.t 3), .mov (.t 4)]) := by kernel_rfl
def m_wdo : MC := .seq (.reg [⟨(some 2), none, (.m (.box 31 (.t 0)))⟩, ⟨(some 3), none, (.m (.box 43 (.t 1)))⟩, ⟨(some 4), none, (.m (.alloc 31 (.agg [.nilS, .nilS, .nilS, .agg [.nilS, .nilS], .nilS])))⟩, ⟨(some 5), none, (.m (.alloc 49 (.agg [.agg [.int .u8 0, .int .u16 0, .int .i64 0, .int .i64 0], .nilS, .int .i64 0, .bool false])))⟩, ⟨(some 6), none, (.p (.mov (.c (.int .i64 0))))⟩])
 (.seq (.seq (.reg [⟨(some 12), none, (.p (.load true 6 (.t 2)))⟩, ⟨(some 13), none, (.call 24 [(.t 12)])⟩, ⟨(some 14), none, (.p (.un .not (.t 13)))⟩, ⟨(some 15), none, (.p (.mov (.t 14)))⟩, ⟨(some 16), (some (15, false)), (.p (.load true 8 (.t 3)))⟩, ⟨(some 17), (some (15, false)), (.call 36 [(.t 16)])⟩, ⟨(some 18), (some (15, false)), (.p (.un .not (.t 17)))⟩, ⟨(some 19), none, (.p (.pick (.t 15) (.c (.bool true)) (.t 18)))⟩, ⟨(some 20), none, (.p (.mov (.t 19)))⟩, ⟨(some 21), (some (20, false)), (.p (.fieldA 5 5 (.t 3)))⟩, ⟨(some 22), (some (20, false)), (.p (.load false 1 (.t 21)))⟩, ⟨(some 23), (some (20, false)), (.call 22 [(.t 22)])⟩, ⟨(some 24), (some (20, false)), (.p (.un .not (.t 23)))⟩, ⟨(some 25), none, (.p (.pick (.t 20) (.c (.bool true)) (.t 24)))⟩])
 (.cond (.t 25) (.seq (.reg [⟨(some 26), none, (.m (.build none [.nilS, .nilS, .nilS, .agg [.nilS, .nilS], .nilS] []))⟩, ⟨(some 27), none, (.m (.build none [.agg [.int .u8 0, .int .u16 0, .int .i64 0, .int .i64 0], .nilS, .int .i64 0, .bool false] []))⟩, ⟨none, none, (.m (.store 6 (.t 4) (.t 26)))⟩, ⟨none, none, (.m (.store 7 (.t 5) (.t 27)))⟩, ⟨(some 6), none, (.p (.mov (.c (.int .i64 1))))⟩])
 (.ret)) (.skip)))
 (.seq (.seq (.reg [⟨(some 28), none, (.p (.fieldA 5 5 (.t 3)))⟩, ⟨(some 29), none, (.p (.load false 1 (.t 28)))⟩, ⟨(some 30), none, (.call 37 [(.t 29)])⟩, ⟨(some 31), none, (.p (.bin 0 .eql (.t 30) (.c (.int .i64 2))))⟩, ⟨(some 32), none, (.p (.mov (.t 31)))⟩, ⟨(some 33), (some (32, true)), (.p (.fieldA 6 6 (.t 3)))⟩, ⟨(some 34), (some (32, true)), (.p (.load false 1 (.t 33)))⟩, ⟨(some 35), (some (32, true)), (.p (.idxA 4 (.t 34) (.c (.int .i64 2))))⟩, ⟨(some 36), (some (32, true)), (.p (.fieldA 1 1 (.t 35)))⟩, ⟨(some 37), (some (32, true)), (.p (.load false 1 (.t 36)))⟩, ⟨(some 38), (some (32, true)), (.p (.bin 0 .gtr (.t 37) (.c (.int .u16 16))))⟩, ⟨(some 39), none, (.p (.pick (.t 32) (.t 38) (.c (.bool false))))⟩])
 (.cond (.t 39) (.seq (.reg [⟨(some 40), none, (.m (.build none [.nilS, .nilS, .nilS, .agg [.nilS, .nilS], .nilS] []))⟩, ⟨(some 41), none, (.m (.build none [.agg [.int .u8 0, .int .u16 0, .int .i64 0, .int .i64 0], .nilS, .int .i64 0, .bool false] []))⟩, ⟨none, none, (.m (.store 6 (.t 4) (.t 40)))⟩, ⟨none, none, (.m (.store 7 (.t 5) (.t 41)))⟩, ⟨(some 6), none, (.p (.mov (.c (.int .i64 1))))⟩])
 (.ret)) (.skip)))
 (.seq (.reg [⟨(some 42), none, (.p (.load true 6 (.t 2)))⟩, ⟨(some 43), none, (.call 25 [(.t 42)])⟩, ⟨(some 7), none, (.m (.alloc 31 (.agg [.nilS, .nilS, .nilS, .agg [.nilS, .nilS], .nilS])))⟩, ⟨none, none, (.m (.store 6 (.t 7) (.t 43)))⟩])
 (.seq (.reg [⟨(some 44), none, (.call 38 [(.c (.int .i64 0))])⟩, ⟨(some 45), none, (.m (.build none [.agg [.int .u8 0, .int .u16 0, .int .i64 0, .int .i64 0], .nilS, .int .i64 0, .bool false] [(0, (.t 44)), (2, (.c (.int .i64 (-1))))]))⟩, ⟨(some 8), none, (.m (.alloc 49 (.agg [.agg [.int .u8 0, .int .u16 0, .int .i64 0, .int .i64 0], .nilS, .int .i64 0, .bool false])))⟩, ⟨none, none, (.m (.store 7 (.t 8) (.t 45)))⟩])
 (.seq (.reg [⟨(some 9), none, (.p (.mov (.c (.int .i64 0))))⟩])
 (.seq (.reg [⟨(some 10), none, (.p (.mov (.c (.bool true))))⟩])
 (.seq (.reg [⟨(some 46), none, (.p (.mkf 39 [(.t 3)]))⟩, ⟨(some 11), none, (.p (.mov (.t 46)))⟩])
 (.seq (.seq (.reg [⟨(some 47), none, (.p (.fieldA 5 5 (.t 3)))⟩, ⟨(some 48), none, (.p (.load false 1 (.t 47)))⟩])
 (.block 0 (.seq (.reg [⟨(some 50), none, (.p (.bin 0 .eql (.t 48) (.c (.int .i64 1))))⟩, ⟨(some 49), none, (.p (.mov (.t 50)))⟩])
 (.cond (.t 49) (.seq (.dreg [⟨(some 52), none, (.p (.fieldA 3 3 (.t 7)))⟩, ⟨(some 53), none, (.p (.load true 2 (.t 52)))⟩, ⟨(some 54), none, (.p (.mov (.t 11)))⟩, ⟨(some 55), none, (.callv (.t 54) [(.c (.int .i64 0))])⟩, ⟨(some 56), none, (.p (.fieldA 7 7 (.t 3)))⟩, ⟨(some 57), none, (.p (.load false 1 (.t 56)))⟩, ⟨(some 58), none, (.call 40 [(.t 53), (.t 55), (.t 57)])⟩, ⟨(some 51), none, (.p (.mov (.t 58)))⟩, ⟨(some 59), none, (.p (.ext (.t 51) 0))⟩, ⟨(some 60), none, (.p (.ext (.t 51) 1))⟩, ⟨(some 61), none, (.p (.ext (.t 51) 2))⟩, ⟨(some 62), none, (.p (.fieldA 3 3 (.t 7)))⟩, ⟨none, none, (.m (.store 2 (.t 62) (.t 59)))⟩, ⟨(some 9), none, (.p (.mov (.t 60)))⟩, ⟨(some 10), none, (.p (.mov (.t 61)))⟩] [[], [0], [], [2], [], [4], [0, 1, 2, 3, 4, 5], [0, 1, 2, 3, 4, 5, 6], [0, 1, 2, 3, 4, 5, 6, 7], [0, 1, 2, 3, 4, 5, 6, 7], [0, 1, 2, 3, 4, 5, 6, 7], [0, 1, 2, 3, 4, 5, 6, 7, 8], [0, 1, 2, 3, 4, 5, 6, 7, 8, 11], [0, 1, 2, 3, 4, 5, 6, 7, 8, 9, 11, 12], [0, 1, 2, 3, 4, 5, 6, 7, 8, 9, 10, 11, 12, 13]])
 (.reg [⟨(some 63), none, (.p (.mov (.t 9)))⟩, ⟨(some 64), none, (.call 38 [(.t 63)])⟩, ⟨(some 65), none, (.p (.fieldA 0 0 (.t 8)))⟩, ⟨none, none, (.m (.store 4 (.t 65) (.t 64)))⟩])) (.seq (.reg [⟨(some 67), none, (.p (.bin 0 .eql (.t 48) (.c (.int .i64 2))))⟩, ⟨(some 66), none, (.p (.mov (.t 67)))⟩])
 (.cond (.t 66) (.seq (.dreg [⟨(some 69), none, (.p (.fieldA 3 3 (.t 7)))⟩, ⟨(some 70), none, (.p (.load true 2 (.t 69)))⟩, ⟨(some 71), none, (.p (.mov (.t 11)))⟩, ⟨(some 72), none, (.callv (.t 71) [(.c (.int .i64 0))])⟩, ⟨(some 73), none, (.p (.mov (.t 11)))⟩, ⟨(some 74), none, (.callv (.t 73) [(.c (.int .i64 2))])⟩, ⟨(some 75), none, (.call 41 [(.t 70), (.t 72), (.t 74)])⟩, ⟨(some 68), none, (.p (.mov (.t 75)))⟩, ⟨(some 76), none, (.p (.ext (.t 68) 0))⟩, ⟨(some 77), none, (.p (.ext (.t 68) 1))⟩, ⟨(some 78), none, (.p (.ext (.t 68) 2))⟩, ⟨(some 79), none, (.p (.fieldA 3 3 (.t 7)))⟩, ⟨none, none, (.m (.store 2 (.t 79) (.t 76)))⟩, ⟨(some 80), none, (.p (.fieldA 4 1 (.t 8)))⟩, ⟨none, none, (.m (.store 1 (.t 80) (.t 77)))⟩, ⟨(some 10), none, (.p (.mov (.t 78)))⟩] [[], [0], [], [2], [], [2, 3, 4], [0, 1, 2, 3, 4, 5], [0, 1, 2, 3, 4, 5, 6], [0, 1, 2, 3, 4, 5, 6, 7], [0, 1, 2, 3, 4, 5, 6, 7], [0, 1, 2, 3, 4, 5, 6, 7], [0, 1, 2, 3, 4, 5, 6, 7, 8], [0, 1, 2, 3, 4, 5, 6, 7, 8, 11], [0, 1, 2, 3, 4, 5, 6, 7, 8, 9, 11, 12], [0, 1, 2, 3, 4, 5, 6, 7, 8, 9, 11, 12, 13], [0, 1, 2, 3, 4, 5, 6, 7, 8, 9, 10, 11, 12, 13, 14]])
 (.reg [⟨(some 81), none, (.p (.fieldA 4 1 (.t 8)))⟩, ⟨(some 82), none, (.p (.load false 1 (.t 81)))⟩, ⟨(some 83), none, (.p (.len (.t 82)))⟩, ⟨(some 84), none, (.call 38 [(.t 83)])⟩, ⟨(some 85), none, (.p (.fieldA 0 0 (.t 8)))⟩, ⟨none, none, (.m (.store 4 (.t 85) (.t 84)))⟩])) (.seq (.reg [⟨(some 87), none, (.p (.bin 0 .eql (.t 48) (.c (.int .i64 3))))⟩, ⟨(some 86), none, (.p (.mov (.t 87)))⟩])
 (.cond (.t 86) (.seq (.dreg [⟨(some 89), none, (.p (.fieldA 3 3 (.t 7)))⟩, ⟨(some 90), none, (.p (.load true 2 (.t 89)))⟩, ⟨(some 91), none, (.p (.mov (.t 11)))⟩, ⟨(some 92), none, (.callv (.t 91) [(.c (.int .i64 0))])⟩, ⟨(some 93), none, (.p (.mov (.t 11)))⟩, ⟨(some 94), none, (.callv (.t 93) [(.c (.int .i64 1))])⟩, ⟨(some 95), none, (.call 42 [(.t 90), (.t 92), (.t 94)])⟩, ⟨(some 88), none, (.p (.mov (.t 95)))⟩, ⟨(some 96), none, (.p (.ext (.t 88) 0))⟩, ⟨(some 97), none, (.p (.ext (.t 88) 1))⟩, ⟨(some 98), none, (.p (.fieldA 3 3 (.t 7)))⟩, ⟨none, none, (.m (.store 2 (.t 98) (.t 96)))⟩, ⟨(some 9), none, (.p (.mov (.t 97)))⟩] [[], [0], [], [2], [], [2, 3, 4], [0, 1, 2, 3, 4, 5], [0, 1, 2, 3, 4, 5, 6], [0, 1, 2, 3, 4, 5, 6, 7], [0, 1, 2, 3, 4, 5, 6, 7], [0, 1, 2, 3, 4, 5, 6, 7, 8], [0, 1, 2, 3, 4, 5, 6, 7, 8, 10], [0, 1, 2, 3, 4, 5, 6, 7, 8, 9, 10, 11]])
 (.seq (.reg [⟨(some 99), none, (.p (.mov (.t 9)))⟩, ⟨(some 100), none, (.p (.bin 0 .geq (.t 99) (.c (.int .i64 0))))⟩, ⟨(some 10), none, (.p (.mov (.t 100)))⟩])
 (.reg [⟨(some 101), none, (.p (.mov (.t 9)))⟩, ⟨(some 102), none, (.p (.conv .u16 (.t 101)))⟩, ⟨(some 103), none, (.m (.build none [.int .u8 0, .int .u16 0, .int .i64 0, .int .i64 0] [(0, (.c (.int .u8 2))), (1, (.t 102))]))⟩, ⟨(some 104), none, (.p (.fieldA 0 0 (.t 8)))⟩, ⟨none, none, (.m (.store 4 (.t 104) (.t 103)))⟩]))) (.seq (.reg [⟨(some 106), none, (.p (.bin 0 .eql (.t 48) (.c (.int .i64 4))))⟩, ⟨(some 105), none, (.p (.mov (.t 106)))⟩])
 (.cond (.t 105) (.dreg [⟨(some 108), none, (.p (.fieldA 3 3 (.t 7)))⟩, ⟨(some 109), none, (.p (.load true 2 (.t 108)))⟩, ⟨(some 110), none, (.p (.mov (.t 11)))⟩, ⟨(some 111), none, (.callv (.t 110) [(.c (.int .i64 0))])⟩, ⟨(some 112), none, (.call 43 [(.t 109), (.t 111)])⟩, ⟨(some 107), none, (.p (.mov (.t 112)))⟩, ⟨(some 113), none, (.p (.ext (.t 107) 0))⟩, ⟨(some 114), none, (.p (.ext (.t 107) 1))⟩, ⟨(some 115), none, (.p (.fieldA 3 3 (.t 7)))⟩, ⟨none, none, (.m (.store 2 (.t 115) (.t 113)))⟩, ⟨(some 10), none, (.p (.mov (.t 114)))⟩] [[], [0], [], [2], [0, 1, 2, 3], [0, 1, 2, 3, 4], [0, 1, 2, 3, 4, 5], [0, 1, 2, 3, 4, 5], [0, 1, 2, 3, 4, 5, 6], [0, 1, 2, 3, 4, 5, 6, 8], [0, 1, 2, 3, 4, 5, 6, 7, 8, 9]]) (.seq (.reg [⟨(some 117), none, (.p (.bin 0 .eql (.t 48) (.c (.int .i64 5))))⟩, ⟨(some 116), none, (.p (.mov (.t 117)))⟩])
 (.cond (.t 116) (.dreg [⟨(some 119), none, (.p (.fieldA 3 3 (.t 7)))⟩, ⟨(some 120), none, (.p (.load true 2 (.t 119)))⟩, ⟨(some 121), none, (.p (.mov (.t 11)))⟩, ⟨(some 122), none, (.callv (.t 121) [(.c (.int .i64 0))])⟩, ⟨(some 123), none, (.p (.mov (.t 11)))⟩, ⟨(some 124), none, (.callv (.t 123) [(.c (.int .i64 1))])⟩, ⟨(some 125), none, (.call 44 [(.t 120), (.t 122), (.t 124)])⟩, ⟨(some 118), none, (.p (.mov (.t 125)))⟩, ⟨(some 126), none, (.p (.ext (.t 118) 0))⟩, ⟨(some 127), none, (.p (.ext (.t 118) 1))⟩, ⟨(some 128), none, (.p (.fieldA 3 3 (.t 7)))⟩, ⟨none, none, (.m (.store 2 (.t 128) (.t 126)))⟩, ⟨(some 10), none, (.p (.mov (.t 127)))⟩] [[], [0], [], [2], [], [2, 3, 4], [0, 1, 2, 3, 4, 5], [0, 1, 2, 3, 4, 5, 6], [0, 1, 2, 3, 4, 5, 6, 7], [0, 1, 2, 3, 4, 5, 6, 7], [0, 1, 2, 3, 4, 5, 6, 7, 8], [0, 1, 2, 3, 4, 5, 6, 7, 8, 10], [0, 1, 2, 3, 4, 5, 6, 7, 8, 9, 10, 11]]) (.seq (.reg [⟨(some 130), none, (.p (.bin 0 .eql (.t 48) (.c (.int .i64 6))))⟩, ⟨(some 129), none, (.p (.mov (.t 130)))⟩])
 (.cond (.t 129) (.reg [⟨(some 132), none, (.p (.fieldA 0 0 (.t 7)))⟩, ⟨(some 133), none, (.p (.load false 1 (.t 132)))⟩, ⟨(some 134), none, (.call 45 [(.t 133)])⟩, ⟨(some 131), none, (.p (.mov (.t 134)))⟩, ⟨(some 135), none, (.p (.ext (.t 131) 0))⟩, ⟨(some 136), none, (.p (.ext (.t 131) 1))⟩, ⟨(some 137), none, (.p (.ext (.t 131) 2))⟩, ⟨(some 138), none, (.p (.fieldA 0 0 (.t 7)))⟩, ⟨none, none, (.m (.store 1 (.t 138) (.t 135)))⟩, ⟨(some 139), none, (.p (.fieldA 0 0 (.t 8)))⟩, ⟨none, none, (.m (.store 4 (.t 139) (.t 136)))⟩, ⟨(some 10), none, (.p (.mov (.t 137)))⟩]) (.seq (.reg [⟨(some 141), none, (.p (.bin 0 .eql (.t 48) (.c (.int .i64 7))))⟩, ⟨(some 140), none, (.p (.mov (.t 141)))⟩])
 (.cond (.t 140) (.reg [⟨(some 143), none, (.p (.fieldA 1 1 (.t 7)))⟩, ⟨(some 144), none, (.p (.load false 1 (.t 143)))⟩, ⟨(some 145), none, (.call 45 [(.t 144)])⟩, ⟨(some 142), none, (.p (.mov (.t 145)))⟩, ⟨(some 146), none, (.p (.ext (.t 142) 0))⟩, ⟨(some 147), none, (.p (.ext (.t 142) 1))⟩, ⟨(some 148), none, (.p (.ext (.t 142) 2))⟩, ⟨(some 149), none, (.p (.fieldA 1 1 (.t 7)))⟩, ⟨none, none, (.m (.store 1 (.t 149) (.t 146)))⟩, ⟨(some 150), none, (.p (.fieldA 0 0 (.t 8)))⟩, ⟨none, none, (.m (.store 4 (.t 150) (.t 147)))⟩, ⟨(some 10), none, (.p (.mov (.t 148)))⟩]) (.seq (.reg [⟨(some 152), none, (.p (.bin 0 .eql (.t 48) (.c (.int .i64 13))))⟩, ⟨(some 151), none, (.p (.mov (.t 152)))⟩])
 (.cond (.t 151) (.seq (.dreg [⟨(some 154), none, (.p (.fieldA 5 4 (.t 7)))⟩, ⟨(some 155), none, (.p (.load false 1 (.t 154)))⟩, ⟨(some 156), none, (.p (.mov (.t 11)))⟩, ⟨(some 157), none, (.callv (.t 156) [(.c (.int .i64 0))])⟩, ⟨(some 158), none, (.p (.fieldA 7 7 (.t 3)))⟩, ⟨(some 159), none, (.p (.load false 1 (.t 158)))⟩, ⟨(some 160), none, (.call 46 [(.t 155), (.t 157), (.t 159)])⟩, ⟨(some 153), none, (.p (.mov (.t 160)))⟩, ⟨(some 161), none, (.p (.ext (.t 153) 0))⟩, ⟨(some 162), none, (.p (.ext (.t 153) 1))⟩, ⟨(some 163), none, (.p (.ext (.t 153) 2))⟩, ⟨(some 164), none, (.p (.fieldA 5 4 (.t 7)))⟩, ⟨none, none, (.m (.store 1 (.t 164) (.t 161)))⟩, ⟨(some 9), none, (.p (.mov (.t 162)))⟩, ⟨(some 10), none, (.p (.mov (.t 163)))⟩] [[], [0], [], [2], [], [4], [0, 1, 2, 3, 4, 5], [0, 1, 2, 3, 4, 5, 6], [0, 1, 2, 3, 4, 5, 6, 7], [0, 1, 2, 3, 4, 5, 6, 7], [0, 1, 2, 3, 4, 5, 6, 7], [0, 1, 2, 3, 4, 5, 6, 7, 8], [0, 1, 2, 3, 4, 5, 6, 7, 8, 11], [0, 1, 2, 3, 4, 5, 6, 7, 8, 9, 11, 12], [0, 1, 2, 3, 4, 5, 6, 7, 8, 9, 10, 11, 12, 13]])
 (.reg [⟨(some 165), none, (.p (.mov (.t 9)))⟩, ⟨(some 166), none, (.call 38 [(.t 165)])⟩, ⟨(some 167), none, (.p (.fieldA 0 0 (.t 8)))⟩, ⟨none, none, (.m (.store 4 (.t 167) (.t 166)))⟩])) (.seq (.reg [⟨(some 169), none, (.p (.bin 0 .eql (.t 48) (.c (.int .i64 14))))⟩, ⟨(some 168), none, (.p (.mov (.t 169)))⟩])
 (.cond (.t 168) (.seq (.dreg [⟨(some 171), none, (.p (.fieldA 2 2 (.t 7)))⟩, ⟨(some 172), none, (.p (.load false 1 (.t 171)))⟩, ⟨(some 173), none, (.p (.mov (.t 11)))⟩, ⟨(some 174), none, (.callv (.t 173) [(.c (.int .i64 0))])⟩, ⟨(some 175), none, (.p (.mov (.t 11)))⟩, ⟨(some 176), none, (.callv (.t 175) [(.c (.int .i64 2))])⟩, ⟨(some 177), none, (.call 47 [(.t 172), (.t 174), (.t 176)])⟩, ⟨(some 170), none, (.p (.mov (.t 177)))⟩, ⟨(some 178), none, (.p (.ext (.t 170) 0))⟩, ⟨(some 179), none, (.p (.ext (.t 170) 1))⟩, ⟨(some 180), none, (.p (.ext (.t 170) 2))⟩, ⟨(some 181), none, (.p (.fieldA 2 2 (.t 7)))⟩, ⟨none, none, (.m (.store 1 (.t 181) (.t 178)))⟩, ⟨(some 182), none, (.p (.fieldA 4 1 (.t 8)))⟩, ⟨none, none, (.m (.store 1 (.t 182) (.t 179)))⟩, ⟨(some 10), none, (.p (.mov (.t 180)))⟩] [[], [0], [], [2], [], [2, 3, 4], [0, 1, 2, 3, 4, 5], [0, 1, 2, 3, 4, 5, 6], [0, 1, 2, 3, 4, 5, 6, 7], [0, 1, 2, 3, 4, 5, 6, 7], [0, 1, 2, 3, 4, 5, 6, 7], [0, 1, 2, 3, 4, 5, 6, 7, 8], [0, 1, 2, 3, 4, 5, 6, 7, 8, 11], [0, 1, 2, 3, 4, 5, 6, 7, 8, 9, 11, 12], [0, 1, 2, 3, 4, 5, 6, 7, 8, 9, 11, 12, 13], [0, 1, 2, 3, 4, 5, 6, 7, 8, 9, 10, 11, 12, 13, 14]])
 (.reg [⟨(some 183), none, (.p (.fieldA 4 1 (.t 8)))⟩, ⟨(some 184), none, (.p (.load false 1 (.t 183)))⟩, ⟨(some 185), none, (.p (.len (.t 184)))⟩, ⟨(some 186), none, (.call 38 [(.t 185)])⟩, ⟨(some 187), none, (.p (.fieldA 0 0 (.t 8)))⟩, ⟨none, none, (.m (.store 4 (.t 187) (.t 186)))⟩])) (.skip)))))))))))))))))))))
 (.seq (.seq (.reg [⟨(some 188), none, (.p (.mov (.t 10)))⟩, ⟨(some 189), none, (.p (.un .not (.t 188)))⟩])
 (.cond (.t 189) (.reg [⟨(some 190), none, (.call 38 [(.c (.int .i64 65535))])⟩, ⟨(some 191), none, (.m (.build none [.agg [.int .u8 0, .int .u16 0, .int .i64 0, .int .i64 0], .nilS, .int .i64 0, .bool false] [(0, (.t 190)), (2, (.c (.int .i64 (-1))))]))⟩, ⟨none, none, (.m (.store 7 (.t 8) (.t 191)))⟩]) (.skip)))
 (.seq (.dreg [⟨(some 192), none, (.p (.load true 6 (.t 7)))⟩, ⟨(some 193), none, (.p (.load true 7 (.t 8)))⟩, ⟨none, none, (.m (.store 6 (.t 4) (.t 192)))⟩, ⟨none, none, (.m (.store 7 (.t 5) (.t 193)))⟩, ⟨(some 6), none, (.p (.mov (.c (.int .i64 0))))⟩] [[], [], [0], [0, 1, 2], [0, 1, 2, 3]])
 (.ret)))))))))))
theorem m_wdo_ok : compF Try.prog 14 = some (194, m_wdo, [.load true 6 (.t 4), .load true 7 (.t 5), .mov (.t 6)]) := by kernel_rfl
abbrev resV (r : Rdn.Result) : V := .agg [canonV r.value, .sl false 4 (r.data.map canonV), .int .i64 r.spawn, .bool r.wait]
def okR (c : Canon) (d : List Canon) : Rdn.Result := ⟨c, d, -1, false⟩
def numR (v : Int) : Canon := ⟨0, IntKind.u16.wrap v, 0, 0⟩
def failR : Rdn.Result := okR ⟨0, 65535, 0, 0⟩ []
def noR : Rdn.Result := ⟨⟨0, 0, 0, 0⟩, [], 0, false⟩
def sFirst (l : List Int) : List Int × Canon × Bool := if l.length = 0 then (l, ⟨0, 0, 0, 0⟩, false) else (l.drop 1, ⟨0, l[0]!, 0, 0⟩, true)
theorem sFirst_T {l : List Int} (h : l.length = 0) : sFirst l = (l, ⟨0, 0, 0, 0⟩, false) := if_pos h
theorem sFirst_F {l : List Int} (h : ¬ l.length = 0) : sFirst l = (l.drop 1, ⟨0, l[0]!, 0, 0⟩, true) := if_neg h
attribute [local go_sem] take_mapW drop_mapW List.take_length
set_option maxHeartbeats 4000000 in
theorem wnumb_fn (v : Int) : Fnc Try.prog 38 [.int .i64 v] (fun x obs => x = canonV (numR v) ∧ obs = []) := by
  refine Fnc.intro m_wnumb_ok (by simp) fun W S => ?_
  unfold m_wnumb
  simp only [ents, Nat.zero_add, Nat.reduceAdd]
  refine zst ?_
  refine ret m_wnumb_ok [] ?_; exact zfn
set_option maxHeartbeats 4000000 in
theorem wfirst_fn (l : List Int) : Fnc Try.prog 45 [owV l] (fun x obs => x = .tup [owV (sFirst l).1, canonV (sFirst l).2.1, .bool (sFirst l).2.2] ∧ obs = []) := by
  refine Fnc.wf fun hw => ?_
  have hm : ∀ k, k < l.length → 0 ≤ l[k]! ∧ l[k]! ≤ 65535 := fun k hk => by
    have := hw.1
    simp only [V.wf, wfs_map] at this
    exact inK_u16' (this.1 _ (mem_at hk))
  simp only [V.wfs, V.wf, wfs_map, List.length_map] at hw
  have m1 := hw.1.2
  clear hw
  by_cases h : l.length = 0
  · rw [sFirst_T h]
    refine Fnc.intro m_wfirst_ok (by simp) fun W S => ?_
    unfold m_wfirst
    simp only [ents, Nat.zero_add, Nat.reduceAdd]
    refine zst ?_
    refine ret m_wfirst_ok [] ?_; exact zfn
  · rw [sFirst_F h]
    obtain ⟨h1, h2⟩ := hm 0 (by omega)
    have h0 : IntKind.u16.wrap l[0]! = l[0]! := wrapU16 h1 h2
    have h3 : IntKind.i64.wrap l[0]! = l[0]! := wrapI64 (by omega) (by omega)
    have fn := wnumb_fn l[0]!
    rw [show numR l[0]! = ⟨0, l[0]!, 0, 0⟩ by unfold numR; rw [h0]] at fn
    refine Fnc.intro m_wfirst_ok (by simp) fun W S => ?_
    unfold m_wfirst
    simp only [ents, Nat.zero_add, Nat.reduceAdd]
    refine zst ?_
    refine zsx h3 ?_
    (first | refine callD (fn) ?_ | refine callDw (fn) ?_); simp only [go_sem]
    refine zst ?_
    refine ret m_wfirst_ok [] ?_; exact zfn
end Go.Proofs.Ytkfpcgkmemfdaaa
