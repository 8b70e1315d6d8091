/- Pages: how many there are (PagesShapes). -/
import Derived.Test.YtcphobeommkgeaaP3
import Derived.Test.YtcphobeommkgeaaZt
import Derived.Test.YtcphobeommkgeaaP4
namespace Go.Proofs.Ytcphobeommkgeaa
open Go Go.RowKit Rdn Rdn.Dp
set_option linter.unusedVariables false
set_option linter.unusedSimpArgs false
def m_few : MC := .seq (.reg [⟨(some 2), none, (.p (.mov (.c (.bool false))))⟩])
 (.seq (.reg [⟨(some 3), none, (.p (.mov (.t 0)))⟩, ⟨(some 4), none, (.p (.len (.t 3)))⟩, ⟨(some 5), none, (.p (.bin 0 .leq (.t 4) (.c (.int .i64 400))))⟩, ⟨(some 2), none, (.p (.mov (.t 5)))⟩])
 (.ret))
theorem m_few_ok : compF Try.prog 13 = some (6, m_few, [.mov (.t 2)]) := by kernel_rfl
def m_awake25 : MC := .seq (.reg [⟨(some 0), none, (.p (.mov (.c (.bool false))))⟩])
 (.seq (.reg [⟨(some 4), none, (.m (.buildS 3 1 (.int .i64 0) 2 [(0, (.c (.int .i64 8))), (1, (.c (.int .i64 9)))]))⟩, ⟨(some 5), none, (.call 39 [(.t 4), (.c (.int .i64 1))])⟩, ⟨(some 3), none, (.p (.mov (.t 5)))⟩, ⟨(some 6), none, (.p (.ext (.t 3) 0))⟩, ⟨(some 7), none, (.p (.ext (.t 3) 1))⟩, ⟨(some 1), none, (.p (.mov (.t 6)))⟩, ⟨(some 2), none, (.p (.mov (.t 7)))⟩])
 (.seq (.reg [⟨(some 8), none, (.p (.mov (.t 2)))⟩, ⟨(some 9), none, (.p (.bin 0 .eql (.t 8) (.c (.int .i64 0))))⟩, ⟨(some 10), none, (.p (.mov (.t 9)))⟩, ⟨(some 11), (some (10, true)), (.p (.mov (.t 1)))⟩, ⟨(some 12), (some (10, true)), (.p (.len (.t 11)))⟩, ⟨(some 13), (some (10, true)), (.p (.bin 0 .eql (.t 12) (.c (.int .i64 4))))⟩, ⟨(some 14), none, (.p (.pick (.t 10) (.t 13) (.c (.bool false))))⟩, ⟨(some 15), none, (.p (.mov (.t 14)))⟩, ⟨(some 16), (some (15, true)), (.p (.mov (.t 1)))⟩, ⟨(some 17), (some (15, true)), (.p (.idxA 2 (.t 16) (.c (.int .i64 0))))⟩, ⟨(some 18), (some (15, true)), (.p (.load true 2 (.t 17)))⟩, ⟨(some 19), (some (15, true)), (.m (.build none [.int .i64 0, .int .i64 0] []))⟩, ⟨(some 20), (some (15, true)), (.p (.eqs false [(some .i64), (some .i64)] (.t 18) (.t 19)))⟩, ⟨(some 21), none, (.p (.pick (.t 15) (.t 20) (.c (.bool false))))⟩, ⟨(some 22), none, (.p (.mov (.t 21)))⟩, ⟨(some 23), (some (22, true)), (.p (.mov (.t 1)))⟩, ⟨(some 24), (some (22, true)), (.p (.idxA 2 (.t 23) (.c (.int .i64 1))))⟩, ⟨(some 25), (some (22, true)), (.p (.load true 2 (.t 24)))⟩, ⟨(some 26), (some (22, true)), (.m (.build none [.int .i64 0, .int .i64 0] [(0, (.c (.int .i64 1)))]))⟩, ⟨(some 27), (some (22, true)), (.p (.eqs false [(some .i64), (some .i64)] (.t 25) (.t 26)))⟩, ⟨(some 28), none, (.p (.pick (.t 22) (.t 27) (.c (.bool false))))⟩, ⟨(some 29), none, (.p (.mov (.t 28)))⟩, ⟨(some 30), (some (29, true)), (.p (.mov (.t 1)))⟩, ⟨(some 31), (some (29, true)), (.p (.idxA 2 (.t 30) (.c (.int .i64 2))))⟩, ⟨(some 32), (some (29, true)), (.p (.load true 2 (.t 31)))⟩, ⟨(some 33), (some (29, true)), (.m (.build none [.int .i64 0, .int .i64 0] [(0, (.c (.int .i64 1))), (1, (.c (.int .i64 1)))]))⟩, ⟨(some 34), (some (29, true)), (.p (.eqs false [(some .i64), (some .i64)] (.t 32) (.t 33)))⟩, ⟨(some 35), none, (.p (.pick (.t 29) (.t 34) (.c (.bool false))))⟩, ⟨(some 36), none, (.p (.mov (.t 35)))⟩, ⟨(some 37), (some (36, true)), (.p (.mov (.t 1)))⟩, ⟨(some 38), (some (36, true)), (.p (.idxA 2 (.t 37) (.c (.int .i64 3))))⟩, ⟨(some 39), (some (36, true)), (.p (.load true 2 (.t 38)))⟩, ⟨(some 40), (some (36, true)), (.m (.build none [.int .i64 0, .int .i64 0] [(0, (.c (.int .i64 (-1))))]))⟩, ⟨(some 41), (some (36, true)), (.p (.eqs false [(some .i64), (some .i64)] (.t 39) (.t 40)))⟩, ⟨(some 42), none, (.p (.pick (.t 36) (.t 41) (.c (.bool false))))⟩, ⟨(some 0), none, (.p (.mov (.t 42)))⟩])
 (.ret)))
theorem m_awake25_ok : compF Try.prog 14 = some (43, m_awake25, [.mov (.t 0)]) := by kernel_rfl
def m_psh : MC := .seq (.reg [⟨(some 2), none, (.p (.mov (.c (.bool false))))⟩])
 (.seq (.seq (.reg [⟨(some 17), none, (.p (.mov (.t 0)))⟩, ⟨(some 18), none, (.call 13 [(.t 17)])⟩, ⟨(some 19), none, (.p (.un .not (.t 18)))⟩])
 (.cond (.t 19) (.seq (.reg [⟨(some 20), none, (.call 14 [])⟩, ⟨(some 2), none, (.p (.mov (.t 20)))⟩])
 (.ret)) (.skip)))
 (.seq (.reg [⟨(some 21), none, (.p (.mov (.t 0)))⟩, ⟨(some 22), none, (.call 15 [(.t 21)])⟩, ⟨(some 23), none, (.call 16 [(.t 22)])⟩, ⟨(some 3), none, (.m (.alloc 30 (.agg [.nilS, .nilS])))⟩, ⟨none, none, (.m (.store 2 (.t 3) (.t 23)))⟩])
 (.seq (.reg [⟨(some 25), none, (.p (.load true 2 (.t 3)))⟩, ⟨(some 26), none, (.call 23 [(.t 25)])⟩, ⟨(some 24), none, (.p (.mov (.t 26)))⟩, ⟨(some 27), none, (.p (.ext (.t 24) 0))⟩, ⟨(some 28), none, (.p (.ext (.t 24) 1))⟩, ⟨(some 4), none, (.p (.mov (.t 27)))⟩, ⟨(some 5), none, (.p (.mov (.t 28)))⟩])
 (.seq (.dreg [⟨(some 29), none, (.p (.fieldA 1 1 (.t 3)))⟩, ⟨(some 30), none, (.p (.load false 1 (.t 29)))⟩, ⟨(some 31), none, (.p (.len (.t 30)))⟩, ⟨(some 6), none, (.p (.mov (.c (.int .i64 0))))⟩, ⟨(some 7), none, (.p (.mov (.c (.int .i64 0))))⟩, ⟨(some 8), none, (.p (.mov (.t 31)))⟩] [[], [0], [0, 1], [], [3], [0, 1, 2, 3, 4]])
 (.seq (.seq (.reg [⟨(some 9), none, (.p (.mov (.c (.int .i64 0))))⟩])
 (.block 0 (.loop (.seq (.seq (.reg [⟨(some 32), none, (.p (.mov (.t 9)))⟩, ⟨(some 33), none, (.p (.fieldA 0 0 (.t 3)))⟩, ⟨(some 34), none, (.p (.load false 1 (.t 33)))⟩, ⟨(some 35), none, (.p (.len (.t 34)))⟩, ⟨(some 36), none, (.p (.bin 0 .lss (.t 32) (.t 35)))⟩])
 (.cond (.t 36) (.skip) (.exit 0)))
 (.seq (.block 1 (.seq (.reg [⟨(some 39), none, (.p (.mov (.t 7)))⟩, ⟨(some 40), none, (.p (.fieldA 0 0 (.t 3)))⟩, ⟨(some 41), none, (.p (.load false 1 (.t 40)))⟩, ⟨(some 42), none, (.p (.mov (.t 9)))⟩, ⟨(some 43), none, (.p (.idxA 1 (.t 41) (.t 42)))⟩, ⟨(some 44), none, (.p (.load false 1 (.t 43)))⟩, ⟨(some 45), none, (.p (.len (.t 44)))⟩, ⟨(some 46), none, (.p (.bin 0 .add (.t 39) (.t 45)))⟩, ⟨(some 7), none, (.p (.mov (.t 46)))⟩])
 (.reg [⟨(some 47), none, (.p (.mov (.t 8)))⟩, ⟨(some 48), none, (.p (.fieldA 0 0 (.t 3)))⟩, ⟨(some 49), none, (.p (.load false 1 (.t 48)))⟩, ⟨(some 50), none, (.p (.mov (.t 9)))⟩, ⟨(some 51), none, (.p (.idxA 1 (.t 49) (.t 50)))⟩, ⟨(some 52), none, (.p (.load false 1 (.t 51)))⟩, ⟨(some 53), none, (.p (.len (.t 52)))⟩, ⟨(some 54), none, (.p (.bin 0 .add (.t 53) (.c (.int .i64 8))))⟩, ⟨(some 55), none, (.p (.bin 0 .sub (.t 54) (.c (.int .i64 1))))⟩, ⟨(some 56), none, (.p (.bin 0 .quo (.t 55) (.c (.int .i64 8))))⟩, ⟨(some 57), none, (.p (.bin 0 .add (.t 47) (.t 56)))⟩, ⟨(some 8), none, (.p (.mov (.t 57)))⟩])))
 (.reg [⟨(some 37), none, (.p (.mov (.t 9)))⟩, ⟨(some 38), none, (.p (.bin 0 .add (.t 37) (.c (.int .i64 1))))⟩, ⟨(some 9), none, (.p (.mov (.t 38)))⟩]))))))
 (.seq (.seq (.reg [⟨(some 10), none, (.p (.mov (.c (.int .i64 0))))⟩])
 (.block 2 (.loop (.seq (.seq (.reg [⟨(some 58), none, (.p (.mov (.t 10)))⟩, ⟨(some 59), none, (.p (.mov (.t 4)))⟩, ⟨(some 60), none, (.p (.len (.t 59)))⟩, ⟨(some 61), none, (.p (.bin 0 .lss (.t 58) (.t 60)))⟩])
 (.cond (.t 61) (.skip) (.exit 2)))
 (.seq (.block 3 (.seq (.seq (.dreg [⟨(some 64), none, (.p (.mov (.t 4)))⟩, ⟨(some 65), none, (.p (.mov (.t 10)))⟩, ⟨(some 66), none, (.p (.idxA 11 (.t 64) (.t 65)))⟩, ⟨(some 67), none, (.p (.fieldA 2 1 (.t 66)))⟩, ⟨(some 68), none, (.p (.load false 1 (.t 67)))⟩, ⟨(some 69), none, (.p (.len (.t 68)))⟩, ⟨(some 70), none, (.p (.bin 0 .gtr (.t 69) (.c (.int .i64 8))))⟩, ⟨(some 71), none, (.p (.mov (.t 70)))⟩, ⟨(some 72), (some (71, false)), (.p (.mov (.t 4)))⟩, ⟨(some 73), (some (71, false)), (.p (.mov (.t 10)))⟩, ⟨(some 74), (some (71, false)), (.p (.idxA 11 (.t 72) (.t 73)))⟩, ⟨(some 75), (some (71, false)), (.p (.fieldA 0 0 (.t 74)))⟩, ⟨(some 76), (some (71, false)), (.p (.fieldA 0 0 (.t 75)))⟩, ⟨(some 77), (some (71, false)), (.p (.load false 1 (.t 76)))⟩, ⟨(some 78), (some (71, false)), (.p (.bin 0 .eql (.t 77) (.c (.int .i64 (-1)))))⟩, ⟨(some 79), (some (71, false)), (.p (.mov (.t 4)))⟩, ⟨(some 80), (some (71, false)), (.p (.mov (.t 10)))⟩, ⟨(some 81), (some (71, false)), (.p (.idxA 11 (.t 79) (.t 80)))⟩, ⟨(some 82), (some (71, false)), (.p (.fieldA 2 1 (.t 81)))⟩, ⟨(some 83), (some (71, false)), (.p (.load false 1 (.t 82)))⟩, ⟨(some 84), (some (71, false)), (.p (.len (.t 83)))⟩, ⟨(some 85), (some (71, false)), (.p (.bin 0 .eql (.t 84) (.c (.int .i64 0))))⟩, ⟨(some 86), (some (71, false)), (.p (.bin 1 .neq (.t 78) (.t 85)))⟩, ⟨(some 87), none, (.p (.pick (.t 71) (.c (.bool true)) (.t 86)))⟩] [[], [], [0, 1], [0, 1, 2], [0, 1, 2, 3], [0, 1, 2, 3, 4], [0, 1, 2, 3, 4, 5], [0, 1, 2, 3, 4, 5, 6], [0, 1, 2, 3, 4, 5, 6, 7], [0, 1, 2, 3, 4, 5, 6, 7], [0, 1, 2, 3, 4, 5, 6, 7, 8, 9], [0, 1, 2, 3, 4, 5, 6, 7, 8, 9, 10], [0, 1, 2, 3, 4, 5, 6, 7, 8, 9, 10, 11], [0, 1, 2, 3, 4, 5, 6, 7, 8, 9, 10, 11, 12], [0, 1, 2, 3, 4, 5, 6, 7, 8, 9, 10, 11, 12, 13], [0, 1, 2, 3, 4, 5, 6, 7], [0, 1, 2, 3, 4, 5, 6, 7], [0, 1, 2, 3, 4, 5, 6, 7, 15, 16], [0, 1, 2, 3, 4, 5, 6, 7, 15, 16, 17], [0, 1, 2, 3, 4, 5, 6, 7, 15, 16, 17, 18], [0, 1, 2, 3, 4, 5, 6, 7, 15, 16, 17, 18, 19], [0, 1, 2, 3, 4, 5, 6, 7, 15, 16, 17, 18, 19, 20], [0, 1, 2, 3, 4, 5, 6, 7, 8, 9, 10, 11, 12, 13, 14, 15, 16, 17, 18, 19, 20, 21], [0, 1, 2, 3, 4, 5, 6, 7, 8, 9, 10, 11, 12, 13, 14, 15, 16, 17, 18, 19, 20, 21, 22]])
 (.cond (.t 87) (.seq (.reg [⟨(some 2), none, (.p (.mov (.c (.bool false))))⟩])
 (.ret)) (.skip)))
 (.reg [⟨(some 88), none, (.p (.mov (.t 6)))⟩, ⟨(some 89), none, (.p (.mov (.t 4)))⟩, ⟨(some 90), none, (.p (.mov (.t 10)))⟩, ⟨(some 91), none, (.p (.idxA 11 (.t 89) (.t 90)))⟩, ⟨(some 92), none, (.p (.fieldA 2 1 (.t 91)))⟩, ⟨(some 93), none, (.p (.load false 1 (.t 92)))⟩, ⟨(some 94), none, (.p (.len (.t 93)))⟩, ⟨(some 95), none, (.p (.bin 0 .add (.t 88) (.t 94)))⟩, ⟨(some 6), none, (.p (.mov (.t 95)))⟩])))
 (.reg [⟨(some 62), none, (.p (.mov (.t 10)))⟩, ⟨(some 63), none, (.p (.bin 0 .add (.t 62) (.c (.int .i64 1))))⟩, ⟨(some 10), none, (.p (.mov (.t 63)))⟩]))))))
 (.seq (.reg [⟨(some 97), none, (.p (.load true 2 (.t 3)))⟩, ⟨(some 98), none, (.p (.fieldA 0 0 (.t 3)))⟩, ⟨(some 99), none, (.p (.load false 1 (.t 98)))⟩, ⟨(some 100), none, (.p (.len (.t 99)))⟩, ⟨(some 101), none, (.m (.build none [.int .i64 0, .int .i64 0] [(0, (.t 100))]))⟩, ⟨(some 102), none, (.call 24 [(.t 97), (.t 101)])⟩, ⟨(some 96), none, (.p (.mov (.t 102)))⟩, ⟨(some 103), none, (.p (.ext (.t 96) 0))⟩, ⟨(some 104), none, (.p (.ext (.t 96) 1))⟩, ⟨(some 11), none, (.m (.alloc 45 (.agg [.agg [.int .i64 0, .int .i64 0], .nilS, .agg [.int .i64 0, .int .i64 0, .int .i64 0, .int .i64 0, .int .i64 0, .int .i64 0, .int .u16 0, .nilS]])))⟩, ⟨none, none, (.m (.store 11 (.t 11) (.t 103)))⟩, ⟨(some 12), none, (.p (.mov (.t 104)))⟩])
 (.seq (.dreg [⟨(some 106), none, (.p (.load true 2 (.t 3)))⟩, ⟨(some 107), none, (.p (.fieldA 0 0 (.t 3)))⟩, ⟨(some 108), none, (.p (.load false 1 (.t 107)))⟩, ⟨(some 109), none, (.p (.idxA 1 (.t 108) (.c (.int .i64 0))))⟩, ⟨(some 110), none, (.p (.load false 1 (.t 109)))⟩, ⟨(some 111), none, (.p (.len (.t 110)))⟩, ⟨(some 112), none, (.p (.bin 0 .add (.t 111) (.c (.int .i64 8))))⟩, ⟨(some 113), none, (.p (.bin 0 .sub (.t 112) (.c (.int .i64 1))))⟩, ⟨(some 114), none, (.p (.bin 0 .quo (.t 113) (.c (.int .i64 8))))⟩, ⟨(some 115), none, (.m (.build none [.int .i64 0, .int .i64 0] [(0, (.c (.int .i64 0))), (1, (.t 114))]))⟩, ⟨(some 116), none, (.call 24 [(.t 106), (.t 115)])⟩, ⟨(some 105), none, (.p (.mov (.t 116)))⟩, ⟨(some 117), none, (.p (.ext (.t 105) 0))⟩, ⟨(some 118), none, (.p (.ext (.t 105) 1))⟩, ⟨(some 13), none, (.m (.alloc 45 (.agg [.agg [.int .i64 0, .int .i64 0], .nilS, .agg [.int .i64 0, .int .i64 0, .int .i64 0, .int .i64 0, .int .i64 0, .int .i64 0, .int .u16 0, .nilS]])))⟩, ⟨none, none, (.m (.store 11 (.t 13) (.t 117)))⟩, ⟨(some 14), none, (.p (.mov (.t 118)))⟩] [[], [], [1], [1, 2], [1, 2, 3], [1, 2, 3, 4], [1, 2, 3, 4, 5], [1, 2, 3, 4, 5, 6], [1, 2, 3, 4, 5, 6, 7], [1, 2, 3, 4, 5, 6, 7, 8], [0, 1, 2, 3, 4, 5, 6, 7, 8, 9], [0, 1, 2, 3, 4, 5, 6, 7, 8, 9, 10], [0, 1, 2, 3, 4, 5, 6, 7, 8, 9, 10, 11], [0, 1, 2, 3, 4, 5, 6, 7, 8, 9, 10, 11], [], [0, 1, 2, 3, 4, 5, 6, 7, 8, 9, 10, 11, 12, 14], [0, 1, 2, 3, 4, 5, 6, 7, 8, 9, 10, 11, 12, 13, 14, 15]])
 (.seq (.reg [⟨(some 120), none, (.p (.load true 2 (.t 3)))⟩, ⟨(some 121), none, (.p (.fieldA 1 1 (.t 3)))⟩, ⟨(some 122), none, (.p (.load false 1 (.t 121)))⟩, ⟨(some 123), none, (.p (.len (.t 122)))⟩, ⟨(some 124), none, (.m (.build none [.int .i64 0, .int .i64 0] [(0, (.c (.int .i64 (-1)))), (1, (.t 123))]))⟩, ⟨(some 125), none, (.call 24 [(.t 120), (.t 124)])⟩, ⟨(some 119), none, (.p (.mov (.t 125)))⟩, ⟨(some 126), none, (.p (.ext (.t 119) 0))⟩, ⟨(some 127), none, (.p (.ext (.t 119) 1))⟩, ⟨(some 15), none, (.m (.alloc 45 (.agg [.agg [.int .i64 0, .int .i64 0], .nilS, .agg [.int .i64 0, .int .i64 0, .int .i64 0, .int .i64 0, .int .i64 0, .int .i64 0, .int .u16 0, .nilS]])))⟩, ⟨none, none, (.m (.store 11 (.t 15) (.t 126)))⟩, ⟨(some 16), none, (.p (.mov (.t 127)))⟩])
 (.seq (.reg [⟨(some 128), none, (.p (.mov (.t 5)))⟩, ⟨(some 129), none, (.p (.bin 0 .eql (.t 128) (.c (.int .i64 0))))⟩, ⟨(some 130), none, (.p (.mov (.t 129)))⟩, ⟨(some 131), (some (130, true)), (.p (.mov (.t 4)))⟩, ⟨(some 132), (some (130, true)), (.p (.len (.t 131)))⟩, ⟨(some 133), (some (130, true)), (.p (.mov (.t 8)))⟩, ⟨(some 134), (some (130, true)), (.p (.bin 0 .eql (.t 132) (.t 133)))⟩, ⟨(some 135), none, (.p (.pick (.t 130) (.t 134) (.c (.bool false))))⟩, ⟨(some 136), none, (.p (.mov (.t 135)))⟩, ⟨(some 137), (some (136, true)), (.p (.mov (.t 6)))⟩, ⟨(some 138), (some (136, true)), (.p (.mov (.t 7)))⟩, ⟨(some 139), (some (136, true)), (.p (.bin 0 .eql (.t 137) (.t 138)))⟩, ⟨(some 140), none, (.p (.pick (.t 136) (.t 139) (.c (.bool false))))⟩, ⟨(some 141), none, (.p (.mov (.t 140)))⟩, ⟨(some 142), (some (141, true)), (.p (.mov (.t 12)))⟩, ⟨(some 143), (some (141, true)), (.p (.bin 0 .eql (.t 142) (.c (.int .i64 30))))⟩, ⟨(some 144), none, (.p (.pick (.t 141) (.t 143) (.c (.bool false))))⟩, ⟨(some 145), none, (.p (.mov (.t 144)))⟩, ⟨(some 146), (some (145, true)), (.p (.mov (.t 14)))⟩, ⟨(some 147), (some (145, true)), (.p (.bin 0 .eql (.t 146) (.c (.int .i64 30))))⟩, ⟨(some 148), none, (.p (.pick (.t 145) (.t 147) (.c (.bool false))))⟩, ⟨(some 149), none, (.p (.mov (.t 148)))⟩, ⟨(some 150), (some (149, true)), (.p (.mov (.t 16)))⟩, ⟨(some 151), (some (149, true)), (.p (.bin 0 .eql (.t 150) (.c (.int .i64 30))))⟩, ⟨(some 152), none, (.p (.pick (.t 149) (.t 151) (.c (.bool false))))⟩, ⟨(some 153), none, (.p (.mov (.t 152)))⟩, ⟨(some 154), (some (153, true)), (.call 14 [])⟩, ⟨(some 155), none, (.p (.pick (.t 153) (.t 154) (.c (.bool false))))⟩, ⟨(some 2), none, (.p (.mov (.t 155)))⟩])
 (.ret)))))))))))
theorem m_psh_ok : compF Try.prog 4 = some (156, m_psh, [.mov (.t 2)]) := by kernel_rfl
set_option maxHeartbeats 4000000 in
theorem few_fn (l : List Int) : Fnc Try.prog 13 [.sl false 1 (i64s l)] (fun x obs => x = .bool (decide (l.length ≤ 400)) ∧ obs = []) := by
  refine Fnc.wf fun hw => ?_
  simp only [V.wfs, V.wf, wfs_map, List.length_map] at hw
  have hm := hw.1.2
  clear hw
  by_cases h : l.length ≤ 400
  · skip
    refine Fnc.intro m_few_ok (by simp) fun W S => ?_
    unfold m_few
    simp only [ents, Nat.zero_add, Nat.reduceAdd]
    refine zst ?_
    refine ret m_few_ok [] ?_; (first | (simp only [go_sem]; done) | (simp only [go_sem]; ((try dsimp only); (repeat' (refine And.intro ?_ ?_)) <;> first | with_reducible rfl | (simp only [go_sem]; done) | (simp only [go_sem]; rfl) | (simp only []; (try simp only [go_sem]); first | done | rfl) | (simp only [go_sem]; simp []; done) | (simp []; done) | rfl)))
  · skip
    refine Fnc.intro m_few_ok (by simp) fun W S => ?_
    unfold m_few
    simp only [ents, Nat.zero_add, Nat.reduceAdd]
    refine zst ?_
    refine ret m_few_ok [] ?_; (first | (simp only [go_sem]; done) | (simp only [go_sem]; ((try dsimp only); (repeat' (refine And.intro ?_ ?_)) <;> first | with_reducible rfl | (simp only [go_sem]; done) | (simp only [go_sem]; rfl) | (simp only []; (try simp only [go_sem]); first | done | rfl) | (simp only [go_sem]; simp []; done) | (simp []; done) | rfl)))
theorem aw25_1 : sList [8, 9] 1 = ([⟨0, 0⟩, ⟨1, 0⟩, ⟨1, 1⟩, ⟨-1, 0⟩], 0) := by decide
set_option maxHeartbeats 4000000 in
theorem awake25_fn : Fnc Try.prog 14 [] (fun x obs => x = .bool true ∧ obs = []) := by
  have f1 := plist_fn [8, 9] 1
  rw [aw25_1] at f1
  refine Fnc.intro m_awake25_ok (by simp) fun W S => ?_
  unfold m_awake25
  simp only [ents, Nat.zero_add, Nat.reduceAdd]
  refine zst ?_
  refine evr_calmA ?_; (refine zev ?_); (first | refine callD (f1) ?_ | refine callDw (f1) ?_); simp only [go_sem]
  refine zst ?_
  refine ret m_awake25_ok [] ?_; (first | (simp only [go_sem]; done) | (simp only [go_sem]; ((try dsimp only); (repeat' (refine And.intro ?_ ?_)) <;> first | with_reducible rfl | (simp only [go_sem]; done) | (simp only [go_sem]; rfl) | (simp only []; (try simp only [go_sem]); first | done | rfl) | (simp only [go_sem]; simp []; done) | (simp []; done) | rfl)))
theorem Fine.low {s : State} (F : Fine s) : LowS s := ⟨by have := F.shp.r; omega, fun x hx => by have := F.len x hx; omega, by have := F.shp.t; omega, fun x hx => by have := F.reg x hx; omega⟩
theorem no_region {s : State} (F : Fine s) : sGet s ⟨s.regions.length, 0⟩ = (zpg, 30) := sGet_30 F.shp.of fun h => by
  have := F.one
  unfold There at h; dsimp only at h; omega
theorem no_page {s : State} (F : Fine s) : sGet s ⟨0, ((s.regions[0]!.length : Int) + 8 - 1) / 8⟩ = (zpg, 30) := sGet_30 F.shp.of fun h => by
  have := F.one
  unfold There at h; dsimp only at h; rw [show Int.toNat 0 = 0 from rfl] at h; omega
theorem no_thread {s : State} (F : Fine s) : sGet s ⟨-1, s.threads.length⟩ = (zpg, 30) := sGet_30 F.shp.of fun h => by
  unfold There at h; dsimp only at h; omega
set_option maxHeartbeats 16000000 in
theorem psh_fn (l : List Int) : Fnc Try.prog 4 [.sl false 1 (i64s l)] (fun x obs => x = .bool true) := by
  have f0 := few_fn l
  have fa := awake25_fn
  by_cases c0 : l.length ≤ 400
  rotate_left
  · rw [decF c0] at f0
    refine Fnc.intro m_psh_ok (by simp) fun W S => ?_
    unfold m_psh
    simp only [ents, Nat.zero_add, Nat.reduceAdd]
    refine zst ?_
    (first | refine callD (f0) ?_ | refine callDw (f0) ?_); simp only [go_sem]
    refine zst ?_
    (first | refine callD (fa) ?_ | refine callDw (fa) ?_); simp only [go_sem]
    refine zst ?_
    refine ret m_psh_ok [] ?_; (first | (simp only [go_sem]; done) | (simp only [go_sem]; ((try dsimp only); (repeat' (refine And.intro ?_ ?_)) <;> first | with_reducible rfl | (simp only [go_sem]; done) | (simp only [go_sem]; rfl) | (simp only []; (try simp only [go_sem]); first | done | rfl) | (simp only [go_sem]; simp []; done) | (simp []; done) | rfl)))
  rw [decT c0] at f0
  have fs := sstate_fn l 0 (by omega)
  have F := ssd_fine l 0
  generalize ssd l 0 = q at fs F
  obtain ⟨s, kk⟩ := q
  dsimp only at fs F
  have hsh := F.shp.of
  have f1 := pall_fn s F.low
  rw [sAll_0 hsh] at f1
  have f2 := pget_fn s ⟨s.regions.length, 0⟩ F.low
  have f3 := pget_fn s ⟨0, ((s.regions[0]!.length : Int) + 8 - 1) / 8⟩ F.low
  have f4 := pget_fn s ⟨-1, s.threads.length⟩ F.low
  rw [no_region F] at f2
  rw [no_page F] at f3
  rw [no_thread F] at f4
  have hlen := pgs_len s
  have hcnt := cnt_all s F.shp
  have hAt : ∀ k, k < (pgs s).length → (pgs s)[k]!.cells.length ≤ 8 ∧ ((pgs s)[k]!.id.region = -1 ↔ (pgs s)[k]!.cells.length = 0) := fun k hk => by
    rw [pgs_at hk, getP_id]
    have hk' : k < (idsF (szs s) s.threads.length).length := by unfold pgs at hk; rwa [List.length_map] at hk
    exact (mem_idsF (mem_at hk') F.shp).cells
  have hrt := F.shp.r
  have htt := F.shp.t
  have h1 := F.one
  have hz := F.shp.z
  have hps : ∀ p, p ≤ s.regions.length → psum s p ≤ 4 * p := by
    intro p
    induction p with
    | zero => intro _; exact Nat.le_refl _
    | succ p ih => intro hp; have := ih (by omega); have := hz p (by omega); simp only [psum]; omega
  have hws : ∀ p, p ≤ s.regions.length → wsum s p ≤ 32 * p := by
    intro p
    induction p with
    | zero => intro _; exact Nat.le_refl _
    | succ p ih => intro hp; have := ih (by omega); have := hz p (by omega); rw [wsum_snoc (by omega)]; omega
  generalize pgs s = D at f1 hlen hcnt hAt
  refine Fnc.intro m_psh_ok (by simp) fun W S => ?_
  unfold m_psh
  simp only [ents, Nat.zero_add, Nat.reduceAdd]
  refine zst ?_
  (first | refine callD (f0) ?_ | refine callDw (f0) ?_); simp only [go_sem]
  refine zst ?_
  (first | refine callX (new_fn l) ?_ | refine callXw (new_fn l) ?_); simp only [go_sem]
  refine zst ?_
  (first | apply st_callMD (fs) rfl | apply evw_callM (fs) rfl)
  · (simp only [go_sem]; rfl)
  · rfl
  · (first | rfl | (simp only [go_sem]; done))
  · (first | rfl | (simp only [go_sem]; done) | (simp only [go_sem]; rfl))
  · (first | rfl | (simp only [go_sem]; done))
  · (first | rfl | (simp only [go_sem]; done) | (simp only [go_sem]; rfl))
  · (first | rfl | simp [V.pureT, V.pure, V.pures, pures_lo, pures_sls])
  (first | refine ev_all (fu := [(), (), (), (), (), (), (), ()]) ?_ | refine evw_all (md := []) (fu := [(), (), (), (), (), (), (), ()]) ?_); refine zev ?_
  refine zst ?_
  (first | refine callD (f1) ?_ | refine callDw (f1) ?_); simp only [go_sem]
  refine zst ?_
  refine ev_loopK [3, 4, 5, 6] (fun p : {p : Nat // p ≤ s.regions.length} => [(7, .int .i64 (wsum s p.1)), (8, .int .i64 ((s.threads.length + psum s p.1 : Nat) : Int)), (9, .int .i64 p.1)]) (fun p => [⟨.box false 91, true, 0, deckV l kk⟩, ⟨.box false 30, true, 0, staV s⟩]) (fun p => s.regions.length - p.1) (⟨0, by simp⟩) 2 (by simp only [go_sem]; rfl) ?_ (by first | rfl | (simp only [go_sem]; done) | (simp only [go_sem]; simp [psum, wsum]; done)) (by simp) (by first | rfl | (simp only [go_sem]; done)) (by first | rfl | (simp only [go_sem]; done)) (by first | rfl | (simp only [go_sem]; done) | (simp only [psum, wsum]; (try simp only [go_sem]); first | done | rfl)) ?_
  · (simp only [go_sem]; (try simp [psum, wsum]); done)
  intro J hJ
  rintro ⟨p, hp⟩
  have hp1 := hps p hp
  have hp2 := hws p hp
  by_cases hlt : p < s.regions.length
  · have e1 : (wsum s p : Int) + (s.regions[p]!.length : Int) = (wsum s (p + 1) : Int) := by rw [wsum_snoc hlt]; omega
    have e2 : ((s.threads.length + psum s p : Nat) : Int) + ((s.regions[p]!.length : Int) + 8 - 1) / 8 = ((s.threads.length + psum s (p + 1) : Nat) : Int) := by simp only [psum]; omega
    have hzp := hz p hlt
    refine zst ?_
    refine ev_next 2 (hJ _ (⟨p + 1, hlt⟩) (by first | omega | (dsimp only; omega) | (simp; omega))) rfl (by simp) ?_ (by first | rfl | (simp only [go_sem]; done)) (by first | rfl | (simp only [go_sem]; done) | (simp only [e1, e2]; (try simp only [go_sem]); first | done | rfl)) ?_
    · (first | rfl | (simp only [go_sem]; done) | (simp only [go_sem]; simp only [e1, e2]; done) | (simp only [e1, e2]; done) | (simp only [go_sem]; simp [e1, e2]; done) | (simp [e1, e2]; done))
    · (simp only [go_sem]; (repeat' (refine And.intro ?_ ?_)) <;> first | exact trivial | with_reducible rfl | (simp only [e1, e2]; done) | (simp only [e1, e2]; with_reducible rfl) | (simp [e1, e2]; done) | (simp [e1, e2]; omega) | (simp only [e1, e2]; rfl) | skip)
  · obtain rfl : p = s.regions.length := by omega
    refine zst ?_
    refine ev_loopK [3, 4, 5, 7, 8] (fun p : {p : Nat // p ≤ D.length} => [(6, .int .i64 (cnt (D.take p.1) : Nat)), (10, .int .i64 p.1)]) (fun p => [⟨.box false 91, true, 0, deckV l kk⟩, ⟨.box false 30, true, 0, staV s⟩]) (fun p => D.length - p.1) (⟨0, by simp⟩) 2 (by simp only [go_sem]; rfl) ?_ (by first | rfl | (simp only [go_sem]; done) | (simp only [go_sem]; simp [cnt]; done)) (by simp) (by first | rfl | (simp only [go_sem]; done)) (by first | rfl | (simp only [go_sem]; done)) (by first | rfl | (simp only [go_sem]; done) | (simp only [cnt]; (try simp only [go_sem]); first | done | rfl)) ?_
    · (simp only [go_sem]; (try simp [cnt]); done)
    intro J hJ
    rintro ⟨p, hp⟩
    have hcb : cnt (D.take p) ≤ 8 * p := by
      clear hlen hcnt f1
      induction p with
      | zero => exact Nat.le_refl _
      | succ p ih =>
        have ih := ih (by omega)
        have := (hAt p (by omega)).1
        rw [take_snoc (by omega), cnt_snoc]; omega
    by_cases hlt : p < D.length
    · have e1 : (cnt (D.take p) : Int) + (D[p]!.cells.length : Int) = (cnt (D.take (p + 1)) : Int) := by rw [take_snoc hlt, cnt_snoc]; omega
      have ha := hAt p hlt
      by_cases c1 : D[p]!.id.region = -1
      · have c2 := ha.2.1 c1
        refine zst ?_
        refine ev_next 2 (hJ _ (⟨p + 1, hlt⟩) (by first | omega | (dsimp only; omega) | (simp; omega))) rfl (by simp) ?_ (by first | rfl | (simp only [go_sem]; done)) (by first | rfl | (simp only [go_sem]; done) | (simp only [e1]; (try simp only [go_sem]); first | done | rfl)) ?_
        · (first | rfl | (simp only [go_sem]; done) | (simp only [go_sem]; simp only [e1]; done) | (simp only [e1]; done) | (simp only [go_sem]; simp [e1]; done) | (simp [e1]; done))
        · (simp only [go_sem]; (repeat' (refine And.intro ?_ ?_)) <;> first | exact trivial | with_reducible rfl | (simp only [e1]; done) | (simp only [e1]; with_reducible rfl) | (simp [e1]; done) | (simp [e1]; omega) | (simp only [e1]; rfl) | skip)
      · have c2 : D[p]!.cells.length ≠ 0 := fun h => c1 (ha.2.2 h)
        refine zst ?_
        refine ev_next 2 (hJ _ (⟨p + 1, hlt⟩) (by first | omega | (dsimp only; omega) | (simp; omega))) rfl (by simp) ?_ (by first | rfl | (simp only [go_sem]; done)) (by first | rfl | (simp only [go_sem]; done) | (simp only [e1]; (try simp only [go_sem]); first | done | rfl)) ?_
        · (first | rfl | (simp only [go_sem]; done) | (simp only [go_sem]; simp only [e1]; done) | (simp only [e1]; done) | (simp only [go_sem]; simp [e1]; done) | (simp [e1]; done))
        · (simp only [go_sem]; (repeat' (refine And.intro ?_ ?_)) <;> first | exact trivial | with_reducible rfl | (simp only [e1]; done) | (simp only [e1]; with_reducible rfl) | (simp [e1]; done) | (simp [e1]; omega) | (simp only [e1]; rfl) | skip)
    · obtain rfl : p = D.length := by omega
      rw [List.take_length] at hcb ⊢
      have hz0 := hz 0 (by omega)
      refine zst ?_
      (first | refine callD (f2) ?_ | refine callDw (f2) ?_); simp only [go_sem]
      refine zst ?_
      (first | refine callD (f3) ?_ | refine callDw (f3) ?_); simp only [go_sem]
      refine zst ?_
      (first | refine callD (f4) ?_ | refine callDw (f4) ?_); simp only [go_sem]
      refine zst ?_
      (first | refine callD (fa) ?_ | refine callDw (fa) ?_); simp only [go_sem]
      refine zst ?_
      refine ret m_psh_ok [] ?_; (first | (simp only [go_sem]; done) | (simp only [go_sem]; ((try dsimp only); (repeat' (refine And.intro ?_ ?_)) <;> first | with_reducible rfl | (simp only [go_sem]; done) | (simp only [go_sem]; rfl) | (simp only []; (try simp only [go_sem]); first | done | rfl) | (simp only [go_sem]; simp []; done) | (simp []; done) | rfl)))
theorem psh_law {a0 : List Int} {v0 : Value} (W : World) (e0 : (Sh.slice (Sh.int .i64)).rd (old W) W a0 [v0]) :
    Calls Try.prog 4 #[v0] W fun e w' => e = .returned (.bool true) ∧ Below W.heap.size W w' :=
  Fnc.law (psh_fn a0) (RdTs.slice enc_i64s e0 RdTs.nil')
end Go.Proofs.Ytcphobeommkgeaa
