/- W19, W20, in one text. -/
import Derived.Test.YtanmcjkpdkmhfaaWY
import Derived.Test.YtanmcjkpdkmhfaaZt
import Derived.Test.YtanmcjkpdkmhfaaReads
/- Files: what each function does (FileSteps). -/
namespace Go.Proofs.Ytanmcjkpdkmhfaa
open Go Go.RowKit Rdn Rdn.Dp
set_option linter.unusedVariables false
set_option linter.unusedSimpArgs false
def m_fst : MC := .seq (.reg [⟨(some 8), none, (.m (.box 26 (.t 0)))⟩, ⟨(some 16), none, (.p (.mov (.c (.bool false))))⟩])
 (.seq (.seq (.reg [⟨(some 48), none, (.p (.load true 2 (.t 8)))⟩, ⟨(some 49), none, (.call 21 [(.t 48)])⟩, ⟨(some 50), none, (.p (.un .not (.t 49)))⟩, ⟨(some 51), none, (.p (.mov (.t 50)))⟩, ⟨(some 52), (some (51, false)), (.p (.mov (.t 1)))⟩, ⟨(some 53), (some (51, false)), (.p (.len (.t 52)))⟩, ⟨(some 54), (some (51, false)), (.p (.bin 0 .gtr (.t 53) (.c (.int .i64 20))))⟩, ⟨(some 55), none, (.p (.pick (.t 51) (.c (.bool true)) (.t 54)))⟩, ⟨(some 56), none, (.p (.mov (.t 55)))⟩, ⟨(some 57), (some (56, false)), (.p (.mov (.t 2)))⟩, ⟨(some 58), (some (56, false)), (.p (.len (.t 57)))⟩, ⟨(some 59), (some (56, false)), (.p (.bin 0 .gtr (.t 58) (.c (.int .i64 100))))⟩, ⟨(some 60), none, (.p (.pick (.t 56) (.c (.bool true)) (.t 59)))⟩])
 (.cond (.t 60) (.seq (.reg [⟨(some 61), none, (.call 13 [])⟩, ⟨(some 16), none, (.p (.mov (.t 61)))⟩])
 (.ret)) (.skip)))
 (.seq (.seq (.reg [⟨(some 62), none, (.p (.mov (.t 1)))⟩, ⟨(some 63), none, (.p (.len (.t 62)))⟩, ⟨(some 64), none, (.p (.mov (.c (.int .i64 0))))⟩])
 (.block 0 (.loop (.seq (.reg [⟨(some 65), none, (.p (.bin 0 .lss (.t 64) (.t 63)))⟩])
 (.seq (.cond (.t 65) (.skip) (.exit 0))
 (.seq (.block 1 (.seq (.reg [⟨(some 66), none, (.p (.idxA 1 (.t 62) (.t 64)))⟩, ⟨(some 67), none, (.p (.load false 1 (.t 66)))⟩, ⟨(some 18), none, (.p (.mov (.t 67)))⟩])
 (.seq (.reg [⟨(some 68), none, (.p (.mov (.t 18)))⟩, ⟨(some 69), none, (.p (.len (.t 68)))⟩, ⟨(some 70), none, (.p (.bin 0 .gtr (.t 69) (.c (.int .i64 100))))⟩])
 (.cond (.t 70) (.seq (.reg [⟨(some 71), none, (.call 13 [])⟩, ⟨(some 16), none, (.p (.mov (.t 71)))⟩])
 (.ret)) (.skip)))))
 (.reg [⟨(some 72), none, (.p (.bin 0 .add (.t 64) (.c (.int .i64 1))))⟩, ⟨(some 64), none, (.p (.mov (.t 72)))⟩])))))))
 (.seq (.reg [⟨(some 73), none, (.p (.mov (.t 3)))⟩, ⟨(some 74), none, (.call 9 [(.t 73)])⟩, ⟨(some 19), none, (.p (.mov (.t 74)))⟩])
 (.seq (.reg [⟨(some 75), none, (.p (.mov (.t 19)))⟩, ⟨(some 76), none, (.call 8 [(.t 75)])⟩, ⟨(some 20), none, (.m (.alloc 26 (.agg [.nilS, .nilS])))⟩, ⟨none, none, (.m (.store 2 (.t 20) (.t 76)))⟩])
 (.seq (.reg [⟨(some 77), none, (.p (.load true 2 (.t 20)))⟩, ⟨(some 78), none, (.call 22 [(.t 77)])⟩, ⟨(some 21), none, (.m (.alloc 26 (.agg [.nilS, .nilS])))⟩, ⟨none, none, (.m (.store 2 (.t 21) (.t 78)))⟩])
 (.seq (.reg [⟨(some 79), none, (.m (.buildS 3 1 (.int .i64 0) 7 [(0, (.c (.int .i64 (-2)))), (1, (.c (.int .i64 (-1)))), (2, (.c (.int .i64 0))), (3, (.c (.int .i64 1))), (4, (.c (.int .i64 3))), (5, (.c (.int .i64 64))), (6, (.c (.int .i64 65)))]))⟩, ⟨(some 80), none, (.p (.mov (.t 7)))⟩, ⟨(some 81), none, (.call 10 [(.t 80), (.c (.int .i64 7))])⟩, ⟨(some 82), none, (.p (.idxA 1 (.t 79) (.t 81)))⟩, ⟨(some 83), none, (.p (.load false 1 (.t 82)))⟩, ⟨(some 22), none, (.p (.mov (.t 83)))⟩])
 (.seq (.seq (.reg [⟨(some 84), none, (.p (.mov (.t 7)))⟩, ⟨(some 85), none, (.call 10 [(.t 84), (.c (.int .i64 8))])⟩, ⟨(some 23), none, (.p (.mov (.t 85)))⟩])
 (.seq (.reg [⟨(some 86), none, (.p (.mov (.t 6)))⟩, ⟨(some 87), none, (.call 10 [(.t 86), (.c (.int .i64 5))])⟩])
 (.block 2 (.seq (.reg [⟨(some 89), none, (.p (.bin 0 .eql (.t 87) (.c (.int .i64 0))))⟩, ⟨(some 88), none, (.p (.mov (.t 89)))⟩])
 (.cond (.t 88) (.reg [⟨(some 90), none, (.p (.fieldA 1 1 (.t 21)))⟩, ⟨(some 91), none, (.p (.load false 1 (.t 90)))⟩, ⟨(some 92), none, (.p (.mov (.t 23)))⟩, ⟨(some 93), none, (.p (.mov (.t 22)))⟩, ⟨(some 94), none, (.p (.idxA 3 (.t 91) (.t 92)))⟩, ⟨(some 95), none, (.p (.fieldA 0 0 (.t 94)))⟩, ⟨none, none, (.m (.store 1 (.t 95) (.t 93)))⟩]) (.seq (.reg [⟨(some 97), none, (.p (.bin 0 .eql (.t 87) (.c (.int .i64 1))))⟩, ⟨(some 96), none, (.p (.mov (.t 97)))⟩])
 (.cond (.t 96) (.reg [⟨(some 98), none, (.p (.fieldA 1 1 (.t 21)))⟩, ⟨(some 99), none, (.p (.load false 1 (.t 98)))⟩, ⟨(some 100), none, (.p (.mov (.t 23)))⟩, ⟨(some 101), none, (.p (.mov (.t 22)))⟩, ⟨(some 102), none, (.p (.idxA 3 (.t 99) (.t 100)))⟩, ⟨(some 103), none, (.p (.fieldA 1 1 (.t 102)))⟩, ⟨none, none, (.m (.store 1 (.t 103) (.t 101)))⟩]) (.seq (.reg [⟨(some 105), none, (.p (.bin 0 .eql (.t 87) (.c (.int .i64 2))))⟩, ⟨(some 104), none, (.p (.mov (.t 105)))⟩])
 (.cond (.t 104) (.reg [⟨(some 106), none, (.p (.fieldA 1 1 (.t 21)))⟩, ⟨(some 107), none, (.p (.load false 1 (.t 106)))⟩, ⟨(some 108), none, (.m (.sl 3 (.t 107) (some (.c (.int .i64 1))) none none))⟩, ⟨(some 109), none, (.p (.fieldA 1 1 (.t 21)))⟩, ⟨none, none, (.m (.store 1 (.t 109) (.t 108)))⟩]) (.seq (.reg [⟨(some 111), none, (.p (.bin 0 .eql (.t 87) (.c (.int .i64 3))))⟩, ⟨(some 110), none, (.p (.mov (.t 111)))⟩])
 (.cond (.t 110) (.dreg [⟨(some 112), none, (.p (.fieldA 1 1 (.t 21)))⟩, ⟨(some 113), none, (.p (.load false 1 (.t 112)))⟩, ⟨(some 114), none, (.p (.mov (.t 23)))⟩, ⟨(some 115), none, (.p (.fieldA 1 1 (.t 21)))⟩, ⟨(some 116), none, (.p (.load false 1 (.t 115)))⟩, ⟨(some 117), none, (.p (.mov (.t 23)))⟩, ⟨(some 118), none, (.p (.idxA 3 (.t 116) (.t 117)))⟩, ⟨(some 119), none, (.p (.fieldA 2 2 (.t 118)))⟩, ⟨(some 120), none, (.p (.load false 1 (.t 119)))⟩, ⟨(some 121), none, (.p (.un .not (.t 120)))⟩, ⟨(some 122), none, (.p (.idxA 3 (.t 113) (.t 114)))⟩, ⟨(some 123), none, (.p (.fieldA 2 2 (.t 122)))⟩, ⟨none, none, (.m (.store 1 (.t 123) (.t 121)))⟩] [[], [0], [], [], [3], [], [3, 4, 5], [3, 4, 5, 6], [3, 4, 5, 6, 7], [3, 4, 5, 6, 7, 8], [0, 1, 2, 3, 4, 5, 6, 7, 8, 9], [0, 1, 2, 3, 4, 5, 6, 7, 8, 9, 10], [0, 1, 2, 3, 4, 5, 6, 7, 8, 9, 10, 11]]) (.seq (.reg [⟨(some 125), none, (.p (.bin 0 .eql (.t 87) (.c (.int .i64 4))))⟩, ⟨(some 124), none, (.p (.mov (.t 125)))⟩])
 (.cond (.t 124) (.dreg [⟨(some 126), none, (.p (.fieldA 0 0 (.t 21)))⟩, ⟨(some 127), none, (.p (.load false 1 (.t 126)))⟩, ⟨(some 128), none, (.p (.mov (.t 7)))⟩, ⟨(some 129), none, (.call 10 [(.t 128), (.c (.int .i64 8))])⟩, ⟨(some 130), none, (.p (.bin 0 .add (.c (.int .i64 60)) (.t 129)))⟩, ⟨(some 131), none, (.m (.mkS 71 4 24 (.agg [.int .u8 0, .int .u16 0, .int .i64 0, .int .i64 0]) (.t 130) (.t 130)))⟩, ⟨(some 132), none, (.m (.buildS 33 1 (.nilS) 1 [(0, (.t 131))]))⟩, ⟨(some 133), none, (.m (.app 33 1 24 (.t 127) (.t 132)))⟩, ⟨(some 134), none, (.p (.fieldA 0 0 (.t 21)))⟩, ⟨none, none, (.m (.store 1 (.t 134) (.t 133)))⟩] [[], [0], [], [2], [2, 3], [2, 3, 4], [2, 3, 4, 5], [0, 1, 2, 3, 4, 5, 6], [0, 1, 2, 3, 4, 5, 6, 7], [0, 1, 2, 3, 4, 5, 6, 7, 8]]) (.skip))))))))))))))
 (.seq (.seq (.reg [⟨(some 135), none, (.p (.load true 2 (.t 20)))⟩, ⟨(some 136), none, (.p (.load true 2 (.t 21)))⟩, ⟨(some 137), none, (.p (.load true 2 (.t 8)))⟩, ⟨(some 138), none, (.m (.buildS 26 2 (.agg [.nilS, .nilS]) 3 [(0, (.t 135)), (1, (.t 136)), (2, (.t 137))]))⟩, ⟨(some 139), none, (.p (.len (.t 138)))⟩, ⟨(some 140), none, (.p (.mov (.c (.int .i64 0))))⟩])
 (.block 3 (.loop (.seq (.reg [⟨(some 141), none, (.p (.bin 0 .lss (.t 140) (.t 139)))⟩])
 (.seq (.cond (.t 141) (.skip) (.exit 3))
 (.seq (.block 4 (.seq (.reg [⟨(some 142), none, (.p (.idxA 2 (.t 138) (.t 140)))⟩, ⟨(some 143), none, (.p (.load true 2 (.t 142)))⟩, ⟨(some 25), none, (.m (.alloc 26 (.agg [.nilS, .nilS])))⟩, ⟨none, none, (.m (.store 2 (.t 25) (.t 143)))⟩])
 (.seq (.dreg [⟨(some 144), none, (.p (.load true 2 (.t 25)))⟩, ⟨(some 145), none, (.call 23 [(.t 144)])⟩, ⟨(some 146), none, (.p (.load true 2 (.t 25)))⟩, ⟨(some 147), none, (.call 16 [(.t 146)])⟩, ⟨(some 148), none, (.p (.bin 1 .neq (.t 145) (.t 147)))⟩, ⟨(some 149), none, (.p (.mov (.t 148)))⟩, ⟨(some 150), (some (149, false)), (.p (.load true 2 (.t 20)))⟩, ⟨(some 151), (some (149, false)), (.p (.load true 2 (.t 25)))⟩, ⟨(some 152), (some (149, false)), (.call 24 [(.t 150), (.t 151)])⟩, ⟨(some 153), (some (149, false)), (.p (.load true 2 (.t 20)))⟩, ⟨(some 154), (some (149, false)), (.p (.load true 2 (.t 25)))⟩, ⟨(some 155), (some (149, false)), (.call 15 [(.t 153), (.t 154)])⟩, ⟨(some 156), (some (149, false)), (.p (.bin 1 .neq (.t 152) (.t 155)))⟩, ⟨(some 157), none, (.p (.pick (.t 149) (.c (.bool true)) (.t 156)))⟩] [[], [0], [], [0, 1, 2], [0, 1, 2, 3], [0, 1, 2, 3, 4], [0, 1, 2, 3, 4, 5], [0, 1, 2, 3, 4, 5], [0, 1, 2, 3, 4, 5, 6, 7], [0, 1, 2, 3, 4, 5], [0, 1, 2, 3, 4, 5], [0, 1, 2, 3, 4, 5, 6, 7, 8, 9, 10], [0, 1, 2, 3, 4, 5, 6, 7, 8, 9, 10, 11], [0, 1, 2, 3, 4, 5, 6, 7, 8, 9, 10, 11, 12]])
 (.cond (.t 157) (.seq (.reg [⟨(some 16), none, (.p (.mov (.c (.bool false))))⟩])
 (.ret)) (.skip)))))
 (.reg [⟨(some 158), none, (.p (.bin 0 .add (.t 140) (.c (.int .i64 1))))⟩, ⟨(some 140), none, (.p (.mov (.t 158)))⟩])))))))
 (.seq (.reg [⟨(some 160), none, (.p (.mov (.t 1)))⟩, ⟨(some 161), none, (.call 25 [(.t 160)])⟩, ⟨(some 159), none, (.p (.mov (.t 161)))⟩, ⟨(some 162), none, (.p (.ext (.t 159) 0))⟩, ⟨(some 163), none, (.p (.ext (.t 159) 1))⟩, ⟨(some 26), none, (.m (.alloc 26 (.agg [.nilS, .nilS])))⟩, ⟨none, none, (.m (.store 2 (.t 26) (.t 162)))⟩, ⟨(some 27), none, (.p (.mov (.t 163)))⟩])
 (.seq (.reg [⟨(some 165), none, (.p (.mov (.t 1)))⟩, ⟨(some 166), none, (.call 26 [(.t 165)])⟩, ⟨(some 164), none, (.p (.mov (.t 166)))⟩, ⟨(some 167), none, (.p (.ext (.t 164) 0))⟩, ⟨(some 168), none, (.p (.ext (.t 164) 1))⟩, ⟨(some 28), none, (.m (.alloc 26 (.agg [.nilS, .nilS])))⟩, ⟨none, none, (.m (.store 2 (.t 28) (.t 167)))⟩, ⟨(some 29), none, (.p (.mov (.t 168)))⟩])
 (.seq (.seq (.reg [⟨(some 169), none, (.p (.mov (.t 27)))⟩, ⟨(some 170), none, (.p (.mov (.t 29)))⟩, ⟨(some 171), none, (.p (.bin 0 .neq (.t 169) (.t 170)))⟩, ⟨(some 172), none, (.p (.mov (.t 171)))⟩, ⟨(some 173), (some (172, false)), (.p (.load true 2 (.t 26)))⟩, ⟨(some 174), (some (172, false)), (.p (.load true 2 (.t 28)))⟩, ⟨(some 175), (some (172, false)), (.call 15 [(.t 173), (.t 174)])⟩, ⟨(some 176), (some (172, false)), (.p (.un .not (.t 175)))⟩, ⟨(some 177), none, (.p (.pick (.t 172) (.c (.bool true)) (.t 176)))⟩])
 (.cond (.t 177) (.seq (.reg [⟨(some 16), none, (.p (.mov (.c (.bool false))))⟩])
 (.ret)) (.skip)))
 (.seq (.seq (.reg [⟨(some 178), none, (.p (.mov (.t 4)))⟩, ⟨(some 179), none, (.p (.mov (.t 5)))⟩, ⟨(some 180), none, (.m (.buildS 3 1 (.int .i64 0) 2 [(0, (.t 178)), (1, (.t 179))]))⟩, ⟨(some 181), none, (.p (.mov (.t 19)))⟩, ⟨(some 182), none, (.call 27 [(.t 181), (.c (.int .i64 5))])⟩, ⟨(some 183), none, (.p (.mov (.t 19)))⟩, ⟨(some 184), none, (.call 27 [(.t 183), (.c (.int .i64 9))])⟩, ⟨(some 185), none, (.p (.bin 0 .sub (.t 184) (.c (.int .i64 1))))⟩, ⟨(some 186), none, (.m (.buildS 3 1 (.int .i64 0) 2 [(0, (.t 182)), (1, (.t 185))]))⟩, ⟨(some 187), none, (.p (.mov (.t 19)))⟩, ⟨(some 188), none, (.call 27 [(.t 187), (.c (.int .i64 3))])⟩, ⟨(some 189), none, (.p (.mov (.t 19)))⟩, ⟨(some 190), none, (.call 27 [(.t 189), (.c (.int .i64 5))])⟩, ⟨(some 191), none, (.m (.buildS 3 1 (.int .i64 0) 2 [(0, (.t 188)), (1, (.t 190))]))⟩, ⟨(some 192), none, (.p (.mov (.t 4)))⟩, ⟨(some 193), none, (.call 10 [(.t 192), (.c (.int .i64 11))])⟩, ⟨(some 194), none, (.p (.bin 0 .sub (.t 193) (.c (.int .i64 1))))⟩, ⟨(some 195), none, (.p (.mov (.t 5)))⟩, ⟨(some 196), none, (.call 10 [(.t 195), (.c (.int .i64 70))])⟩, ⟨(some 197), none, (.p (.bin 0 .sub (.t 196) (.c (.int .i64 2))))⟩, ⟨(some 198), none, (.m (.buildS 3 1 (.int .i64 0) 2 [(0, (.t 194)), (1, (.t 197))]))⟩, ⟨(some 199), none, (.m (.buildS 22 1 (.nilS) 4 [(0, (.t 180)), (1, (.t 186)), (2, (.t 191)), (3, (.t 198))]))⟩, ⟨(some 200), none, (.p (.len (.t 199)))⟩, ⟨(some 201), none, (.p (.mov (.c (.int .i64 0))))⟩])
 (.block 5 (.loop (.seq (.reg [⟨(some 202), none, (.p (.bin 0 .lss (.t 201) (.t 200)))⟩])
 (.seq (.cond (.t 202) (.skip) (.exit 5))
 (.seq (.block 6 (.seq (.reg [⟨(some 203), none, (.p (.idxA 1 (.t 199) (.t 201)))⟩, ⟨(some 204), none, (.p (.load false 1 (.t 203)))⟩, ⟨(some 31), none, (.p (.mov (.t 204)))⟩])
 (.seq (.dreg [⟨(some 206), none, (.p (.load true 2 (.t 20)))⟩, ⟨(some 207), none, (.p (.mov (.t 31)))⟩, ⟨(some 208), none, (.p (.idxA 1 (.t 207) (.c (.int .i64 0))))⟩, ⟨(some 209), none, (.p (.load false 1 (.t 208)))⟩, ⟨(some 210), none, (.p (.mov (.t 31)))⟩, ⟨(some 211), none, (.p (.idxA 1 (.t 210) (.c (.int .i64 1))))⟩, ⟨(some 212), none, (.p (.load false 1 (.t 211)))⟩, ⟨(some 213), none, (.call 11 [(.t 206), (.t 209), (.t 212)])⟩, ⟨(some 205), none, (.p (.mov (.t 213)))⟩, ⟨(some 214), none, (.p (.ext (.t 205) 0))⟩, ⟨(some 215), none, (.p (.ext (.t 205) 1))⟩, ⟨(some 32), none, (.m (.alloc 26 (.agg [.nilS, .nilS])))⟩, ⟨none, none, (.m (.store 2 (.t 32) (.t 214)))⟩, ⟨(some 33), none, (.p (.mov (.t 215)))⟩] [[], [], [1], [1, 2], [], [4], [4, 5], [0, 1, 2, 3, 4, 5, 6], [0, 1, 2, 3, 4, 5, 6, 7], [0, 1, 2, 3, 4, 5, 6, 7, 8], [0, 1, 2, 3, 4, 5, 6, 7, 8], [], [0, 1, 2, 3, 4, 5, 6, 7, 8, 9, 11], [0, 1, 2, 3, 4, 5, 6, 7, 8, 9, 10, 11, 12]])
 (.seq (.dreg [⟨(some 217), none, (.p (.load true 2 (.t 20)))⟩, ⟨(some 218), none, (.p (.mov (.t 31)))⟩, ⟨(some 219), none, (.p (.idxA 1 (.t 218) (.c (.int .i64 0))))⟩, ⟨(some 220), none, (.p (.load false 1 (.t 219)))⟩, ⟨(some 221), none, (.p (.mov (.t 31)))⟩, ⟨(some 222), none, (.p (.idxA 1 (.t 221) (.c (.int .i64 1))))⟩, ⟨(some 223), none, (.p (.load false 1 (.t 222)))⟩, ⟨(some 224), none, (.call 28 [(.t 217), (.t 220), (.t 223)])⟩, ⟨(some 216), none, (.p (.mov (.t 224)))⟩, ⟨(some 225), none, (.p (.ext (.t 216) 0))⟩, ⟨(some 226), none, (.p (.ext (.t 216) 1))⟩, ⟨(some 34), none, (.m (.alloc 26 (.agg [.nilS, .nilS])))⟩, ⟨none, none, (.m (.store 2 (.t 34) (.t 225)))⟩, ⟨(some 35), none, (.p (.mov (.t 226)))⟩] [[], [], [1], [1, 2], [], [4], [4, 5], [0, 1, 2, 3, 4, 5, 6], [0, 1, 2, 3, 4, 5, 6, 7], [0, 1, 2, 3, 4, 5, 6, 7, 8], [0, 1, 2, 3, 4, 5, 6, 7, 8], [], [0, 1, 2, 3, 4, 5, 6, 7, 8, 9, 11], [0, 1, 2, 3, 4, 5, 6, 7, 8, 9, 10, 11, 12]])
 (.seq (.seq (.reg [⟨(some 227), none, (.p (.mov (.t 33)))⟩, ⟨(some 228), none, (.p (.mov (.t 35)))⟩, ⟨(some 229), none, (.p (.bin 0 .neq (.t 227) (.t 228)))⟩, ⟨(some 230), none, (.p (.mov (.t 229)))⟩, ⟨(some 231), (some (230, false)), (.p (.load true 2 (.t 32)))⟩, ⟨(some 232), (some (230, false)), (.p (.load true 2 (.t 34)))⟩, ⟨(some 233), (some (230, false)), (.call 15 [(.t 231), (.t 232)])⟩, ⟨(some 234), (some (230, false)), (.p (.un .not (.t 233)))⟩, ⟨(some 235), none, (.p (.pick (.t 230) (.c (.bool true)) (.t 234)))⟩])
 (.cond (.t 235) (.seq (.reg [⟨(some 16), none, (.p (.mov (.c (.bool false))))⟩])
 (.ret)) (.skip)))
 (.seq (.dreg [⟨(some 237), none, (.p (.load true 2 (.t 20)))⟩, ⟨(some 238), none, (.p (.mov (.t 31)))⟩, ⟨(some 239), none, (.p (.idxA 1 (.t 238) (.c (.int .i64 0))))⟩, ⟨(some 240), none, (.p (.load false 1 (.t 239)))⟩, ⟨(some 241), none, (.call 17 [(.t 237), (.t 240)])⟩, ⟨(some 236), none, (.p (.mov (.t 241)))⟩, ⟨(some 242), none, (.p (.ext (.t 236) 0))⟩, ⟨(some 243), none, (.p (.ext (.t 236) 1))⟩, ⟨none, none, (.m (.store 2 (.t 32) (.t 242)))⟩, ⟨(some 36), none, (.p (.mov (.t 243)))⟩] [[], [], [1], [1, 2], [0, 1, 2, 3], [0, 1, 2, 3, 4], [0, 1, 2, 3, 4, 5], [0, 1, 2, 3, 4, 5], [0, 1, 2, 3, 4, 5, 6], [0, 1, 2, 3, 4, 5, 6, 7, 8]])
 (.seq (.dreg [⟨(some 245), none, (.p (.load true 2 (.t 20)))⟩, ⟨(some 246), none, (.p (.mov (.t 31)))⟩, ⟨(some 247), none, (.p (.idxA 1 (.t 246) (.c (.int .i64 0))))⟩, ⟨(some 248), none, (.p (.load false 1 (.t 247)))⟩, ⟨(some 249), none, (.call 29 [(.t 245), (.t 248)])⟩, ⟨(some 244), none, (.p (.mov (.t 249)))⟩, ⟨(some 250), none, (.p (.ext (.t 244) 0))⟩, ⟨(some 251), none, (.p (.ext (.t 244) 1))⟩, ⟨none, none, (.m (.store 2 (.t 34) (.t 250)))⟩, ⟨(some 37), none, (.p (.mov (.t 251)))⟩] [[], [], [1], [1, 2], [0, 1, 2, 3], [0, 1, 2, 3, 4], [0, 1, 2, 3, 4, 5], [0, 1, 2, 3, 4, 5], [0, 1, 2, 3, 4, 5, 6], [0, 1, 2, 3, 4, 5, 6, 7, 8]])
 (.seq (.seq (.reg [⟨(some 252), none, (.p (.mov (.t 36)))⟩, ⟨(some 253), none, (.p (.mov (.t 37)))⟩, ⟨(some 254), none, (.p (.bin 1 .neq (.t 252) (.t 253)))⟩, ⟨(some 255), none, (.p (.mov (.t 254)))⟩, ⟨(some 256), (some (255, false)), (.p (.load true 2 (.t 32)))⟩, ⟨(some 257), (some (255, false)), (.p (.load true 2 (.t 34)))⟩, ⟨(some 258), (some (255, false)), (.call 15 [(.t 256), (.t 257)])⟩, ⟨(some 259), (some (255, false)), (.p (.un .not (.t 258)))⟩, ⟨(some 260), none, (.p (.pick (.t 255) (.c (.bool true)) (.t 259)))⟩])
 (.cond (.t 260) (.seq (.reg [⟨(some 16), none, (.p (.mov (.c (.bool false))))⟩])
 (.ret)) (.skip)))
 (.seq (.dreg [⟨(some 262), none, (.p (.load true 2 (.t 20)))⟩, ⟨(some 263), none, (.p (.mov (.t 31)))⟩, ⟨(some 264), none, (.p (.idxA 1 (.t 263) (.c (.int .i64 0))))⟩, ⟨(some 265), none, (.p (.load false 1 (.t 264)))⟩, ⟨(some 266), none, (.p (.mov (.t 31)))⟩, ⟨(some 267), none, (.p (.idxA 1 (.t 266) (.c (.int .i64 1))))⟩, ⟨(some 268), none, (.p (.load false 1 (.t 267)))⟩, ⟨(some 269), none, (.call 19 [(.t 262), (.t 265), (.t 268)])⟩, ⟨(some 261), none, (.p (.mov (.t 269)))⟩, ⟨(some 270), none, (.p (.ext (.t 261) 0))⟩, ⟨(some 271), none, (.p (.ext (.t 261) 1))⟩, ⟨none, none, (.m (.store 2 (.t 32) (.t 270)))⟩, ⟨(some 36), none, (.p (.mov (.t 271)))⟩] [[], [], [1], [1, 2], [], [4], [4, 5], [0, 1, 2, 3, 4, 5, 6], [0, 1, 2, 3, 4, 5, 6, 7], [0, 1, 2, 3, 4, 5, 6, 7, 8], [0, 1, 2, 3, 4, 5, 6, 7, 8], [0, 1, 2, 3, 4, 5, 6, 7, 8, 9], [0, 1, 2, 3, 4, 5, 6, 7, 8, 9, 10, 11]])
 (.seq (.dreg [⟨(some 273), none, (.p (.load true 2 (.t 20)))⟩, ⟨(some 274), none, (.p (.mov (.t 31)))⟩, ⟨(some 275), none, (.p (.idxA 1 (.t 274) (.c (.int .i64 0))))⟩, ⟨(some 276), none, (.p (.load false 1 (.t 275)))⟩, ⟨(some 277), none, (.p (.mov (.t 31)))⟩, ⟨(some 278), none, (.p (.idxA 1 (.t 277) (.c (.int .i64 1))))⟩, ⟨(some 279), none, (.p (.load false 1 (.t 278)))⟩, ⟨(some 280), none, (.call 30 [(.t 273), (.t 276), (.t 279)])⟩, ⟨(some 272), none, (.p (.mov (.t 280)))⟩, ⟨(some 281), none, (.p (.ext (.t 272) 0))⟩, ⟨(some 282), none, (.p (.ext (.t 272) 1))⟩, ⟨none, none, (.m (.store 2 (.t 34) (.t 281)))⟩, ⟨(some 37), none, (.p (.mov (.t 282)))⟩] [[], [], [1], [1, 2], [], [4], [4, 5], [0, 1, 2, 3, 4, 5, 6], [0, 1, 2, 3, 4, 5, 6, 7], [0, 1, 2, 3, 4, 5, 6, 7, 8], [0, 1, 2, 3, 4, 5, 6, 7, 8], [0, 1, 2, 3, 4, 5, 6, 7, 8, 9], [0, 1, 2, 3, 4, 5, 6, 7, 8, 9, 10, 11]])
 (.seq (.seq (.reg [⟨(some 283), none, (.p (.mov (.t 36)))⟩, ⟨(some 284), none, (.p (.mov (.t 37)))⟩, ⟨(some 285), none, (.p (.bin 1 .neq (.t 283) (.t 284)))⟩, ⟨(some 286), none, (.p (.mov (.t 285)))⟩, ⟨(some 287), (some (286, false)), (.p (.load true 2 (.t 32)))⟩, ⟨(some 288), (some (286, false)), (.p (.load true 2 (.t 34)))⟩, ⟨(some 289), (some (286, false)), (.call 15 [(.t 287), (.t 288)])⟩, ⟨(some 290), (some (286, false)), (.p (.un .not (.t 289)))⟩, ⟨(some 291), none, (.p (.pick (.t 286) (.c (.bool true)) (.t 290)))⟩])
 (.cond (.t 291) (.seq (.reg [⟨(some 16), none, (.p (.mov (.c (.bool false))))⟩])
 (.ret)) (.skip)))
 (.seq (.dreg [⟨(some 293), none, (.p (.load true 2 (.t 20)))⟩, ⟨(some 294), none, (.p (.mov (.t 31)))⟩, ⟨(some 295), none, (.p (.idxA 1 (.t 294) (.c (.int .i64 0))))⟩, ⟨(some 296), none, (.p (.load false 1 (.t 295)))⟩, ⟨(some 297), none, (.p (.mov (.t 31)))⟩, ⟨(some 298), none, (.p (.idxA 1 (.t 297) (.c (.int .i64 1))))⟩, ⟨(some 299), none, (.p (.load false 1 (.t 298)))⟩, ⟨(some 300), none, (.call 14 [(.t 293), (.t 296), (.t 299)])⟩, ⟨(some 292), none, (.p (.mov (.t 300)))⟩, ⟨(some 301), none, (.p (.ext (.t 292) 0))⟩, ⟨(some 302), none, (.p (.ext (.t 292) 1))⟩, ⟨(some 303), none, (.p (.ext (.t 292) 2))⟩, ⟨none, none, (.m (.store 2 (.t 32) (.t 301)))⟩, ⟨(some 38), none, (.p (.mov (.t 302)))⟩, ⟨(some 36), none, (.p (.mov (.t 303)))⟩] [[], [], [1], [1, 2], [], [4], [4, 5], [0, 1, 2, 3, 4, 5, 6], [0, 1, 2, 3, 4, 5, 6, 7], [0, 1, 2, 3, 4, 5, 6, 7, 8], [0, 1, 2, 3, 4, 5, 6, 7, 8], [0, 1, 2, 3, 4, 5, 6, 7, 8], [0, 1, 2, 3, 4, 5, 6, 7, 8, 9], [0, 1, 2, 3, 4, 5, 6, 7, 8, 9, 10, 12], [0, 1, 2, 3, 4, 5, 6, 7, 8, 9, 10, 11, 12, 13]])
 (.seq (.dreg [⟨(some 305), none, (.p (.load true 2 (.t 20)))⟩, ⟨(some 306), none, (.p (.mov (.t 31)))⟩, ⟨(some 307), none, (.p (.idxA 1 (.t 306) (.c (.int .i64 0))))⟩, ⟨(some 308), none, (.p (.load false 1 (.t 307)))⟩, ⟨(some 309), none, (.p (.mov (.t 31)))⟩, ⟨(some 310), none, (.p (.idxA 1 (.t 309) (.c (.int .i64 1))))⟩, ⟨(some 311), none, (.p (.load false 1 (.t 310)))⟩, ⟨(some 312), none, (.call 31 [(.t 305), (.t 308), (.t 311)])⟩, ⟨(some 304), none, (.p (.mov (.t 312)))⟩, ⟨(some 313), none, (.p (.ext (.t 304) 0))⟩, ⟨(some 314), none, (.p (.ext (.t 304) 1))⟩, ⟨(some 315), none, (.p (.ext (.t 304) 2))⟩, ⟨none, none, (.m (.store 2 (.t 34) (.t 313)))⟩, ⟨(some 39), none, (.p (.mov (.t 314)))⟩, ⟨(some 37), none, (.p (.mov (.t 315)))⟩] [[], [], [1], [1, 2], [], [4], [4, 5], [0, 1, 2, 3, 4, 5, 6], [0, 1, 2, 3, 4, 5, 6, 7], [0, 1, 2, 3, 4, 5, 6, 7, 8], [0, 1, 2, 3, 4, 5, 6, 7, 8], [0, 1, 2, 3, 4, 5, 6, 7, 8], [0, 1, 2, 3, 4, 5, 6, 7, 8, 9], [0, 1, 2, 3, 4, 5, 6, 7, 8, 9, 10, 12], [0, 1, 2, 3, 4, 5, 6, 7, 8, 9, 10, 11, 12, 13]])
 (.seq (.seq (.reg [⟨(some 316), none, (.p (.mov (.t 36)))⟩, ⟨(some 317), none, (.p (.mov (.t 37)))⟩, ⟨(some 318), none, (.p (.bin 1 .neq (.t 316) (.t 317)))⟩, ⟨(some 319), none, (.p (.mov (.t 318)))⟩, ⟨(some 320), (some (319, false)), (.p (.load true 2 (.t 32)))⟩, ⟨(some 321), (some (319, false)), (.p (.load true 2 (.t 34)))⟩, ⟨(some 322), (some (319, false)), (.call 15 [(.t 320), (.t 321)])⟩, ⟨(some 323), (some (319, false)), (.p (.un .not (.t 322)))⟩, ⟨(some 324), none, (.p (.pick (.t 319) (.c (.bool true)) (.t 323)))⟩, ⟨(some 325), none, (.p (.mov (.t 324)))⟩, ⟨(some 326), (some (325, false)), (.p (.mov (.t 38)))⟩, ⟨(some 327), (some (325, false)), (.p (.mov (.t 39)))⟩, ⟨(some 328), (some (325, false)), (.call 12 [(.t 326), (.t 327)])⟩, ⟨(some 329), (some (325, false)), (.p (.un .not (.t 328)))⟩, ⟨(some 330), none, (.p (.pick (.t 325) (.c (.bool true)) (.t 329)))⟩])
 (.cond (.t 330) (.seq (.reg [⟨(some 16), none, (.p (.mov (.c (.bool false))))⟩])
 (.ret)) (.skip)))
 (.seq (.reg [⟨(some 331), none, (.p (.mov (.t 2)))⟩, ⟨(some 332), none, (.p (.mov (.t 19)))⟩, ⟨(some 333), none, (.call 18 [(.t 332), (.c (.int .i64 6))])⟩, ⟨(some 334), none, (.m (.buildS 33 1 (.nilS) 2 [(0, (.t 331)), (1, (.t 333))]))⟩, ⟨(some 335), none, (.p (.len (.t 334)))⟩, ⟨(some 336), none, (.p (.mov (.c (.int .i64 0))))⟩])
 (.block 7 (.loop (.seq (.reg [⟨(some 337), none, (.p (.bin 0 .lss (.t 336) (.t 335)))⟩])
 (.seq (.cond (.t 337) (.skip) (.exit 7))
 (.seq (.block 8 (.seq (.reg [⟨(some 338), none, (.p (.idxA 1 (.t 334) (.t 336)))⟩, ⟨(some 339), none, (.p (.load false 1 (.t 338)))⟩, ⟨(some 41), none, (.p (.mov (.t 339)))⟩])
 (.seq (.dreg [⟨(some 341), none, (.p (.load true 2 (.t 20)))⟩, ⟨(some 342), none, (.p (.mov (.t 31)))⟩, ⟨(some 343), none, (.p (.idxA 1 (.t 342) (.c (.int .i64 0))))⟩, ⟨(some 344), none, (.p (.load false 1 (.t 343)))⟩, ⟨(some 345), none, (.p (.mov (.t 41)))⟩, ⟨(some 346), none, (.call 20 [(.t 341), (.t 344), (.t 345)])⟩, ⟨(some 340), none, (.p (.mov (.t 346)))⟩, ⟨(some 347), none, (.p (.ext (.t 340) 0))⟩, ⟨(some 348), none, (.p (.ext (.t 340) 1))⟩, ⟨(some 349), none, (.p (.ext (.t 340) 2))⟩, ⟨(some 42), none, (.m (.alloc 26 (.agg [.nilS, .nilS])))⟩, ⟨none, none, (.m (.store 2 (.t 42) (.t 347)))⟩, ⟨(some 43), none, (.p (.mov (.t 348)))⟩, ⟨(some 44), none, (.p (.mov (.t 349)))⟩] [[], [], [1], [1, 2], [], [0, 1, 2, 3, 4], [0, 1, 2, 3, 4, 5], [0, 1, 2, 3, 4, 5, 6], [0, 1, 2, 3, 4, 5, 6], [0, 1, 2, 3, 4, 5, 6], [], [0, 1, 2, 3, 4, 5, 6, 7, 10], [0, 1, 2, 3, 4, 5, 6, 7, 8, 10, 11], [0, 1, 2, 3, 4, 5, 6, 7, 8, 9, 10, 11, 12]])
 (.seq (.dreg [⟨(some 351), none, (.p (.load true 2 (.t 20)))⟩, ⟨(some 352), none, (.p (.mov (.t 31)))⟩, ⟨(some 353), none, (.p (.idxA 1 (.t 352) (.c (.int .i64 0))))⟩, ⟨(some 354), none, (.p (.load false 1 (.t 353)))⟩, ⟨(some 355), none, (.p (.mov (.t 41)))⟩, ⟨(some 356), none, (.call 32 [(.t 351), (.t 354), (.t 355)])⟩, ⟨(some 350), none, (.p (.mov (.t 356)))⟩, ⟨(some 357), none, (.p (.ext (.t 350) 0))⟩, ⟨(some 358), none, (.p (.ext (.t 350) 1))⟩, ⟨(some 359), none, (.p (.ext (.t 350) 2))⟩, ⟨(some 45), none, (.m (.alloc 26 (.agg [.nilS, .nilS])))⟩, ⟨none, none, (.m (.store 2 (.t 45) (.t 357)))⟩, ⟨(some 46), none, (.p (.mov (.t 358)))⟩, ⟨(some 47), none, (.p (.mov (.t 359)))⟩] [[], [], [1], [1, 2], [], [0, 1, 2, 3, 4], [0, 1, 2, 3, 4, 5], [0, 1, 2, 3, 4, 5, 6], [0, 1, 2, 3, 4, 5, 6], [0, 1, 2, 3, 4, 5, 6], [], [0, 1, 2, 3, 4, 5, 6, 7, 10], [0, 1, 2, 3, 4, 5, 6, 7, 8, 10, 11], [0, 1, 2, 3, 4, 5, 6, 7, 8, 9, 10, 11, 12]])
 (.seq (.reg [⟨(some 360), none, (.p (.mov (.t 44)))⟩, ⟨(some 361), none, (.p (.mov (.t 47)))⟩, ⟨(some 362), none, (.p (.bin 1 .neq (.t 360) (.t 361)))⟩, ⟨(some 363), none, (.p (.mov (.t 362)))⟩, ⟨(some 364), (some (363, false)), (.p (.mov (.t 43)))⟩, ⟨(some 365), (some (363, false)), (.p (.mov (.t 46)))⟩, ⟨(some 366), (some (363, false)), (.p (.bin 0 .neq (.t 364) (.t 365)))⟩, ⟨(some 367), none, (.p (.pick (.t 363) (.c (.bool true)) (.t 366)))⟩, ⟨(some 368), none, (.p (.mov (.t 367)))⟩, ⟨(some 369), (some (368, false)), (.p (.load true 2 (.t 42)))⟩, ⟨(some 370), (some (368, false)), (.p (.load true 2 (.t 45)))⟩, ⟨(some 371), (some (368, false)), (.call 15 [(.t 369), (.t 370)])⟩, ⟨(some 372), (some (368, false)), (.p (.un .not (.t 371)))⟩, ⟨(some 373), none, (.p (.pick (.t 368) (.c (.bool true)) (.t 372)))⟩])
 (.cond (.t 373) (.seq (.reg [⟨(some 16), none, (.p (.mov (.c (.bool false))))⟩])
 (.ret)) (.skip)))))))
 (.reg [⟨(some 374), none, (.p (.bin 0 .add (.t 336) (.c (.int .i64 1))))⟩, ⟨(some 336), none, (.p (.mov (.t 374)))⟩])))))))))))))))))))))
 (.reg [⟨(some 375), none, (.p (.bin 0 .add (.t 201) (.c (.int .i64 1))))⟩, ⟨(some 201), none, (.p (.mov (.t 375)))⟩])))))))
 (.seq (.reg [⟨(some 376), none, (.call 13 [])⟩, ⟨(some 16), none, (.p (.mov (.t 376)))⟩])
 (.ret))))))))))))))
theorem m_fst_ok : compF Try.prog 7 = some (377, m_fst, [.mov (.t 16)]) := by kernel_rfl
set_option maxRecDepth 4000
attribute [local irreducible] fls sOpen sClose sSeek sRead sWrite hdl dcs slightB
set_option maxHeartbeats 32000000 in
theorem fst_fn (raw : Files) (rd : List (List Int)) (rc : List Canon) (l : List Int) (h0 n0 w0 b0 : Int) : Fnc Try.prog 7 [filV raw, .sl false 1 (rd.map (slV' false 1 (V.int .u16))), .sl false 4 (rc.map canonV), .sl false 1 (i64s l), .int .i64 h0, .int .i64 n0, .int .i64 w0, .int .i64 b0] (fun x obs => x = .bool true) := by
  refine Fnc.wf fun hw => ?_
  simp only [V.wfs, V.wf, wfs_map, List.length_map, slV'] at hw
  have m1 := hw.2.1.2
  have m2 := hw.2.2.1.2
  have m3 : ∀ k, k < rd.length → rd[k]!.length ≤ 140737488355328 := fun k hk => (hw.2.1.1 _ (mem_at hk)).2
  clear hw
  have fs := slight_fn raw
  by_cases c1 : slightB raw = true
  rotate_left
  · rw [Bool.not_eq_true] at c1
    rw [c1] at fs
    refine Fnc.intro m_fst_ok (by simp) fun W S => ?_
    unfold m_fst
    simp only [ents, Nat.zero_add, Nat.reduceAdd]
    refine zst ?_
    (first | refine callD (fs) ?_ | refine callDw (fs) ?_); simp only [go_sem]
    refine zst ?_
    (first | refine callD (awake17_fn) ?_ | refine callDw (awake17_fn) ?_); simp only [go_sem]
    refine zst ?_
    refine ret m_fst_ok [] ?_; (first | (simp only [go_sem]; done) | (simp only [go_sem]; ((try dsimp only); (repeat' (refine And.intro ?_ ?_)) <;> first | with_reducible rfl | (simp only [go_sem]; done) | (simp only [go_sem]; rfl) | (simp only []; (try simp only [go_sem]); first | done | rfl) | (simp only [go_sem]; simp []; done) | (simp []; done) | rfl)))
  rw [c1] at fs
  by_cases c2 : rd.length ≤ 20
  rotate_left
  · skip
    refine Fnc.intro m_fst_ok (by simp) fun W S => ?_
    unfold m_fst
    simp only [ents, Nat.zero_add, Nat.reduceAdd]
    refine zst ?_
    (first | refine callD (fs) ?_ | refine callDw (fs) ?_); simp only [go_sem]
    refine zst ?_
    (first | refine callD (awake17_fn) ?_ | refine callDw (awake17_fn) ?_); simp only [go_sem]
    refine zst ?_
    refine ret m_fst_ok [] ?_; (first | (simp only [go_sem]; done) | (simp only [go_sem]; ((try dsimp only); (repeat' (refine And.intro ?_ ?_)) <;> first | with_reducible rfl | (simp only [go_sem]; done) | (simp only [go_sem]; rfl) | (simp only []; (try simp only [go_sem]); first | done | rfl) | (simp only [go_sem]; simp []; done) | (simp []; done) | rfl)))
  by_cases c3 : rc.length ≤ 100
  rotate_left
  · skip
    refine Fnc.intro m_fst_ok (by simp) fun W S => ?_
    unfold m_fst
    simp only [ents, Nat.zero_add, Nat.reduceAdd]
    refine zst ?_
    (first | refine callD (fs) ?_ | refine callDw (fs) ?_); simp only [go_sem]
    refine zst ?_
    (first | refine callD (awake17_fn) ?_ | refine callDw (awake17_fn) ?_); simp only [go_sem]
    refine zst ?_
    refine ret m_fst_ok [] ?_; (first | (simp only [go_sem]; done) | (simp only [go_sem]; ((try dsimp only); (repeat' (refine And.intro ?_ ?_)) <;> first | with_reducible rfl | (simp only [go_sem]; done) | (simp only [go_sem]; rfl) | (simp only []; (try simp only [go_sem]); first | done | rfl) | (simp only [go_sem]; simp []; done) | (simp []; done) | rfl)))
  have fo := files_fn l 0 (by omega)
  obtain ⟨F, hk⟩ := fls_fit (l := l) (k := 0) (by omega)
  have hd := fls_dlen l 0
  generalize fls l 0 = q at fo F hk hd
  obtain ⟨f, kk⟩ := q
  dsimp only at fo F hk hd
  have fc := rcopy_fn f F.low
  have g1 := mmod_fn b0 7 (by omega)
  have g2 := mmod_fn b0 8 (by omega)
  have g3 := mmod_fn w0 5 (by omega)
  refine Fnc.intro m_fst_ok (by simp) fun W S => ?_
  unfold m_fst
  simp only [ents, Nat.zero_add, Nat.reduceAdd]
  refine zst ?_
  (first | refine callD (fs) ?_ | refine callDw (fs) ?_); simp only [go_sem]
  refine zst ?_
  refine ev_loopK [1, 2, 3, 4, 5, 6, 7, 8, 62, 63] (fun p : {p : Nat // p ≤ rd.length ∧ ∀ j, j < p → rd[j]!.length ≤ 100} => [(64, .int .i64 p.1)]) (fun _ => [⟨.box false 26, true, 0, filV raw⟩]) (fun p => rd.length - p.1) (⟨0, by simp⟩) 1 (by simp only [go_sem]; rfl) ?_ (by first | rfl | (simp only [go_sem]; done)) (by simp) (by first | rfl | (simp only [go_sem]; done)) (by first | rfl | (simp only [go_sem]; done)) (by first | rfl | (simp only [go_sem]; done)) ?_
  · (simp only [go_sem]; (try simp []); done)
  intro J hJ
  rintro ⟨k, hk0, hk1⟩
  by_cases hlt : k < rd.length
  · have h3 := m3 k hlt
    by_cases c : rd[k]!.length ≤ 100
    · have hS : ∀ j, j < k + 1 → rd[j]!.length ≤ 100 := fun j hj => by
        by_cases e : j = k
        · subst e; exact c
        · exact hk1 j (by omega)
      refine zst ?_
      refine ev_next 1 (hJ _ (⟨k + 1, hlt, hS⟩) (by first | omega | (dsimp only; omega) | (simp; omega))) rfl (by simp) ?_ (by first | rfl | (simp only [go_sem]; done)) (by first | rfl | (simp only [go_sem]; done) | (simp only [hlt]; (try simp only [go_sem]); first | done | rfl)) ?_
      · (first | rfl | (simp only [go_sem]; done) | (simp only [go_sem]; simp only [hlt]; done) | (simp only [hlt]; done) | (simp only [go_sem]; simp [hlt]; done) | (simp [hlt]; done))
      · (simp only [go_sem]; (repeat' (refine And.intro ?_ ?_)) <;> first | exact trivial | with_reducible rfl | (simp only [hlt]; done) | (simp only [hlt]; with_reducible rfl) | (simp [hlt]; done) | (simp [hlt]; omega) | (simp only [hlt]; rfl) | skip)
    · skip
      refine zst ?_
      (first | refine callD (awake17_fn) ?_ | refine callDw (awake17_fn) ?_); simp only [go_sem]
      refine zst ?_
      refine ret m_fst_ok [] ?_; (first | (simp only [go_sem]; done) | (simp only [go_sem]; ((try dsimp only); (repeat' (refine And.intro ?_ ?_)) <;> first | with_reducible rfl | (simp only [go_sem]; done) | (simp only [go_sem]; rfl) | (simp only []; (try simp only [go_sem]); first | done | rfl) | (simp only [go_sem]; simp []; done) | (simp []; done) | rfl)))
  obtain rfl : k = rd.length := by omega
  refine zst ?_
  (first | refine callX (new_fn l) ?_ | refine callXw (new_fn l) ?_); simp only [go_sem]
  refine zst ?_
  (first | apply st_callMD (fo) rfl | apply evw_callM (fo) rfl)
  · (simp only [go_sem]; rfl)
  · rfl
  · (first | rfl | (simp only [go_sem]; done))
  · (first | rfl | (simp only [go_sem]; done) | (simp only [go_sem]; rfl))
  · (first | rfl | (simp only [go_sem]; done))
  · (first | rfl | (simp only [go_sem]; done) | (simp only [go_sem]; rfl))
  · (first | rfl | simp [V.pureT, V.pure, V.pures, pures_lo, pures_sls])
  (first | refine ev_all (fu := [(), (), (), (), (), (), (), ()]) ?_ | refine evw_all (md := []) (fu := [(), (), (), (), (), (), (), ()]) ?_); refine zev ?_
  refine zst ?_
  (first | refine callX (fc) ?_ | refine callXw (fc) ?_); simp only [go_sem]
  refine zst ?_
  obtain ⟨v, hv⟩ : ∃ v, ([V.int IntKind.i64 (-2), V.int IntKind.i64 (-1), V.int IntKind.i64 0, V.int IntKind.i64 1, V.int IntKind.i64 3, V.int IntKind.i64 64, V.int IntKind.i64 65].getD (b0 % 7).toNat V.junk) = V.int IntKind.i64 v := by
    have h1 := Int.emod_nonneg b0 (b := 7) (by omega)
    have h2 := Int.emod_lt_of_pos b0 (b := 7) (by omega)
    have : (b0 % 7).toNat = 0 ∨ (b0 % 7).toNat = 1 ∨ (b0 % 7).toNat = 2 ∨ (b0 % 7).toNat = 3 ∨ (b0 % 7).toNat = 4 ∨ (b0 % 7).toNat = 5 ∨ (b0 % 7).toNat = 6 := by omega
    rcases this with h | h | h | h | h | h | h <;> rw [h] <;> exact ⟨_, rfl⟩
  (first | refine callD (g1) ?_ | refine callDw (g1) ?_); simp only [go_sem]
  refine zst ?_
  simp only [hv]
  refine zev ?_
  refine evr_nil ?_
  refine ev_seq ?_
  refine ev_cutK [1, 2, 4, 5, 8, 19, 20, 21] (fun _ : Files × Files × Nat => []) (fun p => [⟨.box false 26, true, 0, filV raw⟩, ⟨.box false 66, true, 0, deckV l kk⟩, ⟨.box false 26, true, 0, filV f⟩, ⟨.row 33, false, p.2.2, .arr 1 (p.2.1.data.map (slV' true 4 canonV))⟩, ⟨.row 36, false, 0, .arr 3 (p.2.1.opens.map opnV)⟩, ⟨.box false 26, true, 0, .agg [.sl true 1 (p.1.data.map (slV' true 4 canonV)), .sl true 3 (p.1.opens.map opnV)]⟩]) rfl ?_ ?_
  rotate_left
  intro J hJ
  have i0 := Int.emod_nonneg b0 (b := 8) (by omega)
  have i1 := Int.emod_lt_of_pos b0 (b := 8) (by omega)
  have w1 := Int.emod_nonneg w0 (b := 5) (by omega)
  have w2 := Int.emod_lt_of_pos w0 (b := 5) (by omega)
  have hfo := F.o
  generalize b0 % 8 = i at g2 i0 i1
  generalize w0 % 5 = W5 at g3 w1 w2
  have hW : W5 = 0 ∨ W5 = 1 ∨ W5 = 2 ∨ W5 = 3 ∨ W5 = 4 := by omega
  rcases hW with rfl | rfl | rfl | rfl | rfl
  · skip
    refine zst ?_
    (first | refine callD (g2) ?_ | refine callDw (g2) ?_); simp only [go_sem]
    refine zst ?_
    (first | refine callD (g3) ?_ | refine callDw (g3) ?_); simp only [go_sem]
    refine zst ?_
    refine zst ?_
    refine ev_frzBox 5 0 3 rfl rfl rfl ?_
    refine ev_frzBox 5 1 4 rfl rfl rfl ?_
    simp only [go_sem]
    refine ev_next 6 (hJ _ ((⟨f.data, f.opens.set i.toNat ⟨v, f.opens[i.toNat]!.offset, f.opens[i.toNat]!.write⟩⟩, ⟨f.data, f.opens.set i.toNat ⟨v, f.opens[i.toNat]!.offset, f.opens[i.toNat]!.write⟩⟩, 0)) (by omega)) rfl (by simp) ?_ (by first | rfl | (simp only [go_sem]; done)) (by first | rfl | (simp only [go_sem]; done)) ?_
    · (first | rfl | (simp only [go_sem]; done) | (simp []; done))
    · simp only [go_sem]
  · skip
    refine zst ?_
    (first | refine callD (g2) ?_ | refine callDw (g2) ?_); simp only [go_sem]
    refine zst ?_
    (first | refine callD (g3) ?_ | refine callDw (g3) ?_); simp only [go_sem]
    refine zst ?_
    refine zst ?_
    refine ev_frzBox 5 0 3 rfl rfl rfl ?_
    refine ev_frzBox 5 1 4 rfl rfl rfl ?_
    simp only [go_sem]
    refine ev_next 6 (hJ _ ((⟨f.data, f.opens.set i.toNat ⟨f.opens[i.toNat]!.file, v, f.opens[i.toNat]!.write⟩⟩, ⟨f.data, f.opens.set i.toNat ⟨f.opens[i.toNat]!.file, v, f.opens[i.toNat]!.write⟩⟩, 0)) (by omega)) rfl (by simp) ?_ (by first | rfl | (simp only [go_sem]; done)) (by first | rfl | (simp only [go_sem]; done)) ?_
    · (first | rfl | (simp only [go_sem]; done) | (simp []; done))
    · simp only [go_sem]
  · skip
    refine zst ?_
    (first | refine callD (g2) ?_ | refine callDw (g2) ?_); simp only [go_sem]
    refine zst ?_
    (first | refine callD (g3) ?_ | refine callDw (g3) ?_); simp only [go_sem]
    refine zst ?_
    refine zst ?_
    refine ev_frzBox 5 0 3 rfl rfl rfl ?_
    simp only [go_sem]
    have hT : (f.opens.map opnV).take f.opens.length = f.opens.map opnV := List.take_of_length_le (by simp)
    refine ev_next 6 (hJ _ ((⟨f.data, f.opens.drop 1⟩, f, 0)) (by omega)) rfl (by simp) ?_ (by first | rfl | (simp only [go_sem]; done)) (by first | rfl | (simp only [go_sem]; done)) ?_
    · (first | rfl | (simp only [go_sem]; done) | (simp [hT]; done))
    · simp only [go_sem]
  · skip
    refine zst ?_
    (first | refine callD (g2) ?_ | refine callDw (g2) ?_); simp only [go_sem]
    refine zst ?_
    (first | refine callD (g3) ?_ | refine callDw (g3) ?_); simp only [go_sem]
    refine zst ?_
    refine zst ?_
    refine ev_frzBox 5 0 3 rfl rfl rfl ?_
    refine ev_frzBox 5 1 4 rfl rfl rfl ?_
    simp only [go_sem]
    refine ev_next 6 (hJ _ ((⟨f.data, f.opens.set i.toNat ⟨f.opens[i.toNat]!.file, f.opens[i.toNat]!.offset, !f.opens[i.toNat]!.write⟩⟩, ⟨f.data, f.opens.set i.toNat ⟨f.opens[i.toNat]!.file, f.opens[i.toNat]!.offset, !f.opens[i.toNat]!.write⟩⟩, 0)) (by omega)) rfl (by simp) ?_ (by first | rfl | (simp only [go_sem]; done)) (by first | rfl | (simp only [go_sem]; done)) ?_
    · (first | rfl | (simp only [go_sem]; done) | (simp []; done))
    · simp only [go_sem]
  · skip
    refine zst ?_
    (first | refine callD (g2) ?_ | refine callDw (g2) ?_); simp only [go_sem]
    refine zst ?_
    (first | refine callD (g3) ?_ | refine callDw (g3) ?_); simp only [go_sem]
    refine zst ?_
    refine zst ?_
    (first | refine callD (g2) ?_ | refine callDw (g2) ?_); simp only [go_sem]
    refine zst ?_
    refine zst ?_
    refine ev_frzBox 5 0 3 rfl rfl rfl ?_
    refine ev_frzBox 5 1 4 rfl rfl rfl ?_
    simp only [go_sem]
    refine ev_next 6 (hJ _ ((⟨f.data ++ [List.replicate (60 + i).toNat ⟨0, 0, 0, 0⟩], f.opens⟩, ⟨f.data ++ [List.replicate (60 + i).toNat ⟨0, 0, 0, 0⟩], f.opens⟩, 1)) (by omega)) rfl (by simp) ?_ (by first | rfl | (simp only [go_sem]; done)) (by first | rfl | (simp only [go_sem]; done)) ?_
    · (first | rfl | (simp only [go_sem]; done) | (simp [slV', canonV]; done))
    · simp only [go_sem]
  rintro ⟨y, z, g⟩
  have v1 := wvalf_fn f
  have v2 := rvalf_fn f
  have v3 := wvalf_fn y
  have v4 := rvalf_fn y
  have v5 := wvalf_fn raw
  have v6 := rvalf_fn raw
  have s1 := wsamf_fn f f
  have s2 := rsamf_fn f f
  have s3 := wsamf_fn f y
  have s4 := rsamf_fn f y
  have s5 := wsamf_fn f raw
  have s6 := rsamf_fn f raw
  refine zst ?_
  refine ev_unroll 4 ?_
  refine zst ?_
  (first | refine callD (v1) ?_ | refine callDw (v1) ?_); simp only [go_sem]
  refine zst ?_
  (first | refine callD (v2) ?_ | refine callDw (v2) ?_); simp only [go_sem]
  refine zst ?_
  (first | refine callD (s1) ?_ | refine callDw (s1) ?_); simp only [go_sem]
  refine zst ?_
  (first | refine callD (s2) ?_ | refine callDw (s2) ?_); simp only [go_sem]
  refine zst ?_
  refine zst ?_
  (first | refine callD (v3) ?_ | refine callDw (v3) ?_); simp only [go_sem]
  refine zst ?_
  (first | refine callD (v4) ?_ | refine callDw (v4) ?_); simp only [go_sem]
  refine zst ?_
  (first | refine callD (s3) ?_ | refine callDw (s3) ?_); simp only [go_sem]
  refine zst ?_
  (first | refine callD (s4) ?_ | refine callDw (s4) ?_); simp only [go_sem]
  refine zst ?_
  (first | refine callD (v5) ?_ | refine callDw (v5) ?_); simp only [go_sem]
  refine zst ?_
  (first | refine callD (v6) ?_ | refine callDw (v6) ?_); simp only [go_sem]
  refine zst ?_
  (first | refine callD (s5) ?_ | refine callDw (s5) ?_); simp only [go_sem]
  refine zst ?_
  (first | refine callD (s6) ?_ | refine callDw (s6) ?_); simp only [go_sem]
  refine zst ?_
  have n1 := wnew_fn rd (by omega)
  have n2 := rnew_fn rd (by omega) (fun x hx => by obtain ⟨j, hj, rfl⟩ := at_mem hx; have := hk1 j hj; omega)
  have n3 := rsamf_fn (sNew rd).1 (sNew rd).1
  rw [decT rfl] at n3
  (first | refine callD (n1) ?_ | refine callDw (n1) ?_); simp only [go_sem]
  refine zst ?_
  (first | refine callD (n2) ?_ | refine callDw (n2) ?_); simp only [go_sem]
  refine zst ?_
  (first | refine callD (n3) ?_ | refine callDw (n3) ?_); simp only [go_sem]
  refine zst ?_
  have k1 := dkx_le hk
  have k2 := dkx_le k1
  have k3 := dkx_le k2
  have k4 := dkx_le k3
  have d1 := dnx_ge (l := l) (k := dkx l kk) (n := 9) (by omega)
  have d2 := dnx_lt (l := l) (k := dkx l kk) (n := 9) (by omega)
  have e1 := Int.emod_nonneg h0 (b := 11) (by omega)
  have e2 := Int.emod_lt_of_pos h0 (b := 11) (by omega)
  have e3 := Int.emod_nonneg n0 (b := 70) (by omega)
  have e4 := Int.emod_lt_of_pos n0 (b := 70) (by omega)
  (first | apply st_callMD (next_fn l kk 5 hk (by omega)) rfl | apply evw_callM (next_fn l kk 5 hk (by omega)) rfl)
  · (simp only [go_sem]; rfl)
  · rfl
  · (first | rfl | (simp only [go_sem]; done))
  · (first | rfl | (simp only [go_sem]; done) | (simp only [go_sem]; rfl))
  · (first | rfl | (simp only [go_sem]; done))
  · (first | rfl | (simp only [go_sem]; done) | (simp only [go_sem]; rfl))
  · (first | rfl | simp [V.pureT, V.pure, V.pures, pures_lo, pures_sls])
  (first | refine ev_all (fu := [(), (), (), (), (), (), (), ()]) ?_ | refine evw_all (md := []) (fu := [(), (), (), (), (), (), (), ()]) ?_); refine zev ?_
  refine zst ?_
  (first | apply st_callMD (next_fn l _ 9 k1 (by omega)) rfl | apply evw_callM (next_fn l _ 9 k1 (by omega)) rfl)
  · (simp only [go_sem]; rfl)
  · rfl
  · (first | rfl | (simp only [go_sem]; done))
  · (first | rfl | (simp only [go_sem]; done) | (simp only [go_sem]; rfl))
  · (first | rfl | (simp only [go_sem]; done))
  · (first | rfl | (simp only [go_sem]; done) | (simp only [go_sem]; rfl))
  · (first | rfl | simp [V.pureT, V.pure, V.pures, pures_lo, pures_sls])
  (first | refine ev_all (fu := [(), (), (), (), (), (), (), ()]) ?_ | refine evw_all (md := []) (fu := [(), (), (), (), (), (), (), ()]) ?_); refine zev ?_
  refine zst ?_
  (first | apply st_callMD (next_fn l _ 3 k2 (by omega)) rfl | apply evw_callM (next_fn l _ 3 k2 (by omega)) rfl)
  · (simp only [go_sem]; rfl)
  · rfl
  · (first | rfl | (simp only [go_sem]; done))
  · (first | rfl | (simp only [go_sem]; done) | (simp only [go_sem]; rfl))
  · (first | rfl | (simp only [go_sem]; done))
  · (first | rfl | (simp only [go_sem]; done) | (simp only [go_sem]; rfl))
  · (first | rfl | simp [V.pureT, V.pure, V.pures, pures_lo, pures_sls])
  (first | refine ev_all (fu := [(), (), (), (), (), (), (), ()]) ?_ | refine evw_all (md := []) (fu := [(), (), (), (), (), (), (), ()]) ?_); refine zev ?_
  refine zst ?_
  (first | apply st_callMD (next_fn l _ 5 k3 (by omega)) rfl | apply evw_callM (next_fn l _ 5 k3 (by omega)) rfl)
  · (simp only [go_sem]; rfl)
  · rfl
  · (first | rfl | (simp only [go_sem]; done))
  · (first | rfl | (simp only [go_sem]; done) | (simp only [go_sem]; rfl))
  · (first | rfl | (simp only [go_sem]; done))
  · (first | rfl | (simp only [go_sem]; done) | (simp only [go_sem]; rfl))
  · (first | rfl | simp [V.pureT, V.pure, V.pures, pures_lo, pures_sls])
  (first | refine ev_all (fu := [(), (), (), (), (), (), (), ()]) ?_ | refine evw_all (md := []) (fu := [(), (), (), (), (), (), (), ()]) ?_); refine zev ?_
  refine zst ?_
  (first | refine callD (mmod_fn h0 11 (by omega)) ?_ | refine callDw (mmod_fn h0 11 (by omega)) ?_); simp only [go_sem]
  refine zst ?_
  (first | refine callD (mmod_fn n0 70 (by omega)) ?_ | refine callDw (mmod_fn n0 70 (by omega)) ?_); simp only [go_sem]
  refine zst ?_
  refine ev_freeze 199 rfl rfl ?_
  have X1 : ∃ ks : List (List Int), ks = [[h0, n0], [dnx l kk 5, dnx l (dkx l kk) 9 - 1], [dnx l (dkx l (dkx l kk)) 3, dnx l (dkx l (dkx l (dkx l kk))) 5], [h0 % 11 - 1, n0 % 70 - 2]] := ⟨_, rfl⟩
  obtain ⟨ks, hks⟩ := X1
  refine ev_slotSub 199 (x := .sl true 1 [slV' true 1 (V.int .i64) [h0, n0], slV' true 1 (V.int .i64) [dnx l kk 5, dnx l (dkx l kk) 9 - 1], slV' true 1 (V.int .i64) [dnx l (dkx l (dkx l kk)) 3, dnx l (dkx l (dkx l (dkx l kk))) 5], slV' true 1 (V.int .i64) [h0 % 11 - 1, n0 % 70 - 2]]) (.sl true 1 (ks.map (slV' true 1 (V.int .i64)))) rfl (fun _ _ _ h => by rw [hks]; exact h) ?_
  have kl : ks.length = 4 := by rw [hks]; rfl
  have kx : ∀ x ∈ ks, x.length = 2 := by
    rw [hks]; intro x hx
    simp only [List.mem_cons, List.not_mem_nil, or_false] at hx
    rcases hx with rfl | rfl | rfl | rfl <;> rfl
  clear hks
  refine ev_loopK [2, 19, 20, 199, 200] (fun p : {p : Nat × Nat // p.1 ≤ 4 ∧ p.2 ≤ l.length} => [(201, .int .i64 p.1.1)]) (fun p => [⟨.box false 26, true, 0, filV raw⟩, ⟨.box false 66, true, 0, deckV l p.1.2⟩, ⟨.box false 26, true, 0, filV f⟩]) (fun p => 4 - p.1.1) (⟨(0, _), by simp, k4⟩) 3 (by simp only [go_sem]; rfl) ?_ (by first | rfl | (simp only [go_sem]; done)) (by simp) (by first | rfl | (simp only [go_sem]; done)) (by first | rfl | (simp only [go_sem]; done)) (by first | rfl | (simp only [go_sem]; done)) ?_
  · (simp only [go_sem]; (try simp []); done)
  intro J hJ
  rintro ⟨⟨p, i⟩, hp, hi⟩
  dsimp only at hp hi
  by_cases hlt : p < 4
  · have hx := kx _ (mem_at (l := ks) (k := p) (by omega))
    have hx0 : 0 < ks[p]!.length := by omega
    have hx1 : 1 < ks[p]!.length := by omega
    have fc := canons_sl l i 6 hi (by omega) (by omega)
    have lc := dcs_len (l := l) (k := i) (n := 6) (by omega)
    have hi' := dcs_le (l := l) (k := i) (n := 6) hi
    generalize dcs l i 6 = c at fc lc hi'
    have f1 := wopen_fn f F ks[p]![0]! ks[p]![1]!
    have f2 := rropen_fn f F ks[p]![0]! ks[p]![1]!
    have f3 := rsamf_fn (sOpen f ks[p]![0]! ks[p]![1]!).1 (sOpen f ks[p]![0]! ks[p]![1]!).1
    rw [decT rfl] at f3
    have f4 := wclose_fn f F ks[p]![0]!
    have f5 := rclose_fn f F ks[p]![0]!
    have f6 := rsamf_fn (sClose f ks[p]![0]!).1 (sClose f ks[p]![0]!).1
    rw [decT rfl] at f6
    have f7 := wseek_fn f F ks[p]![0]! ks[p]![1]!
    have f8 := rseek_fn f F ks[p]![0]! ks[p]![1]!
    have f9 := rsamf_fn (sSeek f ks[p]![0]! ks[p]![1]!).1 (sSeek f ks[p]![0]! ks[p]![1]!).1
    rw [decT rfl] at f9
    have fa := wread_fn f F ks[p]![0]! ks[p]![1]!
    have fb := rread_fn f F ks[p]![0]! ks[p]![1]!
    have fd := rsamf_fn (sRead f ks[p]![0]! ks[p]![1]!).1 (sRead f ks[p]![0]! ks[p]![1]!).1
    rw [decT rfl] at fd
    have fe := samec_fn (sRead f ks[p]![0]! ks[p]![1]!).2.1 (sRead f ks[p]![0]! ks[p]![1]!).2.1
    rw [decT rfl] at fe
    refine zst ?_
    (first | refine callD (f1) ?_ | refine callDw (f1) ?_); simp only [go_sem]
    refine zst ?_
    (first | refine callD (f2) ?_ | refine callDw (f2) ?_); simp only [go_sem]
    refine zst ?_
    (first | refine callD (f3) ?_ | refine callDw (f3) ?_); simp only [go_sem]
    refine zst ?_
    (first | refine callD (f4) ?_ | refine callDw (f4) ?_); simp only [go_sem]
    refine zst ?_
    (first | refine callD (f5) ?_ | refine callDw (f5) ?_); simp only [go_sem]
    refine zst ?_
    (first | refine callD (f6) ?_ | refine callDw (f6) ?_); simp only [go_sem]
    refine zst ?_
    (first | refine callD (f7) ?_ | refine callDw (f7) ?_); simp only [go_sem]
    refine zst ?_
    (first | refine callD (f8) ?_ | refine callDw (f8) ?_); simp only [go_sem]
    refine zst ?_
    (first | refine callD (f9) ?_ | refine callDw (f9) ?_); simp only [go_sem]
    refine zst ?_
    (first | refine callD (fa) ?_ | refine callDw (fa) ?_); simp only [go_sem]
    refine zst ?_
    (first | refine callD (fb) ?_ | refine callDw (fb) ?_); simp only [go_sem]
    refine zst ?_
    (first | refine callD (fd) ?_ | refine callDw (fd) ?_); simp only [go_sem]
    refine zst ?_
    (first | refine callD (fe) ?_ | refine callDw (fe) ?_); simp only [go_sem]
    refine zst ?_
    (first | apply st_callMD (fc) rfl | apply evw_callM (fc) rfl)
    · (simp only [go_sem]; rfl)
    · rfl
    · (first | rfl | (simp only [go_sem]; done))
    · (first | rfl | (simp only [go_sem]; done) | (simp only [go_sem]; rfl))
    · (first | rfl | (simp only [go_sem]; done))
    · (first | rfl | (simp only [go_sem]; done) | (simp only [go_sem]; rfl))
    · (first | rfl | simp [V.pureT, V.pure, V.pures, pures_lo, pures_sls])
    (first | refine ev_all (fu := [(), (), (), (), (), (), (), ()]) ?_ | refine evw_all (md := []) (fu := [(), (), (), (), (), (), (), ()]) ?_); refine zev ?_
    refine zst ?_
    have g1 := wwrite_fn f F ks[p]![0]! rc (by omega)
    have g2 := rwrite_fn f F ks[p]![0]! rc (by omega)
    have g3 := rsamf_fn (sWrite f ks[p]![0]! rc).1 (sWrite f ks[p]![0]! rc).1
    rw [decT rfl] at g3
    have g4 := wwrite_fn f F ks[p]![0]! c.1 (by omega)
    have g5 := rwrite_fn f F ks[p]![0]! c.1 (by omega)
    have g6 := rsamf_fn (sWrite f ks[p]![0]! c.1).1 (sWrite f ks[p]![0]! c.1).1
    rw [decT rfl] at g6
    refine ev_unroll 3 ?_
    refine zst ?_
    (first | refine callD (g1) ?_ | refine callDw (g1) ?_); simp only [go_sem]
    refine zst ?_
    (first | refine callD (g2) ?_ | refine callDw (g2) ?_); simp only [go_sem]
    refine zst ?_
    (first | refine callD (g3) ?_ | refine callDw (g3) ?_); simp only [go_sem]
    refine zst ?_
    (first | refine callD (g4) ?_ | refine callDw (g4) ?_); simp only [go_sem]
    refine zst ?_
    (first | refine callD (g5) ?_ | refine callDw (g5) ?_); simp only [go_sem]
    refine zst ?_
    (first | refine callD (g6) ?_ | refine callDw (g6) ?_); simp only [go_sem]
    refine zst ?_
    refine ev_next 3 (hJ _ (⟨(p + 1, c.2), by omega, hi'⟩) (by first | omega | (dsimp only; omega) | (simp; omega))) rfl (by simp) ?_ (by first | rfl | (simp only [go_sem]; done)) (by first | rfl | (simp only [go_sem]; done)) ?_
    · (first | rfl | (simp only [go_sem]; done) | (simp only [go_sem]; simp only []; done) | (simp only []; done) | (simp only [go_sem]; simp []; done) | (simp []; done))
    · (simp only [go_sem]; (repeat' (refine And.intro ?_ ?_)) <;> first | exact trivial | with_reducible rfl | (simp only []; done) | (simp only []; with_reducible rfl) | (simp []; done) | (simp []; omega) | (simp only []; rfl) | skip)
  · obtain rfl : p = 4 := by omega
    refine zst ?_
    (first | refine callD (awake17_fn) ?_ | refine callDw (awake17_fn) ?_); simp only [go_sem]
    refine zst ?_
    refine ret m_fst_ok [] ?_; (first | (simp only [go_sem]; done) | (simp only [go_sem]; ((try dsimp only); (repeat' (refine And.intro ?_ ?_)) <;> first | with_reducible rfl | (simp only [go_sem]; done) | (simp only [go_sem]; rfl) | (simp only []; (try simp only [go_sem]); first | done | rfl) | (simp only [go_sem]; simp []; done) | (simp []; done) | rfl)))
end Go.Proofs.Ytanmcjkpdkmhfaa
/- Files: the law FileSteps over readings of its arguments. -/
namespace Go.Proofs.Ytanmcjkpdkmhfaa
open Go Go.RowKit Rdn Rdn.Dp
set_option linter.unusedVariables false
set_option linter.unusedSimpArgs false
theorem enc_wordss : Enc (Sh.slice (Sh.slice (Sh.int .u16))) (fun l => .sl false (Sh.slice (Sh.int .u16)).size (l.map (slV' false 1 (V.int .u16)))) := Enc.slice enc_u16s (fun _ => rfl) (fun _ => rfl)
theorem enc_canonss : Enc (Sh.slice (Sh.slice Canon.sh)) (fun l => .sl false (Sh.slice Canon.sh).size (l.map (slV' false 4 canonV))) := Enc.slice enc_canons (fun _ => rfl) (fun _ => rfl)
theorem enc_opn : Enc Opn.sh opnV := Enc.struct (EncL.cons (Enc.int _) (EncL.cons (Enc.int _) (EncL.cons Enc.bool EncL.unit))) _
theorem enc_opns : Enc (Sh.slice Opn.sh) (fun l => .sl false Opn.sh.size (l.map opnV)) := Enc.slice enc_opn (fun _ => rfl) (fun _ => rfl)
theorem enc_files : Enc Files.sh (fun f => .agg [.sl false 1 (f.data.map (slV' false 4 canonV)), .sl false 3 (f.opens.map opnV)]) := Enc.struct (EncL.cons enc_canonss (EncL.cons enc_opns EncL.unit)) _
theorem rd_bool : Reads Try.prog 4 Sh.bool := Reads.bool (by kernel_rfl) (by kernel_rfl)
theorem rd_Opn : Reads Try.prog 36 Opn.sh :=
  Reads.via (Reads.struct Try.underlying36 (by kernel_rfl) (Row.cons rfl rd_int (Row.cons rfl rd_int (Row.cons rfl rd_bool (Row.nil _ _))))) (fun a => ⟨⟨a.1, a.2.1, a.2.2.1⟩, rfl⟩)
theorem rd_Opns : Reads Try.prog 24 (Sh.slice Opn.sh) := Reads.slice (by kernel_rfl) (by kernel_rfl) (by decide) (of_decide_eq_true (by kernel_rfl)) rd_Opn
theorem rd_Files : Reads Try.prog 26 Files.sh :=
  Reads.via (Reads.struct Try.underlying26 (by kernel_rfl) (Row.cons rfl rd_Canonss (Row.cons rfl rd_Opns (Row.nil _ _)))) (fun a => ⟨⟨a.1, a.2.1⟩, rfl⟩)
theorem fst_law {a0 : Files} {c0 : Array Value} {a1 : List (List Int)} {v1 : Value} {a2 : List Canon} {v2 : Value} {a3 : List Int} {v3 : Value} {a4 : Int} {v4 : Value} {a5 : Int} {v5 : Value} {a6 : Int} {v6 : Value} {a7 : Int} {v7 : Value} (W : World) (e0 : Files.sh.rd (old W) W a0 c0.toList) (e1 : (Sh.slice (Sh.slice (Sh.int .u16))).rd (old W) W a1 [v1]) (e2 : (Sh.slice Canon.sh).rd (old W) W a2 [v2]) (e3 : (Sh.slice (Sh.int .i64)).rd (old W) W a3 [v3]) (e4 : (Sh.int .i64).rd (old W) W a4 [v4]) (e5 : (Sh.int .i64).rd (old W) W a5 [v5]) (e6 : (Sh.int .i64).rd (old W) W a6 [v6]) (e7 : (Sh.int .i64).rd (old W) W a7 [v7]) :
    Calls Try.prog 7 #[.agg c0, v1, v2, v3, v4, v5, v6, v7] W fun e w' => e = .returned (.bool true) ∧ Below W.heap.size W w' :=
  Fnc.law (fst_fn a0 a1 a2 a3 a4 a5 a6 a7) (RdTs.agg enc_files e0 (RdTs.slice enc_wordss e1 (RdTs.slice enc_canons e2 (RdTs.slice enc_i64s e3 (RdTs.int e4 (RdTs.int e5 (RdTs.int e6 (RdTs.int e7 RdTs.nil'))))))))
end Go.Proofs.Ytanmcjkpdkmhfaa
