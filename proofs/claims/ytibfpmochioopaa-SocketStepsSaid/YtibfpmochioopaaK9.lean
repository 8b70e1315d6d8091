/- The law SocketSteps. -/
import Derived.Test.YtibfpmochioopaaK8
namespace Go.Proofs.Ytibfpmochioopaa
open Go Go.RowKit Rdn Rdn.Dp
set_option linter.unusedVariables false
set_option linter.unusedSimpArgs false
def m_socs : MC := .seq (.reg [⟨(some 12), none, (.p (.mov (.c (.bool false))))⟩])
 (.seq (.seq (.reg [⟨(some 45), none, (.p (.mov (.t 0)))⟩, ⟨(some 46), none, (.p (.len (.t 45)))⟩, ⟨(some 47), none, (.p (.bin 0 .gtr (.t 46) (.c (.int .i64 210))))⟩, ⟨(some 48), none, (.p (.mov (.t 47)))⟩, ⟨(some 49), (some (48, false)), (.p (.mov (.t 1)))⟩, ⟨(some 50), (some (48, false)), (.p (.len (.t 49)))⟩, ⟨(some 51), (some (48, false)), (.p (.bin 0 .gtr (.t 50) (.c (.int .i64 10))))⟩, ⟨(some 52), none, (.p (.pick (.t 48) (.c (.bool true)) (.t 51)))⟩, ⟨(some 53), none, (.p (.mov (.t 52)))⟩, ⟨(some 54), (some (53, false)), (.p (.mov (.t 2)))⟩, ⟨(some 55), (some (53, false)), (.p (.len (.t 54)))⟩, ⟨(some 56), (some (53, false)), (.p (.bin 0 .gtr (.t 55) (.c (.int .i64 60))))⟩, ⟨(some 57), none, (.p (.pick (.t 53) (.c (.bool true)) (.t 56)))⟩])
 (.cond (.t 57) (.seq (.reg [⟨(some 58), none, (.call 5 [])⟩, ⟨(some 12), none, (.p (.mov (.t 58)))⟩])
 (.ret)) (.skip)))
 (.seq (.seq (.reg [⟨(some 59), none, (.p (.mov (.t 0)))⟩, ⟨(some 60), none, (.p (.len (.t 59)))⟩, ⟨(some 61), none, (.p (.mov (.c (.int .i64 0))))⟩])
 (.block 0 (.loop (.seq (.reg [⟨(some 62), none, (.p (.bin 0 .lss (.t 61) (.t 60)))⟩])
 (.seq (.cond (.t 62) (.skip) (.exit 0))
 (.seq (.block 1 (.seq (.reg [⟨(some 63), none, (.p (.idxA 3 (.t 59) (.t 61)))⟩, ⟨(some 64), none, (.p (.load true 3 (.t 63)))⟩, ⟨(some 14), none, (.m (.alloc 28 (.agg [.int .i64 0, .int .i64 0, .nilS])))⟩, ⟨none, none, (.m (.store 3 (.t 14) (.t 64)))⟩])
 (.seq (.reg [⟨(some 65), none, (.p (.fieldA 2 2 (.t 14)))⟩, ⟨(some 66), none, (.p (.load false 1 (.t 65)))⟩, ⟨(some 67), none, (.p (.len (.t 66)))⟩, ⟨(some 68), none, (.p (.bin 0 .gtr (.t 67) (.c (.int .i64 30))))⟩])
 (.cond (.t 68) (.seq (.reg [⟨(some 69), none, (.call 5 [])⟩, ⟨(some 12), none, (.p (.mov (.t 69)))⟩])
 (.ret)) (.skip)))))
 (.reg [⟨(some 70), none, (.p (.bin 0 .add (.t 61) (.c (.int .i64 1))))⟩, ⟨(some 61), none, (.p (.mov (.t 70)))⟩])))))))
 (.seq (.seq (.reg [⟨(some 71), none, (.p (.mov (.t 1)))⟩, ⟨(some 72), none, (.p (.len (.t 71)))⟩, ⟨(some 73), none, (.p (.mov (.c (.int .i64 0))))⟩])
 (.block 2 (.loop (.seq (.reg [⟨(some 74), none, (.p (.bin 0 .lss (.t 73) (.t 72)))⟩])
 (.seq (.cond (.t 74) (.skip) (.exit 2))
 (.seq (.block 3 (.seq (.reg [⟨(some 75), none, (.p (.idxA 1 (.t 71) (.t 73)))⟩, ⟨(some 76), none, (.p (.load false 1 (.t 75)))⟩, ⟨(some 16), none, (.p (.mov (.t 76)))⟩])
 (.seq (.reg [⟨(some 77), none, (.p (.mov (.t 16)))⟩, ⟨(some 78), none, (.p (.len (.t 77)))⟩, ⟨(some 79), none, (.p (.bin 0 .gtr (.t 78) (.c (.int .i64 200))))⟩])
 (.cond (.t 79) (.seq (.reg [⟨(some 80), none, (.call 5 [])⟩, ⟨(some 12), none, (.p (.mov (.t 80)))⟩])
 (.ret)) (.skip)))))
 (.reg [⟨(some 81), none, (.p (.bin 0 .add (.t 73) (.c (.int .i64 1))))⟩, ⟨(some 73), none, (.p (.mov (.t 81)))⟩])))))))
 (.seq (.reg [⟨(some 82), none, (.p (.mov (.t 3)))⟩, ⟨(some 83), none, (.call 6 [(.t 82)])⟩, ⟨(some 17), none, (.p (.mov (.t 83)))⟩])
 (.seq (.reg [⟨(some 84), none, (.p (.mov (.t 17)))⟩, ⟨(some 85), none, (.call 7 [(.t 84), (.c (.int .i64 8))])⟩, ⟨(some 18), none, (.p (.mov (.t 85)))⟩])
 (.seq (.reg [⟨(some 86), none, (.p (.mov (.t 5)))⟩, ⟨(some 87), none, (.call 8 [(.t 86), (.c (.int .i64 2))])⟩, ⟨(some 88), none, (.p (.bin 0 .add (.c (.int .i64 199)) (.t 87)))⟩, ⟨(some 89), none, (.m (.mkS 28 3 40 (.agg [.int .i64 0, .int .i64 0, .nilS]) (.t 88) (.t 88)))⟩, ⟨(some 19), none, (.p (.mov (.t 89)))⟩])
 (.seq (.reg [⟨(some 90), none, (.p (.mov (.t 18)))⟩, ⟨(some 91), none, (.call 9 [(.t 90)])⟩, ⟨(some 20), none, (.p (.mov (.t 91)))⟩])
 (.seq (.seq (.reg [⟨(some 92), none, (.p (.mov (.t 20)))⟩, ⟨(some 93), none, (.p (.len (.t 92)))⟩, ⟨(some 94), none, (.p (.bin 0 .gtr (.t 93) (.c (.int .i64 0))))⟩])
 (.cond (.t 94) (.reg [⟨(some 95), none, (.p (.mov (.t 20)))⟩, ⟨(some 96), none, (.p (.mov (.t 5)))⟩, ⟨(some 97), none, (.p (.mov (.t 20)))⟩, ⟨(some 98), none, (.p (.len (.t 97)))⟩, ⟨(some 99), none, (.call 8 [(.t 96), (.t 98)])⟩, ⟨(some 100), none, (.p (.idxA 3 (.t 95) (.t 99)))⟩, ⟨(some 101), none, (.p (.fieldA 0 0 (.t 100)))⟩, ⟨(some 102), none, (.p (.load false 1 (.t 101)))⟩, ⟨(some 103), none, (.p (.bin 0 .add (.t 102) (.c (.int .i64 1))))⟩, ⟨(some 104), none, (.p (.idxA 3 (.t 95) (.t 99)))⟩, ⟨(some 105), none, (.p (.fieldA 0 0 (.t 104)))⟩, ⟨none, none, (.m (.store 1 (.t 105) (.t 103)))⟩]) (.skip)))
 (.seq (.seq (.reg [⟨(some 106), none, (.p (.mov (.t 0)))⟩, ⟨(some 107), none, (.p (.mov (.t 18)))⟩, ⟨(some 108), none, (.p (.mov (.t 19)))⟩, ⟨(some 109), none, (.p (.mov (.t 20)))⟩, ⟨(some 110), none, (.m (.buildS 22 1 (.nilS) 4 [(0, (.t 106)), (1, (.t 107)), (2, (.t 108)), (3, (.t 109))]))⟩, ⟨(some 111), none, (.p (.len (.t 110)))⟩, ⟨(some 112), none, (.p (.mov (.c (.int .i64 0))))⟩])
 (.block 4 (.loop (.seq (.reg [⟨(some 113), none, (.p (.bin 0 .lss (.t 112) (.t 111)))⟩])
 (.seq (.cond (.t 113) (.skip) (.exit 4))
 (.seq (.block 5 (.seq (.reg [⟨(some 114), none, (.p (.idxA 1 (.t 110) (.t 112)))⟩, ⟨(some 115), none, (.p (.load false 1 (.t 114)))⟩, ⟨(some 22), none, (.p (.mov (.t 115)))⟩])
 (.seq (.seq (.reg [⟨(some 116), none, (.p (.mov (.t 4)))⟩, ⟨(some 117), none, (.p (.mov (.t 4)))⟩, ⟨(some 118), none, (.call 8 [(.t 117), (.c (.int .i64 4))])⟩, ⟨(some 119), none, (.p (.bin 0 .sub (.t 118) (.c (.int .i64 1))))⟩, ⟨(some 120), none, (.m (.buildS 3 1 (.int .i64 0) 2 [(0, (.t 116)), (1, (.t 119))]))⟩, ⟨(some 121), none, (.p (.len (.t 120)))⟩, ⟨(some 122), none, (.p (.mov (.c (.int .i64 0))))⟩])
 (.block 6 (.loop (.seq (.reg [⟨(some 123), none, (.p (.bin 0 .lss (.t 122) (.t 121)))⟩])
 (.seq (.cond (.t 123) (.skip) (.exit 6))
 (.seq (.block 7 (.seq (.reg [⟨(some 124), none, (.p (.idxA 1 (.t 120) (.t 122)))⟩, ⟨(some 125), none, (.p (.load false 1 (.t 124)))⟩, ⟨(some 24), none, (.p (.mov (.t 125)))⟩])
 (.seq (.seq (.reg [⟨(some 126), none, (.p (.mov (.t 2)))⟩, ⟨(some 127), none, (.p (.mov (.t 17)))⟩, ⟨(some 128), none, (.call 10 [(.t 127), (.c (.int .i64 5))])⟩, ⟨(some 129), none, (.p (.mov (.t 5)))⟩, ⟨(some 130), none, (.call 8 [(.t 129), (.c (.int .i64 2))])⟩, ⟨(some 131), none, (.p (.bin 0 .add (.c (.int .i64 16)) (.t 130)))⟩, ⟨(some 132), none, (.m (.mkS 59 4 24 (.agg [.int .u8 0, .int .u16 0, .int .i64 0, .int .i64 0]) (.t 131) (.t 131)))⟩, ⟨(some 133), none, (.m (.buildS 24 1 (.nilS) 3 [(0, (.t 126)), (1, (.t 128)), (2, (.t 132))]))⟩, ⟨(some 134), none, (.p (.len (.t 133)))⟩, ⟨(some 135), none, (.p (.mov (.c (.int .i64 0))))⟩])
 (.block 8 (.loop (.seq (.reg [⟨(some 136), none, (.p (.bin 0 .lss (.t 135) (.t 134)))⟩])
 (.seq (.cond (.t 136) (.skip) (.exit 8))
 (.seq (.block 9 (.seq (.reg [⟨(some 137), none, (.p (.idxA 1 (.t 133) (.t 135)))⟩, ⟨(some 138), none, (.p (.load false 1 (.t 137)))⟩, ⟨(some 26), none, (.p (.mov (.t 138)))⟩])
 (.seq (.reg [⟨(some 140), none, (.p (.mov (.t 22)))⟩, ⟨(some 141), none, (.p (.mov (.t 24)))⟩, ⟨(some 142), none, (.p (.mov (.t 26)))⟩, ⟨(some 143), none, (.call 11 [(.t 140), (.t 141), (.t 142)])⟩, ⟨(some 139), none, (.p (.mov (.t 143)))⟩, ⟨(some 144), none, (.p (.ext (.t 139) 0))⟩, ⟨(some 145), none, (.p (.ext (.t 139) 1))⟩, ⟨(some 146), none, (.p (.ext (.t 139) 2))⟩, ⟨(some 27), none, (.p (.mov (.t 144)))⟩, ⟨(some 28), none, (.p (.mov (.t 145)))⟩, ⟨(some 29), none, (.p (.mov (.t 146)))⟩])
 (.seq (.reg [⟨(some 148), none, (.p (.mov (.t 22)))⟩, ⟨(some 149), none, (.p (.mov (.t 24)))⟩, ⟨(some 150), none, (.p (.mov (.t 26)))⟩, ⟨(some 151), none, (.call 12 [(.t 148), (.t 149), (.t 150)])⟩, ⟨(some 147), none, (.p (.mov (.t 151)))⟩, ⟨(some 152), none, (.p (.ext (.t 147) 0))⟩, ⟨(some 153), none, (.p (.ext (.t 147) 1))⟩, ⟨(some 154), none, (.p (.ext (.t 147) 2))⟩, ⟨(some 30), none, (.p (.mov (.t 152)))⟩, ⟨(some 31), none, (.p (.mov (.t 153)))⟩, ⟨(some 32), none, (.p (.mov (.t 154)))⟩])
 (.seq (.reg [⟨(some 155), none, (.p (.mov (.t 29)))⟩, ⟨(some 156), none, (.p (.mov (.t 32)))⟩, ⟨(some 157), none, (.p (.bin 1 .neq (.t 155) (.t 156)))⟩, ⟨(some 158), none, (.p (.mov (.t 157)))⟩, ⟨(some 159), (some (158, false)), (.p (.mov (.t 28)))⟩, ⟨(some 160), (some (158, false)), (.p (.mov (.t 31)))⟩, ⟨(some 161), (some (158, false)), (.p (.bin 0 .neq (.t 159) (.t 160)))⟩, ⟨(some 162), none, (.p (.pick (.t 158) (.c (.bool true)) (.t 161)))⟩, ⟨(some 163), none, (.p (.mov (.t 162)))⟩, ⟨(some 164), (some (163, false)), (.p (.mov (.t 27)))⟩, ⟨(some 165), (some (163, false)), (.p (.mov (.t 30)))⟩, ⟨(some 166), (some (163, false)), (.call 13 [(.t 164), (.t 165)])⟩, ⟨(some 167), (some (163, false)), (.p (.un .not (.t 166)))⟩, ⟨(some 168), none, (.p (.pick (.t 163) (.c (.bool true)) (.t 167)))⟩])
 (.cond (.t 168) (.seq (.reg [⟨(some 12), none, (.p (.mov (.c (.bool false))))⟩])
 (.ret)) (.skip)))))))
 (.reg [⟨(some 169), none, (.p (.bin 0 .add (.t 135) (.c (.int .i64 1))))⟩, ⟨(some 135), none, (.p (.mov (.t 169)))⟩])))))))
 (.seq (.reg [⟨(some 170), none, (.p (.mov (.t 22)))⟩, ⟨(some 171), none, (.p (.mov (.t 24)))⟩, ⟨(some 172), none, (.call 15 [(.t 170), (.t 171)])⟩, ⟨(some 173), none, (.p (.mov (.t 22)))⟩, ⟨(some 174), none, (.p (.mov (.t 24)))⟩, ⟨(some 175), none, (.call 16 [(.t 173), (.t 174)])⟩, ⟨(some 176), none, (.call 14 [(.t 172), (.t 175)])⟩, ⟨(some 177), none, (.p (.un .not (.t 176)))⟩])
 (.cond (.t 177) (.seq (.reg [⟨(some 12), none, (.p (.mov (.c (.bool false))))⟩])
 (.ret)) (.skip))))))
 (.reg [⟨(some 178), none, (.p (.bin 0 .add (.t 122) (.c (.int .i64 1))))⟩, ⟨(some 122), none, (.p (.mov (.t 178)))⟩])))))))
 (.seq (.reg [⟨(some 179), none, (.p (.mov (.t 22)))⟩, ⟨(some 180), none, (.call 17 [(.t 179)])⟩, ⟨(some 181), none, (.p (.mov (.t 22)))⟩, ⟨(some 182), none, (.call 18 [(.t 181)])⟩, ⟨(some 183), none, (.p (.bin 1 .neq (.t 180) (.t 182)))⟩])
 (.cond (.t 183) (.seq (.reg [⟨(some 12), none, (.p (.mov (.c (.bool false))))⟩])
 (.ret)) (.skip))))))
 (.reg [⟨(some 184), none, (.p (.bin 0 .add (.t 112) (.c (.int .i64 1))))⟩, ⟨(some 112), none, (.p (.mov (.t 184)))⟩])))))))
 (.seq (.reg [⟨(some 185), none, (.p (.mov (.t 17)))⟩, ⟨(some 186), none, (.call 19 [(.t 185)])⟩, ⟨(some 187), none, (.p (.field false 1 2 2 (.t 186)))⟩, ⟨(some 33), none, (.p (.mov (.t 187)))⟩])
 (.seq (.seq (.reg [⟨(some 188), none, (.p (.mov (.t 1)))⟩, ⟨(some 189), none, (.p (.mov (.t 33)))⟩, ⟨(some 190), none, (.m (.buildS 23 1 (.nilS) 2 [(0, (.t 188)), (1, (.t 189))]))⟩, ⟨(some 191), none, (.p (.len (.t 190)))⟩, ⟨(some 192), none, (.p (.mov (.c (.int .i64 0))))⟩])
 (.block 10 (.loop (.seq (.reg [⟨(some 193), none, (.p (.bin 0 .lss (.t 192) (.t 191)))⟩])
 (.seq (.cond (.t 193) (.skip) (.exit 10))
 (.seq (.block 11 (.seq (.reg [⟨(some 194), none, (.p (.idxA 1 (.t 190) (.t 192)))⟩, ⟨(some 195), none, (.p (.load false 1 (.t 194)))⟩, ⟨(some 35), none, (.p (.mov (.t 195)))⟩])
 (.seq (.reg [⟨(some 196), none, (.p (.mov (.t 4)))⟩, ⟨(some 197), none, (.p (.mov (.t 5)))⟩, ⟨(some 198), none, (.m (.buildS 3 1 (.int .i64 0) 2 [(0, (.t 196)), (1, (.t 197))]))⟩, ⟨(some 199), none, (.p (.mov (.t 4)))⟩, ⟨(some 200), none, (.call 8 [(.t 199), (.c (.int .i64 4))])⟩, ⟨(some 201), none, (.p (.bin 0 .sub (.t 200) (.c (.int .i64 1))))⟩, ⟨(some 202), none, (.p (.mov (.t 5)))⟩, ⟨(some 203), none, (.call 8 [(.t 202), (.c (.int .i64 12))])⟩, ⟨(some 204), none, (.p (.bin 0 .sub (.t 203) (.c (.int .i64 1))))⟩, ⟨(some 205), none, (.m (.buildS 3 1 (.int .i64 0) 2 [(0, (.t 201)), (1, (.t 204))]))⟩, ⟨(some 206), none, (.m (.buildS 25 1 (.nilS) 2 [(0, (.t 198)), (1, (.t 205))]))⟩, ⟨(some 207), none, (.p (.len (.t 206)))⟩, ⟨(some 208), none, (.p (.mov (.c (.int .i64 0))))⟩])
 (.block 12 (.loop (.seq (.reg [⟨(some 209), none, (.p (.bin 0 .lss (.t 208) (.t 207)))⟩])
 (.seq (.cond (.t 209) (.skip) (.exit 12))
 (.seq (.block 13 (.seq (.reg [⟨(some 210), none, (.p (.idxA 1 (.t 206) (.t 208)))⟩, ⟨(some 211), none, (.p (.load false 1 (.t 210)))⟩, ⟨(some 37), none, (.p (.mov (.t 211)))⟩])
 (.seq (.dreg [⟨(some 213), none, (.p (.mov (.t 35)))⟩, ⟨(some 214), none, (.p (.mov (.t 37)))⟩, ⟨(some 215), none, (.p (.idxA 1 (.t 214) (.c (.int .i64 0))))⟩, ⟨(some 216), none, (.p (.load false 1 (.t 215)))⟩, ⟨(some 217), none, (.p (.mov (.t 37)))⟩, ⟨(some 218), none, (.p (.idxA 1 (.t 217) (.c (.int .i64 1))))⟩, ⟨(some 219), none, (.p (.load false 1 (.t 218)))⟩, ⟨(some 220), none, (.call 20 [(.t 213), (.t 216), (.t 219)])⟩, ⟨(some 212), none, (.p (.mov (.t 220)))⟩, ⟨(some 221), none, (.p (.ext (.t 212) 0))⟩, ⟨(some 222), none, (.p (.ext (.t 212) 1))⟩, ⟨(some 223), none, (.p (.ext (.t 212) 2))⟩, ⟨(some 38), none, (.p (.mov (.t 221)))⟩, ⟨(some 39), none, (.p (.mov (.t 222)))⟩, ⟨(some 40), none, (.p (.mov (.t 223)))⟩] [[], [], [1], [1, 2], [], [4], [4, 5], [0, 1, 2, 3, 4, 5, 6], [0, 1, 2, 3, 4, 5, 6, 7], [0, 1, 2, 3, 4, 5, 6, 7, 8], [0, 1, 2, 3, 4, 5, 6, 7, 8], [0, 1, 2, 3, 4, 5, 6, 7, 8], [0, 1, 2, 3, 4, 5, 6, 7, 8, 9], [0, 1, 2, 3, 4, 5, 6, 7, 8, 9, 10, 12], [0, 1, 2, 3, 4, 5, 6, 7, 8, 9, 10, 11, 12, 13]])
 (.seq (.dreg [⟨(some 225), none, (.p (.mov (.t 35)))⟩, ⟨(some 226), none, (.p (.mov (.t 37)))⟩, ⟨(some 227), none, (.p (.idxA 1 (.t 226) (.c (.int .i64 0))))⟩, ⟨(some 228), none, (.p (.load false 1 (.t 227)))⟩, ⟨(some 229), none, (.p (.mov (.t 37)))⟩, ⟨(some 230), none, (.p (.idxA 1 (.t 229) (.c (.int .i64 1))))⟩, ⟨(some 231), none, (.p (.load false 1 (.t 230)))⟩, ⟨(some 232), none, (.call 21 [(.t 225), (.t 228), (.t 231)])⟩, ⟨(some 224), none, (.p (.mov (.t 232)))⟩, ⟨(some 233), none, (.p (.ext (.t 224) 0))⟩, ⟨(some 234), none, (.p (.ext (.t 224) 1))⟩, ⟨(some 235), none, (.p (.ext (.t 224) 2))⟩, ⟨(some 41), none, (.p (.mov (.t 233)))⟩, ⟨(some 42), none, (.p (.mov (.t 234)))⟩, ⟨(some 43), none, (.p (.mov (.t 235)))⟩] [[], [], [1], [1, 2], [], [4], [4, 5], [0, 1, 2, 3, 4, 5, 6], [0, 1, 2, 3, 4, 5, 6, 7], [0, 1, 2, 3, 4, 5, 6, 7, 8], [0, 1, 2, 3, 4, 5, 6, 7, 8], [0, 1, 2, 3, 4, 5, 6, 7, 8], [0, 1, 2, 3, 4, 5, 6, 7, 8, 9], [0, 1, 2, 3, 4, 5, 6, 7, 8, 9, 10, 12], [0, 1, 2, 3, 4, 5, 6, 7, 8, 9, 10, 11, 12, 13]])
 (.seq (.seq (.reg [⟨(some 236), none, (.p (.mov (.t 40)))⟩, ⟨(some 237), none, (.p (.mov (.t 43)))⟩, ⟨(some 238), none, (.p (.bin 1 .neq (.t 236) (.t 237)))⟩, ⟨(some 239), none, (.p (.mov (.t 238)))⟩, ⟨(some 240), (some (239, false)), (.p (.mov (.t 39)))⟩, ⟨(some 241), (some (239, false)), (.p (.mov (.t 42)))⟩, ⟨(some 242), (some (239, false)), (.call 14 [(.t 240), (.t 241)])⟩, ⟨(some 243), (some (239, false)), (.p (.un .not (.t 242)))⟩, ⟨(some 244), none, (.p (.pick (.t 239) (.c (.bool true)) (.t 243)))⟩, ⟨(some 245), none, (.p (.mov (.t 244)))⟩, ⟨(some 246), (some (245, false)), (.p (.mov (.t 38)))⟩, ⟨(some 247), (some (245, false)), (.p (.len (.t 246)))⟩, ⟨(some 248), (some (245, false)), (.p (.mov (.t 41)))⟩, ⟨(some 249), (some (245, false)), (.p (.len (.t 248)))⟩, ⟨(some 250), (some (245, false)), (.p (.bin 0 .neq (.t 247) (.t 249)))⟩, ⟨(some 251), none, (.p (.pick (.t 245) (.c (.bool true)) (.t 250)))⟩])
 (.cond (.t 251) (.seq (.reg [⟨(some 12), none, (.p (.mov (.c (.bool false))))⟩])
 (.ret)) (.skip)))
 (.seq (.reg [⟨(some 252), none, (.p (.mov (.t 41)))⟩, ⟨(some 253), none, (.p (.len (.t 252)))⟩, ⟨(some 254), none, (.p (.mov (.c (.int .i64 0))))⟩])
 (.block 14 (.loop (.seq (.reg [⟨(some 255), none, (.p (.bin 0 .lss (.t 254) (.t 253)))⟩])
 (.seq (.cond (.t 255) (.skip) (.exit 14))
 (.seq (.block 15 (.seq (.reg [⟨(some 256), none, (.p (.mov (.t 254)))⟩, ⟨(some 44), none, (.p (.mov (.t 256)))⟩])
 (.seq (.dreg [⟨(some 257), none, (.p (.mov (.t 38)))⟩, ⟨(some 258), none, (.p (.mov (.t 44)))⟩, ⟨(some 259), none, (.p (.idxA 1 (.t 257) (.t 258)))⟩, ⟨(some 260), none, (.p (.load false 1 (.t 259)))⟩, ⟨(some 261), none, (.p (.mov (.t 41)))⟩, ⟨(some 262), none, (.p (.mov (.t 44)))⟩, ⟨(some 263), none, (.p (.idxA 1 (.t 261) (.t 262)))⟩, ⟨(some 264), none, (.p (.load false 1 (.t 263)))⟩, ⟨(some 265), none, (.call 22 [(.t 260), (.t 264)])⟩, ⟨(some 266), none, (.p (.un .not (.t 265)))⟩] [[], [], [0, 1], [0, 1, 2], [], [], [4, 5], [4, 5, 6], [0, 1, 2, 3, 4, 5, 6, 7], [0, 1, 2, 3, 4, 5, 6, 7, 8]])
 (.cond (.t 266) (.seq (.reg [⟨(some 12), none, (.p (.mov (.c (.bool false))))⟩])
 (.ret)) (.skip)))))
 (.reg [⟨(some 267), none, (.p (.bin 0 .add (.t 254) (.c (.int .i64 1))))⟩, ⟨(some 254), none, (.p (.mov (.t 267)))⟩]))))))))))))
 (.reg [⟨(some 268), none, (.p (.bin 0 .add (.t 208) (.c (.int .i64 1))))⟩, ⟨(some 208), none, (.p (.mov (.t 268)))⟩])))))))))
 (.reg [⟨(some 269), none, (.p (.bin 0 .add (.t 192) (.c (.int .i64 1))))⟩, ⟨(some 192), none, (.p (.mov (.t 269)))⟩])))))))
 (.seq (.reg [⟨(some 270), none, (.call 5 [])⟩, ⟨(some 12), none, (.p (.mov (.t 270)))⟩])
 (.ret)))))))))))))
theorem m_socs_ok : compF Try.prog 3 = some (271, m_socs, [.mov (.t 12)]) := by kernel_rfl
abbrev wvV (w : List Int) : V := slV' false 1 (V.int .u16) w
abbrev isV (w : List (List Int)) : V := slV' false 1 wvV w
abbrev jsV (w : List Int) : V := slV' false 1 (V.int .i64) w
abbrev ccV (w : List Canon) : V := slV' false 4 canonV w
attribute [local irreducible] dws dcs numC sSend dou sRecv
set_option maxRecDepth 100000 in
set_option maxHeartbeats 32000000 in
theorem socs_fn (raw : List Output) (inn : List (List Int)) (data : List Canon) (l : List Int) (s n : Int) : Fnc Try.prog 3 [.sl false 3 (raw.map (outputV false)), .sl false 1 (inn.map wvV), .sl false 4 (data.map canonV), .sl false 1 (i64s l), .int .i64 s, .int .i64 n] (fun x obs => x = .bool true) := by
  refine Fnc.wf fun hw => ?_
  simp only [V.wfs, V.wf, List.length_map] at hw
  have w0 := hw.1.2
  have w1 := hw.2.1.2
  have w2 := hw.2.2.1.2
  clear hw
  by_cases c0 : raw.length > 210
  · skip
    refine Fnc.intro m_socs_ok (by simp) fun W S => ?_
    unfold m_socs
    simp only [ents, Nat.zero_add, Nat.reduceAdd]
    repeat (first | refine And.intro (by omega) ?_ | refine And.intro rfl ?_ | refine ev_ctl rfl rfl ?_ | refine evr_nil ?_ | refine evw_nil (by kernel_rfl) ?_ | (simp (disch := omega) only [takeAll, Nat.min_eq_left, Nat.min_eq_right, if_pos, if_neg, getD_map, wrapI64, modIn, fdivE, tmodE, tdivE, decT, decF, beqT, beqF, bneT, bneF, Int.toNat_natCast]; try simp only [go_sem]) | (refine ev_condTb rfl ?_ ?_; · (simp <;> omega)) | (refine ev_condFb rfl ?_ ?_; · (simp <;> omega)) | ((first | refine ev_region ?_ | refine evr_go rfl ?_ | refine evw_go rfl ?_ | refine ev_dr0 mixed rfl (by kernel_rfl) ?_ | refine ev_dr1 mixed rfl (by kernel_rfl) ?_ | refine ev_dr2 mixed rfl (by kernel_rfl) ?_); simp only [go_sem]))
    (first | refine callD (awake18_fn) ?_ | refine callDw (awake18_fn) ?_); simp only [go_sem]
    repeat (first | refine And.intro (by omega) ?_ | refine And.intro rfl ?_ | refine ev_ctl rfl rfl ?_ | refine evr_nil ?_ | refine evw_nil (by kernel_rfl) ?_ | (simp (disch := omega) only [takeAll, Nat.min_eq_left, Nat.min_eq_right, if_pos, if_neg, getD_map, wrapI64, modIn, fdivE, tmodE, tdivE, decT, decF, beqT, beqF, bneT, bneF, Int.toNat_natCast]; try simp only [go_sem]) | (refine ev_condTb rfl ?_ ?_; · (simp <;> omega)) | (refine ev_condFb rfl ?_ ?_; · (simp <;> omega)) | ((first | refine ev_region ?_ | refine evr_go rfl ?_ | refine evw_go rfl ?_ | refine ev_dr0 mixed rfl (by kernel_rfl) ?_ | refine ev_dr1 mixed rfl (by kernel_rfl) ?_ | refine ev_dr2 mixed rfl (by kernel_rfl) ?_); simp only [go_sem]))
    refine ret m_socs_ok [] ?_; (first | (simp only [go_sem]; done) | (simp only [go_sem]; rfl))
  by_cases c1 : inn.length > 10
  · skip
    refine Fnc.intro m_socs_ok (by simp) fun W S => ?_
    unfold m_socs
    simp only [ents, Nat.zero_add, Nat.reduceAdd]
    repeat (first | refine And.intro (by omega) ?_ | refine And.intro rfl ?_ | refine ev_ctl rfl rfl ?_ | refine evr_nil ?_ | refine evw_nil (by kernel_rfl) ?_ | (simp (disch := omega) only [takeAll, Nat.min_eq_left, Nat.min_eq_right, if_pos, if_neg, getD_map, wrapI64, modIn, fdivE, tmodE, tdivE, decT, decF, beqT, beqF, bneT, bneF, Int.toNat_natCast]; try simp only [go_sem]) | (refine ev_condTb rfl ?_ ?_; · (simp <;> omega)) | (refine ev_condFb rfl ?_ ?_; · (simp <;> omega)) | ((first | refine ev_region ?_ | refine evr_go rfl ?_ | refine evw_go rfl ?_ | refine ev_dr0 mixed rfl (by kernel_rfl) ?_ | refine ev_dr1 mixed rfl (by kernel_rfl) ?_ | refine ev_dr2 mixed rfl (by kernel_rfl) ?_); simp only [go_sem]))
    (first | refine callD (awake18_fn) ?_ | refine callDw (awake18_fn) ?_); simp only [go_sem]
    repeat (first | refine And.intro (by omega) ?_ | refine And.intro rfl ?_ | refine ev_ctl rfl rfl ?_ | refine evr_nil ?_ | refine evw_nil (by kernel_rfl) ?_ | (simp (disch := omega) only [takeAll, Nat.min_eq_left, Nat.min_eq_right, if_pos, if_neg, getD_map, wrapI64, modIn, fdivE, tmodE, tdivE, decT, decF, beqT, beqF, bneT, bneF, Int.toNat_natCast]; try simp only [go_sem]) | (refine ev_condTb rfl ?_ ?_; · (simp <;> omega)) | (refine ev_condFb rfl ?_ ?_; · (simp <;> omega)) | ((first | refine ev_region ?_ | refine evr_go rfl ?_ | refine evw_go rfl ?_ | refine ev_dr0 mixed rfl (by kernel_rfl) ?_ | refine ev_dr1 mixed rfl (by kernel_rfl) ?_ | refine ev_dr2 mixed rfl (by kernel_rfl) ?_); simp only [go_sem]))
    refine ret m_socs_ok [] ?_; (first | (simp only [go_sem]; done) | (simp only [go_sem]; rfl))
  by_cases c2 : data.length > 60
  · skip
    refine Fnc.intro m_socs_ok (by simp) fun W S => ?_
    unfold m_socs
    simp only [ents, Nat.zero_add, Nat.reduceAdd]
    repeat (first | refine And.intro (by omega) ?_ | refine And.intro rfl ?_ | refine ev_ctl rfl rfl ?_ | refine evr_nil ?_ | refine evw_nil (by kernel_rfl) ?_ | (simp (disch := omega) only [takeAll, Nat.min_eq_left, Nat.min_eq_right, if_pos, if_neg, getD_map, wrapI64, modIn, fdivE, tmodE, tdivE, decT, decF, beqT, beqF, bneT, bneF, Int.toNat_natCast]; try simp only [go_sem]) | (refine ev_condTb rfl ?_ ?_; · (simp <;> omega)) | (refine ev_condFb rfl ?_ ?_; · (simp <;> omega)) | ((first | refine ev_region ?_ | refine evr_go rfl ?_ | refine evw_go rfl ?_ | refine ev_dr0 mixed rfl (by kernel_rfl) ?_ | refine ev_dr1 mixed rfl (by kernel_rfl) ?_ | refine ev_dr2 mixed rfl (by kernel_rfl) ?_); simp only [go_sem]))
    (first | refine callD (awake18_fn) ?_ | refine callDw (awake18_fn) ?_); simp only [go_sem]
    repeat (first | refine And.intro (by omega) ?_ | refine And.intro rfl ?_ | refine ev_ctl rfl rfl ?_ | refine evr_nil ?_ | refine evw_nil (by kernel_rfl) ?_ | (simp (disch := omega) only [takeAll, Nat.min_eq_left, Nat.min_eq_right, if_pos, if_neg, getD_map, wrapI64, modIn, fdivE, tmodE, tdivE, decT, decF, beqT, beqF, bneT, bneF, Int.toNat_natCast]; try simp only [go_sem]) | (refine ev_condTb rfl ?_ ?_; · (simp <;> omega)) | (refine ev_condFb rfl ?_ ?_; · (simp <;> omega)) | ((first | refine ev_region ?_ | refine evr_go rfl ?_ | refine evw_go rfl ?_ | refine ev_dr0 mixed rfl (by kernel_rfl) ?_ | refine ev_dr1 mixed rfl (by kernel_rfl) ?_ | refine ev_dr2 mixed rfl (by kernel_rfl) ?_); simp only [go_sem]))
    refine ret m_socs_ok [] ?_; (first | (simp only [go_sem]; done) | (simp only [go_sem]; rfl))
  refine Fnc.intro m_socs_ok (by simp) fun W S => ?_
  unfold m_socs
  simp only [ents, Nat.zero_add, Nat.reduceAdd]
  repeat (first | refine And.intro (by omega) ?_ | refine And.intro rfl ?_ | refine ev_ctl rfl rfl ?_ | refine evr_nil ?_ | refine evw_nil (by kernel_rfl) ?_ | (simp (disch := omega) only [takeAll, Nat.min_eq_left, Nat.min_eq_right, if_pos, if_neg, getD_map, wrapI64, modIn, fdivE, tmodE, tdivE, decT, decF, beqT, beqF, bneT, bneF, Int.toNat_natCast]; try simp only [go_sem]) | (refine ev_condTb rfl ?_ ?_; · (simp <;> omega)) | (refine ev_condFb rfl ?_ ?_; · (simp <;> omega)) | ((first | refine ev_region ?_ | refine evr_go rfl ?_ | refine evw_go rfl ?_ | refine ev_dr0 mixed rfl (by kernel_rfl) ?_ | refine ev_dr1 mixed rfl (by kernel_rfl) ?_ | refine ev_dr2 mixed rfl (by kernel_rfl) ?_); simp only [go_sem]))
  refine ev_loopK [0, 1, 2, 3, 4, 5, 59, 60] (fun p : {p : Nat // p ≤ raw.length ∧ ∀ j, j < p → raw[j]!.data.length ≤ 30} => [(61, .int .i64 p.1)]) (fun _ => []) (fun p => raw.length - p.1) (⟨0, by simp⟩) 0 (by simp only [go_sem]; rfl) ?_ (by first | rfl | (simp only [go_sem]; done)) (by simp) (by first | rfl | (simp only [go_sem]; done)) (by first | rfl | (simp only [go_sem]; done)) (by first | rfl | (simp only [go_sem]; done)) ?_
  · (simp only [go_sem]; (try simp []); done)
  intro J hJ
  rintro ⟨k, hk0, hk1⟩
  by_cases hlt : k < raw.length
  · by_cases c3 : raw[k]!.data.length > 30
    · skip
      repeat (first | refine And.intro (by omega) ?_ | refine And.intro rfl ?_ | refine ev_ctl rfl rfl ?_ | refine evr_nil ?_ | refine evw_nil (by kernel_rfl) ?_ | (simp (disch := omega) only [takeAll, Nat.min_eq_left, Nat.min_eq_right, if_pos, if_neg, getD_map, wrapI64, modIn, fdivE, tmodE, tdivE, decT, decF, beqT, beqF, bneT, bneF, Int.toNat_natCast]; try simp only [go_sem]) | (refine ev_condTb rfl ?_ ?_; · (simp <;> omega)) | (refine ev_condFb rfl ?_ ?_; · (simp <;> omega)) | ((first | refine ev_region ?_ | refine evr_go rfl ?_ | refine evw_go rfl ?_ | refine ev_dr0 mixed rfl (by kernel_rfl) ?_ | refine ev_dr1 mixed rfl (by kernel_rfl) ?_ | refine ev_dr2 mixed rfl (by kernel_rfl) ?_); simp only [go_sem]))
      (first | refine callD (awake18_fn) ?_ | refine callDw (awake18_fn) ?_); simp only [go_sem]
      repeat (first | refine And.intro (by omega) ?_ | refine And.intro rfl ?_ | refine ev_ctl rfl rfl ?_ | refine evr_nil ?_ | refine evw_nil (by kernel_rfl) ?_ | (simp (disch := omega) only [takeAll, Nat.min_eq_left, Nat.min_eq_right, if_pos, if_neg, getD_map, wrapI64, modIn, fdivE, tmodE, tdivE, decT, decF, beqT, beqF, bneT, bneF, Int.toNat_natCast]; try simp only [go_sem]) | (refine ev_condTb rfl ?_ ?_; · (simp <;> omega)) | (refine ev_condFb rfl ?_ ?_; · (simp <;> omega)) | ((first | refine ev_region ?_ | refine evr_go rfl ?_ | refine evw_go rfl ?_ | refine ev_dr0 mixed rfl (by kernel_rfl) ?_ | refine ev_dr1 mixed rfl (by kernel_rfl) ?_ | refine ev_dr2 mixed rfl (by kernel_rfl) ?_); simp only [go_sem]))
      refine ret m_socs_ok [] ?_; (first | (simp only [go_sem]; done) | (simp only [go_sem]; rfl))
    · have hS : ∀ j, j < k + 1 → raw[j]!.data.length ≤ 30 := fun j hj => by
        by_cases e : j = k
        · subst e; omega
        · exact hk1 j (by omega)
      repeat (first | refine And.intro (by omega) ?_ | refine And.intro rfl ?_ | refine ev_ctl rfl rfl ?_ | refine evr_nil ?_ | refine evw_nil (by kernel_rfl) ?_ | (simp (disch := omega) only [takeAll, Nat.min_eq_left, Nat.min_eq_right, if_pos, if_neg, getD_map, wrapI64, modIn, fdivE, tmodE, tdivE, decT, decF, beqT, beqF, bneT, bneF, Int.toNat_natCast]; try simp only [go_sem]) | (refine ev_condTb rfl ?_ ?_; · (simp <;> omega)) | (refine ev_condFb rfl ?_ ?_; · (simp <;> omega)) | ((first | refine ev_region ?_ | refine evr_go rfl ?_ | refine evw_go rfl ?_ | refine ev_dr0 mixed rfl (by kernel_rfl) ?_ | refine ev_dr1 mixed rfl (by kernel_rfl) ?_ | refine ev_dr2 mixed rfl (by kernel_rfl) ?_); simp only [go_sem]))
      refine ev_next 0 (hJ _ (⟨k + 1, hlt, hS⟩) (by first | omega | (dsimp only; omega) | (simp; omega))) rfl (by simp) ?_ (by first | rfl | (simp only [go_sem]; done)) (by first | rfl | (simp only [go_sem]; done)) ?_
      · (first | rfl | (simp only [go_sem]; done) | (simp only [go_sem]; simp only [hlt]; done) | (simp only [go_sem]; simp [hlt]; done) | (simp [hlt]; done))
      · (simp only [go_sem]; (repeat' (refine And.intro ?_ ?_)) <;> first | exact trivial | with_reducible rfl | (simp only [hlt]; done) | (simp only [hlt]; with_reducible rfl) | (simp [hlt]; done) | (simp [hlt]; omega) | (simp only [hlt]; rfl) | skip)
  obtain rfl : k = raw.length := by omega
  repeat (first | refine And.intro (by omega) ?_ | refine And.intro rfl ?_ | refine ev_ctl rfl rfl ?_ | refine evr_nil ?_ | refine evw_nil (by kernel_rfl) ?_ | (simp (disch := omega) only [takeAll, Nat.min_eq_left, Nat.min_eq_right, if_pos, if_neg, getD_map, wrapI64, modIn, fdivE, tmodE, tdivE, decT, decF, beqT, beqF, bneT, bneF, Int.toNat_natCast]; try simp only [go_sem]) | (refine ev_condTb rfl ?_ ?_; · (simp <;> omega)) | (refine ev_condFb rfl ?_ ?_; · (simp <;> omega)) | ((first | refine ev_region ?_ | refine evr_go rfl ?_ | refine evw_go rfl ?_ | refine ev_dr0 mixed rfl (by kernel_rfl) ?_ | refine ev_dr1 mixed rfl (by kernel_rfl) ?_ | refine ev_dr2 mixed rfl (by kernel_rfl) ?_); simp only [go_sem]))
  refine ev_loopK [0, 1, 2, 3, 4, 5, 71, 72] (fun p : {p : Nat // p ≤ inn.length ∧ ∀ j, j < p → inn[j]!.length ≤ 200} => [(73, .int .i64 p.1)]) (fun _ => []) (fun p => inn.length - p.1) (⟨0, by simp⟩) 0 (by simp only [go_sem]; rfl) ?_ (by first | rfl | (simp only [go_sem]; done)) (by simp) (by first | rfl | (simp only [go_sem]; done)) (by first | rfl | (simp only [go_sem]; done)) (by first | rfl | (simp only [go_sem]; done)) ?_
  · (simp only [go_sem]; (try simp []); done)
  intro J hJ
  rintro ⟨k, hk2, hk3⟩
  by_cases hlt : k < inn.length
  · by_cases c3 : inn[k]!.length > 200
    · skip
      repeat (first | refine And.intro (by omega) ?_ | refine And.intro rfl ?_ | refine ev_ctl rfl rfl ?_ | refine evr_nil ?_ | refine evw_nil (by kernel_rfl) ?_ | (simp (disch := omega) only [takeAll, Nat.min_eq_left, Nat.min_eq_right, if_pos, if_neg, getD_map, wrapI64, modIn, fdivE, tmodE, tdivE, decT, decF, beqT, beqF, bneT, bneF, Int.toNat_natCast]; try simp only [go_sem]) | (refine ev_condTb rfl ?_ ?_; · (simp <;> omega)) | (refine ev_condFb rfl ?_ ?_; · (simp <;> omega)) | ((first | refine ev_region ?_ | refine evr_go rfl ?_ | refine evw_go rfl ?_ | refine ev_dr0 mixed rfl (by kernel_rfl) ?_ | refine ev_dr1 mixed rfl (by kernel_rfl) ?_ | refine ev_dr2 mixed rfl (by kernel_rfl) ?_); simp only [go_sem]))
      (first | refine callD (awake18_fn) ?_ | refine callDw (awake18_fn) ?_); simp only [go_sem]
      repeat (first | refine And.intro (by omega) ?_ | refine And.intro rfl ?_ | refine ev_ctl rfl rfl ?_ | refine evr_nil ?_ | refine evw_nil (by kernel_rfl) ?_ | (simp (disch := omega) only [takeAll, Nat.min_eq_left, Nat.min_eq_right, if_pos, if_neg, getD_map, wrapI64, modIn, fdivE, tmodE, tdivE, decT, decF, beqT, beqF, bneT, bneF, Int.toNat_natCast]; try simp only [go_sem]) | (refine ev_condTb rfl ?_ ?_; · (simp <;> omega)) | (refine ev_condFb rfl ?_ ?_; · (simp <;> omega)) | ((first | refine ev_region ?_ | refine evr_go rfl ?_ | refine evw_go rfl ?_ | refine ev_dr0 mixed rfl (by kernel_rfl) ?_ | refine ev_dr1 mixed rfl (by kernel_rfl) ?_ | refine ev_dr2 mixed rfl (by kernel_rfl) ?_); simp only [go_sem]))
      refine ret m_socs_ok [] ?_; (first | (simp only [go_sem]; done) | (simp only [go_sem]; rfl))
    · have hS : ∀ j, j < k + 1 → inn[j]!.length ≤ 200 := fun j hj => by
        by_cases e : j = k
        · subst e; omega
        · exact hk3 j (by omega)
      repeat (first | refine And.intro (by omega) ?_ | refine And.intro rfl ?_ | refine ev_ctl rfl rfl ?_ | refine evr_nil ?_ | refine evw_nil (by kernel_rfl) ?_ | (simp (disch := omega) only [takeAll, Nat.min_eq_left, Nat.min_eq_right, if_pos, if_neg, getD_map, wrapI64, modIn, fdivE, tmodE, tdivE, decT, decF, beqT, beqF, bneT, bneF, Int.toNat_natCast]; try simp only [go_sem]) | (refine ev_condTb rfl ?_ ?_; · (simp <;> omega)) | (refine ev_condFb rfl ?_ ?_; · (simp <;> omega)) | ((first | refine ev_region ?_ | refine evr_go rfl ?_ | refine evw_go rfl ?_ | refine ev_dr0 mixed rfl (by kernel_rfl) ?_ | refine ev_dr1 mixed rfl (by kernel_rfl) ?_ | refine ev_dr2 mixed rfl (by kernel_rfl) ?_); simp only [go_sem]))
      refine ev_next 0 (hJ _ (⟨k + 1, hlt, hS⟩) (by first | omega | (dsimp only; omega) | (simp; omega))) rfl (by simp) ?_ (by first | rfl | (simp only [go_sem]; done)) (by first | rfl | (simp only [go_sem]; done)) ?_
      · (first | rfl | (simp only [go_sem]; done) | (simp only [go_sem]; simp only [hlt]; done) | (simp only [go_sem]; simp [hlt]; done) | (simp [hlt]; done))
      · (simp only [go_sem]; (repeat' (refine And.intro ?_ ?_)) <;> first | exact trivial | with_reducible rfl | (simp only [hlt]; done) | (simp only [hlt]; with_reducible rfl) | (simp [hlt]; done) | (simp [hlt]; omega) | (simp only [hlt]; rfl) | skip)
  obtain rfl : k = inn.length := by omega
  have sR : shortO 30 raw := fun o ho => by
    obtain ⟨i, hi, rfl⟩ := List.mem_iff_getElem.1 ho
    have := hk1 i hi
    rw [getElem!_pos raw i hi] at this
    exact this
  have hO := outl_fn l 0 8 (by omega) (by omega) (by omega)
  have kO := dou_le (l := l) (k := 0) (by omega) 8
  have nO := dou_len (l := l) (k := 0) (n := 8) (by omega)
  have sO := dou_short l 0 8
  generalize dou l 0 8 = q at hO kO nO sO
  have m0 := Int.emod_nonneg n (show (2 : Int) ≠ 0 by omega)
  have m1 := Int.emod_lt_of_pos n (show (0 : Int) < 2 by omega)
  have hM := mmod_fn n 2 (by omega)
  obtain ⟨Z, hZ, hZ2⟩ : ∃ Z : Nat, n % 2 = (Z : Int) ∧ Z ≤ 1 := ⟨(n % 2).toNat, by omega, by omega⟩
  rw [hZ] at hM
  have hZ1 : ((199 : Int) + (Z : Int)).toNat = 199 + Z := by omega
  by_cases cE : q.1.length = 0
  · skip
    repeat (first | refine And.intro (by omega) ?_ | refine And.intro rfl ?_ | refine ev_ctl rfl rfl ?_ | refine evr_nil ?_ | refine evw_nil (by kernel_rfl) ?_ | (simp (disch := omega) only [takeAll, Nat.min_eq_left, Nat.min_eq_right, if_pos, if_neg, getD_map, wrapI64, modIn, fdivE, tmodE, tdivE, decT, decF, beqT, beqF, bneT, bneF, Int.toNat_natCast]; try simp only [go_sem]) | (refine ev_condTb rfl ?_ ?_; · (simp <;> omega)) | (refine ev_condFb rfl ?_ ?_; · (simp <;> omega)) | ((first | refine ev_region ?_ | refine evr_go rfl ?_ | refine evw_go rfl ?_ | refine ev_dr0 mixed rfl (by kernel_rfl) ?_ | refine ev_dr1 mixed rfl (by kernel_rfl) ?_ | refine ev_dr2 mixed rfl (by kernel_rfl) ?_); simp only [go_sem]))
    (first | refine callX (new_fn l) ?_ | refine callXw (new_fn l) ?_); simp only [go_sem]
    repeat (first | refine And.intro (by omega) ?_ | refine And.intro rfl ?_ | refine ev_ctl rfl rfl ?_ | refine evr_nil ?_ | refine evw_nil (by kernel_rfl) ?_ | (simp (disch := omega) only [takeAll, Nat.min_eq_left, Nat.min_eq_right, if_pos, if_neg, getD_map, wrapI64, modIn, fdivE, tmodE, tdivE, decT, decF, beqT, beqF, bneT, bneF, Int.toNat_natCast]; try simp only [go_sem]) | (refine ev_condTb rfl ?_ ?_; · (simp <;> omega)) | (refine ev_condFb rfl ?_ ?_; · (simp <;> omega)) | ((first | refine ev_region ?_ | refine evr_go rfl ?_ | refine evw_go rfl ?_ | refine ev_dr0 mixed rfl (by kernel_rfl) ?_ | refine ev_dr1 mixed rfl (by kernel_rfl) ?_ | refine ev_dr2 mixed rfl (by kernel_rfl) ?_); simp only [go_sem]))
    (first | apply st_callMD (hO) rfl | apply evw_callM (hO) rfl)
    · (simp only [go_sem]; rfl)
    · rfl
    · (first | rfl | (simp only [go_sem]; done))
    · (first | rfl | (simp only [go_sem]; done) | (simp only [go_sem]; rfl))
    · (first | rfl | (simp only [go_sem]; done))
    · (first | rfl | (simp only [go_sem]; done) | (simp only [go_sem]; rfl))
    · (first | rfl | simp [V.pureT, V.pure, V.pures, pures_lo, pures_sls])
    (first | refine ev_all (fu := [(), (), (), (), (), (), (), ()]) ?_ | refine evw_all (md := []) (fu := [(), (), (), (), (), (), (), ()]) ?_); simp only [go_sem]; repeat (first | refine And.intro (by omega) ?_ | refine And.intro rfl ?_ | (simp (disch := omega) only [takeAll, Nat.min_eq_left, Nat.min_eq_right, if_pos, if_neg, getD_map, wrapI64, modIn, fdivE, tmodE, tdivE, decT, decF, beqT, beqF, bneT, bneF, Int.toNat_natCast]; try simp only [go_sem]))
    repeat (first | refine And.intro (by omega) ?_ | refine And.intro rfl ?_ | refine ev_ctl rfl rfl ?_ | refine evr_nil ?_ | refine evw_nil (by kernel_rfl) ?_ | (simp (disch := omega) only [takeAll, Nat.min_eq_left, Nat.min_eq_right, if_pos, if_neg, getD_map, wrapI64, modIn, fdivE, tmodE, tdivE, decT, decF, beqT, beqF, bneT, bneF, Int.toNat_natCast]; try simp only [go_sem]) | (refine ev_condTb rfl ?_ ?_; · (simp <;> omega)) | (refine ev_condFb rfl ?_ ?_; · (simp <;> omega)) | ((first | refine ev_region ?_ | refine evr_go rfl ?_ | refine evw_go rfl ?_ | refine ev_dr0 mixed rfl (by kernel_rfl) ?_ | refine ev_dr1 mixed rfl (by kernel_rfl) ?_ | refine ev_dr2 mixed rfl (by kernel_rfl) ?_); simp only [go_sem]))
    (first | refine callD (hM) ?_ | refine callDw (hM) ?_); simp only [go_sem]; repeat (first | refine And.intro (by omega) ?_ | refine And.intro rfl ?_ | (simp (disch := omega) only [takeAll, Nat.min_eq_left, Nat.min_eq_right, if_pos, if_neg, getD_map, wrapI64, modIn, fdivE, tmodE, tdivE, decT, decF, beqT, beqF, bneT, bneF, Int.toNat_natCast]; try simp only [go_sem]))
    repeat (first | (simp only [hZ1]; try simp only [go_sem]) | refine And.intro (by omega) ?_ | refine And.intro rfl ?_ | refine ev_ctl rfl rfl ?_ | refine evr_nil ?_ | refine evw_nil (by kernel_rfl) ?_ | (simp (disch := omega) only [takeAll, Nat.min_eq_left, Nat.min_eq_right, if_pos, if_neg, getD_map, wrapI64, modIn, fdivE, tmodE, tdivE, decT, decF, beqT, beqF, bneT, bneF, Int.toNat_natCast]; try simp only [go_sem]) | (refine ev_condTb rfl ?_ ?_; · (simp <;> omega)) | (refine ev_condFb rfl ?_ ?_; · (simp <;> omega)) | ((first | refine ev_region ?_ | refine evr_go rfl ?_ | refine evw_go rfl ?_ | refine ev_dr0 mixed rfl (by kernel_rfl) ?_ | refine ev_dr1 mixed rfl (by kernel_rfl) ?_ | refine ev_dr2 mixed rfl (by kernel_rfl) ?_); simp only [go_sem]))
    (first | refine callX (rcopy_fn q.1 (by omega) (fun o ho => Nat.le_trans (sO o ho) (by omega))) ?_ | refine callXw (rcopy_fn q.1 (by omega) (fun o ho => Nat.le_trans (sO o ho) (by omega))) ?_); simp only [go_sem]
    repeat (first | refine And.intro (by omega) ?_ | refine And.intro rfl ?_ | refine ev_ctl rfl rfl ?_ | refine evr_nil ?_ | refine evw_nil (by kernel_rfl) ?_ | (simp (disch := omega) only [takeAll, Nat.min_eq_left, Nat.min_eq_right, if_pos, if_neg, getD_map, wrapI64, modIn, fdivE, tmodE, tdivE, decT, decF, beqT, beqF, bneT, bneF, Int.toNat_natCast]; try simp only [go_sem]) | (refine ev_condTb rfl ?_ ?_; · (simp <;> omega)) | (refine ev_condFb rfl ?_ ?_; · (simp <;> omega)) | ((first | refine ev_region ?_ | refine evr_go rfl ?_ | refine evw_go rfl ?_ | refine ev_dr0 mixed rfl (by kernel_rfl) ?_ | refine ev_dr1 mixed rfl (by kernel_rfl) ?_ | refine ev_dr2 mixed rfl (by kernel_rfl) ?_); simp only [go_sem]))
    refine ev_frzSub 110 ([raw, q.1, List.replicate (199 + Z) ⟨0, 0, []⟩, q.1].map osV) rfl rfl ⟨subV_outs false false raw, subV_outs false false q.1, subV_long true _, subV_outs true true _, trivial⟩ (pures_map _ _ (fun _ => rfl)) (unif_map (f := osV) (s := 1) (fun _ => rfl) _) ?_
    have hg : ∀ x ∈ [raw, q.1, List.replicate (199 + Z) (⟨0, 0, []⟩ : Output), q.1], x.length ≤ 100000 ∧ shortO 10000 x := by
      intro x hx
      simp only [List.mem_cons, List.not_mem_nil, or_false] at hx
      rcases hx with hx | hx | hx | hx
      · rw [hx]; exact ⟨by omega, fun o ho => Nat.le_trans (sR o ho) (by omega)⟩
      · rw [hx]; exact ⟨by omega, fun o ho => Nat.le_trans (sO o ho) (by omega)⟩
      · rw [hx]; exact ⟨by simp; omega, fun o ho => by
          have := List.eq_of_mem_replicate ho
          subst this; simp⟩
      · rw [hx]; exact ⟨by omega, fun o ho => Nat.le_trans (sO o ho) (by omega)⟩
    have hLl : [raw, q.1, List.replicate (199 + Z) (⟨0, 0, []⟩ : Output), q.1].length = 4 := rfl
    generalize [raw, q.1, List.replicate (199 + Z) (⟨0, 0, []⟩ : Output), q.1] = LL at hg hLl
    refine ev_loopK [1, 2, 4, 5, 17, 110, 111] (fun p : {p : Nat × Nat // p.1 ≤ 4 ∧ p.2 ≤ l.length} => [(112, .int .i64 p.1.1)]) (fun p => [⟨.box false 62, true, 0, deckV l p.1.2⟩]) (fun p => 4 - p.1.1) (⟨(0, q.2), by simp, kO⟩) 1 (by simp only [go_sem]; rfl) ?_ (by first | rfl | (simp only [go_sem]; done)) (by simp) (by first | rfl | (simp only [go_sem]; done)) (by first | rfl | (simp only [go_sem]; done)) (by first | rfl | (simp only [go_sem]; done)) ?_
    · (simp only [go_sem]; (try simp []); done)
    intro J hJ
    rintro ⟨⟨a, k⟩, ha, hk⟩
    dsimp only at ha hk ⊢
    by_cases ca : a < 4
    · have hx := hg _ (mem_at (l := LL) (k := a) (by omega))
      have hMs := mmod_fn s 4 (by omega)
      have q0 := Int.emod_nonneg s (show (4 : Int) ≠ 0 by omega)
      have q1' := Int.emod_lt_of_pos s (show (0 : Int) < 4 by omega)
      have hJ3 := hJ
      obtain ⟨xa, hxa⟩ : ∃ xa, LL[a]! = xa := ⟨_, rfl⟩
      rw [hxa] at hx
      repeat (first | refine And.intro (by omega) ?_ | refine And.intro rfl ?_ | refine ev_ctl rfl rfl ?_ | refine evr_nil ?_ | refine evw_nil (by kernel_rfl) ?_ | (simp (disch := omega) only [takeAll, Nat.min_eq_left, Nat.min_eq_right, if_pos, if_neg, getD_map, wrapI64, modIn, fdivE, tmodE, tdivE, decT, decF, beqT, beqF, bneT, bneF, Int.toNat_natCast]; try simp only [go_sem]) | (refine ev_condTb rfl ?_ ?_; · (simp <;> omega)) | (refine ev_condFb rfl ?_ ?_; · (simp <;> omega)) | ((first | refine ev_region ?_ | refine evr_go rfl ?_ | refine evw_go rfl ?_ | refine ev_dr0 mixed rfl (by kernel_rfl) ?_ | refine ev_dr1 mixed rfl (by kernel_rfl) ?_ | refine ev_dr2 mixed rfl (by kernel_rfl) ?_); simp only [go_sem]))
      (first | refine callD (hMs) ?_ | refine callDw (hMs) ?_); simp only [go_sem]; repeat (first | refine And.intro (by omega) ?_ | refine And.intro rfl ?_ | (simp (disch := omega) only [takeAll, Nat.min_eq_left, Nat.min_eq_right, if_pos, if_neg, getD_map, wrapI64, modIn, fdivE, tmodE, tdivE, decT, decF, beqT, beqF, bneT, bneF, Int.toNat_natCast]; try simp only [go_sem]))
      repeat (first | (simp only [hxa]; try simp only [go_sem]) | refine And.intro (by omega) ?_ | refine And.intro rfl ?_ | refine ev_ctl rfl rfl ?_ | refine evr_nil ?_ | refine evw_nil (by kernel_rfl) ?_ | (simp (disch := omega) only [takeAll, Nat.min_eq_left, Nat.min_eq_right, if_pos, if_neg, getD_map, wrapI64, modIn, fdivE, tmodE, tdivE, decT, decF, beqT, beqF, bneT, bneF, Int.toNat_natCast]; try simp only [go_sem]) | (refine ev_condTb rfl ?_ ?_; · (simp <;> omega)) | (refine ev_condFb rfl ?_ ?_; · (simp <;> omega)) | ((first | refine ev_region ?_ | refine evr_go rfl ?_ | refine evw_go rfl ?_ | refine ev_dr0 mixed rfl (by kernel_rfl) ?_ | refine ev_dr1 mixed rfl (by kernel_rfl) ?_ | refine ev_dr2 mixed rfl (by kernel_rfl) ?_); simp only [go_sem]))
      refine ev_frzSub 120 (i64s [s, s % 4 - 1]) rfl rfl ⟨SubV.refl _, SubV.refl _, trivial⟩ (pures_ints _ _) (unif_map (f := V.int .i64) (s := 1) (fun _ => rfl) _) ?_
      have hKl : [s, s % 4 - 1].length = 2 := rfl
      generalize [s, s % 4 - 1] = KK at hKl
      refine ev_loopK [1, 2, 4, 5, 17, 22, 110, 111, 112, 120, 121] (fun p : {p : Nat × Nat // p.1 ≤ 2 ∧ p.2 ≤ l.length} => [(122, .int .i64 p.1.1)]) (fun p => [⟨.box false 62, true, 0, deckV l p.1.2⟩]) (fun p => 2 - p.1.1) (⟨(0, k), by simp, hk⟩) 1 (by simp only [go_sem]; rfl) ?_ (by first | rfl | (simp only [go_sem]; done)) (by simp) (by first | rfl | (simp only [go_sem]; done)) (by first | rfl | (simp only [go_sem]; done)) (by first | rfl | (simp only [go_sem]; done)) ?_
      · (simp only [go_sem]; (try simp []); done)
      intro J hJ
      rintro ⟨⟨b, k2⟩, hb, hk2⟩
      dsimp only at hb hk2 ⊢
      by_cases cb : b < 2
      · have kc := dcs_le (l := l) hk2 5
        have nc := dcs_len (l := l) (k := k2) (n := 5) (by omega)
        have fC := canons_sl l k2 5 hk2 (by omega) (by omega)
        generalize dcs l k2 5 = D at kc nc fC
        have nc : D.1.length ≤ 5 := nc
        have hZ3 : ((16 : Int) + (Z : Int)).toNat = 16 + Z := by omega
        have hJ4 := hJ
        obtain ⟨kb, hkb⟩ : ∃ kb, KK[b]! = kb := ⟨_, rfl⟩
        repeat (first | (simp only [hkb]; try simp only [go_sem]) | refine And.intro (by omega) ?_ | refine And.intro rfl ?_ | refine ev_ctl rfl rfl ?_ | refine evr_nil ?_ | refine evw_nil (by kernel_rfl) ?_ | (simp (disch := omega) only [takeAll, Nat.min_eq_left, Nat.min_eq_right, if_pos, if_neg, getD_map, wrapI64, modIn, fdivE, tmodE, tdivE, decT, decF, beqT, beqF, bneT, bneF, Int.toNat_natCast]; try simp only [go_sem]) | (refine ev_condTb rfl ?_ ?_; · (simp <;> omega)) | (refine ev_condFb rfl ?_ ?_; · (simp <;> omega)) | ((first | refine ev_region ?_ | refine evr_go rfl ?_ | refine evw_go rfl ?_ | refine ev_dr0 mixed rfl (by kernel_rfl) ?_ | refine ev_dr1 mixed rfl (by kernel_rfl) ?_ | refine ev_dr2 mixed rfl (by kernel_rfl) ?_); simp only [go_sem]))
        (first | apply st_callMD (fC) rfl | apply evw_callM (fC) rfl)
        · (simp only [go_sem]; rfl)
        · rfl
        · (first | rfl | (simp only [go_sem]; done))
        · (first | rfl | (simp only [go_sem]; done) | (simp only [go_sem]; rfl))
        · (first | rfl | (simp only [go_sem]; done))
        · (first | rfl | (simp only [go_sem]; done) | (simp only [go_sem]; rfl))
        · (first | rfl | simp [V.pureT, V.pure, V.pures, pures_lo, pures_sls])
        (first | refine ev_all (fu := [(), (), (), (), (), (), (), ()]) ?_ | refine evw_all (md := []) (fu := [(), (), (), (), (), (), (), ()]) ?_); simp only [go_sem]; repeat (first | refine And.intro (by omega) ?_ | refine And.intro rfl ?_ | (simp (disch := omega) only [takeAll, Nat.min_eq_left, Nat.min_eq_right, if_pos, if_neg, getD_map, wrapI64, modIn, fdivE, tmodE, tdivE, decT, decF, beqT, beqF, bneT, bneF, Int.toNat_natCast]; try simp only [go_sem]))
        repeat (first | refine And.intro (by omega) ?_ | refine And.intro rfl ?_ | refine ev_ctl rfl rfl ?_ | refine evr_nil ?_ | refine evw_nil (by kernel_rfl) ?_ | (simp (disch := omega) only [takeAll, Nat.min_eq_left, Nat.min_eq_right, if_pos, if_neg, getD_map, wrapI64, modIn, fdivE, tmodE, tdivE, decT, decF, beqT, beqF, bneT, bneF, Int.toNat_natCast]; try simp only [go_sem]) | (refine ev_condTb rfl ?_ ?_; · (simp <;> omega)) | (refine ev_condFb rfl ?_ ?_; · (simp <;> omega)) | ((first | refine ev_region ?_ | refine evr_go rfl ?_ | refine evw_go rfl ?_ | refine ev_dr0 mixed rfl (by kernel_rfl) ?_ | refine ev_dr1 mixed rfl (by kernel_rfl) ?_ | refine ev_dr2 mixed rfl (by kernel_rfl) ?_); simp only [go_sem]))
        (first | refine callD (hM) ?_ | refine callDw (hM) ?_); simp only [go_sem]; repeat (first | refine And.intro (by omega) ?_ | refine And.intro rfl ?_ | (simp (disch := omega) only [takeAll, Nat.min_eq_left, Nat.min_eq_right, if_pos, if_neg, getD_map, wrapI64, modIn, fdivE, tmodE, tdivE, decT, decF, beqT, beqF, bneT, bneF, Int.toNat_natCast]; try simp only [go_sem]))
        repeat (first | (simp only [hZ3]; try simp only [go_sem]) | refine And.intro (by omega) ?_ | refine And.intro rfl ?_ | refine ev_ctl rfl rfl ?_ | refine evr_nil ?_ | refine evw_nil (by kernel_rfl) ?_ | (simp (disch := omega) only [takeAll, Nat.min_eq_left, Nat.min_eq_right, if_pos, if_neg, getD_map, wrapI64, modIn, fdivE, tmodE, tdivE, decT, decF, beqT, beqF, bneT, bneF, Int.toNat_natCast]; try simp only [go_sem]) | (refine ev_condTb rfl ?_ ?_; · (simp <;> omega)) | (refine ev_condFb rfl ?_ ?_; · (simp <;> omega)) | ((first | refine ev_region ?_ | refine evr_go rfl ?_ | refine evw_go rfl ?_ | refine ev_dr0 mixed rfl (by kernel_rfl) ?_ | refine ev_dr1 mixed rfl (by kernel_rfl) ?_ | refine ev_dr2 mixed rfl (by kernel_rfl) ?_); simp only [go_sem]))
        refine ev_frzSub 133 ([data, D.1, List.replicate (16 + Z) ⟨0, 0, 0, 0⟩].map ccV) rfl rfl ⟨SubV.refl _, SubV.refl _, subV_rep true _, trivial⟩ (pures_map _ _ (fun _ => rfl)) (unif_map (f := ccV) (s := 1) (fun _ => rfl) _) ?_
        have hc : ∀ x ∈ [data, D.1, List.replicate (16 + Z) (⟨0, 0, 0, 0⟩ : Canon)], x.length ≤ 1000 := by
          intro x hx
          simp only [List.mem_cons, List.not_mem_nil, or_false] at hx
          rcases hx with hx | hx | hx
          · rw [hx]; omega
          · rw [hx]; omega
          · rw [hx]; simp; omega
        have hCl : [data, D.1, List.replicate (16 + Z) (⟨0, 0, 0, 0⟩ : Canon)].length = 3 := rfl
        generalize [data, D.1, List.replicate (16 + Z) (⟨0, 0, 0, 0⟩ : Canon)] = CC at hc hCl
        refine ev_loopK [1, 2, 4, 5, 17, 22, 24, 110, 111, 112, 120, 121, 122, 133, 134] (fun p : {p : Nat // p ≤ 3} => [(135, .int .i64 p.1)]) (fun p => [⟨.box false 62, true, 0, deckV l D.2⟩]) (fun p => 3 - p.1) (⟨0, by simp⟩) 1 (by simp only [go_sem]; rfl) ?_ (by first | rfl | (simp only [go_sem]; done)) (by simp) (by first | rfl | (simp only [go_sem]; done)) (by first | rfl | (simp only [go_sem]; done)) (by first | rfl | (simp only [go_sem]; done)) ?_
        · (simp only [go_sem]; (try simp []); done)
        intro J hJ
        rintro ⟨e, he⟩
        by_cases ce : e < 3
        · have hce := hc _ (mem_at (l := CC) (k := e) (by omega))
          have f1 := wsend_fn xa kb CC[e]! (by omega) (fun o ho => Nat.le_trans (hx.2 o ho) (by omega)) (by omega)
          have f2 := rsend_fn xa kb CC[e]! (by omega) (fun o ho => Nat.le_trans (hx.2 o ho) (by omega)) (by omega)
          generalize sSend xa kb CC[e]! = r at f1 f2
          repeat (first | refine And.intro (by omega) ?_ | refine And.intro rfl ?_ | refine ev_ctl rfl rfl ?_ | refine evr_nil ?_ | refine evw_nil (by kernel_rfl) ?_ | (simp (disch := omega) only [takeAll, Nat.min_eq_left, Nat.min_eq_right, if_pos, if_neg, getD_map, wrapI64, modIn, fdivE, tmodE, tdivE, decT, decF, beqT, beqF, bneT, bneF, Int.toNat_natCast]; try simp only [go_sem]) | (refine ev_condTb rfl ?_ ?_; · (simp <;> omega)) | (refine ev_condFb rfl ?_ ?_; · (simp <;> omega)) | ((first | refine ev_region ?_ | refine evr_go rfl ?_ | refine evw_go rfl ?_ | refine ev_dr0 mixed rfl (by kernel_rfl) ?_ | refine ev_dr1 mixed rfl (by kernel_rfl) ?_ | refine ev_dr2 mixed rfl (by kernel_rfl) ?_); simp only [go_sem]))
          (first | refine callD (f1) ?_ | refine callDw (f1) ?_); simp only [go_sem]
          repeat (first | refine And.intro (by omega) ?_ | refine And.intro rfl ?_ | refine ev_ctl rfl rfl ?_ | refine evr_nil ?_ | refine evw_nil (by kernel_rfl) ?_ | (simp (disch := omega) only [takeAll, Nat.min_eq_left, Nat.min_eq_right, if_pos, if_neg, getD_map, wrapI64, modIn, fdivE, tmodE, tdivE, decT, decF, beqT, beqF, bneT, bneF, Int.toNat_natCast]; try simp only [go_sem]) | (refine ev_condTb rfl ?_ ?_; · (simp <;> omega)) | (refine ev_condFb rfl ?_ ?_; · (simp <;> omega)) | ((first | refine ev_region ?_ | refine evr_go rfl ?_ | refine evw_go rfl ?_ | refine ev_dr0 mixed rfl (by kernel_rfl) ?_ | refine ev_dr1 mixed rfl (by kernel_rfl) ?_ | refine ev_dr2 mixed rfl (by kernel_rfl) ?_); simp only [go_sem]))
          (first | refine callD (f2) ?_ | refine callDw (f2) ?_); simp only [go_sem]
          repeat (first | refine And.intro (by omega) ?_ | refine And.intro rfl ?_ | refine ev_ctl rfl rfl ?_ | refine evr_nil ?_ | refine evw_nil (by kernel_rfl) ?_ | (simp (disch := omega) only [takeAll, Nat.min_eq_left, Nat.min_eq_right, if_pos, if_neg, getD_map, wrapI64, modIn, fdivE, tmodE, tdivE, decT, decF, beqT, beqF, bneT, bneF, Int.toNat_natCast]; try simp only [go_sem]) | (refine ev_condTb rfl ?_ ?_; · (simp <;> omega)) | (refine ev_condFb rfl ?_ ?_; · (simp <;> omega)) | ((first | refine ev_region ?_ | refine evr_go rfl ?_ | refine evw_go rfl ?_ | refine ev_dr0 mixed rfl (by kernel_rfl) ?_ | refine ev_dr1 mixed rfl (by kernel_rfl) ?_ | refine ev_dr2 mixed rfl (by kernel_rfl) ?_); simp only [go_sem]))
          (first | refine callD (rsame_refl r.1) ?_ | refine callDw (rsame_refl r.1) ?_); simp only [go_sem]
          repeat (first | refine And.intro (by omega) ?_ | refine And.intro rfl ?_ | refine ev_ctl rfl rfl ?_ | refine evr_nil ?_ | refine evw_nil (by kernel_rfl) ?_ | (simp (disch := omega) only [takeAll, Nat.min_eq_left, Nat.min_eq_right, if_pos, if_neg, getD_map, wrapI64, modIn, fdivE, tmodE, tdivE, decT, decF, beqT, beqF, bneT, bneF, Int.toNat_natCast]; try simp only [go_sem]) | (refine ev_condTb rfl ?_ ?_; · (simp <;> omega)) | (refine ev_condFb rfl ?_ ?_; · (simp <;> omega)) | ((first | refine ev_region ?_ | refine evr_go rfl ?_ | refine evw_go rfl ?_ | refine ev_dr0 mixed rfl (by kernel_rfl) ?_ | refine ev_dr1 mixed rfl (by kernel_rfl) ?_ | refine ev_dr2 mixed rfl (by kernel_rfl) ?_); simp only [go_sem]))
          refine ev_next 1 (hJ _ (⟨e + 1, ce⟩) (by first | omega | (dsimp only; omega) | (simp; omega))) rfl (by simp) ?_ (by first | rfl | (simp only [go_sem]; done)) (by first | rfl | (simp only [go_sem]; done)) ?_
          · (first | rfl | (simp only [go_sem]; done) | (simp only [go_sem]; simp only []; done) | (simp only [go_sem]; simp []; done) | (simp []; done))
          · (simp only [go_sem]; (repeat' (refine And.intro ?_ ?_)) <;> first | exact trivial | with_reducible rfl | (simp only []; done) | (simp only []; with_reducible rfl) | (simp []; done) | (simp []; omega) | (simp only []; rfl) | skip)
        · obtain rfl : e = 3 := by omega
          have hJ := hJ4
          have f3 := wstream_fn xa kb (by omega) hx.2
          have f4 := rstream_fn xa kb (by omega) hx.2
          generalize strm xa kb = S1 at f3 f4
          repeat (first | refine And.intro (by omega) ?_ | refine And.intro rfl ?_ | refine ev_ctl rfl rfl ?_ | refine evr_nil ?_ | refine evw_nil (by kernel_rfl) ?_ | (simp (disch := omega) only [takeAll, Nat.min_eq_left, Nat.min_eq_right, if_pos, if_neg, getD_map, wrapI64, modIn, fdivE, tmodE, tdivE, decT, decF, beqT, beqF, bneT, bneF, Int.toNat_natCast]; try simp only [go_sem]) | (refine ev_condTb rfl ?_ ?_; · (simp <;> omega)) | (refine ev_condFb rfl ?_ ?_; · (simp <;> omega)) | ((first | refine ev_region ?_ | refine evr_go rfl ?_ | refine evw_go rfl ?_ | refine ev_dr0 mixed rfl (by kernel_rfl) ?_ | refine ev_dr1 mixed rfl (by kernel_rfl) ?_ | refine ev_dr2 mixed rfl (by kernel_rfl) ?_); simp only [go_sem]))
          (first | refine callD (f3) ?_ | refine callDw (f3) ?_); simp only [go_sem]
          repeat (first | refine And.intro (by omega) ?_ | refine And.intro rfl ?_ | refine ev_ctl rfl rfl ?_ | refine evr_nil ?_ | refine evw_nil (by kernel_rfl) ?_ | (simp (disch := omega) only [takeAll, Nat.min_eq_left, Nat.min_eq_right, if_pos, if_neg, getD_map, wrapI64, modIn, fdivE, tmodE, tdivE, decT, decF, beqT, beqF, bneT, bneF, Int.toNat_natCast]; try simp only [go_sem]) | (refine ev_condTb rfl ?_ ?_; · (simp <;> omega)) | (refine ev_condFb rfl ?_ ?_; · (simp <;> omega)) | ((first | refine ev_region ?_ | refine evr_go rfl ?_ | refine evw_go rfl ?_ | refine ev_dr0 mixed rfl (by kernel_rfl) ?_ | refine ev_dr1 mixed rfl (by kernel_rfl) ?_ | refine ev_dr2 mixed rfl (by kernel_rfl) ?_); simp only [go_sem]))
          (first | refine callD (f4) ?_ | refine callDw (f4) ?_); simp only [go_sem]
          repeat (first | refine And.intro (by omega) ?_ | refine And.intro rfl ?_ | refine ev_ctl rfl rfl ?_ | refine evr_nil ?_ | refine evw_nil (by kernel_rfl) ?_ | (simp (disch := omega) only [takeAll, Nat.min_eq_left, Nat.min_eq_right, if_pos, if_neg, getD_map, wrapI64, modIn, fdivE, tmodE, tdivE, decT, decF, beqT, beqF, bneT, bneF, Int.toNat_natCast]; try simp only [go_sem]) | (refine ev_condTb rfl ?_ ?_; · (simp <;> omega)) | (refine ev_condFb rfl ?_ ?_; · (simp <;> omega)) | ((first | refine ev_region ?_ | refine evr_go rfl ?_ | refine evw_go rfl ?_ | refine ev_dr0 mixed rfl (by kernel_rfl) ?_ | refine ev_dr1 mixed rfl (by kernel_rfl) ?_ | refine ev_dr2 mixed rfl (by kernel_rfl) ?_); simp only [go_sem]))
          (first | refine callD (scanon_refl S1) ?_ | refine callDw (scanon_refl S1) ?_); simp only [go_sem]
          repeat (first | refine And.intro (by omega) ?_ | refine And.intro rfl ?_ | refine ev_ctl rfl rfl ?_ | refine evr_nil ?_ | refine evw_nil (by kernel_rfl) ?_ | (simp (disch := omega) only [takeAll, Nat.min_eq_left, Nat.min_eq_right, if_pos, if_neg, getD_map, wrapI64, modIn, fdivE, tmodE, tdivE, decT, decF, beqT, beqF, bneT, bneF, Int.toNat_natCast]; try simp only [go_sem]) | (refine ev_condTb rfl ?_ ?_; · (simp <;> omega)) | (refine ev_condFb rfl ?_ ?_; · (simp <;> omega)) | ((first | refine ev_region ?_ | refine evr_go rfl ?_ | refine evw_go rfl ?_ | refine ev_dr0 mixed rfl (by kernel_rfl) ?_ | refine ev_dr1 mixed rfl (by kernel_rfl) ?_ | refine ev_dr2 mixed rfl (by kernel_rfl) ?_); simp only [go_sem]))
          refine ev_next 1 (hJ _ (⟨(b + 1, D.2), cb, kc⟩) (by first | omega | (dsimp only; omega) | (simp; omega))) rfl (by simp) ?_ (by first | rfl | (simp only [go_sem]; done)) (by first | rfl | (simp only [go_sem]; done)) ?_
          · (first | rfl | (simp only [go_sem]; done) | (simp only [go_sem]; simp only []; done) | (simp only [go_sem]; simp []; done) | (simp []; done))
          · (simp only [go_sem]; (repeat' (refine And.intro ?_ ?_)) <;> first | exact trivial | with_reducible rfl | (simp only []; done) | (simp only []; with_reducible rfl) | (simp []; done) | (simp []; omega) | (simp only []; rfl) | skip)
      · obtain rfl : b = 2 := by omega
        have hJ := hJ3
        have f5 := wordered_fn xa
        have f6 := rordered_fn xa
        generalize ordB xa = B at f5 f6
        repeat (first | refine And.intro (by omega) ?_ | refine And.intro rfl ?_ | refine ev_ctl rfl rfl ?_ | refine evr_nil ?_ | refine evw_nil (by kernel_rfl) ?_ | (simp (disch := omega) only [takeAll, Nat.min_eq_left, Nat.min_eq_right, if_pos, if_neg, getD_map, wrapI64, modIn, fdivE, tmodE, tdivE, decT, decF, beqT, beqF, bneT, bneF, Int.toNat_natCast]; try simp only [go_sem]) | (refine ev_condTb rfl ?_ ?_; · (simp <;> omega)) | (refine ev_condFb rfl ?_ ?_; · (simp <;> omega)) | ((first | refine ev_region ?_ | refine evr_go rfl ?_ | refine evw_go rfl ?_ | refine ev_dr0 mixed rfl (by kernel_rfl) ?_ | refine ev_dr1 mixed rfl (by kernel_rfl) ?_ | refine ev_dr2 mixed rfl (by kernel_rfl) ?_); simp only [go_sem]))
        (first | refine callD (f5) ?_ | refine callDw (f5) ?_); simp only [go_sem]
        repeat (first | refine And.intro (by omega) ?_ | refine And.intro rfl ?_ | refine ev_ctl rfl rfl ?_ | refine evr_nil ?_ | refine evw_nil (by kernel_rfl) ?_ | (simp (disch := omega) only [takeAll, Nat.min_eq_left, Nat.min_eq_right, if_pos, if_neg, getD_map, wrapI64, modIn, fdivE, tmodE, tdivE, decT, decF, beqT, beqF, bneT, bneF, Int.toNat_natCast]; try simp only [go_sem]) | (refine ev_condTb rfl ?_ ?_; · (simp <;> omega)) | (refine ev_condFb rfl ?_ ?_; · (simp <;> omega)) | ((first | refine ev_region ?_ | refine evr_go rfl ?_ | refine evw_go rfl ?_ | refine ev_dr0 mixed rfl (by kernel_rfl) ?_ | refine ev_dr1 mixed rfl (by kernel_rfl) ?_ | refine ev_dr2 mixed rfl (by kernel_rfl) ?_); simp only [go_sem]))
        (first | refine callD (f6) ?_ | refine callDw (f6) ?_); simp only [go_sem]
        repeat (first | refine And.intro (by omega) ?_ | refine And.intro rfl ?_ | refine ev_ctl rfl rfl ?_ | refine evr_nil ?_ | refine evw_nil (by kernel_rfl) ?_ | (simp (disch := omega) only [takeAll, Nat.min_eq_left, Nat.min_eq_right, if_pos, if_neg, getD_map, wrapI64, modIn, fdivE, tmodE, tdivE, decT, decF, beqT, beqF, bneT, bneF, Int.toNat_natCast]; try simp only [go_sem]) | (refine ev_condTb rfl ?_ ?_; · (simp <;> omega)) | (refine ev_condFb rfl ?_ ?_; · (simp <;> omega)) | ((first | refine ev_region ?_ | refine evr_go rfl ?_ | refine evw_go rfl ?_ | refine ev_dr0 mixed rfl (by kernel_rfl) ?_ | refine ev_dr1 mixed rfl (by kernel_rfl) ?_ | refine ev_dr2 mixed rfl (by kernel_rfl) ?_); simp only [go_sem]))
        refine ev_next 1 (hJ _ (⟨(a + 1, k2), ca, hk2⟩) (by first | omega | (dsimp only; omega) | (simp; omega))) rfl (by simp) ?_ (by first | rfl | (simp only [go_sem]; done)) (by first | rfl | (simp only [go_sem]; done)) ?_
        · (first | rfl | (simp only [go_sem]; done) | (simp only [go_sem]; simp only []; done) | (simp only [go_sem]; simp []; done) | (simp []; done))
        · (simp only [go_sem]; (repeat' (refine And.intro ?_ ?_)) <;> first | exact trivial | with_reducible rfl | (simp only []; done) | (simp only []; with_reducible rfl) | (simp []; done) | (simp []; omega) | (simp only []; rfl) | skip)
    · obtain rfl : a = 4 := by omega
      have hOut := outs_fn l k hk
      have z1 := dws_le hk 5
      generalize dws l k 5 = v1 at z1 hOut
      have z2 := dws_le z1 3
      generalize dws l v1.2 3 = v2 at z2 hOut
      have z3 := dws_le z2 8
      have y3 := dws_len (l := l) (k := v2.2) (n := 8) (by omega)
      generalize dws l v2.2 8 = v3 at z3 y3 hOut
      have z4 := dws_le z3 4
      have y4 := dws_len (l := l) (k := v3.2) (n := 4) (by omega)
      generalize dws l v3.2 4 = v4 at z4 y4 hOut
      have z5 := dws_le z4 5
      generalize dws l v4.2 5 = v5 at z5 hOut
      generalize dws l v5.2 5 = v6 at hOut
      have y3 : v3.1.length ≤ 8 := y3
      have y4 : v4.1.length ≤ 4 := y4
      have hMs := mmod_fn s 4 (by omega)
      have q0 := Int.emod_nonneg s (show (4 : Int) ≠ 0 by omega)
      have q1' := Int.emod_lt_of_pos s (show (0 : Int) < 4 by omega)
      have hMn := mmod_fn n 12 (by omega)
      have q2' := Int.emod_nonneg n (show (12 : Int) ≠ 0 by omega)
      have q3' := Int.emod_lt_of_pos n (show (0 : Int) < 12 by omega)
      repeat (first | refine And.intro (by omega) ?_ | refine And.intro rfl ?_ | refine ev_ctl rfl rfl ?_ | refine evr_nil ?_ | refine evw_nil (by kernel_rfl) ?_ | (simp (disch := omega) only [takeAll, Nat.min_eq_left, Nat.min_eq_right, if_pos, if_neg, getD_map, wrapI64, modIn, fdivE, tmodE, tdivE, decT, decF, beqT, beqF, bneT, bneF, Int.toNat_natCast]; try simp only [go_sem]) | (refine ev_condTb rfl ?_ ?_; · (simp <;> omega)) | (refine ev_condFb rfl ?_ ?_; · (simp <;> omega)) | ((first | refine ev_region ?_ | refine evr_go rfl ?_ | refine evw_go rfl ?_ | refine ev_dr0 mixed rfl (by kernel_rfl) ?_ | refine ev_dr1 mixed rfl (by kernel_rfl) ?_ | refine ev_dr2 mixed rfl (by kernel_rfl) ?_); simp only [go_sem]))
      (first | apply st_callMD (hOut) rfl | apply evw_callM (hOut) rfl)
      · (simp only [go_sem]; rfl)
      · rfl
      · (first | rfl | (simp only [go_sem]; done))
      · (first | rfl | (simp only [go_sem]; done) | (simp only [go_sem]; rfl))
      · (first | rfl | (simp only [go_sem]; done))
      · (first | rfl | (simp only [go_sem]; done) | (simp only [go_sem]; rfl))
      · (first | rfl | simp [V.pureT, V.pure, V.pures, pures_lo, pures_sls])
      (first | refine ev_all (fu := [(), (), (), (), (), (), (), ()]) ?_ | refine evw_all (md := []) (fu := [(), (), (), (), (), (), (), ()]) ?_); simp only [go_sem]; repeat (first | refine And.intro (by omega) ?_ | refine And.intro rfl ?_ | (simp (disch := omega) only [takeAll, Nat.min_eq_left, Nat.min_eq_right, if_pos, if_neg, getD_map, wrapI64, modIn, fdivE, tmodE, tdivE, decT, decF, beqT, beqF, bneT, bneF, Int.toNat_natCast]; try simp only [go_sem]))
      repeat (first | refine And.intro (by omega) ?_ | refine And.intro rfl ?_ | refine ev_ctl rfl rfl ?_ | refine evr_nil ?_ | refine evw_nil (by kernel_rfl) ?_ | (simp (disch := omega) only [takeAll, Nat.min_eq_left, Nat.min_eq_right, if_pos, if_neg, getD_map, wrapI64, modIn, fdivE, tmodE, tdivE, decT, decF, beqT, beqF, bneT, bneF, Int.toNat_natCast]; try simp only [go_sem]) | (refine ev_condTb rfl ?_ ?_; · (simp <;> omega)) | (refine ev_condFb rfl ?_ ?_; · (simp <;> omega)) | ((first | refine ev_region ?_ | refine evr_go rfl ?_ | refine evw_go rfl ?_ | refine ev_dr0 mixed rfl (by kernel_rfl) ?_ | refine ev_dr1 mixed rfl (by kernel_rfl) ?_ | refine ev_dr2 mixed rfl (by kernel_rfl) ?_); simp only [go_sem]))
      refine ev_frzSub 190 ([inn, [v3.1, v4.1]].map isV) rfl rfl ⟨SubV.refl _, SubV.refl _, trivial⟩ (pures_map _ _ (fun _ => rfl)) (unif_map (f := isV) (s := 1) (fun _ => rfl) _) ?_
      have hI : ∀ x ∈ [inn, [v3.1, v4.1]], x.length ≤ 1000 ∧ ∀ w ∈ x, w.length ≤ 100000 := by
        intro x hx
        simp only [List.mem_cons, List.not_mem_nil, or_false] at hx
        rcases hx with hx | hx
        · rw [hx]
          exact ⟨by omega, fun w hw => by
            obtain ⟨i, hi, rfl⟩ := List.mem_iff_getElem.1 hw
            have := hk3 i hi
            rw [getElem!_pos inn i hi] at this
            omega⟩
        · rw [hx]
          exact ⟨by simp, fun w hw => by
            simp only [List.mem_cons, List.not_mem_nil, or_false] at hw
            rcases hw with hw | hw
            · rw [hw]; omega
            · rw [hw]; omega⟩
      have hIl : [inn, [v3.1, v4.1]].length = 2 := rfl
      generalize [inn, [v3.1, v4.1]] = II at hI hIl
      refine ev_loopK [4, 5, 190, 191] (fun p : {p : Nat // p ≤ 2} => [(192, .int .i64 p.1)]) (fun _ => []) (fun p => 2 - p.1) (⟨0, by simp⟩) 0 (by simp only [go_sem]; rfl) ?_ (by first | rfl | (simp only [go_sem]; done)) (by simp) (by first | rfl | (simp only [go_sem]; done)) (by first | rfl | (simp only [go_sem]; done)) (by first | rfl | (simp only [go_sem]; done)) ?_
      · (simp only [go_sem]; (try simp []); done)
      intro J hJ
      rintro ⟨a, ha⟩
      by_cases ca' : a < 2
      · have hx := hI _ (mem_at (l := II) (k := a) (by omega))
        obtain ⟨xa, hxa⟩ : ∃ xa, II[a]! = xa := ⟨_, rfl⟩
        rw [hxa] at hx
        have hJ3 := hJ
        repeat (first | (simp only [hxa]; try simp only [go_sem]) | refine And.intro (by omega) ?_ | refine And.intro rfl ?_ | refine ev_ctl rfl rfl ?_ | refine evr_nil ?_ | refine evw_nil (by kernel_rfl) ?_ | (simp (disch := omega) only [takeAll, Nat.min_eq_left, Nat.min_eq_right, if_pos, if_neg, getD_map, wrapI64, modIn, fdivE, tmodE, tdivE, decT, decF, beqT, beqF, bneT, bneF, Int.toNat_natCast]; try simp only [go_sem]) | (refine ev_condTb rfl ?_ ?_; · (simp <;> omega)) | (refine ev_condFb rfl ?_ ?_; · (simp <;> omega)) | ((first | refine ev_region ?_ | refine evr_go rfl ?_ | refine evw_go rfl ?_ | refine ev_dr0 mixed rfl (by kernel_rfl) ?_ | refine ev_dr1 mixed rfl (by kernel_rfl) ?_ | refine ev_dr2 mixed rfl (by kernel_rfl) ?_); simp only [go_sem]))
        (first | refine callD (hMs) ?_ | refine callDw (hMs) ?_); simp only [go_sem]
        repeat (first | refine And.intro (by omega) ?_ | refine And.intro rfl ?_ | refine ev_ctl rfl rfl ?_ | refine evr_nil ?_ | refine evw_nil (by kernel_rfl) ?_ | (simp (disch := omega) only [takeAll, Nat.min_eq_left, Nat.min_eq_right, if_pos, if_neg, getD_map, wrapI64, modIn, fdivE, tmodE, tdivE, decT, decF, beqT, beqF, bneT, bneF, Int.toNat_natCast]; try simp only [go_sem]) | (refine ev_condTb rfl ?_ ?_; · (simp <;> omega)) | (refine ev_condFb rfl ?_ ?_; · (simp <;> omega)) | ((first | refine ev_region ?_ | refine evr_go rfl ?_ | refine evw_go rfl ?_ | refine ev_dr0 mixed rfl (by kernel_rfl) ?_ | refine ev_dr1 mixed rfl (by kernel_rfl) ?_ | refine ev_dr2 mixed rfl (by kernel_rfl) ?_); simp only [go_sem]))
        (first | refine callD (hMn) ?_ | refine callDw (hMn) ?_); simp only [go_sem]
        repeat (first | refine And.intro (by omega) ?_ | refine And.intro rfl ?_ | refine ev_ctl rfl rfl ?_ | refine evr_nil ?_ | refine evw_nil (by kernel_rfl) ?_ | (simp (disch := omega) only [takeAll, Nat.min_eq_left, Nat.min_eq_right, if_pos, if_neg, getD_map, wrapI64, modIn, fdivE, tmodE, tdivE, decT, decF, beqT, beqF, bneT, bneF, Int.toNat_natCast]; try simp only [go_sem]) | (refine ev_condTb rfl ?_ ?_; · (simp <;> omega)) | (refine ev_condFb rfl ?_ ?_; · (simp <;> omega)) | ((first | refine ev_region ?_ | refine evr_go rfl ?_ | refine evw_go rfl ?_ | refine ev_dr0 mixed rfl (by kernel_rfl) ?_ | refine ev_dr1 mixed rfl (by kernel_rfl) ?_ | refine ev_dr2 mixed rfl (by kernel_rfl) ?_); simp only [go_sem]))
        refine ev_frzSub 206 ([[s, n], [s % 4 - 1, n % 12 - 1]].map jsV) rfl rfl ⟨subV_flag _ _ _, subV_flag _ _ _, trivial⟩ (pures_map _ _ (fun _ => rfl)) (unif_map (f := jsV) (s := 1) (fun _ => rfl) _) ?_
        have hj : ∀ x ∈ [[s, n], [s % 4 - 1, n % 12 - 1]], x.length = 2 := by
          intro x hx
          simp only [List.mem_cons, List.not_mem_nil, or_false] at hx
          rcases hx with hx | hx <;> rw [hx] <;> rfl
        have hjl : [[s, n], [s % 4 - 1, n % 12 - 1]].length = 2 := rfl
        generalize [[s, n], [s % 4 - 1, n % 12 - 1]] = JJ at hj hjl
        refine ev_loopK [4, 5, 35, 190, 191, 192, 206, 207] (fun p : {p : Nat // p ≤ 2} => [(208, .int .i64 p.1)]) (fun _ => []) (fun p => 2 - p.1) (⟨0, by simp⟩) 0 (by simp only [go_sem]; rfl) ?_ (by first | rfl | (simp only [go_sem]; done)) (by simp) (by first | rfl | (simp only [go_sem]; done)) (by first | rfl | (simp only [go_sem]; done)) (by first | rfl | (simp only [go_sem]; done)) ?_
        · (simp only [go_sem]; (try simp []); done)
        intro J hJ
        rintro ⟨b, hb⟩
        by_cases cb : b < 2
        · have hkl := hj _ (mem_at (l := JJ) (k := b) (by omega))
          obtain ⟨kb, hkb⟩ : ∃ kb, JJ[b]! = kb := ⟨_, rfl⟩
          rw [hkb] at hkl
          have f1 := recvG_fn xa kb[0]! kb[1]! hx.1 hx.2
          have f2 := rrecvG_fn xa kb[0]! kb[1]! hx.1 hx.2
          have hr := sRecv_len hx.2 kb[0]! kb[1]!
          have hrn := sRecv_num xa kb[0]! kb[1]!
          have hrm := hx.1
          generalize sRecv xa kb[0]! kb[1]! = r at f1 f2 hr hrn
          have hrl : r.1.length ≤ 1000 := by omega
          have hJ4 := hJ
          repeat (first | (simp only [hkb]; try simp only [go_sem]) | refine And.intro (by omega) ?_ | refine And.intro rfl ?_ | refine ev_ctl rfl rfl ?_ | refine evr_nil ?_ | refine evw_nil (by kernel_rfl) ?_ | (simp (disch := omega) only [takeAll, Nat.min_eq_left, Nat.min_eq_right, if_pos, if_neg, getD_map, wrapI64, modIn, fdivE, tmodE, tdivE, decT, decF, beqT, beqF, bneT, bneF, Int.toNat_natCast]; try simp only [go_sem]) | (refine ev_condTb rfl ?_ ?_; · (simp <;> omega)) | (refine ev_condFb rfl ?_ ?_; · (simp <;> omega)) | ((first | refine ev_region ?_ | refine evr_go rfl ?_ | refine evw_go rfl ?_ | refine ev_dr0 mixed rfl (by kernel_rfl) ?_ | refine ev_dr1 mixed rfl (by kernel_rfl) ?_ | refine ev_dr2 mixed rfl (by kernel_rfl) ?_); simp only [go_sem]))
          (first | refine callD (f1) ?_ | refine callDw (f1) ?_); simp only [go_sem]
          repeat (first | refine And.intro (by omega) ?_ | refine And.intro rfl ?_ | refine ev_ctl rfl rfl ?_ | refine evr_nil ?_ | refine evw_nil (by kernel_rfl) ?_ | (simp (disch := omega) only [takeAll, Nat.min_eq_left, Nat.min_eq_right, if_pos, if_neg, getD_map, wrapI64, modIn, fdivE, tmodE, tdivE, decT, decF, beqT, beqF, bneT, bneF, Int.toNat_natCast]; try simp only [go_sem]) | (refine ev_condTb rfl ?_ ?_; · (simp <;> omega)) | (refine ev_condFb rfl ?_ ?_; · (simp <;> omega)) | ((first | refine ev_region ?_ | refine evr_go rfl ?_ | refine evw_go rfl ?_ | refine ev_dr0 mixed rfl (by kernel_rfl) ?_ | refine ev_dr1 mixed rfl (by kernel_rfl) ?_ | refine ev_dr2 mixed rfl (by kernel_rfl) ?_); simp only [go_sem]))
          (first | refine callD (f2) ?_ | refine callDw (f2) ?_); simp only [go_sem]
          repeat (first | refine And.intro (by omega) ?_ | refine And.intro rfl ?_ | refine ev_ctl rfl rfl ?_ | refine evr_nil ?_ | refine evw_nil (by kernel_rfl) ?_ | (simp (disch := omega) only [takeAll, Nat.min_eq_left, Nat.min_eq_right, if_pos, if_neg, getD_map, wrapI64, modIn, fdivE, tmodE, tdivE, decT, decF, beqT, beqF, bneT, bneF, Int.toNat_natCast]; try simp only [go_sem]) | (refine ev_condTb rfl ?_ ?_; · (simp <;> omega)) | (refine ev_condFb rfl ?_ ?_; · (simp <;> omega)) | ((first | refine ev_region ?_ | refine evr_go rfl ?_ | refine evw_go rfl ?_ | refine ev_dr0 mixed rfl (by kernel_rfl) ?_ | refine ev_dr1 mixed rfl (by kernel_rfl) ?_ | refine ev_dr2 mixed rfl (by kernel_rfl) ?_); simp only [go_sem]))
          (first | refine callD (scanon_refl r.2.1) ?_ | refine callDw (scanon_refl r.2.1) ?_); simp only [go_sem]
          repeat (first | refine And.intro (by omega) ?_ | refine And.intro rfl ?_ | refine ev_ctl rfl rfl ?_ | refine evr_nil ?_ | refine evw_nil (by kernel_rfl) ?_ | (simp (disch := omega) only [takeAll, Nat.min_eq_left, Nat.min_eq_right, if_pos, if_neg, getD_map, wrapI64, modIn, fdivE, tmodE, tdivE, decT, decF, beqT, beqF, bneT, bneF, Int.toNat_natCast]; try simp only [go_sem]) | (refine ev_condTb rfl ?_ ?_; · (simp <;> omega)) | (refine ev_condFb rfl ?_ ?_; · (simp <;> omega)) | ((first | refine ev_region ?_ | refine evr_go rfl ?_ | refine evw_go rfl ?_ | refine ev_dr0 mixed rfl (by kernel_rfl) ?_ | refine ev_dr1 mixed rfl (by kernel_rfl) ?_ | refine ev_dr2 mixed rfl (by kernel_rfl) ?_); simp only [go_sem]))
          refine ev_loopK [4, 5, 35, 38, 41, 190, 191, 192, 206, 207, 208, 253] (fun p : {p : Nat // p ≤ r.1.length} => [(254, .int .i64 p.1)]) (fun _ => []) (fun p => r.1.length - p.1) (⟨0, by simp⟩) 0 (by simp only [go_sem]; rfl) ?_ (by first | rfl | (simp only [go_sem]; done)) (by simp) (by first | rfl | (simp only [go_sem]; done)) (by first | rfl | (simp only [go_sem]; done)) (by first | rfl | (simp only [go_sem]; done)) ?_
          · (simp only [go_sem]; (try simp []); done)
          intro J hJ
          rintro ⟨j, hj'⟩
          by_cases cj : j < r.1.length
          · have := hr _ (mem_at cj)
            repeat (first | refine And.intro (by omega) ?_ | refine And.intro rfl ?_ | refine ev_ctl rfl rfl ?_ | refine evr_nil ?_ | refine evw_nil (by kernel_rfl) ?_ | (simp (disch := omega) only [takeAll, Nat.min_eq_left, Nat.min_eq_right, if_pos, if_neg, getD_map, wrapI64, modIn, fdivE, tmodE, tdivE, decT, decF, beqT, beqF, bneT, bneF, Int.toNat_natCast]; try simp only [go_sem]) | (refine ev_condTb rfl ?_ ?_; · (simp <;> omega)) | (refine ev_condFb rfl ?_ ?_; · (simp <;> omega)) | ((first | refine ev_region ?_ | refine evr_go rfl ?_ | refine evw_go rfl ?_ | refine ev_dr0 mixed rfl (by kernel_rfl) ?_ | refine ev_dr1 mixed rfl (by kernel_rfl) ?_ | refine ev_dr2 mixed rfl (by kernel_rfl) ?_); simp only [go_sem]))
            (first | refine callD (samew_fn r.1[j]! (by omega)) ?_ | refine callDw (samew_fn r.1[j]! (by omega)) ?_); simp only [go_sem]
            repeat (first | refine And.intro (by omega) ?_ | refine And.intro rfl ?_ | refine ev_ctl rfl rfl ?_ | refine evr_nil ?_ | refine evw_nil (by kernel_rfl) ?_ | (simp (disch := omega) only [takeAll, Nat.min_eq_left, Nat.min_eq_right, if_pos, if_neg, getD_map, wrapI64, modIn, fdivE, tmodE, tdivE, decT, decF, beqT, beqF, bneT, bneF, Int.toNat_natCast]; try simp only [go_sem]) | (refine ev_condTb rfl ?_ ?_; · (simp <;> omega)) | (refine ev_condFb rfl ?_ ?_; · (simp <;> omega)) | ((first | refine ev_region ?_ | refine evr_go rfl ?_ | refine evw_go rfl ?_ | refine ev_dr0 mixed rfl (by kernel_rfl) ?_ | refine ev_dr1 mixed rfl (by kernel_rfl) ?_ | refine ev_dr2 mixed rfl (by kernel_rfl) ?_); simp only [go_sem]))
            refine ev_next 0 (hJ _ (⟨j + 1, cj⟩) (by first | omega | (dsimp only; omega) | (simp; omega))) rfl (by simp) ?_ (by first | rfl | (simp only [go_sem]; done)) (by first | rfl | (simp only [go_sem]; done)) ?_
            · (first | rfl | (simp only [go_sem]; done) | (simp only [go_sem]; simp only []; done) | (simp only [go_sem]; simp []; done) | (simp []; done))
            · (simp only [go_sem]; (repeat' (refine And.intro ?_ ?_)) <;> first | exact trivial | with_reducible rfl | (simp only []; done) | (simp only []; with_reducible rfl) | (simp []; done) | (simp []; omega) | (simp only []; rfl) | skip)
          · obtain rfl : j = r.1.length := by omega
            have hJ := hJ4
            repeat (first | refine And.intro (by omega) ?_ | refine And.intro rfl ?_ | refine ev_ctl rfl rfl ?_ | refine evr_nil ?_ | refine evw_nil (by kernel_rfl) ?_ | (simp (disch := omega) only [takeAll, Nat.min_eq_left, Nat.min_eq_right, if_pos, if_neg, getD_map, wrapI64, modIn, fdivE, tmodE, tdivE, decT, decF, beqT, beqF, bneT, bneF, Int.toNat_natCast]; try simp only [go_sem]) | (refine ev_condTb rfl ?_ ?_; · (simp <;> omega)) | (refine ev_condFb rfl ?_ ?_; · (simp <;> omega)) | ((first | refine ev_region ?_ | refine evr_go rfl ?_ | refine evw_go rfl ?_ | refine ev_dr0 mixed rfl (by kernel_rfl) ?_ | refine ev_dr1 mixed rfl (by kernel_rfl) ?_ | refine ev_dr2 mixed rfl (by kernel_rfl) ?_); simp only [go_sem]))
            refine ev_next 0 (hJ _ (⟨b + 1, cb⟩) (by first | omega | (dsimp only; omega) | (simp; omega))) rfl (by simp) ?_ (by first | rfl | (simp only [go_sem]; done)) (by first | rfl | (simp only [go_sem]; done)) ?_
            · (first | rfl | (simp only [go_sem]; done) | (simp only [go_sem]; simp only []; done) | (simp only [go_sem]; simp []; done) | (simp []; done))
            · (simp only [go_sem]; (repeat' (refine And.intro ?_ ?_)) <;> first | exact trivial | with_reducible rfl | (simp only []; done) | (simp only []; with_reducible rfl) | (simp []; done) | (simp []; omega) | (simp only []; rfl) | skip)
        · obtain rfl : b = 2 := by omega
          have hJ := hJ3
          repeat (first | refine And.intro (by omega) ?_ | refine And.intro rfl ?_ | refine ev_ctl rfl rfl ?_ | refine evr_nil ?_ | refine evw_nil (by kernel_rfl) ?_ | (simp (disch := omega) only [takeAll, Nat.min_eq_left, Nat.min_eq_right, if_pos, if_neg, getD_map, wrapI64, modIn, fdivE, tmodE, tdivE, decT, decF, beqT, beqF, bneT, bneF, Int.toNat_natCast]; try simp only [go_sem]) | (refine ev_condTb rfl ?_ ?_; · (simp <;> omega)) | (refine ev_condFb rfl ?_ ?_; · (simp <;> omega)) | ((first | refine ev_region ?_ | refine evr_go rfl ?_ | refine evw_go rfl ?_ | refine ev_dr0 mixed rfl (by kernel_rfl) ?_ | refine ev_dr1 mixed rfl (by kernel_rfl) ?_ | refine ev_dr2 mixed rfl (by kernel_rfl) ?_); simp only [go_sem]))
          refine ev_next 0 (hJ _ (⟨a + 1, ca'⟩) (by first | omega | (dsimp only; omega) | (simp; omega))) rfl (by simp) ?_ (by first | rfl | (simp only [go_sem]; done)) (by first | rfl | (simp only [go_sem]; done)) ?_
          · (first | rfl | (simp only [go_sem]; done) | (simp only [go_sem]; simp only []; done) | (simp only [go_sem]; simp []; done) | (simp []; done))
          · (simp only [go_sem]; (repeat' (refine And.intro ?_ ?_)) <;> first | exact trivial | with_reducible rfl | (simp only []; done) | (simp only []; with_reducible rfl) | (simp []; done) | (simp []; omega) | (simp only []; rfl) | skip)
      · obtain rfl : a = 2 := by omega
        repeat (first | refine And.intro (by omega) ?_ | refine And.intro rfl ?_ | refine ev_ctl rfl rfl ?_ | refine evr_nil ?_ | refine evw_nil (by kernel_rfl) ?_ | (simp (disch := omega) only [takeAll, Nat.min_eq_left, Nat.min_eq_right, if_pos, if_neg, getD_map, wrapI64, modIn, fdivE, tmodE, tdivE, decT, decF, beqT, beqF, bneT, bneF, Int.toNat_natCast]; try simp only [go_sem]) | (refine ev_condTb rfl ?_ ?_; · (simp <;> omega)) | (refine ev_condFb rfl ?_ ?_; · (simp <;> omega)) | ((first | refine ev_region ?_ | refine evr_go rfl ?_ | refine evw_go rfl ?_ | refine ev_dr0 mixed rfl (by kernel_rfl) ?_ | refine ev_dr1 mixed rfl (by kernel_rfl) ?_ | refine ev_dr2 mixed rfl (by kernel_rfl) ?_); simp only [go_sem]))
        (first | refine callD (awake18_fn) ?_ | refine callDw (awake18_fn) ?_); simp only [go_sem]
        repeat (first | refine And.intro (by omega) ?_ | refine And.intro rfl ?_ | refine ev_ctl rfl rfl ?_ | refine evr_nil ?_ | refine evw_nil (by kernel_rfl) ?_ | (simp (disch := omega) only [takeAll, Nat.min_eq_left, Nat.min_eq_right, if_pos, if_neg, getD_map, wrapI64, modIn, fdivE, tmodE, tdivE, decT, decF, beqT, beqF, bneT, bneF, Int.toNat_natCast]; try simp only [go_sem]) | (refine ev_condTb rfl ?_ ?_; · (simp <;> omega)) | (refine ev_condFb rfl ?_ ?_; · (simp <;> omega)) | ((first | refine ev_region ?_ | refine evr_go rfl ?_ | refine evw_go rfl ?_ | refine ev_dr0 mixed rfl (by kernel_rfl) ?_ | refine ev_dr1 mixed rfl (by kernel_rfl) ?_ | refine ev_dr2 mixed rfl (by kernel_rfl) ?_); simp only [go_sem]))
        refine ret m_socs_ok [] ?_; (first | (simp only [go_sem]; done) | (simp only [go_sem]; rfl))
  · have hM2 := mmod_fn n (q.1.length : Int) (by omega)
    have u0 := Int.emod_nonneg n (show (q.1.length : Int) ≠ 0 by omega)
    have u1 := Int.emod_lt_of_pos n (show (0 : Int) < (q.1.length : Int) by omega)
    obtain ⟨ix, hix, hix2⟩ : ∃ ix : Nat, n % (q.1.length : Int) = (ix : Int) ∧ ix < q.1.length := ⟨(n % (q.1.length : Int)).toNat, by omega, by omega⟩
    rw [hix] at hM2
    repeat (first | refine And.intro (by omega) ?_ | refine And.intro rfl ?_ | refine ev_ctl rfl rfl ?_ | refine evr_nil ?_ | refine evw_nil (by kernel_rfl) ?_ | (simp (disch := omega) only [takeAll, Nat.min_eq_left, Nat.min_eq_right, if_pos, if_neg, getD_map, wrapI64, modIn, fdivE, tmodE, tdivE, decT, decF, beqT, beqF, bneT, bneF, Int.toNat_natCast]; try simp only [go_sem]) | (refine ev_condTb rfl ?_ ?_; · (simp <;> omega)) | (refine ev_condFb rfl ?_ ?_; · (simp <;> omega)) | ((first | refine ev_region ?_ | refine evr_go rfl ?_ | refine evw_go rfl ?_ | refine ev_dr0 mixed rfl (by kernel_rfl) ?_ | refine ev_dr1 mixed rfl (by kernel_rfl) ?_ | refine ev_dr2 mixed rfl (by kernel_rfl) ?_); simp only [go_sem]))
    (first | refine callX (new_fn l) ?_ | refine callXw (new_fn l) ?_); simp only [go_sem]
    repeat (first | refine And.intro (by omega) ?_ | refine And.intro rfl ?_ | refine ev_ctl rfl rfl ?_ | refine evr_nil ?_ | refine evw_nil (by kernel_rfl) ?_ | (simp (disch := omega) only [takeAll, Nat.min_eq_left, Nat.min_eq_right, if_pos, if_neg, getD_map, wrapI64, modIn, fdivE, tmodE, tdivE, decT, decF, beqT, beqF, bneT, bneF, Int.toNat_natCast]; try simp only [go_sem]) | (refine ev_condTb rfl ?_ ?_; · (simp <;> omega)) | (refine ev_condFb rfl ?_ ?_; · (simp <;> omega)) | ((first | refine ev_region ?_ | refine evr_go rfl ?_ | refine evw_go rfl ?_ | refine ev_dr0 mixed rfl (by kernel_rfl) ?_ | refine ev_dr1 mixed rfl (by kernel_rfl) ?_ | refine ev_dr2 mixed rfl (by kernel_rfl) ?_); simp only [go_sem]))
    (first | apply st_callMD (hO) rfl | apply evw_callM (hO) rfl)
    · (simp only [go_sem]; rfl)
    · rfl
    · (first | rfl | (simp only [go_sem]; done))
    · (first | rfl | (simp only [go_sem]; done) | (simp only [go_sem]; rfl))
    · (first | rfl | (simp only [go_sem]; done))
    · (first | rfl | (simp only [go_sem]; done) | (simp only [go_sem]; rfl))
    · (first | rfl | simp [V.pureT, V.pure, V.pures, pures_lo, pures_sls])
    (first | refine ev_all (fu := [(), (), (), (), (), (), (), ()]) ?_ | refine evw_all (md := []) (fu := [(), (), (), (), (), (), (), ()]) ?_); simp only [go_sem]; repeat (first | refine And.intro (by omega) ?_ | refine And.intro rfl ?_ | (simp (disch := omega) only [takeAll, Nat.min_eq_left, Nat.min_eq_right, if_pos, if_neg, getD_map, wrapI64, modIn, fdivE, tmodE, tdivE, decT, decF, beqT, beqF, bneT, bneF, Int.toNat_natCast]; try simp only [go_sem]))
    repeat (first | refine And.intro (by omega) ?_ | refine And.intro rfl ?_ | refine ev_ctl rfl rfl ?_ | refine evr_nil ?_ | refine evw_nil (by kernel_rfl) ?_ | (simp (disch := omega) only [takeAll, Nat.min_eq_left, Nat.min_eq_right, if_pos, if_neg, getD_map, wrapI64, modIn, fdivE, tmodE, tdivE, decT, decF, beqT, beqF, bneT, bneF, Int.toNat_natCast]; try simp only [go_sem]) | (refine ev_condTb rfl ?_ ?_; · (simp <;> omega)) | (refine ev_condFb rfl ?_ ?_; · (simp <;> omega)) | ((first | refine ev_region ?_ | refine evr_go rfl ?_ | refine evw_go rfl ?_ | refine ev_dr0 mixed rfl (by kernel_rfl) ?_ | refine ev_dr1 mixed rfl (by kernel_rfl) ?_ | refine ev_dr2 mixed rfl (by kernel_rfl) ?_); simp only [go_sem]))
    (first | refine callD (hM) ?_ | refine callDw (hM) ?_); simp only [go_sem]; repeat (first | refine And.intro (by omega) ?_ | refine And.intro rfl ?_ | (simp (disch := omega) only [takeAll, Nat.min_eq_left, Nat.min_eq_right, if_pos, if_neg, getD_map, wrapI64, modIn, fdivE, tmodE, tdivE, decT, decF, beqT, beqF, bneT, bneF, Int.toNat_natCast]; try simp only [go_sem]))
    repeat (first | (simp only [hZ1]; try simp only [go_sem]) | refine And.intro (by omega) ?_ | refine And.intro rfl ?_ | refine ev_ctl rfl rfl ?_ | refine evr_nil ?_ | refine evw_nil (by kernel_rfl) ?_ | (simp (disch := omega) only [takeAll, Nat.min_eq_left, Nat.min_eq_right, if_pos, if_neg, getD_map, wrapI64, modIn, fdivE, tmodE, tdivE, decT, decF, beqT, beqF, bneT, bneF, Int.toNat_natCast]; try simp only [go_sem]) | (refine ev_condTb rfl ?_ ?_; · (simp <;> omega)) | (refine ev_condFb rfl ?_ ?_; · (simp <;> omega)) | ((first | refine ev_region ?_ | refine evr_go rfl ?_ | refine evw_go rfl ?_ | refine ev_dr0 mixed rfl (by kernel_rfl) ?_ | refine ev_dr1 mixed rfl (by kernel_rfl) ?_ | refine ev_dr2 mixed rfl (by kernel_rfl) ?_); simp only [go_sem]))
    (first | refine callX (rcopy_fn q.1 (by omega) (fun o ho => Nat.le_trans (sO o ho) (by omega))) ?_ | refine callXw (rcopy_fn q.1 (by omega) (fun o ho => Nat.le_trans (sO o ho) (by omega))) ?_); simp only [go_sem]
    repeat (first | refine And.intro (by omega) ?_ | refine And.intro rfl ?_ | refine ev_ctl rfl rfl ?_ | refine evr_nil ?_ | refine evw_nil (by kernel_rfl) ?_ | (simp (disch := omega) only [takeAll, Nat.min_eq_left, Nat.min_eq_right, if_pos, if_neg, getD_map, wrapI64, modIn, fdivE, tmodE, tdivE, decT, decF, beqT, beqF, bneT, bneF, Int.toNat_natCast]; try simp only [go_sem]) | (refine ev_condTb rfl ?_ ?_; · (simp <;> omega)) | (refine ev_condFb rfl ?_ ?_; · (simp <;> omega)) | ((first | refine ev_region ?_ | refine evr_go rfl ?_ | refine evw_go rfl ?_ | refine ev_dr0 mixed rfl (by kernel_rfl) ?_ | refine ev_dr1 mixed rfl (by kernel_rfl) ?_ | refine ev_dr2 mixed rfl (by kernel_rfl) ?_); simp only [go_sem]))
    (first | refine callD (hM2) ?_ | refine callDw (hM2) ?_); simp only [go_sem]; repeat (first | refine And.intro (by omega) ?_ | refine And.intro rfl ?_ | (simp (disch := omega) only [takeAll, Nat.min_eq_left, Nat.min_eq_right, if_pos, if_neg, getD_map, wrapI64, modIn, fdivE, tmodE, tdivE, decT, decF, beqT, beqF, bneT, bneF, Int.toNat_natCast]; try simp only [go_sem]))
    repeat (first | (simp only [Int.toNat_natCast]; try simp only [go_sem]) | refine And.intro (by omega) ?_ | refine And.intro rfl ?_ | refine ev_ctl rfl rfl ?_ | refine evr_nil ?_ | refine evw_nil (by kernel_rfl) ?_ | (simp (disch := omega) only [takeAll, Nat.min_eq_left, Nat.min_eq_right, if_pos, if_neg, getD_map, wrapI64, modIn, fdivE, tmodE, tdivE, decT, decF, beqT, beqF, bneT, bneF, Int.toNat_natCast]; try simp only [go_sem]) | (refine ev_condTb rfl ?_ ?_; · (simp <;> omega)) | (refine ev_condFb rfl ?_ ?_; · (simp <;> omega)) | ((first | refine ev_region ?_ | refine evr_go rfl ?_ | refine evw_go rfl ?_ | refine ev_dr0 mixed rfl (by kernel_rfl) ?_ | refine ev_dr1 mixed rfl (by kernel_rfl) ?_ | refine ev_dr2 mixed rfl (by kernel_rfl) ?_); simp only [go_sem]))
    have hbs : (q.1.map (outputV true)).set ix (.agg [.int .i64 (IntKind.i64.wrap (q.1[ix]!.seq + 1)), .int .i64 q.1[ix]!.socket, .sl true 4 (q.1[ix]!.data.map canonV)]) = (q.1.set ix ⟨IntKind.i64.wrap (q.1[ix]!.seq + 1), q.1[ix]!.socket, q.1[ix]!.data⟩).map (outputV true) := by rw [List.map_set]
    simp only [hbs]
    have hB : (q.1.set ix ⟨IntKind.i64.wrap (q.1[ix]!.seq + 1), q.1[ix]!.socket, q.1[ix]!.data⟩).length ≤ 100000 ∧ shortO 10000 (q.1.set ix ⟨IntKind.i64.wrap (q.1[ix]!.seq + 1), q.1[ix]!.socket, q.1[ix]!.data⟩) := by
      refine ⟨by rw [List.length_set]; omega, fun o ho => ?_⟩
      rcases List.mem_or_eq_of_mem_set ho with ho | rfl
      · exact Nat.le_trans (sO o ho) (by omega)
      · exact Nat.le_trans (show q.1[ix]!.data.length ≤ _ from sO q.1[ix]! (mem_at hix2)) (by omega)
    generalize q.1.set ix ⟨IntKind.i64.wrap (q.1[ix]!.seq + 1), q.1[ix]!.socket, q.1[ix]!.data⟩ = B at hB
    refine ev_frzSub 110 ([raw, q.1, List.replicate (199 + Z) ⟨0, 0, []⟩, B].map osV) rfl rfl ⟨subV_outs false false raw, subV_outs false false q.1, subV_long true _, subV_outs true true _, trivial⟩ (pures_map _ _ (fun _ => rfl)) (unif_map (f := osV) (s := 1) (fun _ => rfl) _) ?_
    have hg : ∀ x ∈ [raw, q.1, List.replicate (199 + Z) (⟨0, 0, []⟩ : Output), B], x.length ≤ 100000 ∧ shortO 10000 x := by
      intro x hx
      simp only [List.mem_cons, List.not_mem_nil, or_false] at hx
      rcases hx with hx | hx | hx | hx
      · rw [hx]; exact ⟨by omega, fun o ho => Nat.le_trans (sR o ho) (by omega)⟩
      · rw [hx]; exact ⟨by omega, fun o ho => Nat.le_trans (sO o ho) (by omega)⟩
      · rw [hx]; exact ⟨by simp; omega, fun o ho => by
          have := List.eq_of_mem_replicate ho
          subst this; simp⟩
      · rw [hx]; exact hB
    have hLl : [raw, q.1, List.replicate (199 + Z) (⟨0, 0, []⟩ : Output), B].length = 4 := rfl
    generalize [raw, q.1, List.replicate (199 + Z) (⟨0, 0, []⟩ : Output), B] = LL at hg hLl
    refine ev_loopK [1, 2, 4, 5, 17, 110, 111] (fun p : {p : Nat × Nat // p.1 ≤ 4 ∧ p.2 ≤ l.length} => [(112, .int .i64 p.1.1)]) (fun p => [⟨.box false 62, true, 0, deckV l p.1.2⟩]) (fun p => 4 - p.1.1) (⟨(0, q.2), by simp, kO⟩) 1 (by simp only [go_sem]; rfl) ?_ (by first | rfl | (simp only [go_sem]; done)) (by simp) (by first | rfl | (simp only [go_sem]; done)) (by first | rfl | (simp only [go_sem]; done)) (by first | rfl | (simp only [go_sem]; done)) ?_
    · (simp only [go_sem]; (try simp []); done)
    intro J hJ
    rintro ⟨⟨a, k⟩, ha, hk⟩
    dsimp only at ha hk ⊢
    by_cases ca : a < 4
    · have hx := hg _ (mem_at (l := LL) (k := a) (by omega))
      have hMs := mmod_fn s 4 (by omega)
      have q0 := Int.emod_nonneg s (show (4 : Int) ≠ 0 by omega)
      have q1' := Int.emod_lt_of_pos s (show (0 : Int) < 4 by omega)
      have hJ3 := hJ
      obtain ⟨xa, hxa⟩ : ∃ xa, LL[a]! = xa := ⟨_, rfl⟩
      rw [hxa] at hx
      repeat (first | refine And.intro (by omega) ?_ | refine And.intro rfl ?_ | refine ev_ctl rfl rfl ?_ | refine evr_nil ?_ | refine evw_nil (by kernel_rfl) ?_ | (simp (disch := omega) only [takeAll, Nat.min_eq_left, Nat.min_eq_right, if_pos, if_neg, getD_map, wrapI64, modIn, fdivE, tmodE, tdivE, decT, decF, beqT, beqF, bneT, bneF, Int.toNat_natCast]; try simp only [go_sem]) | (refine ev_condTb rfl ?_ ?_; · (simp <;> omega)) | (refine ev_condFb rfl ?_ ?_; · (simp <;> omega)) | ((first | refine ev_region ?_ | refine evr_go rfl ?_ | refine evw_go rfl ?_ | refine ev_dr0 mixed rfl (by kernel_rfl) ?_ | refine ev_dr1 mixed rfl (by kernel_rfl) ?_ | refine ev_dr2 mixed rfl (by kernel_rfl) ?_); simp only [go_sem]))
      (first | refine callD (hMs) ?_ | refine callDw (hMs) ?_); simp only [go_sem]; repeat (first | refine And.intro (by omega) ?_ | refine And.intro rfl ?_ | (simp (disch := omega) only [takeAll, Nat.min_eq_left, Nat.min_eq_right, if_pos, if_neg, getD_map, wrapI64, modIn, fdivE, tmodE, tdivE, decT, decF, beqT, beqF, bneT, bneF, Int.toNat_natCast]; try simp only [go_sem]))
      repeat (first | (simp only [hxa]; try simp only [go_sem]) | refine And.intro (by omega) ?_ | refine And.intro rfl ?_ | refine ev_ctl rfl rfl ?_ | refine evr_nil ?_ | refine evw_nil (by kernel_rfl) ?_ | (simp (disch := omega) only [takeAll, Nat.min_eq_left, Nat.min_eq_right, if_pos, if_neg, getD_map, wrapI64, modIn, fdivE, tmodE, tdivE, decT, decF, beqT, beqF, bneT, bneF, Int.toNat_natCast]; try simp only [go_sem]) | (refine ev_condTb rfl ?_ ?_; · (simp <;> omega)) | (refine ev_condFb rfl ?_ ?_; · (simp <;> omega)) | ((first | refine ev_region ?_ | refine evr_go rfl ?_ | refine evw_go rfl ?_ | refine ev_dr0 mixed rfl (by kernel_rfl) ?_ | refine ev_dr1 mixed rfl (by kernel_rfl) ?_ | refine ev_dr2 mixed rfl (by kernel_rfl) ?_); simp only [go_sem]))
      refine ev_frzSub 120 (i64s [s, s % 4 - 1]) rfl rfl ⟨SubV.refl _, SubV.refl _, trivial⟩ (pures_ints _ _) (unif_map (f := V.int .i64) (s := 1) (fun _ => rfl) _) ?_
      have hKl : [s, s % 4 - 1].length = 2 := rfl
      generalize [s, s % 4 - 1] = KK at hKl
      refine ev_loopK [1, 2, 4, 5, 17, 22, 110, 111, 112, 120, 121] (fun p : {p : Nat × Nat // p.1 ≤ 2 ∧ p.2 ≤ l.length} => [(122, .int .i64 p.1.1)]) (fun p => [⟨.box false 62, true, 0, deckV l p.1.2⟩]) (fun p => 2 - p.1.1) (⟨(0, k), by simp, hk⟩) 1 (by simp only [go_sem]; rfl) ?_ (by first | rfl | (simp only [go_sem]; done)) (by simp) (by first | rfl | (simp only [go_sem]; done)) (by first | rfl | (simp only [go_sem]; done)) (by first | rfl | (simp only [go_sem]; done)) ?_
      · (simp only [go_sem]; (try simp []); done)
      intro J hJ
      rintro ⟨⟨b, k2⟩, hb, hk2⟩
      dsimp only at hb hk2 ⊢
      by_cases cb : b < 2
      · have kc := dcs_le (l := l) hk2 5
        have nc := dcs_len (l := l) (k := k2) (n := 5) (by omega)
        have fC := canons_sl l k2 5 hk2 (by omega) (by omega)
        generalize dcs l k2 5 = D at kc nc fC
        have nc : D.1.length ≤ 5 := nc
        have hZ3 : ((16 : Int) + (Z : Int)).toNat = 16 + Z := by omega
        have hJ4 := hJ
        obtain ⟨kb, hkb⟩ : ∃ kb, KK[b]! = kb := ⟨_, rfl⟩
        repeat (first | (simp only [hkb]; try simp only [go_sem]) | refine And.intro (by omega) ?_ | refine And.intro rfl ?_ | refine ev_ctl rfl rfl ?_ | refine evr_nil ?_ | refine evw_nil (by kernel_rfl) ?_ | (simp (disch := omega) only [takeAll, Nat.min_eq_left, Nat.min_eq_right, if_pos, if_neg, getD_map, wrapI64, modIn, fdivE, tmodE, tdivE, decT, decF, beqT, beqF, bneT, bneF, Int.toNat_natCast]; try simp only [go_sem]) | (refine ev_condTb rfl ?_ ?_; · (simp <;> omega)) | (refine ev_condFb rfl ?_ ?_; · (simp <;> omega)) | ((first | refine ev_region ?_ | refine evr_go rfl ?_ | refine evw_go rfl ?_ | refine ev_dr0 mixed rfl (by kernel_rfl) ?_ | refine ev_dr1 mixed rfl (by kernel_rfl) ?_ | refine ev_dr2 mixed rfl (by kernel_rfl) ?_); simp only [go_sem]))
        (first | apply st_callMD (fC) rfl | apply evw_callM (fC) rfl)
        · (simp only [go_sem]; rfl)
        · rfl
        · (first | rfl | (simp only [go_sem]; done))
        · (first | rfl | (simp only [go_sem]; done) | (simp only [go_sem]; rfl))
        · (first | rfl | (simp only [go_sem]; done))
        · (first | rfl | (simp only [go_sem]; done) | (simp only [go_sem]; rfl))
        · (first | rfl | simp [V.pureT, V.pure, V.pures, pures_lo, pures_sls])
        (first | refine ev_all (fu := [(), (), (), (), (), (), (), ()]) ?_ | refine evw_all (md := []) (fu := [(), (), (), (), (), (), (), ()]) ?_); simp only [go_sem]; repeat (first | refine And.intro (by omega) ?_ | refine And.intro rfl ?_ | (simp (disch := omega) only [takeAll, Nat.min_eq_left, Nat.min_eq_right, if_pos, if_neg, getD_map, wrapI64, modIn, fdivE, tmodE, tdivE, decT, decF, beqT, beqF, bneT, bneF, Int.toNat_natCast]; try simp only [go_sem]))
        repeat (first | refine And.intro (by omega) ?_ | refine And.intro rfl ?_ | refine ev_ctl rfl rfl ?_ | refine evr_nil ?_ | refine evw_nil (by kernel_rfl) ?_ | (simp (disch := omega) only [takeAll, Nat.min_eq_left, Nat.min_eq_right, if_pos, if_neg, getD_map, wrapI64, modIn, fdivE, tmodE, tdivE, decT, decF, beqT, beqF, bneT, bneF, Int.toNat_natCast]; try simp only [go_sem]) | (refine ev_condTb rfl ?_ ?_; · (simp <;> omega)) | (refine ev_condFb rfl ?_ ?_; · (simp <;> omega)) | ((first | refine ev_region ?_ | refine evr_go rfl ?_ | refine evw_go rfl ?_ | refine ev_dr0 mixed rfl (by kernel_rfl) ?_ | refine ev_dr1 mixed rfl (by kernel_rfl) ?_ | refine ev_dr2 mixed rfl (by kernel_rfl) ?_); simp only [go_sem]))
        (first | refine callD (hM) ?_ | refine callDw (hM) ?_); simp only [go_sem]; repeat (first | refine And.intro (by omega) ?_ | refine And.intro rfl ?_ | (simp (disch := omega) only [takeAll, Nat.min_eq_left, Nat.min_eq_right, if_pos, if_neg, getD_map, wrapI64, modIn, fdivE, tmodE, tdivE, decT, decF, beqT, beqF, bneT, bneF, Int.toNat_natCast]; try simp only [go_sem]))
        repeat (first | (simp only [hZ3]; try simp only [go_sem]) | refine And.intro (by omega) ?_ | refine And.intro rfl ?_ | refine ev_ctl rfl rfl ?_ | refine evr_nil ?_ | refine evw_nil (by kernel_rfl) ?_ | (simp (disch := omega) only [takeAll, Nat.min_eq_left, Nat.min_eq_right, if_pos, if_neg, getD_map, wrapI64, modIn, fdivE, tmodE, tdivE, decT, decF, beqT, beqF, bneT, bneF, Int.toNat_natCast]; try simp only [go_sem]) | (refine ev_condTb rfl ?_ ?_; · (simp <;> omega)) | (refine ev_condFb rfl ?_ ?_; · (simp <;> omega)) | ((first | refine ev_region ?_ | refine evr_go rfl ?_ | refine evw_go rfl ?_ | refine ev_dr0 mixed rfl (by kernel_rfl) ?_ | refine ev_dr1 mixed rfl (by kernel_rfl) ?_ | refine ev_dr2 mixed rfl (by kernel_rfl) ?_); simp only [go_sem]))
        refine ev_frzSub 133 ([data, D.1, List.replicate (16 + Z) ⟨0, 0, 0, 0⟩].map ccV) rfl rfl ⟨SubV.refl _, SubV.refl _, subV_rep true _, trivial⟩ (pures_map _ _ (fun _ => rfl)) (unif_map (f := ccV) (s := 1) (fun _ => rfl) _) ?_
        have hc : ∀ x ∈ [data, D.1, List.replicate (16 + Z) (⟨0, 0, 0, 0⟩ : Canon)], x.length ≤ 1000 := by
          intro x hx
          simp only [List.mem_cons, List.not_mem_nil, or_false] at hx
          rcases hx with hx | hx | hx
          · rw [hx]; omega
          · rw [hx]; omega
          · rw [hx]; simp; omega
        have hCl : [data, D.1, List.replicate (16 + Z) (⟨0, 0, 0, 0⟩ : Canon)].length = 3 := rfl
        generalize [data, D.1, List.replicate (16 + Z) (⟨0, 0, 0, 0⟩ : Canon)] = CC at hc hCl
        refine ev_loopK [1, 2, 4, 5, 17, 22, 24, 110, 111, 112, 120, 121, 122, 133, 134] (fun p : {p : Nat // p ≤ 3} => [(135, .int .i64 p.1)]) (fun p => [⟨.box false 62, true, 0, deckV l D.2⟩]) (fun p => 3 - p.1) (⟨0, by simp⟩) 1 (by simp only [go_sem]; rfl) ?_ (by first | rfl | (simp only [go_sem]; done)) (by simp) (by first | rfl | (simp only [go_sem]; done)) (by first | rfl | (simp only [go_sem]; done)) (by first | rfl | (simp only [go_sem]; done)) ?_
        · (simp only [go_sem]; (try simp []); done)
        intro J hJ
        rintro ⟨e, he⟩
        by_cases ce : e < 3
        · have hce := hc _ (mem_at (l := CC) (k := e) (by omega))
          have f1 := wsend_fn xa kb CC[e]! (by omega) (fun o ho => Nat.le_trans (hx.2 o ho) (by omega)) (by omega)
          have f2 := rsend_fn xa kb CC[e]! (by omega) (fun o ho => Nat.le_trans (hx.2 o ho) (by omega)) (by omega)
          generalize sSend xa kb CC[e]! = r at f1 f2
          repeat (first | refine And.intro (by omega) ?_ | refine And.intro rfl ?_ | refine ev_ctl rfl rfl ?_ | refine evr_nil ?_ | refine evw_nil (by kernel_rfl) ?_ | (simp (disch := omega) only [takeAll, Nat.min_eq_left, Nat.min_eq_right, if_pos, if_neg, getD_map, wrapI64, modIn, fdivE, tmodE, tdivE, decT, decF, beqT, beqF, bneT, bneF, Int.toNat_natCast]; try simp only [go_sem]) | (refine ev_condTb rfl ?_ ?_; · (simp <;> omega)) | (refine ev_condFb rfl ?_ ?_; · (simp <;> omega)) | ((first | refine ev_region ?_ | refine evr_go rfl ?_ | refine evw_go rfl ?_ | refine ev_dr0 mixed rfl (by kernel_rfl) ?_ | refine ev_dr1 mixed rfl (by kernel_rfl) ?_ | refine ev_dr2 mixed rfl (by kernel_rfl) ?_); simp only [go_sem]))
          (first | refine callD (f1) ?_ | refine callDw (f1) ?_); simp only [go_sem]
          repeat (first | refine And.intro (by omega) ?_ | refine And.intro rfl ?_ | refine ev_ctl rfl rfl ?_ | refine evr_nil ?_ | refine evw_nil (by kernel_rfl) ?_ | (simp (disch := omega) only [takeAll, Nat.min_eq_left, Nat.min_eq_right, if_pos, if_neg, getD_map, wrapI64, modIn, fdivE, tmodE, tdivE, decT, decF, beqT, beqF, bneT, bneF, Int.toNat_natCast]; try simp only [go_sem]) | (refine ev_condTb rfl ?_ ?_; · (simp <;> omega)) | (refine ev_condFb rfl ?_ ?_; · (simp <;> omega)) | ((first | refine ev_region ?_ | refine evr_go rfl ?_ | refine evw_go rfl ?_ | refine ev_dr0 mixed rfl (by kernel_rfl) ?_ | refine ev_dr1 mixed rfl (by kernel_rfl) ?_ | refine ev_dr2 mixed rfl (by kernel_rfl) ?_); simp only [go_sem]))
          (first | refine callD (f2) ?_ | refine callDw (f2) ?_); simp only [go_sem]
          repeat (first | refine And.intro (by omega) ?_ | refine And.intro rfl ?_ | refine ev_ctl rfl rfl ?_ | refine evr_nil ?_ | refine evw_nil (by kernel_rfl) ?_ | (simp (disch := omega) only [takeAll, Nat.min_eq_left, Nat.min_eq_right, if_pos, if_neg, getD_map, wrapI64, modIn, fdivE, tmodE, tdivE, decT, decF, beqT, beqF, bneT, bneF, Int.toNat_natCast]; try simp only [go_sem]) | (refine ev_condTb rfl ?_ ?_; · (simp <;> omega)) | (refine ev_condFb rfl ?_ ?_; · (simp <;> omega)) | ((first | refine ev_region ?_ | refine evr_go rfl ?_ | refine evw_go rfl ?_ | refine ev_dr0 mixed rfl (by kernel_rfl) ?_ | refine ev_dr1 mixed rfl (by kernel_rfl) ?_ | refine ev_dr2 mixed rfl (by kernel_rfl) ?_); simp only [go_sem]))
          (first | refine callD (rsame_refl r.1) ?_ | refine callDw (rsame_refl r.1) ?_); simp only [go_sem]
          repeat (first | refine And.intro (by omega) ?_ | refine And.intro rfl ?_ | refine ev_ctl rfl rfl ?_ | refine evr_nil ?_ | refine evw_nil (by kernel_rfl) ?_ | (simp (disch := omega) only [takeAll, Nat.min_eq_left, Nat.min_eq_right, if_pos, if_neg, getD_map, wrapI64, modIn, fdivE, tmodE, tdivE, decT, decF, beqT, beqF, bneT, bneF, Int.toNat_natCast]; try simp only [go_sem]) | (refine ev_condTb rfl ?_ ?_; · (simp <;> omega)) | (refine ev_condFb rfl ?_ ?_; · (simp <;> omega)) | ((first | refine ev_region ?_ | refine evr_go rfl ?_ | refine evw_go rfl ?_ | refine ev_dr0 mixed rfl (by kernel_rfl) ?_ | refine ev_dr1 mixed rfl (by kernel_rfl) ?_ | refine ev_dr2 mixed rfl (by kernel_rfl) ?_); simp only [go_sem]))
          refine ev_next 1 (hJ _ (⟨e + 1, ce⟩) (by first | omega | (dsimp only; omega) | (simp; omega))) rfl (by simp) ?_ (by first | rfl | (simp only [go_sem]; done)) (by first | rfl | (simp only [go_sem]; done)) ?_
          · (first | rfl | (simp only [go_sem]; done) | (simp only [go_sem]; simp only []; done) | (simp only [go_sem]; simp []; done) | (simp []; done))
          · (simp only [go_sem]; (repeat' (refine And.intro ?_ ?_)) <;> first | exact trivial | with_reducible rfl | (simp only []; done) | (simp only []; with_reducible rfl) | (simp []; done) | (simp []; omega) | (simp only []; rfl) | skip)
        · obtain rfl : e = 3 := by omega
          have hJ := hJ4
          have f3 := wstream_fn xa kb (by omega) hx.2
          have f4 := rstream_fn xa kb (by omega) hx.2
          generalize strm xa kb = S1 at f3 f4
          repeat (first | refine And.intro (by omega) ?_ | refine And.intro rfl ?_ | refine ev_ctl rfl rfl ?_ | refine evr_nil ?_ | refine evw_nil (by kernel_rfl) ?_ | (simp (disch := omega) only [takeAll, Nat.min_eq_left, Nat.min_eq_right, if_pos, if_neg, getD_map, wrapI64, modIn, fdivE, tmodE, tdivE, decT, decF, beqT, beqF, bneT, bneF, Int.toNat_natCast]; try simp only [go_sem]) | (refine ev_condTb rfl ?_ ?_; · (simp <;> omega)) | (refine ev_condFb rfl ?_ ?_; · (simp <;> omega)) | ((first | refine ev_region ?_ | refine evr_go rfl ?_ | refine evw_go rfl ?_ | refine ev_dr0 mixed rfl (by kernel_rfl) ?_ | refine ev_dr1 mixed rfl (by kernel_rfl) ?_ | refine ev_dr2 mixed rfl (by kernel_rfl) ?_); simp only [go_sem]))
          (first | refine callD (f3) ?_ | refine callDw (f3) ?_); simp only [go_sem]
          repeat (first | refine And.intro (by omega) ?_ | refine And.intro rfl ?_ | refine ev_ctl rfl rfl ?_ | refine evr_nil ?_ | refine evw_nil (by kernel_rfl) ?_ | (simp (disch := omega) only [takeAll, Nat.min_eq_left, Nat.min_eq_right, if_pos, if_neg, getD_map, wrapI64, modIn, fdivE, tmodE, tdivE, decT, decF, beqT, beqF, bneT, bneF, Int.toNat_natCast]; try simp only [go_sem]) | (refine ev_condTb rfl ?_ ?_; · (simp <;> omega)) | (refine ev_condFb rfl ?_ ?_; · (simp <;> omega)) | ((first | refine ev_region ?_ | refine evr_go rfl ?_ | refine evw_go rfl ?_ | refine ev_dr0 mixed rfl (by kernel_rfl) ?_ | refine ev_dr1 mixed rfl (by kernel_rfl) ?_ | refine ev_dr2 mixed rfl (by kernel_rfl) ?_); simp only [go_sem]))
          (first | refine callD (f4) ?_ | refine callDw (f4) ?_); simp only [go_sem]
          repeat (first | refine And.intro (by omega) ?_ | refine And.intro rfl ?_ | refine ev_ctl rfl rfl ?_ | refine evr_nil ?_ | refine evw_nil (by kernel_rfl) ?_ | (simp (disch := omega) only [takeAll, Nat.min_eq_left, Nat.min_eq_right, if_pos, if_neg, getD_map, wrapI64, modIn, fdivE, tmodE, tdivE, decT, decF, beqT, beqF, bneT, bneF, Int.toNat_natCast]; try simp only [go_sem]) | (refine ev_condTb rfl ?_ ?_; · (simp <;> omega)) | (refine ev_condFb rfl ?_ ?_; · (simp <;> omega)) | ((first | refine ev_region ?_ | refine evr_go rfl ?_ | refine evw_go rfl ?_ | refine ev_dr0 mixed rfl (by kernel_rfl) ?_ | refine ev_dr1 mixed rfl (by kernel_rfl) ?_ | refine ev_dr2 mixed rfl (by kernel_rfl) ?_); simp only [go_sem]))
          (first | refine callD (scanon_refl S1) ?_ | refine callDw (scanon_refl S1) ?_); simp only [go_sem]
          repeat (first | refine And.intro (by omega) ?_ | refine And.intro rfl ?_ | refine ev_ctl rfl rfl ?_ | refine evr_nil ?_ | refine evw_nil (by kernel_rfl) ?_ | (simp (disch := omega) only [takeAll, Nat.min_eq_left, Nat.min_eq_right, if_pos, if_neg, getD_map, wrapI64, modIn, fdivE, tmodE, tdivE, decT, decF, beqT, beqF, bneT, bneF, Int.toNat_natCast]; try simp only [go_sem]) | (refine ev_condTb rfl ?_ ?_; · (simp <;> omega)) | (refine ev_condFb rfl ?_ ?_; · (simp <;> omega)) | ((first | refine ev_region ?_ | refine evr_go rfl ?_ | refine evw_go rfl ?_ | refine ev_dr0 mixed rfl (by kernel_rfl) ?_ | refine ev_dr1 mixed rfl (by kernel_rfl) ?_ | refine ev_dr2 mixed rfl (by kernel_rfl) ?_); simp only [go_sem]))
          refine ev_next 1 (hJ _ (⟨(b + 1, D.2), cb, kc⟩) (by first | omega | (dsimp only; omega) | (simp; omega))) rfl (by simp) ?_ (by first | rfl | (simp only [go_sem]; done)) (by first | rfl | (simp only [go_sem]; done)) ?_
          · (first | rfl | (simp only [go_sem]; done) | (simp only [go_sem]; simp only []; done) | (simp only [go_sem]; simp []; done) | (simp []; done))
          · (simp only [go_sem]; (repeat' (refine And.intro ?_ ?_)) <;> first | exact trivial | with_reducible rfl | (simp only []; done) | (simp only []; with_reducible rfl) | (simp []; done) | (simp []; omega) | (simp only []; rfl) | skip)
      · obtain rfl : b = 2 := by omega
        have hJ := hJ3
        have f5 := wordered_fn xa
        have f6 := rordered_fn xa
        generalize ordB xa = B at f5 f6
        repeat (first | refine And.intro (by omega) ?_ | refine And.intro rfl ?_ | refine ev_ctl rfl rfl ?_ | refine evr_nil ?_ | refine evw_nil (by kernel_rfl) ?_ | (simp (disch := omega) only [takeAll, Nat.min_eq_left, Nat.min_eq_right, if_pos, if_neg, getD_map, wrapI64, modIn, fdivE, tmodE, tdivE, decT, decF, beqT, beqF, bneT, bneF, Int.toNat_natCast]; try simp only [go_sem]) | (refine ev_condTb rfl ?_ ?_; · (simp <;> omega)) | (refine ev_condFb rfl ?_ ?_; · (simp <;> omega)) | ((first | refine ev_region ?_ | refine evr_go rfl ?_ | refine evw_go rfl ?_ | refine ev_dr0 mixed rfl (by kernel_rfl) ?_ | refine ev_dr1 mixed rfl (by kernel_rfl) ?_ | refine ev_dr2 mixed rfl (by kernel_rfl) ?_); simp only [go_sem]))
        (first | refine callD (f5) ?_ | refine callDw (f5) ?_); simp only [go_sem]
        repeat (first | refine And.intro (by omega) ?_ | refine And.intro rfl ?_ | refine ev_ctl rfl rfl ?_ | refine evr_nil ?_ | refine evw_nil (by kernel_rfl) ?_ | (simp (disch := omega) only [takeAll, Nat.min_eq_left, Nat.min_eq_right, if_pos, if_neg, getD_map, wrapI64, modIn, fdivE, tmodE, tdivE, decT, decF, beqT, beqF, bneT, bneF, Int.toNat_natCast]; try simp only [go_sem]) | (refine ev_condTb rfl ?_ ?_; · (simp <;> omega)) | (refine ev_condFb rfl ?_ ?_; · (simp <;> omega)) | ((first | refine ev_region ?_ | refine evr_go rfl ?_ | refine evw_go rfl ?_ | refine ev_dr0 mixed rfl (by kernel_rfl) ?_ | refine ev_dr1 mixed rfl (by kernel_rfl) ?_ | refine ev_dr2 mixed rfl (by kernel_rfl) ?_); simp only [go_sem]))
        (first | refine callD (f6) ?_ | refine callDw (f6) ?_); simp only [go_sem]
        repeat (first | refine And.intro (by omega) ?_ | refine And.intro rfl ?_ | refine ev_ctl rfl rfl ?_ | refine evr_nil ?_ | refine evw_nil (by kernel_rfl) ?_ | (simp (disch := omega) only [takeAll, Nat.min_eq_left, Nat.min_eq_right, if_pos, if_neg, getD_map, wrapI64, modIn, fdivE, tmodE, tdivE, decT, decF, beqT, beqF, bneT, bneF, Int.toNat_natCast]; try simp only [go_sem]) | (refine ev_condTb rfl ?_ ?_; · (simp <;> omega)) | (refine ev_condFb rfl ?_ ?_; · (simp <;> omega)) | ((first | refine ev_region ?_ | refine evr_go rfl ?_ | refine evw_go rfl ?_ | refine ev_dr0 mixed rfl (by kernel_rfl) ?_ | refine ev_dr1 mixed rfl (by kernel_rfl) ?_ | refine ev_dr2 mixed rfl (by kernel_rfl) ?_); simp only [go_sem]))
        refine ev_next 1 (hJ _ (⟨(a + 1, k2), ca, hk2⟩) (by first | omega | (dsimp only; omega) | (simp; omega))) rfl (by simp) ?_ (by first | rfl | (simp only [go_sem]; done)) (by first | rfl | (simp only [go_sem]; done)) ?_
        · (first | rfl | (simp only [go_sem]; done) | (simp only [go_sem]; simp only []; done) | (simp only [go_sem]; simp []; done) | (simp []; done))
        · (simp only [go_sem]; (repeat' (refine And.intro ?_ ?_)) <;> first | exact trivial | with_reducible rfl | (simp only []; done) | (simp only []; with_reducible rfl) | (simp []; done) | (simp []; omega) | (simp only []; rfl) | skip)
    · obtain rfl : a = 4 := by omega
      have hOut := outs_fn l k hk
      have z1 := dws_le hk 5
      generalize dws l k 5 = v1 at z1 hOut
      have z2 := dws_le z1 3
      generalize dws l v1.2 3 = v2 at z2 hOut
      have z3 := dws_le z2 8
      have y3 := dws_len (l := l) (k := v2.2) (n := 8) (by omega)
      generalize dws l v2.2 8 = v3 at z3 y3 hOut
      have z4 := dws_le z3 4
      have y4 := dws_len (l := l) (k := v3.2) (n := 4) (by omega)
      generalize dws l v3.2 4 = v4 at z4 y4 hOut
      have z5 := dws_le z4 5
      generalize dws l v4.2 5 = v5 at z5 hOut
      generalize dws l v5.2 5 = v6 at hOut
      have y3 : v3.1.length ≤ 8 := y3
      have y4 : v4.1.length ≤ 4 := y4
      have hMs := mmod_fn s 4 (by omega)
      have q0 := Int.emod_nonneg s (show (4 : Int) ≠ 0 by omega)
      have q1' := Int.emod_lt_of_pos s (show (0 : Int) < 4 by omega)
      have hMn := mmod_fn n 12 (by omega)
      have q2' := Int.emod_nonneg n (show (12 : Int) ≠ 0 by omega)
      have q3' := Int.emod_lt_of_pos n (show (0 : Int) < 12 by omega)
      repeat (first | refine And.intro (by omega) ?_ | refine And.intro rfl ?_ | refine ev_ctl rfl rfl ?_ | refine evr_nil ?_ | refine evw_nil (by kernel_rfl) ?_ | (simp (disch := omega) only [takeAll, Nat.min_eq_left, Nat.min_eq_right, if_pos, if_neg, getD_map, wrapI64, modIn, fdivE, tmodE, tdivE, decT, decF, beqT, beqF, bneT, bneF, Int.toNat_natCast]; try simp only [go_sem]) | (refine ev_condTb rfl ?_ ?_; · (simp <;> omega)) | (refine ev_condFb rfl ?_ ?_; · (simp <;> omega)) | ((first | refine ev_region ?_ | refine evr_go rfl ?_ | refine evw_go rfl ?_ | refine ev_dr0 mixed rfl (by kernel_rfl) ?_ | refine ev_dr1 mixed rfl (by kernel_rfl) ?_ | refine ev_dr2 mixed rfl (by kernel_rfl) ?_); simp only [go_sem]))
      (first | apply st_callMD (hOut) rfl | apply evw_callM (hOut) rfl)
      · (simp only [go_sem]; rfl)
      · rfl
      · (first | rfl | (simp only [go_sem]; done))
      · (first | rfl | (simp only [go_sem]; done) | (simp only [go_sem]; rfl))
      · (first | rfl | (simp only [go_sem]; done))
      · (first | rfl | (simp only [go_sem]; done) | (simp only [go_sem]; rfl))
      · (first | rfl | simp [V.pureT, V.pure, V.pures, pures_lo, pures_sls])
      (first | refine ev_all (fu := [(), (), (), (), (), (), (), ()]) ?_ | refine evw_all (md := []) (fu := [(), (), (), (), (), (), (), ()]) ?_); simp only [go_sem]; repeat (first | refine And.intro (by omega) ?_ | refine And.intro rfl ?_ | (simp (disch := omega) only [takeAll, Nat.min_eq_left, Nat.min_eq_right, if_pos, if_neg, getD_map, wrapI64, modIn, fdivE, tmodE, tdivE, decT, decF, beqT, beqF, bneT, bneF, Int.toNat_natCast]; try simp only [go_sem]))
      repeat (first | refine And.intro (by omega) ?_ | refine And.intro rfl ?_ | refine ev_ctl rfl rfl ?_ | refine evr_nil ?_ | refine evw_nil (by kernel_rfl) ?_ | (simp (disch := omega) only [takeAll, Nat.min_eq_left, Nat.min_eq_right, if_pos, if_neg, getD_map, wrapI64, modIn, fdivE, tmodE, tdivE, decT, decF, beqT, beqF, bneT, bneF, Int.toNat_natCast]; try simp only [go_sem]) | (refine ev_condTb rfl ?_ ?_; · (simp <;> omega)) | (refine ev_condFb rfl ?_ ?_; · (simp <;> omega)) | ((first | refine ev_region ?_ | refine evr_go rfl ?_ | refine evw_go rfl ?_ | refine ev_dr0 mixed rfl (by kernel_rfl) ?_ | refine ev_dr1 mixed rfl (by kernel_rfl) ?_ | refine ev_dr2 mixed rfl (by kernel_rfl) ?_); simp only [go_sem]))
      refine ev_frzSub 190 ([inn, [v3.1, v4.1]].map isV) rfl rfl ⟨SubV.refl _, SubV.refl _, trivial⟩ (pures_map _ _ (fun _ => rfl)) (unif_map (f := isV) (s := 1) (fun _ => rfl) _) ?_
      have hI : ∀ x ∈ [inn, [v3.1, v4.1]], x.length ≤ 1000 ∧ ∀ w ∈ x, w.length ≤ 100000 := by
        intro x hx
        simp only [List.mem_cons, List.not_mem_nil, or_false] at hx
        rcases hx with hx | hx
        · rw [hx]
          exact ⟨by omega, fun w hw => by
            obtain ⟨i, hi, rfl⟩ := List.mem_iff_getElem.1 hw
            have := hk3 i hi
            rw [getElem!_pos inn i hi] at this
            omega⟩
        · rw [hx]
          exact ⟨by simp, fun w hw => by
            simp only [List.mem_cons, List.not_mem_nil, or_false] at hw
            rcases hw with hw | hw
            · rw [hw]; omega
            · rw [hw]; omega⟩
      have hIl : [inn, [v3.1, v4.1]].length = 2 := rfl
      generalize [inn, [v3.1, v4.1]] = II at hI hIl
      refine ev_loopK [4, 5, 190, 191] (fun p : {p : Nat // p ≤ 2} => [(192, .int .i64 p.1)]) (fun _ => []) (fun p => 2 - p.1) (⟨0, by simp⟩) 0 (by simp only [go_sem]; rfl) ?_ (by first | rfl | (simp only [go_sem]; done)) (by simp) (by first | rfl | (simp only [go_sem]; done)) (by first | rfl | (simp only [go_sem]; done)) (by first | rfl | (simp only [go_sem]; done)) ?_
      · (simp only [go_sem]; (try simp []); done)
      intro J hJ
      rintro ⟨a, ha⟩
      by_cases ca' : a < 2
      · have hx := hI _ (mem_at (l := II) (k := a) (by omega))
        obtain ⟨xa, hxa⟩ : ∃ xa, II[a]! = xa := ⟨_, rfl⟩
        rw [hxa] at hx
        have hJ3 := hJ
        repeat (first | (simp only [hxa]; try simp only [go_sem]) | refine And.intro (by omega) ?_ | refine And.intro rfl ?_ | refine ev_ctl rfl rfl ?_ | refine evr_nil ?_ | refine evw_nil (by kernel_rfl) ?_ | (simp (disch := omega) only [takeAll, Nat.min_eq_left, Nat.min_eq_right, if_pos, if_neg, getD_map, wrapI64, modIn, fdivE, tmodE, tdivE, decT, decF, beqT, beqF, bneT, bneF, Int.toNat_natCast]; try simp only [go_sem]) | (refine ev_condTb rfl ?_ ?_; · (simp <;> omega)) | (refine ev_condFb rfl ?_ ?_; · (simp <;> omega)) | ((first | refine ev_region ?_ | refine evr_go rfl ?_ | refine evw_go rfl ?_ | refine ev_dr0 mixed rfl (by kernel_rfl) ?_ | refine ev_dr1 mixed rfl (by kernel_rfl) ?_ | refine ev_dr2 mixed rfl (by kernel_rfl) ?_); simp only [go_sem]))
        (first | refine callD (hMs) ?_ | refine callDw (hMs) ?_); simp only [go_sem]
        repeat (first | refine And.intro (by omega) ?_ | refine And.intro rfl ?_ | refine ev_ctl rfl rfl ?_ | refine evr_nil ?_ | refine evw_nil (by kernel_rfl) ?_ | (simp (disch := omega) only [takeAll, Nat.min_eq_left, Nat.min_eq_right, if_pos, if_neg, getD_map, wrapI64, modIn, fdivE, tmodE, tdivE, decT, decF, beqT, beqF, bneT, bneF, Int.toNat_natCast]; try simp only [go_sem]) | (refine ev_condTb rfl ?_ ?_; · (simp <;> omega)) | (refine ev_condFb rfl ?_ ?_; · (simp <;> omega)) | ((first | refine ev_region ?_ | refine evr_go rfl ?_ | refine evw_go rfl ?_ | refine ev_dr0 mixed rfl (by kernel_rfl) ?_ | refine ev_dr1 mixed rfl (by kernel_rfl) ?_ | refine ev_dr2 mixed rfl (by kernel_rfl) ?_); simp only [go_sem]))
        (first | refine callD (hMn) ?_ | refine callDw (hMn) ?_); simp only [go_sem]
        repeat (first | refine And.intro (by omega) ?_ | refine And.intro rfl ?_ | refine ev_ctl rfl rfl ?_ | refine evr_nil ?_ | refine evw_nil (by kernel_rfl) ?_ | (simp (disch := omega) only [takeAll, Nat.min_eq_left, Nat.min_eq_right, if_pos, if_neg, getD_map, wrapI64, modIn, fdivE, tmodE, tdivE, decT, decF, beqT, beqF, bneT, bneF, Int.toNat_natCast]; try simp only [go_sem]) | (refine ev_condTb rfl ?_ ?_; · (simp <;> omega)) | (refine ev_condFb rfl ?_ ?_; · (simp <;> omega)) | ((first | refine ev_region ?_ | refine evr_go rfl ?_ | refine evw_go rfl ?_ | refine ev_dr0 mixed rfl (by kernel_rfl) ?_ | refine ev_dr1 mixed rfl (by kernel_rfl) ?_ | refine ev_dr2 mixed rfl (by kernel_rfl) ?_); simp only [go_sem]))
        refine ev_frzSub 206 ([[s, n], [s % 4 - 1, n % 12 - 1]].map jsV) rfl rfl ⟨subV_flag _ _ _, subV_flag _ _ _, trivial⟩ (pures_map _ _ (fun _ => rfl)) (unif_map (f := jsV) (s := 1) (fun _ => rfl) _) ?_
        have hj : ∀ x ∈ [[s, n], [s % 4 - 1, n % 12 - 1]], x.length = 2 := by
          intro x hx
          simp only [List.mem_cons, List.not_mem_nil, or_false] at hx
          rcases hx with hx | hx <;> rw [hx] <;> rfl
        have hjl : [[s, n], [s % 4 - 1, n % 12 - 1]].length = 2 := rfl
        generalize [[s, n], [s % 4 - 1, n % 12 - 1]] = JJ at hj hjl
        refine ev_loopK [4, 5, 35, 190, 191, 192, 206, 207] (fun p : {p : Nat // p ≤ 2} => [(208, .int .i64 p.1)]) (fun _ => []) (fun p => 2 - p.1) (⟨0, by simp⟩) 0 (by simp only [go_sem]; rfl) ?_ (by first | rfl | (simp only [go_sem]; done)) (by simp) (by first | rfl | (simp only [go_sem]; done)) (by first | rfl | (simp only [go_sem]; done)) (by first | rfl | (simp only [go_sem]; done)) ?_
        · (simp only [go_sem]; (try simp []); done)
        intro J hJ
        rintro ⟨b, hb⟩
        by_cases cb : b < 2
        · have hkl := hj _ (mem_at (l := JJ) (k := b) (by omega))
          obtain ⟨kb, hkb⟩ : ∃ kb, JJ[b]! = kb := ⟨_, rfl⟩
          rw [hkb] at hkl
          have f1 := recvG_fn xa kb[0]! kb[1]! hx.1 hx.2
          have f2 := rrecvG_fn xa kb[0]! kb[1]! hx.1 hx.2
          have hr := sRecv_len hx.2 kb[0]! kb[1]!
          have hrn := sRecv_num xa kb[0]! kb[1]!
          have hrm := hx.1
          generalize sRecv xa kb[0]! kb[1]! = r at f1 f2 hr hrn
          have hrl : r.1.length ≤ 1000 := by omega
          have hJ4 := hJ
          repeat (first | (simp only [hkb]; try simp only [go_sem]) | refine And.intro (by omega) ?_ | refine And.intro rfl ?_ | refine ev_ctl rfl rfl ?_ | refine evr_nil ?_ | refine evw_nil (by kernel_rfl) ?_ | (simp (disch := omega) only [takeAll, Nat.min_eq_left, Nat.min_eq_right, if_pos, if_neg, getD_map, wrapI64, modIn, fdivE, tmodE, tdivE, decT, decF, beqT, beqF, bneT, bneF, Int.toNat_natCast]; try simp only [go_sem]) | (refine ev_condTb rfl ?_ ?_; · (simp <;> omega)) | (refine ev_condFb rfl ?_ ?_; · (simp <;> omega)) | ((first | refine ev_region ?_ | refine evr_go rfl ?_ | refine evw_go rfl ?_ | refine ev_dr0 mixed rfl (by kernel_rfl) ?_ | refine ev_dr1 mixed rfl (by kernel_rfl) ?_ | refine ev_dr2 mixed rfl (by kernel_rfl) ?_); simp only [go_sem]))
          (first | refine callD (f1) ?_ | refine callDw (f1) ?_); simp only [go_sem]
          repeat (first | refine And.intro (by omega) ?_ | refine And.intro rfl ?_ | refine ev_ctl rfl rfl ?_ | refine evr_nil ?_ | refine evw_nil (by kernel_rfl) ?_ | (simp (disch := omega) only [takeAll, Nat.min_eq_left, Nat.min_eq_right, if_pos, if_neg, getD_map, wrapI64, modIn, fdivE, tmodE, tdivE, decT, decF, beqT, beqF, bneT, bneF, Int.toNat_natCast]; try simp only [go_sem]) | (refine ev_condTb rfl ?_ ?_; · (simp <;> omega)) | (refine ev_condFb rfl ?_ ?_; · (simp <;> omega)) | ((first | refine ev_region ?_ | refine evr_go rfl ?_ | refine evw_go rfl ?_ | refine ev_dr0 mixed rfl (by kernel_rfl) ?_ | refine ev_dr1 mixed rfl (by kernel_rfl) ?_ | refine ev_dr2 mixed rfl (by kernel_rfl) ?_); simp only [go_sem]))
          (first | refine callD (f2) ?_ | refine callDw (f2) ?_); simp only [go_sem]
          repeat (first | refine And.intro (by omega) ?_ | refine And.intro rfl ?_ | refine ev_ctl rfl rfl ?_ | refine evr_nil ?_ | refine evw_nil (by kernel_rfl) ?_ | (simp (disch := omega) only [takeAll, Nat.min_eq_left, Nat.min_eq_right, if_pos, if_neg, getD_map, wrapI64, modIn, fdivE, tmodE, tdivE, decT, decF, beqT, beqF, bneT, bneF, Int.toNat_natCast]; try simp only [go_sem]) | (refine ev_condTb rfl ?_ ?_; · (simp <;> omega)) | (refine ev_condFb rfl ?_ ?_; · (simp <;> omega)) | ((first | refine ev_region ?_ | refine evr_go rfl ?_ | refine evw_go rfl ?_ | refine ev_dr0 mixed rfl (by kernel_rfl) ?_ | refine ev_dr1 mixed rfl (by kernel_rfl) ?_ | refine ev_dr2 mixed rfl (by kernel_rfl) ?_); simp only [go_sem]))
          (first | refine callD (scanon_refl r.2.1) ?_ | refine callDw (scanon_refl r.2.1) ?_); simp only [go_sem]
          repeat (first | refine And.intro (by omega) ?_ | refine And.intro rfl ?_ | refine ev_ctl rfl rfl ?_ | refine evr_nil ?_ | refine evw_nil (by kernel_rfl) ?_ | (simp (disch := omega) only [takeAll, Nat.min_eq_left, Nat.min_eq_right, if_pos, if_neg, getD_map, wrapI64, modIn, fdivE, tmodE, tdivE, decT, decF, beqT, beqF, bneT, bneF, Int.toNat_natCast]; try simp only [go_sem]) | (refine ev_condTb rfl ?_ ?_; · (simp <;> omega)) | (refine ev_condFb rfl ?_ ?_; · (simp <;> omega)) | ((first | refine ev_region ?_ | refine evr_go rfl ?_ | refine evw_go rfl ?_ | refine ev_dr0 mixed rfl (by kernel_rfl) ?_ | refine ev_dr1 mixed rfl (by kernel_rfl) ?_ | refine ev_dr2 mixed rfl (by kernel_rfl) ?_); simp only [go_sem]))
          refine ev_loopK [4, 5, 35, 38, 41, 190, 191, 192, 206, 207, 208, 253] (fun p : {p : Nat // p ≤ r.1.length} => [(254, .int .i64 p.1)]) (fun _ => []) (fun p => r.1.length - p.1) (⟨0, by simp⟩) 0 (by simp only [go_sem]; rfl) ?_ (by first | rfl | (simp only [go_sem]; done)) (by simp) (by first | rfl | (simp only [go_sem]; done)) (by first | rfl | (simp only [go_sem]; done)) (by first | rfl | (simp only [go_sem]; done)) ?_
          · (simp only [go_sem]; (try simp []); done)
          intro J hJ
          rintro ⟨j, hj'⟩
          by_cases cj : j < r.1.length
          · have := hr _ (mem_at cj)
            repeat (first | refine And.intro (by omega) ?_ | refine And.intro rfl ?_ | refine ev_ctl rfl rfl ?_ | refine evr_nil ?_ | refine evw_nil (by kernel_rfl) ?_ | (simp (disch := omega) only [takeAll, Nat.min_eq_left, Nat.min_eq_right, if_pos, if_neg, getD_map, wrapI64, modIn, fdivE, tmodE, tdivE, decT, decF, beqT, beqF, bneT, bneF, Int.toNat_natCast]; try simp only [go_sem]) | (refine ev_condTb rfl ?_ ?_; · (simp <;> omega)) | (refine ev_condFb rfl ?_ ?_; · (simp <;> omega)) | ((first | refine ev_region ?_ | refine evr_go rfl ?_ | refine evw_go rfl ?_ | refine ev_dr0 mixed rfl (by kernel_rfl) ?_ | refine ev_dr1 mixed rfl (by kernel_rfl) ?_ | refine ev_dr2 mixed rfl (by kernel_rfl) ?_); simp only [go_sem]))
            (first | refine callD (samew_fn r.1[j]! (by omega)) ?_ | refine callDw (samew_fn r.1[j]! (by omega)) ?_); simp only [go_sem]
            repeat (first | refine And.intro (by omega) ?_ | refine And.intro rfl ?_ | refine ev_ctl rfl rfl ?_ | refine evr_nil ?_ | refine evw_nil (by kernel_rfl) ?_ | (simp (disch := omega) only [takeAll, Nat.min_eq_left, Nat.min_eq_right, if_pos, if_neg, getD_map, wrapI64, modIn, fdivE, tmodE, tdivE, decT, decF, beqT, beqF, bneT, bneF, Int.toNat_natCast]; try simp only [go_sem]) | (refine ev_condTb rfl ?_ ?_; · (simp <;> omega)) | (refine ev_condFb rfl ?_ ?_; · (simp <;> omega)) | ((first | refine ev_region ?_ | refine evr_go rfl ?_ | refine evw_go rfl ?_ | refine ev_dr0 mixed rfl (by kernel_rfl) ?_ | refine ev_dr1 mixed rfl (by kernel_rfl) ?_ | refine ev_dr2 mixed rfl (by kernel_rfl) ?_); simp only [go_sem]))
            refine ev_next 0 (hJ _ (⟨j + 1, cj⟩) (by first | omega | (dsimp only; omega) | (simp; omega))) rfl (by simp) ?_ (by first | rfl | (simp only [go_sem]; done)) (by first | rfl | (simp only [go_sem]; done)) ?_
            · (first | rfl | (simp only [go_sem]; done) | (simp only [go_sem]; simp only []; done) | (simp only [go_sem]; simp []; done) | (simp []; done))
            · (simp only [go_sem]; (repeat' (refine And.intro ?_ ?_)) <;> first | exact trivial | with_reducible rfl | (simp only []; done) | (simp only []; with_reducible rfl) | (simp []; done) | (simp []; omega) | (simp only []; rfl) | skip)
          · obtain rfl : j = r.1.length := by omega
            have hJ := hJ4
            repeat (first | refine And.intro (by omega) ?_ | refine And.intro rfl ?_ | refine ev_ctl rfl rfl ?_ | refine evr_nil ?_ | refine evw_nil (by kernel_rfl) ?_ | (simp (disch := omega) only [takeAll, Nat.min_eq_left, Nat.min_eq_right, if_pos, if_neg, getD_map, wrapI64, modIn, fdivE, tmodE, tdivE, decT, decF, beqT, beqF, bneT, bneF, Int.toNat_natCast]; try simp only [go_sem]) | (refine ev_condTb rfl ?_ ?_; · (simp <;> omega)) | (refine ev_condFb rfl ?_ ?_; · (simp <;> omega)) | ((first | refine ev_region ?_ | refine evr_go rfl ?_ | refine evw_go rfl ?_ | refine ev_dr0 mixed rfl (by kernel_rfl) ?_ | refine ev_dr1 mixed rfl (by kernel_rfl) ?_ | refine ev_dr2 mixed rfl (by kernel_rfl) ?_); simp only [go_sem]))
            refine ev_next 0 (hJ _ (⟨b + 1, cb⟩) (by first | omega | (dsimp only; omega) | (simp; omega))) rfl (by simp) ?_ (by first | rfl | (simp only [go_sem]; done)) (by first | rfl | (simp only [go_sem]; done)) ?_
            · (first | rfl | (simp only [go_sem]; done) | (simp only [go_sem]; simp only []; done) | (simp only [go_sem]; simp []; done) | (simp []; done))
            · (simp only [go_sem]; (repeat' (refine And.intro ?_ ?_)) <;> first | exact trivial | with_reducible rfl | (simp only []; done) | (simp only []; with_reducible rfl) | (simp []; done) | (simp []; omega) | (simp only []; rfl) | skip)
        · obtain rfl : b = 2 := by omega
          have hJ := hJ3
          repeat (first | refine And.intro (by omega) ?_ | refine And.intro rfl ?_ | refine ev_ctl rfl rfl ?_ | refine evr_nil ?_ | refine evw_nil (by kernel_rfl) ?_ | (simp (disch := omega) only [takeAll, Nat.min_eq_left, Nat.min_eq_right, if_pos, if_neg, getD_map, wrapI64, modIn, fdivE, tmodE, tdivE, decT, decF, beqT, beqF, bneT, bneF, Int.toNat_natCast]; try simp only [go_sem]) | (refine ev_condTb rfl ?_ ?_; · (simp <;> omega)) | (refine ev_condFb rfl ?_ ?_; · (simp <;> omega)) | ((first | refine ev_region ?_ | refine evr_go rfl ?_ | refine evw_go rfl ?_ | refine ev_dr0 mixed rfl (by kernel_rfl) ?_ | refine ev_dr1 mixed rfl (by kernel_rfl) ?_ | refine ev_dr2 mixed rfl (by kernel_rfl) ?_); simp only [go_sem]))
          refine ev_next 0 (hJ _ (⟨a + 1, ca'⟩) (by first | omega | (dsimp only; omega) | (simp; omega))) rfl (by simp) ?_ (by first | rfl | (simp only [go_sem]; done)) (by first | rfl | (simp only [go_sem]; done)) ?_
          · (first | rfl | (simp only [go_sem]; done) | (simp only [go_sem]; simp only []; done) | (simp only [go_sem]; simp []; done) | (simp []; done))
          · (simp only [go_sem]; (repeat' (refine And.intro ?_ ?_)) <;> first | exact trivial | with_reducible rfl | (simp only []; done) | (simp only []; with_reducible rfl) | (simp []; done) | (simp []; omega) | (simp only []; rfl) | skip)
      · obtain rfl : a = 2 := by omega
        repeat (first | refine And.intro (by omega) ?_ | refine And.intro rfl ?_ | refine ev_ctl rfl rfl ?_ | refine evr_nil ?_ | refine evw_nil (by kernel_rfl) ?_ | (simp (disch := omega) only [takeAll, Nat.min_eq_left, Nat.min_eq_right, if_pos, if_neg, getD_map, wrapI64, modIn, fdivE, tmodE, tdivE, decT, decF, beqT, beqF, bneT, bneF, Int.toNat_natCast]; try simp only [go_sem]) | (refine ev_condTb rfl ?_ ?_; · (simp <;> omega)) | (refine ev_condFb rfl ?_ ?_; · (simp <;> omega)) | ((first | refine ev_region ?_ | refine evr_go rfl ?_ | refine evw_go rfl ?_ | refine ev_dr0 mixed rfl (by kernel_rfl) ?_ | refine ev_dr1 mixed rfl (by kernel_rfl) ?_ | refine ev_dr2 mixed rfl (by kernel_rfl) ?_); simp only [go_sem]))
        (first | refine callD (awake18_fn) ?_ | refine callDw (awake18_fn) ?_); simp only [go_sem]
        repeat (first | refine And.intro (by omega) ?_ | refine And.intro rfl ?_ | refine ev_ctl rfl rfl ?_ | refine evr_nil ?_ | refine evw_nil (by kernel_rfl) ?_ | (simp (disch := omega) only [takeAll, Nat.min_eq_left, Nat.min_eq_right, if_pos, if_neg, getD_map, wrapI64, modIn, fdivE, tmodE, tdivE, decT, decF, beqT, beqF, bneT, bneF, Int.toNat_natCast]; try simp only [go_sem]) | (refine ev_condTb rfl ?_ ?_; · (simp <;> omega)) | (refine ev_condFb rfl ?_ ?_; · (simp <;> omega)) | ((first | refine ev_region ?_ | refine evr_go rfl ?_ | refine evw_go rfl ?_ | refine ev_dr0 mixed rfl (by kernel_rfl) ?_ | refine ev_dr1 mixed rfl (by kernel_rfl) ?_ | refine ev_dr2 mixed rfl (by kernel_rfl) ?_); simp only [go_sem]))
        refine ret m_socs_ok [] ?_; (first | (simp only [go_sem]; done) | (simp only [go_sem]; rfl))
theorem enc_wordss : Enc (Sh.slice (Sh.slice (Sh.int .u16))) (fun l => .sl false (Sh.slice (Sh.int .u16)).size (l.map wvV)) := Enc.slice enc_u16s (fun _ => rfl) (fun _ => rfl)
theorem socs_law {a0 : List Output} {v0 : Value} {a1 : List (List Int)} {v1 : Value} {a2 : List Canon} {v2 : Value} {a3 : List Int} {v3 : Value} {a4 : Int} {v4 : Value} {a5 : Int} {v5 : Value} (W : World) (e0 : (Sh.slice Output.sh).rd (old W) W a0 [v0]) (e1 : (Sh.slice (Sh.slice (Sh.int .u16))).rd (old W) W a1 [v1]) (e2 : (Sh.slice Canon.sh).rd (old W) W a2 [v2]) (e3 : (Sh.slice (Sh.int .i64)).rd (old W) W a3 [v3]) (e4 : (Sh.int .i64).rd (old W) W a4 [v4]) (e5 : (Sh.int .i64).rd (old W) W a5 [v5]) :
    Calls Try.prog 3 #[v0, v1, v2, v3, v4, v5] W fun e w' => e = .returned (.bool true) ∧ Below W.heap.size W w' :=
  Fnc.law (socs_fn a0 a1 a2 a3 a4 a5) (RdTs.slice enc_outputs e0 (RdTs.slice enc_wordss e1 (RdTs.slice enc_canons e2 (RdTs.slice enc_i64s e3 (RdTs.int e4 (RdTs.int e5 RdTs.nil'))))))
end Go.Proofs.Ytibfpmochioopaa
