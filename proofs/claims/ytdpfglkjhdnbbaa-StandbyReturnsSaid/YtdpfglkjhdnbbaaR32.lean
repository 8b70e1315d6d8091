/- The law StandbyReturns. -/
import Derived.Test.YtdpfglkjhdnbbaaR31
import Derived.Test.YtdpfglkjhdnbbaaC5
import Derived.Test.YtdpfglkjhdnbbaaGF
import Derived.Test.YtdpfglkjhdnbbaaC4
import Derived.Test.YtdpfglkjhdnbbaaReads
namespace Go.Proofs.Ytdpfglkjhdnbbaa
open Go Go.RowKit Rdn Rdn.Dp
set_option linter.unusedVariables false
set_option linter.unusedSimpArgs false
theorem m_sret_ok : compF Try.prog 4 = some (182, Qr ([Qc 4 (.bool false)])
 (.seq (Qr ([Qm 23 0, Qq 24 17 [(.t 23)], Qp 25 (.un .not (.t 24))])
 (.cond (.t 25) (Qr ([Qq 26 7 [], Qm 4 26])
 (.ret)) (.skip)))
 (Qr ([Qm 27 0, Qq 28 18 [(.t 27)], Qm 5 28])
 (Qr ([Qq 30 8 [(Qi 1)], Qm 29 30, Qe 31 29 0, Qe 32 29 1, Qw 6 (.alloc 36 (.agg [.int .i64 0, .int .i64 0, .int .i64 0, .nilS, .nilS, .nilS, .agg [.int .i64 0, .int .i64 0, .int .i64 0, .nilS], .int .i64 0, .agg [.int .i64 0, .int .i64 0, .nilS]])), Qs 14 6 31, Qm 7 32])
 (Qr ([QL 34 14 6, Qq 35 19 [(.t 34), (Qi 1)], Qm 33 35, Qe 36 33 0, Qe 37 33 1, Qs 14 6 36, Qm 8 37])
 (Qr ([Qm 39 5, Qq 40 20 [(.t 39), (Qi 2)], Qq 41 10 [(Qi 0), (.t 40)], Qm 38 41, Qe 42 38 0, Qe 43 38 1, Qw 9 (.alloc 26 (.agg [.int .i64 0, .int .i64 0, .int .i64 0, .nilS])), Qs 4 9 42, Qm 10 43])
 (Qr ([QL 45 14 6, QL 46 4 9, Qq 47 21 [(.t 45), (.t 46)], Qm 44 47, Qe 48 44 0, Qe 49 44 1, Qs 14 6 48, Qm 11 49])
 (.seq (Qr ([Qm 50 1])
 (.cond (.t 50) (Qr ([QL 52 14 6, Qq 53 19 [(.t 52), (Qi 0)], Qm 51 53, Qe 54 51 0, Qe 55 51 1, Qw 12 (.alloc 36 (.agg [.int .i64 0, .int .i64 0, .int .i64 0, .nilS, .nilS, .nilS, .agg [.int .i64 0, .int .i64 0, .int .i64 0, .nilS], .int .i64 0, .agg [.int .i64 0, .int .i64 0, .nilS]])), Qs 14 12 54, Qm 13 55])
 (Qr ([QL 57 14 12, Qq 58 22 [(.t 57), (Qi 1)], Qm 56 58, Qe 59 56 0, Qe 60 56 1, Qs 14 12 59, Qm 14 60])
 (Qr ([QL 62 14 12, Qq 63 23 [(.t 62)], Qm 61 63, Qe 64 61 0, Qe 65 61 1, Qe 66 61 2, Qw 15 (.alloc 36 (.agg [.int .i64 0, .int .i64 0, .int .i64 0, .nilS, .nilS, .nilS, .agg [.int .i64 0, .int .i64 0, .int .i64 0, .nilS], .int .i64 0, .agg [.int .i64 0, .int .i64 0, .nilS]])), Qs 14 15 64, Qm 16 65, Qm 17 66])
 (Qr ([Qm 67 8, Qk 68 .eql 67 0, Qm 69 68, Q1 70 69 (.mov (.t 11)), Q1 71 69 (.bin 0 .eql (.t 70) (Qi 0)), Qu 72 69 71, Qm 73 72, Q1 74 73 (.mov (.t 13)), Q1 75 73 (.bin 0 .eql (.t 74) (Qi 0)), Qu 76 73 75, Qm 77 76, Q1 78 77 (.mov (.t 14)), Q1 79 77 (.bin 0 .eql (.t 78) (Qi 0)), Qu 80 77 79, Qm 81 80, Q1 82 81 (.mov (.t 17)), Q1 83 81 (.bin 0 .eql (.t 82) (Qi 0)), Qu 84 81 83, Qm 85 84, Q1 86 85 (.mov (.t 16)), Q1 87 85 (.un .not (.t 86)), Qu 88 85 87, Qm 89 88, Q1 90 89 (.fieldA 2 2 (.t 15)), Q1 91 89 (.load false 1 (.t 90)), Q1 92 89 (.bin 0 .eql (.t 91) (Qi (-1))), Qu 93 89 92, Qm 94 93, ⟨(some 95), (some (94, true)), (.call 7 [])⟩, Qu 96 94 95, Qm 4 96])
 (.ret))))) (.skip)))
 (Qr ([QL 98 14 6, Qq 99 22 [(.t 98), (Qi 1)], Qm 97 99, Qe 100 97 0, Qe 101 97 1, Qs 14 6 100, Qm 18 101])
 (Qr ([QL 103 14 6, Qq 104 19 [(.t 103), (Qi 0)], Qm 102 104, Qe 105 102 0, Qe 106 102 1, Qw 19 (.alloc 36 (.agg [.int .i64 0, .int .i64 0, .int .i64 0, .nilS, .nilS, .nilS, .agg [.int .i64 0, .int .i64 0, .int .i64 0, .nilS], .int .i64 0, .agg [.int .i64 0, .int .i64 0, .nilS]])), Qs 14 19 105, Qm 20 106])
 (Qr ([QL 108 14 19, Qq 109 23 [(.t 108)], Qm 107 109, Qe 110 107 0, Qe 111 107 1, Qe 112 107 2, Qs 14 19 110, Qm 21 111, Qm 22 112])
 (.seq (Qr ([Qf 113 4 4 6, Ql 114 1 113, Qn 115 114, Qk 116 .neq 115 2, Qm 117 116, Q0 118 117 (.fieldA 5 5 (.t 6)), Q0 119 117 (.load false 1 (.t 118)), Q0 120 117 (.len (.t 119)), Q0 121 117 (.bin 0 .neq (.t 120) (Qi 2)), Qt 122 117 121])
 (.cond (.t 122) (Qr ([Qc 4 (.bool false)])
 (.ret)) (.skip)))
 (.seq (.dreg [Qm 123 8, Qk 124 .eql 123 0, Qm 125 124, Q1 126 125 (.mov (.t 11)), Q1 127 125 (.bin 0 .eql (.t 126) (Qi 0)), Qu 128 125 127, Qm 129 128, Q1 130 129 (.mov (.t 18)), Q1 131 129 (.bin 0 .eql (.t 130) (Qi 0)), Qu 132 129 131, Qm 133 132, Q1 134 133 (.mov (.t 20)), Q1 135 133 (.bin 0 .eql (.t 134) (Qi 0)), Qu 136 133 135, Qm 137 136, Q1 138 137 (.mov (.t 22)), Q1 139 137 (.bin 0 .eql (.t 138) (Qi 0)), Qu 140 137 139, Qm 141 140, Q1 142 141 (.fieldA 4 4 (.t 6)), Q1 143 141 (.load false 1 (.t 142)), Q1 144 141 (.idxA 1 (.t 143) (Qi 1)), Q1 145 141 (.load false 1 (.t 144)), Qu 146 141 145, Qm 147 146, Q1 148 147 (.fieldA 5 5 (.t 6)), Q1 149 147 (.load false 1 (.t 148)), Q1 150 147 (.idxA 1 (.t 149) (Qi 0)), Q1 151 147 (.load false 1 (.t 150)), Q1 152 147 (.b2s (.t 151)), Q1 153 147 (.fieldA 5 5 (.t 6)), Q1 154 147 (.load false 1 (.t 153)), Q1 155 147 (.idxA 1 (.t 154) (Qi 1)), Q1 156 147 (.load false 1 (.t 155)), Q1 157 147 (.b2s (.t 156)), Q1 158 147 (.bin 0 .eql (.t 152) (.t 157)), Qu 159 147 158, Qm 160 159, Q1 161 160 (.mov (.t 21)), Qu 162 160 161, Qm 163 162, Q1 164 163 (.fieldA 2 2 (.t 19)), Q1 165 163 (.load false 1 (.t 164)), Q1 166 163 (.bin 0 .eql (.t 165) (Qi 1)), Qu 167 163 166, Qm 168 167, Q1 169 168 (.fieldA 6 6 (.t 19)), Q1 170 168 (.fieldA 0 0 (.t 169)), Q1 171 168 (.load false 1 (.t 170)), Q1 172 168 (.bin 0 .eql (.t 171) (Qi 1)), Qu 173 168 172, Qm 174 173, Q1 175 174 (.fieldA 10 7 (.t 19)), Q1 176 174 (.load false 1 (.t 175)), Q1 177 174 (.bin 0 .eql (.t 176) (Qi 2)), Qu 178 174 177, Qm 179 178, ⟨(some 180), (some (179, true)), (.call 7 [])⟩, Qu 181 179 180, Qm 4 181] [[], [0], [0, 1], [0, 1, 2], [0, 1, 2, 3], [0, 1, 2, 3, 4], [0, 1, 2, 3, 4, 5], [0, 1, 2, 3, 4, 5, 6], [0, 1, 2, 3, 4, 5, 6, 7], [0, 1, 2, 3, 4, 5, 6, 7, 8], [0, 1, 2, 3, 4, 5, 6, 7, 8, 9], [0, 1, 2, 3, 4, 5, 6, 7, 8, 9, 10], [0, 1, 2, 3, 4, 5, 6, 7, 8, 9, 10, 11], [0, 1, 2, 3, 4, 5, 6, 7, 8, 9, 10, 11, 12], [0, 1, 2, 3, 4, 5, 6, 7, 8, 9, 10, 11, 12, 13], [0, 1, 2, 3, 4, 5, 6, 7, 8, 9, 10, 11, 12, 13, 14], [0, 1, 2, 3, 4, 5, 6, 7, 8, 9, 10, 11, 12, 13, 14, 15], [0, 1, 2, 3, 4, 5, 6, 7, 8, 9, 10, 11, 12, 13, 14, 15, 16], [0, 1, 2, 3, 4, 5, 6, 7, 8, 9, 10, 11, 12, 13, 14, 15, 16, 17], [0, 1, 2, 3, 4, 5, 6, 7, 8, 9, 10, 11, 12, 13, 14, 15, 16, 17, 18], [0, 1, 2, 3, 4, 5, 6, 7, 8, 9, 10, 11, 12, 13, 14, 15, 16, 17, 18, 19], [0, 1, 2, 3, 4, 5, 6, 7, 8, 9, 10, 11, 12, 13, 14, 15, 16, 17, 18, 19, 20], [0, 1, 2, 3, 4, 5, 6, 7, 8, 9, 10, 11, 12, 13, 14, 15, 16, 17, 18, 19, 20, 21], [0, 1, 2, 3, 4, 5, 6, 7, 8, 9, 10, 11, 12, 13, 14, 15, 16, 17, 18, 19, 20, 21, 22], [0, 1, 2, 3, 4, 5, 6, 7, 8, 9, 10, 11, 12, 13, 14, 15, 16, 17, 18, 19, 20, 21, 22, 23], [0, 1, 2, 3, 4, 5, 6, 7, 8, 9, 10, 11, 12, 13, 14, 15, 16, 17, 18, 19, 20, 21, 22, 23, 24], [0, 1, 2, 3, 4, 5, 6, 7, 8, 9, 10, 11, 12, 13, 14, 15, 16, 17, 18, 19, 20, 21, 22, 23, 24, 25], [0, 1, 2, 3, 4, 5, 6, 7, 8, 9, 10, 11, 12, 13, 14, 15, 16, 17, 18, 19, 20, 21, 22, 23, 24, 25, 26], [0, 1, 2, 3, 4, 5, 6, 7, 8, 9, 10, 11, 12, 13, 14, 15, 16, 17, 18, 19, 20, 21, 22, 23, 24, 25, 26, 27], [0, 1, 2, 3, 4, 5, 6, 7, 8, 9, 10, 11, 12, 13, 14, 15, 16, 17, 18, 19, 20, 21, 22, 23, 24, 25, 26, 27, 28], [0, 1, 2, 3, 4, 5, 6, 7, 8, 9, 10, 11, 12, 13, 14, 15, 16, 17, 18, 19, 20, 21, 22, 23, 24], [0, 1, 2, 3, 4, 5, 6, 7, 8, 9, 10, 11, 12, 13, 14, 15, 16, 17, 18, 19, 20, 21, 22, 23, 24, 30], [0, 1, 2, 3, 4, 5, 6, 7, 8, 9, 10, 11, 12, 13, 14, 15, 16, 17, 18, 19, 20, 21, 22, 23, 24, 30, 31], [0, 1, 2, 3, 4, 5, 6, 7, 8, 9, 10, 11, 12, 13, 14, 15, 16, 17, 18, 19, 20, 21, 22, 23, 24, 30, 31, 32], [0, 1, 2, 3, 4, 5, 6, 7, 8, 9, 10, 11, 12, 13, 14, 15, 16, 17, 18, 19, 20, 21, 22, 23, 24, 30, 31, 32, 33], [0, 1, 2, 3, 4, 5, 6, 7, 8, 9, 10, 11, 12, 13, 14, 15, 16, 17, 18, 19, 20, 21, 22, 23, 24, 25, 26, 27, 28, 29, 30, 31, 32, 33, 34], [0, 1, 2, 3, 4, 5, 6, 7, 8, 9, 10, 11, 12, 13, 14, 15, 16, 17, 18, 19, 20, 21, 22, 23, 24, 25, 26, 27, 28, 29, 30, 31, 32, 33, 34, 35], [0, 1, 2, 3, 4, 5, 6, 7, 8, 9, 10, 11, 12, 13, 14, 15, 16, 17, 18, 19, 20, 21, 22, 23, 24, 25, 26, 27, 28, 29, 30, 31, 32, 33, 34, 35, 36], [0, 1, 2, 3, 4, 5, 6, 7, 8, 9, 10, 11, 12, 13, 14, 15, 16, 17, 18, 19, 20, 21, 22, 23, 24, 25, 26, 27, 28, 29, 30, 31, 32, 33, 34, 35, 36, 37], [0, 1, 2, 3, 4, 5, 6, 7, 8, 9, 10, 11, 12, 13, 14, 15, 16, 17, 18, 19, 20, 21, 22, 23, 24, 25, 26, 27, 28, 29, 30, 31, 32, 33, 34, 35, 36, 37, 38], [0, 1, 2, 3, 4, 5, 6, 7, 8, 9, 10, 11, 12, 13, 14, 15, 16, 17, 18, 19, 20, 21, 22, 23, 24, 25, 26, 27, 28, 29, 30, 31, 32, 33, 34, 35, 36, 37, 38, 39], [0, 1, 2, 3, 4, 5, 6, 7, 8, 9, 10, 11, 12, 13, 14, 15, 16, 17, 18, 19, 20, 21, 22, 23, 24, 25, 26, 27, 28, 29, 30, 31, 32, 33, 34, 35, 36, 37, 38, 39, 40], [0, 1, 2, 3, 4, 5, 6, 7, 8, 9, 10, 11, 12, 13, 14, 15, 16, 17, 18, 19, 20, 21, 22, 23, 24, 25, 26, 27, 28, 29, 30, 31, 32, 33, 34, 35, 36, 37, 38, 39, 40, 41], [0, 1, 2, 3, 4, 5, 6, 7, 8, 9, 10, 11, 12, 13, 14, 15, 16, 17, 18, 19, 20, 21, 22, 23, 24, 25, 26, 27, 28, 29, 30, 31, 32, 33, 34, 35, 36, 37, 38, 39, 40, 41, 42], [0, 1, 2, 3, 4, 5, 6, 7, 8, 9, 10, 11, 12, 13, 14, 15, 16, 17, 18, 19, 20, 21, 22, 23, 24, 25, 26, 27, 28, 29, 30, 31, 32, 33, 34, 35, 36, 37, 38, 39, 40, 41, 42, 43], [0, 1, 2, 3, 4, 5, 6, 7, 8, 9, 10, 11, 12, 13, 14, 15, 16, 17, 18, 19, 20, 21, 22, 23, 24, 25, 26, 27, 28, 29, 30, 31, 32, 33, 34, 35, 36, 37, 38, 39, 40, 41, 42, 43, 44], [0, 1, 2, 3, 4, 5, 6, 7, 8, 9, 10, 11, 12, 13, 14, 15, 16, 17, 18, 19, 20, 21, 22, 23, 24, 25, 26, 27, 28, 29, 30, 31, 32, 33, 34, 35, 36, 37, 38, 39, 40, 41, 42, 43, 44, 45], [0, 1, 2, 3, 4, 5, 6, 7, 8, 9, 10, 11, 12, 13, 14, 15, 16, 17, 18, 19, 20, 21, 22, 23, 24, 25, 26, 27, 28, 29, 30, 31, 32, 33, 34, 35, 36, 37, 38, 39, 40, 41, 42, 43, 44, 45, 46], [0, 1, 2, 3, 4, 5, 6, 7, 8, 9, 10, 11, 12, 13, 14, 15, 16, 17, 18, 19, 20, 21, 22, 23, 24, 25, 26, 27, 28, 29, 30, 31, 32, 33, 34, 35, 36, 37, 38, 39, 40, 41, 42, 43, 44, 45, 46, 47], [0, 1, 2, 3, 4, 5, 6, 7, 8, 9, 10, 11, 12, 13, 14, 15, 16, 17, 18, 19, 20, 21, 22, 23, 24, 25, 26, 27, 28, 29, 30, 31, 32, 33, 34, 35, 36, 37, 38, 39, 40, 41, 42, 43, 44, 45, 46, 47, 48], [0, 1, 2, 3, 4, 5, 6, 7, 8, 9, 10, 11, 12, 13, 14, 15, 16, 17, 18, 19, 20, 21, 22, 23, 24, 25, 26, 27, 28, 29, 30, 31, 32, 33, 34, 35, 36, 37, 38, 39, 40, 41, 42, 43, 44, 45, 46, 47, 48, 49], [0, 1, 2, 3, 4, 5, 6, 7, 8, 9, 10, 11, 12, 13, 14, 15, 16, 17, 18, 19, 20, 21, 22, 23, 24, 25, 26, 27, 28, 29, 30, 31, 32, 33, 34, 35, 36, 37, 38, 39, 40, 41, 42, 43, 44, 45, 46, 47, 48, 49, 50], [0, 1, 2, 3, 4, 5, 6, 7, 8, 9, 10, 11, 12, 13, 14, 15, 16, 17, 18, 19, 20, 21, 22, 23, 24, 25, 26, 27, 28, 29, 30, 31, 32, 33, 34, 35, 36, 37, 38, 39, 40, 41, 42, 43, 44, 45, 46, 47, 48, 49, 50, 51], [0, 1, 2, 3, 4, 5, 6, 7, 8, 9, 10, 11, 12, 13, 14, 15, 16, 17, 18, 19, 20, 21, 22, 23, 24, 25, 26, 27, 28, 29, 30, 31, 32, 33, 34, 35, 36, 37, 38, 39, 40, 41, 42, 43, 44, 45, 46, 47, 48, 49, 50, 51, 52], [0, 1, 2, 3, 4, 5, 6, 7, 8, 9, 10, 11, 12, 13, 14, 15, 16, 17, 18, 19, 20, 21, 22, 23, 24, 25, 26, 27, 28, 29, 30, 31, 32, 33, 34, 35, 36, 37, 38, 39, 40, 41, 42, 43, 44, 45, 46, 47, 48, 49, 50, 51, 52, 53], [0, 1, 2, 3, 4, 5, 6, 7, 8, 9, 10, 11, 12, 13, 14, 15, 16, 17, 18, 19, 20, 21, 22, 23, 24, 25, 26, 27, 28, 29, 30, 31, 32, 33, 34, 35, 36, 37, 38, 39, 40, 41, 42, 43, 44, 45, 46, 47, 48, 49, 50, 51, 52, 53, 54], [0, 1, 2, 3, 4, 5, 6, 7, 8, 9, 10, 11, 12, 13, 14, 15, 16, 17, 18, 19, 20, 21, 22, 23, 24, 25, 26, 27, 28, 29, 30, 31, 32, 33, 34, 35, 36, 37, 38, 39, 40, 41, 42, 43, 44, 45, 46, 47, 48, 49, 50, 51, 52, 53, 54, 55], [0, 1, 2, 3, 4, 5, 6, 7, 8, 9, 10, 11, 12, 13, 14, 15, 16, 17, 18, 19, 20, 21, 22, 23, 24, 25, 26, 27, 28, 29, 30, 31, 32, 33, 34, 35, 36, 37, 38, 39, 40, 41, 42, 43, 44, 45, 46, 47, 48, 49, 50, 51, 52, 53, 54, 55, 56], [0, 1, 2, 3, 4, 5, 6, 7, 8, 9, 10, 11, 12, 13, 14, 15, 16, 17, 18, 19, 20, 21, 22, 23, 24, 25, 26, 27, 28, 29, 30, 31, 32, 33, 34, 35, 36, 37, 38, 39, 40, 41, 42, 43, 44, 45, 46, 47, 48, 49, 50, 51, 52, 53, 54, 55, 56, 57], [0, 1, 2, 3, 4, 5, 6, 7, 8, 9, 10, 11, 12, 13, 14, 15, 16, 17, 18, 19, 20, 21, 22, 23, 24, 25, 26, 27, 28, 29, 30, 31, 32, 33, 34, 35, 36, 37, 38, 39, 40, 41, 42, 43, 44, 45, 46, 47, 48, 49, 50, 51, 52, 53, 54, 55, 56, 57, 58]])
 (.ret))))))))))))), [.mov (.t 4)]) := by kernel_rfl
theorem rd_boolA : Reads Try.prog 4 Sh.bool := Reads.bool (by kernel_rfl) (by kernel_rfl)
theorem _root_.Rdn.Dp.RdTs.bool {W : World} {a : Bool} {v : Value} {l : List V} {vs : List Value} (h : Sh.bool.rd (old W) W a [v]) (hl : RdTs (argE W) W l vs) : RdTs (argE W) W (.bool a :: l) (v :: vs) := by
  simp only [RdTs]
  refine ⟨v, vs, rfl, ?_, hl⟩
  simp only [RdT]
  exact Enc.bool W _ _ h
attribute [local irreducible] sWr sTear sSnd sFail sStart sTick chkP sOut dcs sNew
set_option maxHeartbeats 16000000 in
theorem sret_fn (l : List Int) (b : Bool) : Fnc Try.prog 4 [.sl false 1 (i64s l), .bool b] (fun x obs => x = .bool true) := by
  by_cases h1 : l.length ≤ 400
  rotate_left
  · skip
    refine zgo m_sret_ok fun W S => ?_
    refine zcd (few_fn l) ?_
    refine zcd (awake40_fn) ?_
    refine ret m_sret_ok [] ?_; (first | (simp only [go_sem]; done) | (simp only [go_sem]; rfl))
  have hk : (0 : Nat) ≤ l.length := by omega
  have hd := dcs_len (l := l) (k := 0) (n := 2) (by omega)
  have f2 := canons_sl l 0 2 hk (by omega) (by omega)
  obtain ⟨P2, P3, P4, P5, Q3, Q4, Q5, e0, e1, e2, e3, ⟨e4, e5, e6, k1⟩, ⟨e7, e8, e9⟩, ⟨k2, k3, k4, k5, k6, k7, k8⟩, F1, F2, F3, F4, F5, F6, F7⟩ := ret_facts (d := (dcs l 0 2).1) hd
  have f0 := pnew_fn 1
  rw [e0] at f0
  have f1 := pfail_fn (pN 1) 1 F1
  rw [e1] at f1
  have f3 := sout_fn 0 (dcs l 0 2).1
  rw [e2] at f3
  have f4 := pWr_fn rP1 (rN (dcs l 0 2).1) F2
  rw [e3] at f4
  have f5 := pfail_fn P2 0 F3
  rw [e4] at f5
  have f6 := pstart_fn P3 1 F4
  rw [e5] at f6
  have f7 := ptick_fn P4 F5
  rw [e6] at f7
  have f8 := pstart_fn P2 1 F3
  rw [e7] at f8
  have f9 := pfail_fn Q3 0 F6
  rw [e8] at f9
  have f10 := ptick_fn Q4 F7
  rw [e9] at f10
  clear F1 F2 F3 F4 F5 F6 F7 e0 e1 e2 e3 e4 e5 e6 e7 e8 e9
  generalize pN 1 = P0 at *
  generalize rP1 = P1 at *
  generalize rN (dcs l 0 2).1 = n at *
  generalize dcs l 0 2 = D at *
  cases b with
  | true =>
    refine zgo m_sret_ok fun W S => ?_
    refine zcd (few_fn l) ?_
    refine zcx (new_fn l) ?_
    refine zcd (f0) ?_
    refine zcd (f1) ?_
    refine zcm (f2) ?_
    refine zcd (f3) ?_
    refine zcd (f4) ?_
    refine zcd (f5) ?_
    refine zcd (f6) ?_
    (first | refine callD (f7) ?_ | refine callDw (f7) ?_); refine zev ?_
    repeat (first | (simp only [k1]; try simp only [go_sem]) | refine And.intro (by omega) ?_ | refine And.intro rfl ?_ | refine ev_ctl rfl rfl ?_ | refine evr_nil ?_ | refine evw_nil (by kernel_rfl) ?_ | (simp (disch := omega) only [takeAll, Nat.min_eq_left, Nat.min_eq_right, if_pos, if_neg, getD_map, wrapI64, modIn, fdivE, tmodE, tdivE, decT, decF, beqT, beqF, bneT, bneF, Int.toNat_natCast]; try simp only [go_sem]) | (refine ev_condTb rfl ?_ ?_; · (simp <;> omega)) | (refine ev_condFb rfl ?_ ?_; · (simp <;> omega)) | ((first | refine ev_region ?_ | refine evr_go rfl ?_ | refine evw_go rfl ?_ | refine ev_dr0 mixed rfl (by kernel_rfl) ?_ | refine ev_dr1 mixed rfl (by kernel_rfl) ?_ | refine ev_dr2 mixed rfl (by kernel_rfl) ?_); simp only [go_sem]))
    refine zcd (awake40_fn) ?_
    refine ret m_sret_ok [] ?_; (first | (simp only [go_sem]; done) | (simp only [go_sem]; rfl))
  | false =>
    refine zgo m_sret_ok fun W S => ?_
    refine zcd (few_fn l) ?_
    refine zcx (new_fn l) ?_
    refine zcd (f0) ?_
    refine zcd (f1) ?_
    refine zcm (f2) ?_
    refine zcd (f3) ?_
    refine zcd (f4) ?_
    refine zcd (f8) ?_
    refine zcd (f9) ?_
    (first | refine callD (f10) ?_ | refine callDw (f10) ?_); refine zev ?_
    repeat (first | (simp only [k2, k3, k4, k5, k6, k7, k8]; try simp only [go_sem]) | refine And.intro (by omega) ?_ | refine And.intro rfl ?_ | refine ev_ctl rfl rfl ?_ | refine evr_nil ?_ | refine evw_nil (by kernel_rfl) ?_ | (simp (disch := omega) only [takeAll, Nat.min_eq_left, Nat.min_eq_right, if_pos, if_neg, getD_map, wrapI64, modIn, fdivE, tmodE, tdivE, decT, decF, beqT, beqF, bneT, bneF, Int.toNat_natCast]; try simp only [go_sem]) | (refine ev_condTb rfl ?_ ?_; · (simp <;> omega)) | (refine ev_condFb rfl ?_ ?_; · (simp <;> omega)) | ((first | refine ev_region ?_ | refine evr_go rfl ?_ | refine evw_go rfl ?_ | refine ev_dr0 mixed rfl (by kernel_rfl) ?_ | refine ev_dr1 mixed rfl (by kernel_rfl) ?_ | refine ev_dr2 mixed rfl (by kernel_rfl) ?_); simp only [go_sem]))
    refine zcd (awake40_fn) ?_
    refine ret m_sret_ok [] ?_; (first | (simp only [go_sem]; done) | (simp only [go_sem]; rfl))
theorem sret_law {a0 : List Int} {v0 : Value} {a1 : Bool} {v1 : Value} (W : World) (e0 : (Sh.slice (Sh.int .i64)).rd (old W) W a0 [v0]) (e1 : Sh.bool.rd (old W) W a1 [v1]) :
    Calls Try.prog 4 #[v0, v1] W fun e w' => e = .returned (.bool true) ∧ Below W.heap.size W w' :=
  Fnc.law (sret_fn a0 a1) (RdTs.slice enc_i64s e0 (RdTs.bool e1 RdTs.nil'))
end Go.Proofs.Ytdpfglkjhdnbbaa
