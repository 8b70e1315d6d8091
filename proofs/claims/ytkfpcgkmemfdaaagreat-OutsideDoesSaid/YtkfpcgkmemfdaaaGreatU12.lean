/- The outside: what calls do, by the reference. -/
import Derived.Test.YtkfpcgkmemfdaaaGreatU11
import Derived.Test.YtkfpcgkmemfdaaaGreatC5
namespace Go.Proofs.YtkfpcgkmemfdaaaGreat
open Go Go.RowKit Rdn Rdn.Dp
set_option linter.unusedVariables false
set_option linter.unusedSimpArgs false
theorem m_rvalu_ok : compF Tryz.prog 63 = some (11, Qr ([Qw 4 (.alloc 54 (.agg [.agg [.int .u8 0, .int .u16 0, .int .i64 0, .int .i64 0], .nilS, .int .i64 0, .bool false]))])
 (.seq (Qr ([Qm 5 1, Qp 6 (.un .not (.t 5))])
 (.cond (.t 6) (.reg [Qp 0 (.mov (Qi 65535))]) (.skip)))
 (Qr ([Qm 7 0, Qp 8 (.conv .u16 (.t 7)), Qw 9 (.build none [.int .u8 0, .int .u16 0, .int .i64 0, .int .i64 0] [(1, (.t 8))]), Qw 10 (.build none [.agg [.int .u8 0, .int .u16 0, .int .i64 0, .int .i64 0], .nilS, .int .i64 0, .bool false] [(0, (.t 9)), (2, (Qi (-1)))]), Qs 7 4 10])
 (.ret))), [.load true 7 (.t 4)]) := by kernel_rfl
theorem m_rdo_ok : compF Tryz.prog 15 = some (264, Qr ([Qw 2 (.box 37 (.t 0)), Qw 3 (.box 24 (.t 1)), Qw 4 (.alloc 37 (.agg [.nilS, .nilS, .nilS, .agg [.nilS, .nilS], .nilS])), Qw 5 (.alloc 54 (.agg [.agg [.int .u8 0, .int .u16 0, .int .i64 0, .int .i64 0], .nilS, .int .i64 0, .bool false])), Qp 6 (.mov (Qi 0))])
 (.seq (Qr ([QL 30 6 2, Qq 31 10 [(.t 30)], Qp 32 (.un .not (.t 31)), Qm 33 32, Q0 34 33 (.load true 8 (.t 3)), ⟨(some 35), (some (33, false)), (.call 60 [(.t 34)])⟩, Q0 36 33 (.un .not (.t 35)), Qt 37 33 36, Qm 38 37, Q0 39 38 (.fieldA 1 1 (.t 3)), Q0 40 38 (.load false 1 (.t 39)), Q0 41 38 (.bin 0 .neq (.t 40) (Qi 1)), Qt 42 38 41, Qm 43 42, Q0 44 43 (.fieldA 5 5 (.t 3)), Q0 45 43 (.load false 1 (.t 44)), ⟨(some 46), (some (43, false)), (.call 18 [(.t 45)])⟩, Q0 47 43 (.un .not (.t 46)), Qt 48 43 47, Qm 49 48, Q0 50 49 (.load true 8 (.t 3)), ⟨(some 51), (some (49, false)), (.call 61 [(.t 50)])⟩, Q0 52 49 (.un .not (.t 51)), Qt 53 49 52, Qm 54 53, Q0 55 54 (.fieldA 5 5 (.t 3)), Q0 56 54 (.load false 1 (.t 55)), ⟨(some 57), (some (54, false)), (.call 62 [(.t 56)])⟩, Q0 58 54 (.bin 0 .eql (.t 57) (Qi 2)), Q0 59 54 (.mov (.t 58)), Q1 60 59 (.fieldA 6 6 (.t 3)), Q1 61 59 (.load false 1 (.t 60)), Q1 62 59 (.idxA 4 (.t 61) (Qi 2)), Q1 63 59 (.fieldA 1 1 (.t 62)), Q1 64 59 (.load false 1 (.t 63)), Q1 65 59 (.bin 0 .gtr (.t 64) (.c (.int .u16 16))), Q0 66 54 (.pick (.t 59) (.t 65) (.c (.bool false))), Qt 67 54 66])
 (.cond (.t 67) (Qr ([Qw 68 (.build none [.nilS, .nilS, .nilS, .agg [.nilS, .nilS], .nilS] []), Qw 69 (.build none [.agg [.int .u8 0, .int .u16 0, .int .i64 0, .int .i64 0], .nilS, .int .i64 0, .bool false] []), Qs 6 4 68, Qs 7 5 69, Qp 6 (.mov (Qi 1))])
 (.ret)) (.skip)))
 (Qr ([QL 70 6 2, Qq 71 7 [(.t 70)], Qw 7 (.alloc 37 (.agg [.nilS, .nilS, .nilS, .agg [.nilS, .nilS], .nilS])), Qs 6 7 71])
 (Qr ([Qw 72 (.buildS 3 1 (.int .i64 0) 3 [(0, (Qi 0)), (1, (Qi 0)), (2, (Qi 0))]), Qm 8 72])
 (.seq (Qr ([Qf 73 6 6 3, Ql 74 1 73, Qn 75 74, Qp 76 (.mov (Qi 0))])
 (.block 0 (.loop (Qr ([Qb 77 .lss 76 75])
 (.seq (.cond (.t 77) (.skip) (.exit 0))
 (.seq (.block 1 (Qr ([Qm 78 76, Qx 79 4 74 76, QL 80 4 79, Qw 10 (.alloc 43 (.agg [.int .u8 0, .int .u16 0, .int .i64 0, .int .i64 0])), Qm 9 78, Qs 4 10 80])
 (.reg [Qm 81 8, Qm 82 9, Qf 83 1 1 10, Ql 84 1 83, Qp 85 (.conv .i64 (.t 84)), Qx 86 1 81 82, Qs 1 86 85])))
 (.reg [Qk 87 .add 76 1, Qm 76 87])))))))
 (Qr ([Qq 88 63 [(Qi 0), (.c (.bool false))], Qw 11 (.alloc 54 (.agg [.agg [.int .u8 0, .int .u16 0, .int .i64 0, .int .i64 0], .nilS, .int .i64 0, .bool false])), Qs 7 11 88])
 (.seq (Qr ([Qf 89 5 5 3, Ql 90 1 89])
 (.block 2 (Qr ([Qk 92 .eql 90 1, Qm 91 92])
 (.cond (.t 91) (.seq (.dreg [Qf 94 3 3 2, QL 95 2 94, Qm 96 8, Qp 97 (.idxA 1 (.t 96) (Qi 0)), Ql 98 1 97, Qf 99 7 7 3, Ql 100 1 99, Qq 101 64 [(.t 95), (.t 98), (.t 100)], Qm 93 101, Qe 102 93 0, Qe 103 93 1, Qe 104 93 2, Qw 12 (.alloc 34 (.agg [.nilS, .nilS])), Qs 2 12 102, Qm 13 103, Qm 14 104] [[], [0], [], [2], [2, 3], [], [5], [0, 1, 2, 3, 4, 5, 6], [0, 1, 2, 3, 4, 5, 6, 7], [0, 1, 2, 3, 4, 5, 6, 7, 8], [0, 1, 2, 3, 4, 5, 6, 7, 8], [0, 1, 2, 3, 4, 5, 6, 7, 8], [], [0, 1, 2, 3, 4, 5, 6, 7, 8, 9, 12], [0, 1, 2, 3, 4, 5, 6, 7, 8, 9, 10, 12, 13], [0, 1, 2, 3, 4, 5, 6, 7, 8, 9, 10, 11, 12, 13, 14]])
 (.dreg [QL 105 2 12, Qm 106 13, Qm 107 14, Qq 108 63 [(.t 106), (.t 107)], Qf 109 3 3 7, Qs 2 109 105, Qs 7 11 108] [[], [], [], [1, 2], [0], [0, 1, 2, 3, 4], [0, 1, 2, 3, 4, 5]])) (Qr ([Qk 111 .eql 90 2, Qm 110 111])
 (.cond (.t 110) (.seq (.dreg [Qf 113 3 3 2, QL 114 2 113, Qm 115 8, Qp 116 (.idxA 1 (.t 115) (Qi 0)), Ql 117 1 116, Qm 118 8, Qp 119 (.idxA 1 (.t 118) (Qi 2)), Ql 120 1 119, Qq 121 65 [(.t 114), (.t 117), (.t 120)], Qm 112 121, Qe 122 112 0, Qe 123 112 1, Qe 124 112 2, Qw 15 (.alloc 34 (.agg [.nilS, .nilS])), Qs 2 15 122, Qm 16 123, Qm 17 124] [[], [0], [], [2], [2, 3], [], [5], [5, 6], [0, 1, 2, 3, 4, 5, 6, 7], [0, 1, 2, 3, 4, 5, 6, 7, 8], [0, 1, 2, 3, 4, 5, 6, 7, 8, 9], [0, 1, 2, 3, 4, 5, 6, 7, 8, 9], [0, 1, 2, 3, 4, 5, 6, 7, 8, 9], [], [0, 1, 2, 3, 4, 5, 6, 7, 8, 9, 10, 13], [0, 1, 2, 3, 4, 5, 6, 7, 8, 9, 10, 11, 13, 14], [0, 1, 2, 3, 4, 5, 6, 7, 8, 9, 10, 11, 12, 13, 14, 15]])
 (.seq (.dreg [QL 125 2 15, Qm 126 16, Qn 127 126, Qm 128 17, Qq 129 63 [(.t 127), (.t 128)], Qf 130 3 3 7, Qs 2 130 125, Qs 7 11 129] [[], [], [1], [], [1, 2, 3], [0], [0, 1, 2, 3, 4, 5], [0, 1, 2, 3, 4, 5, 6]])
 (.reg [Qm 131 16, Qf 132 4 1 11, Qs 1 132 131]))) (Qr ([Qk 134 .eql 90 3, Qm 133 134])
 (.cond (.t 133) (.seq (.dreg [Qf 136 3 3 2, QL 137 2 136, Qm 138 8, Qp 139 (.idxA 1 (.t 138) (Qi 0)), Ql 140 1 139, Qm 141 8, Qp 142 (.idxA 1 (.t 141) (Qi 1)), Ql 143 1 142, Qq 144 66 [(.t 137), (.t 140), (.t 143)], Qm 135 144, Qe 145 135 0, Qe 146 135 1, Qw 18 (.alloc 34 (.agg [.nilS, .nilS])), Qs 2 18 145, Qm 19 146] [[], [0], [], [2], [2, 3], [], [5], [5, 6], [0, 1, 2, 3, 4, 5, 6, 7], [0, 1, 2, 3, 4, 5, 6, 7, 8], [0, 1, 2, 3, 4, 5, 6, 7, 8, 9], [0, 1, 2, 3, 4, 5, 6, 7, 8, 9], [], [0, 1, 2, 3, 4, 5, 6, 7, 8, 9, 10, 12], [0, 1, 2, 3, 4, 5, 6, 7, 8, 9, 10, 11, 12, 13]])
 (Qr ([QL 147 2 18, Qf 148 3 3 7, Qs 2 148 147])
 (Qr ([Qm 149 19, Qk 150 .geq 149 0])
 (.cond (.t 150) (.reg [Qm 151 19, Qp 152 (.conv .u16 (.t 151)), Qw 153 (.build none [.int .u8 0, .int .u16 0, .int .i64 0, .int .i64 0] [(0, (.c (.int .u8 2))), (1, (.t 152))]), Qf 154 0 0 11, Qs 4 154 153]) (.skip))))) (Qr ([Qk 156 .eql 90 4, Qm 155 156])
 (.cond (.t 155) (.seq (.dreg [Qf 158 3 3 2, QL 159 2 158, Qm 160 8, Qp 161 (.idxA 1 (.t 160) (Qi 0)), Ql 162 1 161, Qq 163 67 [(.t 159), (.t 162)], Qm 157 163, Qe 164 157 0, Qe 165 157 1, Qw 20 (.alloc 34 (.agg [.nilS, .nilS])), Qs 2 20 164, Qm 21 165] [[], [0], [], [2], [2, 3], [0, 1, 2, 3, 4], [0, 1, 2, 3, 4, 5], [0, 1, 2, 3, 4, 5, 6], [0, 1, 2, 3, 4, 5, 6], [], [0, 1, 2, 3, 4, 5, 6, 7, 9], [0, 1, 2, 3, 4, 5, 6, 7, 8, 9, 10]])
 (.dreg [QL 166 2 20, Qm 167 21, Qq 168 63 [(Qi 0), (.t 167)], Qf 169 3 3 7, Qs 2 169 166, Qs 7 11 168] [[], [], [1], [0], [0, 1, 2, 3], [0, 1, 2, 3, 4]])) (Qr ([Qk 171 .eql 90 5, Qm 170 171])
 (.cond (.t 170) (.seq (.dreg [Qf 173 3 3 2, QL 174 2 173, Qm 175 8, Qp 176 (.idxA 1 (.t 175) (Qi 0)), Ql 177 1 176, Qm 178 8, Qp 179 (.idxA 1 (.t 178) (Qi 1)), Ql 180 1 179, Qq 181 68 [(.t 174), (.t 177), (.t 180)], Qm 172 181, Qe 182 172 0, Qe 183 172 1, Qw 22 (.alloc 34 (.agg [.nilS, .nilS])), Qs 2 22 182, Qm 23 183] [[], [0], [], [2], [2, 3], [], [5], [5, 6], [0, 1, 2, 3, 4, 5, 6, 7], [0, 1, 2, 3, 4, 5, 6, 7, 8], [0, 1, 2, 3, 4, 5, 6, 7, 8, 9], [0, 1, 2, 3, 4, 5, 6, 7, 8, 9], [], [0, 1, 2, 3, 4, 5, 6, 7, 8, 9, 10, 12], [0, 1, 2, 3, 4, 5, 6, 7, 8, 9, 10, 11, 12, 13]])
 (.dreg [QL 184 2 22, Qm 185 23, Qq 186 63 [(Qi 0), (.t 185)], Qf 187 3 3 7, Qs 2 187 184, Qs 7 11 186] [[], [], [1], [0], [0, 1, 2, 3], [0, 1, 2, 3, 4]])) (Qr ([Qk 189 .eql 90 6, Qm 188 189])
 (.cond (.t 188) (Qr ([Qf 190 0 0 2, Ql 191 1 190, Qn 192 191, Qk 193 .gtr 192 0])
 (.cond (.t 193) (.dreg [Qf 194 0 0 2, Ql 195 1 194, Qp 196 (.idxA 1 (.t 195) (Qi 0)), Ql 197 1 196, Qp 198 (.conv .i64 (.t 197)), Qq 199 63 [(.t 198), (.c (.bool true))], Qf 200 0 0 7, Ql 201 1 200, Qw 202 (.sl 1 (.t 201) (some (Qi 1)) none none), Qs 7 11 199, Qf 203 0 0 7, Qs 1 203 202] [[], [0], [0, 1], [0, 1, 2], [0, 1, 2, 3], [0, 1, 2, 3, 4], [], [6], [6, 7], [0, 1, 2, 3, 4, 5], [0, 1, 2, 3, 4, 5, 6, 7, 8, 9], [0, 1, 2, 3, 4, 5, 6, 7, 8, 9, 10]]) (.skip))) (Qr ([Qk 205 .eql 90 7, Qm 204 205])
 (.cond (.t 204) (Qr ([Qf 206 1 1 2, Ql 207 1 206, Qn 208 207, Qk 209 .gtr 208 0])
 (.cond (.t 209) (.dreg [Qf 210 1 1 2, Ql 211 1 210, Qp 212 (.idxA 1 (.t 211) (Qi 0)), Ql 213 1 212, Qp 214 (.conv .i64 (.t 213)), Qq 215 63 [(.t 214), (.c (.bool true))], Qf 216 1 1 7, Ql 217 1 216, Qw 218 (.sl 1 (.t 217) (some (Qi 1)) none none), Qs 7 11 215, Qf 219 1 1 7, Qs 1 219 218] [[], [0], [0, 1], [0, 1, 2], [0, 1, 2, 3], [0, 1, 2, 3, 4], [], [6], [6, 7], [0, 1, 2, 3, 4, 5], [0, 1, 2, 3, 4, 5, 6, 7, 8, 9], [0, 1, 2, 3, 4, 5, 6, 7, 8, 9, 10]]) (.skip))) (Qr ([Qk 221 .eql 90 13, Qm 220 221])
 (.cond (.t 220) (.seq (.dreg [Qf 223 5 4 2, Ql 224 1 223, Qm 225 8, Qp 226 (.idxA 1 (.t 225) (Qi 0)), Ql 227 1 226, Qf 228 7 7 3, Ql 229 1 228, Qq 230 69 [(.t 224), (.t 227), (.t 229)], Qm 222 230, Qe 231 222 0, Qe 232 222 1, Qe 233 222 2, Qm 24 231, Qm 25 232, Qm 26 233] [[], [0], [], [2], [2, 3], [], [5], [0, 1, 2, 3, 4, 5, 6], [0, 1, 2, 3, 4, 5, 6, 7], [0, 1, 2, 3, 4, 5, 6, 7, 8], [0, 1, 2, 3, 4, 5, 6, 7, 8], [0, 1, 2, 3, 4, 5, 6, 7, 8], [0, 1, 2, 3, 4, 5, 6, 7, 8, 9], [0, 1, 2, 3, 4, 5, 6, 7, 8, 9, 10, 12], [0, 1, 2, 3, 4, 5, 6, 7, 8, 9, 10, 11, 12, 13]])
 (.reg [Qm 234 24, Qm 235 25, Qm 236 26, Qq 237 63 [(.t 235), (.t 236)], Qf 238 5 4 7, Qs 1 238 234, Qs 7 11 237])) (Qr ([Qk 240 .eql 90 14, Qm 239 240])
 (.cond (.t 239) (.seq (.dreg [Qf 242 2 2 2, Ql 243 1 242, Qm 244 8, Qp 245 (.idxA 1 (.t 244) (Qi 0)), Ql 246 1 245, Qm 247 8, Qp 248 (.idxA 1 (.t 247) (Qi 2)), Ql 249 1 248, Qq 250 70 [(.t 243), (.t 246), (.t 249)], Qm 241 250, Qe 251 241 0, Qe 252 241 1, Qe 253 241 2, Qm 27 251, Qm 28 252, Qm 29 253] [[], [0], [], [2], [2, 3], [], [5], [5, 6], [0, 1, 2, 3, 4, 5, 6, 7], [0, 1, 2, 3, 4, 5, 6, 7, 8], [0, 1, 2, 3, 4, 5, 6, 7, 8, 9], [0, 1, 2, 3, 4, 5, 6, 7, 8, 9], [0, 1, 2, 3, 4, 5, 6, 7, 8, 9], [0, 1, 2, 3, 4, 5, 6, 7, 8, 9, 10], [0, 1, 2, 3, 4, 5, 6, 7, 8, 9, 10, 11, 13], [0, 1, 2, 3, 4, 5, 6, 7, 8, 9, 10, 11, 12, 13, 14]])
 (Qr ([Qm 254 27, Qm 255 28, Qn 256 255, Qm 257 29, Qq 258 63 [(.t 256), (.t 257)], Qf 259 2 2 7, Qs 1 259 254, Qs 7 11 258])
 (.reg [Qm 260 28, Qf 261 4 1 11, Qs 1 261 260]))) (.skip)))))))))))))))))))))
 (.seq (.dreg [QL 262 6 7, QL 263 7 11, Qs 6 4 262, Qs 7 5 263, Qp 6 (.mov (Qi 0))] [[], [], [0], [0, 1, 2], [0, 1, 2, 3]])
 (.ret)))))))), [.load true 6 (.t 4), .load true 7 (.t 5), .mov (.t 6)]) := by kernel_rfl
set_option maxHeartbeats 4000000 in
theorem rvalu_fn (n : Int) (ok : Bool) : Fnc Tryz.prog 63 [.int .i64 n, .bool ok] (fun x obs => x = resV (resB (numR n) [] ok) ∧ obs = []) := by
  refine Fnc.low ?_
  cases ok with
  | true =>
    rw [resB_T]
    refine zgo m_rvalu_ok fun W S => ?_
    refine ev_obSub 0 (.agg [_, .sl false 4 [], _, _]) rfl (SubV.agg ⟨SubV.refl _, SubV.nil _ _, SubV.refl _, SubV.refl _, trivial⟩) rfl ?_
    refine ret m_rvalu_ok [] ?_; (first | (simp only [go_sem]; done) | (simp only [go_sem]; ((try dsimp only); (repeat' (refine And.intro ?_ ?_)) <;> first | with_reducible rfl | (simp only [go_sem]; done) | (simp only [go_sem]; rfl) | (simp only [go_sem, okR, numR]; done) | (simp only [okR, numR]; (try simp only [go_sem]); first | done | rfl) | (simp only [go_sem]; simp [okR, numR]; done) | (simp [okR, numR]; done) | rfl)))
  | false =>
    rw [resB_F]
    refine zgo m_rvalu_ok fun W S => ?_
    refine ev_obSub 0 (.agg [_, .sl false 4 [], _, _]) rfl (SubV.agg ⟨SubV.refl _, SubV.nil _ _, SubV.refl _, SubV.refl _, trivial⟩) rfl ?_
    refine ret m_rvalu_ok [] ?_; (first | (simp only [go_sem]; done) | (simp only [go_sem]; ((try dsimp only); (repeat' (refine And.intro ?_ ?_)) <;> first | with_reducible rfl | (simp only [go_sem]; done) | (simp only [go_sem]; rfl) | (simp only [go_sem, okR, failR]; done) | (simp only [okR, failR]; (try simp only [go_sem]); first | done | rfl) | (simp only [go_sem]; simp [okR, failR]; done) | (simp [okR, failR]; done) | rfl)))
theorem asks_L {q : Request} (h : asksB q = true) : fitsL (kl q.call) (tagsQ q) = true := by
  unfold asksB at h
  simp only [Bool.and_eq_true] at h
  exact h.2
theorem sRead_no {f : Files} {h n : Int} (e : (sRead f h n).2.2 = false) : (sRead f h n).2.1 = [] := by
  unfold sRead at e ⊢
  split at e
  · cases e
  · rw [if_neg (by assumption)]
theorem sRecv_no {l : List (List Int)} {s n : Int} (e : (sRecv l s n).2.2 = false) : (sRecv l s n).2.1 = [] := by
  unfold sRecv at e ⊢
  split at e
  · rw [if_pos (by assumption)]
  · cases e
attribute [local irreducible] sWrite sRead sOpen sClose sSeek sSend sRecv kl asksB valQ fitsL tagsQ
attribute [local go_sem] take_mapW drop_mapW
set_option maxHeartbeats 16000000 in
theorem rdo1_fn (o : Rdn.Outside) (q : Request) (F : FitO o) (A : asksB q = true) (c : q.call = 1) : Fnc Tryz.prog 15 [outsV o, reqV q] (fun x obs => x = .tup [outsV (doS o q).1, resV (doS o q).2, .int .i64 0] ∧ obs = []) := by
  refine Fnc.low (Fnc.wf fun hw => ?_)
  have hwd := req_words hw.2.1
  clear hw
  have hl := asks_len A
  rw [show (kl q.call).length = 3 by rw [c]; unfold kl; rfl] at hl
  rw [doS_1 c]
  have fv := roval_fn o
  rw [valO_T F] at fv
  obtain ⟨FQ, hst⟩ := asks_fit A
  have fa := rrval_fn q
  rw [valQ_T FQ] at fa
  have fx := ract_fn q.call
  rw [show actB q.call = true by rw [c]; rfl] at fx
  have fkk := rkinds_fn q (by omega)
  rw [asks_L A] at fkk
  have fb := rbuf_fn q.call (by omega) (by omega)
  rw [show bufS q.call = 1 by rw [c]; rfl] at fb
  have fc := rocpy_fn o F
  have f00 := rvalu_fn 0 false
  rw [resB_F] at f00
  have w0 := hwd 0 (by omega)
  have v0 : IntKind.i64.wrap q.args[0]!.val = q.args[0]!.val := wrapI64 (by omega) (by omega)
  have w1 := hwd 1 (by omega)
  have v1 : IntKind.i64.wrap q.args[1]!.val = q.args[1]!.val := wrapI64 (by omega) (by omega)
  have w2 := hwd 2 (by omega)
  have v2 : IntKind.i64.wrap q.args[2]!.val = q.args[2]!.val := wrapI64 (by omega) (by omega)
  have hd0 := fit_data FQ
  have hd : q.data.length ≤ 100000 := by omega
  have fw := rwrite_fn o.files F.f q.args[0]!.val q.data hd
  generalize hr : sWrite o.files q.args[0]!.val q.data = r at fw ⊢
  cases e : r.2.2 with
  | true =>
    rw [resB_T]
    rw [e] at fw
    have fz := rvalu_fn r.2.1 true
    rw [resB_T] at fz
    refine zgo m_rdo_ok fun W S => ?_
    refine zcd (fv) ?_
    refine zcd (fa) ?_
    refine zcd (fx) ?_
    refine zcd (fkk) ?_
    refine zcd (fb) ?_
    refine zcd (fc) ?_
    refine ev_unroll 4 ?_
    refine zsx (And.intro v0 (And.intro v1 (v2))) ?_
    (first | refine callD (f00) ?_ | refine callDw (f00) ?_); simp only [go_sem, failR, okR]
    refine zst ?_
    refine zcd (fw) ?_
    (first | refine callD (fz) ?_ | refine callDw (fz) ?_); simp only [go_sem, okR, failR]
    refine zst ?_
    refine ret m_rdo_ok [] ?_; (first | (simp only [go_sem]; done) | (simp only [go_sem]; ((try dsimp only); (repeat' (refine And.intro ?_ ?_)) <;> first | with_reducible rfl | (simp only [go_sem]; done) | (simp only [go_sem]; rfl) | (simp only [go_sem, okR, failR, setF]; done) | (simp only [okR, failR, setF]; (try simp only [go_sem]); first | done | rfl) | (simp only [go_sem]; simp [okR, failR, setF]; done) | (simp [okR, failR, setF]; done) | rfl)))
  | false =>
    rw [resB_F]
    rw [e] at fw
    have fz := rvalu_fn r.2.1 false
    rw [resB_F] at fz
    refine zgo m_rdo_ok fun W S => ?_
    refine zcd (fv) ?_
    refine zcd (fa) ?_
    refine zcd (fx) ?_
    refine zcd (fkk) ?_
    refine zcd (fb) ?_
    refine zcd (fc) ?_
    refine ev_unroll 4 ?_
    refine zsx (And.intro v0 (And.intro v1 (v2))) ?_
    (first | refine callD (f00) ?_ | refine callDw (f00) ?_); simp only [go_sem, failR, okR]
    refine zst ?_
    refine zcd (fw) ?_
    (first | refine callD (fz) ?_ | refine callDw (fz) ?_); simp only [go_sem, okR, failR]
    refine zst ?_
    refine ret m_rdo_ok [] ?_; (first | (simp only [go_sem]; done) | (simp only [go_sem]; ((try dsimp only); (repeat' (refine And.intro ?_ ?_)) <;> first | with_reducible rfl | (simp only [go_sem]; done) | (simp only [go_sem]; rfl) | (simp only [go_sem, okR, failR, setF]; done) | (simp only [okR, failR, setF]; (try simp only [go_sem]); first | done | rfl) | (simp only [go_sem]; simp [okR, failR, setF]; done) | (simp [okR, failR, setF]; done) | rfl)))
set_option maxHeartbeats 16000000 in
theorem rdo2_fn (o : Rdn.Outside) (q : Request) (F : FitO o) (A : asksB q = true) (c : q.call = 2) (h16 : q.args[2]!.val ≤ 16) : Fnc Tryz.prog 15 [outsV o, reqV q] (fun x obs => x = .tup [outsV (doS o q).1, resV (doS o q).2, .int .i64 0] ∧ obs = []) := by
  refine Fnc.low (Fnc.wf fun hw => ?_)
  have hwd := req_words hw.2.1
  clear hw
  have hl := asks_len A
  rw [show (kl q.call).length = 3 by rw [c]; unfold kl; rfl] at hl
  rw [doS_2 c]
  have fv := roval_fn o
  rw [valO_T F] at fv
  obtain ⟨FQ, hst⟩ := asks_fit A
  have fa := rrval_fn q
  rw [valQ_T FQ] at fa
  have fx := ract_fn q.call
  rw [show actB q.call = true by rw [c]; rfl] at fx
  have fkk := rkinds_fn q (by omega)
  rw [asks_L A] at fkk
  have fb := rbuf_fn q.call (by omega) (by omega)
  rw [show bufS q.call = 2 by rw [c]; rfl] at fb
  have fc := rocpy_fn o F
  have f00 := rvalu_fn 0 false
  rw [resB_F] at f00
  have w0 := hwd 0 (by omega)
  have v0 : IntKind.i64.wrap q.args[0]!.val = q.args[0]!.val := wrapI64 (by omega) (by omega)
  have w1 := hwd 1 (by omega)
  have v1 : IntKind.i64.wrap q.args[1]!.val = q.args[1]!.val := wrapI64 (by omega) (by omega)
  have w2 := hwd 2 (by omega)
  have v2 : IntKind.i64.wrap q.args[2]!.val = q.args[2]!.val := wrapI64 (by omega) (by omega)
  have fw := rread_fn o.files F.f q.args[0]!.val q.args[2]!.val
  have hno : (sRead o.files q.args[0]!.val q.args[2]!.val).2.2 = false → (sRead o.files q.args[0]!.val q.args[2]!.val).2.1 = [] := sRead_no
  generalize hr : sRead o.files q.args[0]!.val q.args[2]!.val = r at fw hno ⊢
  cases e : r.2.2 with
  | true =>
    rw [resB_T]
    rw [e] at fw
    have fz := rvalu_fn (r.2.1.length : Int) true
    rw [resB_T] at fz
    refine zgo m_rdo_ok fun W S => ?_
    refine zcd (fv) ?_
    refine zcd (fa) ?_
    refine zcd (fx) ?_
    refine zcd (fkk) ?_
    refine zcd (fb) ?_
    refine zcd (fc) ?_
    refine ev_unroll 4 ?_
    refine zsx (And.intro v0 (And.intro v1 (v2))) ?_
    (first | refine callD (f00) ?_ | refine callDw (f00) ?_); simp only [go_sem, failR, okR]
    refine zst ?_
    refine zcd (fw) ?_
    (first | refine callD (fz) ?_ | refine callDw (fz) ?_); simp only [go_sem, okR, failR]
    refine zst ?_
    refine ret m_rdo_ok [] ?_; (first | (simp only [go_sem]; done) | (simp only [go_sem]; ((try dsimp only); (repeat' (refine And.intro ?_ ?_)) <;> first | with_reducible rfl | (simp only [go_sem]; done) | (simp only [go_sem]; rfl) | (simp only [go_sem, okR, failR, setF]; done) | (simp only [okR, failR, setF]; (try simp only [go_sem]); first | done | rfl) | (simp only [go_sem]; simp [okR, failR, setF]; done) | (simp [okR, failR, setF]; done) | rfl)))
  | false =>
    rw [resB_F]
    rw [e] at fw
    have fz := rvalu_fn (r.2.1.length : Int) false
    rw [resB_F] at fz
    rw [hno e] at fw
    rw [hno e] at fz
    refine zgo m_rdo_ok fun W S => ?_
    refine zcd (fv) ?_
    refine zcd (fa) ?_
    refine zcd (fx) ?_
    refine zcd (fkk) ?_
    refine zcd (fb) ?_
    refine zcd (fc) ?_
    refine ev_unroll 4 ?_
    refine zsx (And.intro v0 (And.intro v1 (v2))) ?_
    (first | refine callD (f00) ?_ | refine callDw (f00) ?_); simp only [go_sem, failR, okR]
    refine zst ?_
    refine zcd (fw) ?_
    (first | refine callD (fz) ?_ | refine callDw (fz) ?_); simp only [go_sem, okR, failR]
    refine zst ?_
    refine ret m_rdo_ok [] ?_; (first | (simp only [go_sem]; done) | (simp only [go_sem]; ((try dsimp only); (repeat' (refine And.intro ?_ ?_)) <;> first | with_reducible rfl | (simp only [go_sem]; done) | (simp only [go_sem]; rfl) | (simp only [go_sem, okR, failR, setF]; done) | (simp only [okR, failR, setF]; (try simp only [go_sem]); first | done | rfl) | (simp only [go_sem]; simp [okR, failR, setF]; done) | (simp [okR, failR, setF]; done) | rfl)))
set_option maxHeartbeats 16000000 in
theorem rdo3_fn (o : Rdn.Outside) (q : Request) (F : FitO o) (A : asksB q = true) (c : q.call = 3) : Fnc Tryz.prog 15 [outsV o, reqV q] (fun x obs => x = .tup [outsV (doS o q).1, resV (doS o q).2, .int .i64 0] ∧ obs = []) := by
  refine Fnc.low (Fnc.wf fun hw => ?_)
  have hwd := req_words hw.2.1
  clear hw
  have hl := asks_len A
  rw [show (kl q.call).length = 2 by rw [c]; unfold kl; rfl] at hl
  rw [doS_3 c]
  have fv := roval_fn o
  rw [valO_T F] at fv
  obtain ⟨FQ, hst⟩ := asks_fit A
  have fa := rrval_fn q
  rw [valQ_T FQ] at fa
  have fx := ract_fn q.call
  rw [show actB q.call = true by rw [c]; rfl] at fx
  have fkk := rkinds_fn q (by omega)
  rw [asks_L A] at fkk
  have fb := rbuf_fn q.call (by omega) (by omega)
  rw [show bufS q.call = 0 by rw [c]; rfl] at fb
  have fc := rocpy_fn o F
  have f00 := rvalu_fn 0 false
  rw [resB_F] at f00
  have w0 := hwd 0 (by omega)
  have v0 : IntKind.i64.wrap q.args[0]!.val = q.args[0]!.val := wrapI64 (by omega) (by omega)
  have w1 := hwd 1 (by omega)
  have v1 : IntKind.i64.wrap q.args[1]!.val = q.args[1]!.val := wrapI64 (by omega) (by omega)
  have fw := rropen_fn o.files F.f q.args[0]!.val q.args[1]!.val
  generalize hr : sOpen o.files q.args[0]!.val q.args[1]!.val = r at fw ⊢
  by_cases e : 0 ≤ r.2
  · rw [decT e, resB_T]
    refine zgo m_rdo_ok fun W S => ?_
    refine zcd (fv) ?_
    refine zcd (fa) ?_
    refine zcd (fx) ?_
    refine zcd (fkk) ?_
    refine zcd (fb) ?_
    refine zcd (fc) ?_
    refine ev_unroll 3 ?_
    refine zsx (And.intro v0 (v1)) ?_
    (first | refine callD (f00) ?_ | refine callDw (f00) ?_); simp only [go_sem, failR, okR]
    refine zst ?_
    refine zcd (fw) ?_
    refine ret m_rdo_ok [] ?_; (first | (simp only [go_sem]; done) | (simp only [go_sem]; ((try dsimp only); (repeat' (refine And.intro ?_ ?_)) <;> first | with_reducible rfl | (simp only [go_sem]; done) | (simp only [go_sem]; rfl) | (simp only [go_sem, okR, failR, setF]; done) | (simp only [okR, failR, setF]; (try simp only [go_sem]); first | done | rfl) | (simp only [go_sem]; simp [okR, failR, setF]; done) | (simp [okR, failR, setF]; done) | rfl)))
  · rw [decF e, resB_F]
    refine zgo m_rdo_ok fun W S => ?_
    refine zcd (fv) ?_
    refine zcd (fa) ?_
    refine zcd (fx) ?_
    refine zcd (fkk) ?_
    refine zcd (fb) ?_
    refine zcd (fc) ?_
    refine ev_unroll 3 ?_
    refine zsx (And.intro v0 (v1)) ?_
    (first | refine callD (f00) ?_ | refine callDw (f00) ?_); simp only [go_sem, failR, okR]
    refine zst ?_
    refine zcd (fw) ?_
    refine ret m_rdo_ok [] ?_; (first | (simp only [go_sem]; done) | (simp only [go_sem]; ((try dsimp only); (repeat' (refine And.intro ?_ ?_)) <;> first | with_reducible rfl | (simp only [go_sem]; done) | (simp only [go_sem]; rfl) | (simp only [go_sem, okR, failR, setF]; done) | (simp only [okR, failR, setF]; (try simp only [go_sem]); first | done | rfl) | (simp only [go_sem]; simp [okR, failR, setF]; done) | (simp [okR, failR, setF]; done) | rfl)))
set_option maxHeartbeats 16000000 in
theorem rdo4_fn (o : Rdn.Outside) (q : Request) (F : FitO o) (A : asksB q = true) (c : q.call = 4) : Fnc Tryz.prog 15 [outsV o, reqV q] (fun x obs => x = .tup [outsV (doS o q).1, resV (doS o q).2, .int .i64 0] ∧ obs = []) := by
  refine Fnc.low (Fnc.wf fun hw => ?_)
  have hwd := req_words hw.2.1
  clear hw
  have hl := asks_len A
  rw [show (kl q.call).length = 1 by rw [c]; unfold kl; rfl] at hl
  rw [doS_4 c]
  have fv := roval_fn o
  rw [valO_T F] at fv
  obtain ⟨FQ, hst⟩ := asks_fit A
  have fa := rrval_fn q
  rw [valQ_T FQ] at fa
  have fx := ract_fn q.call
  rw [show actB q.call = true by rw [c]; rfl] at fx
  have fkk := rkinds_fn q (by omega)
  rw [asks_L A] at fkk
  have fb := rbuf_fn q.call (by omega) (by omega)
  rw [show bufS q.call = 0 by rw [c]; rfl] at fb
  have fc := rocpy_fn o F
  have f00 := rvalu_fn 0 false
  rw [resB_F] at f00
  have w0 := hwd 0 (by omega)
  have v0 : IntKind.i64.wrap q.args[0]!.val = q.args[0]!.val := wrapI64 (by omega) (by omega)
  have fw := rclose_fn o.files F.f q.args[0]!.val
  generalize hr : sClose o.files q.args[0]!.val = r at fw ⊢
  cases e : r.2 with
  | true =>
    rw [resB_T]
    rw [e] at fw
    have fz := rvalu_fn (0 : Int) true
    rw [resB_T] at fz
    rw [numR_0] at fz
    refine zgo m_rdo_ok fun W S => ?_
    refine zcd (fv) ?_
    refine zcd (fa) ?_
    refine zcd (fx) ?_
    refine zcd (fkk) ?_
    refine zcd (fb) ?_
    refine zcd (fc) ?_
    refine ev_unroll 2 ?_
    refine zsx v0 ?_
    (first | refine callD (f00) ?_ | refine callDw (f00) ?_); simp only [go_sem, failR, okR]
    refine zst ?_
    refine zcd (fw) ?_
    (first | refine callD (fz) ?_ | refine callDw (fz) ?_); simp only [go_sem, okR, failR]
    refine zst ?_
    refine ret m_rdo_ok [] ?_; (first | (simp only [go_sem]; done) | (simp only [go_sem]; ((try dsimp only); (repeat' (refine And.intro ?_ ?_)) <;> first | with_reducible rfl | (simp only [go_sem]; done) | (simp only [go_sem]; rfl) | (simp only [go_sem, okR, failR, setF]; done) | (simp only [okR, failR, setF]; (try simp only [go_sem]); first | done | rfl) | (simp only [go_sem]; simp [okR, failR, setF]; done) | (simp [okR, failR, setF]; done) | rfl)))
  | false =>
    rw [resB_F]
    rw [e] at fw
    have fz := rvalu_fn (0 : Int) false
    rw [resB_F] at fz
    refine zgo m_rdo_ok fun W S => ?_
    refine zcd (fv) ?_
    refine zcd (fa) ?_
    refine zcd (fx) ?_
    refine zcd (fkk) ?_
    refine zcd (fb) ?_
    refine zcd (fc) ?_
    refine ev_unroll 2 ?_
    refine zsx v0 ?_
    (first | refine callD (f00) ?_ | refine callDw (f00) ?_); simp only [go_sem, failR, okR]
    refine zst ?_
    refine zcd (fw) ?_
    (first | refine callD (fz) ?_ | refine callDw (fz) ?_); simp only [go_sem, okR, failR]
    refine zst ?_
    refine ret m_rdo_ok [] ?_; (first | (simp only [go_sem]; done) | (simp only [go_sem]; ((try dsimp only); (repeat' (refine And.intro ?_ ?_)) <;> first | with_reducible rfl | (simp only [go_sem]; done) | (simp only [go_sem]; rfl) | (simp only [go_sem, okR, failR, setF]; done) | (simp only [okR, failR, setF]; (try simp only [go_sem]); first | done | rfl) | (simp only [go_sem]; simp [okR, failR, setF]; done) | (simp [okR, failR, setF]; done) | rfl)))
set_option maxHeartbeats 16000000 in
theorem rdo5_fn (o : Rdn.Outside) (q : Request) (F : FitO o) (A : asksB q = true) (c : q.call = 5) : Fnc Tryz.prog 15 [outsV o, reqV q] (fun x obs => x = .tup [outsV (doS o q).1, resV (doS o q).2, .int .i64 0] ∧ obs = []) := by
  refine Fnc.low (Fnc.wf fun hw => ?_)
  have hwd := req_words hw.2.1
  clear hw
  have hl := asks_len A
  rw [show (kl q.call).length = 2 by rw [c]; unfold kl; rfl] at hl
  rw [doS_5 c]
  have fv := roval_fn o
  rw [valO_T F] at fv
  obtain ⟨FQ, hst⟩ := asks_fit A
  have fa := rrval_fn q
  rw [valQ_T FQ] at fa
  have fx := ract_fn q.call
  rw [show actB q.call = true by rw [c]; rfl] at fx
  have fkk := rkinds_fn q (by omega)
  rw [asks_L A] at fkk
  have fb := rbuf_fn q.call (by omega) (by omega)
  rw [show bufS q.call = 0 by rw [c]; rfl] at fb
  have fc := rocpy_fn o F
  have f00 := rvalu_fn 0 false
  rw [resB_F] at f00
  have w0 := hwd 0 (by omega)
  have v0 : IntKind.i64.wrap q.args[0]!.val = q.args[0]!.val := wrapI64 (by omega) (by omega)
  have w1 := hwd 1 (by omega)
  have v1 : IntKind.i64.wrap q.args[1]!.val = q.args[1]!.val := wrapI64 (by omega) (by omega)
  have fw := rseek_fn o.files F.f q.args[0]!.val q.args[1]!.val
  generalize hr : sSeek o.files q.args[0]!.val q.args[1]!.val = r at fw ⊢
  cases e : r.2 with
  | true =>
    rw [resB_T]
    rw [e] at fw
    have fz := rvalu_fn (0 : Int) true
    rw [resB_T] at fz
    rw [numR_0] at fz
    refine zgo m_rdo_ok fun W S => ?_
    refine zcd (fv) ?_
    refine zcd (fa) ?_
    refine zcd (fx) ?_
    refine zcd (fkk) ?_
    refine zcd (fb) ?_
    refine zcd (fc) ?_
    refine ev_unroll 3 ?_
    refine zsx (And.intro v0 (v1)) ?_
    (first | refine callD (f00) ?_ | refine callDw (f00) ?_); simp only [go_sem, failR, okR]
    refine zst ?_
    refine zcd (fw) ?_
    (first | refine callD (fz) ?_ | refine callDw (fz) ?_); simp only [go_sem, okR, failR]
    refine zst ?_
    refine ret m_rdo_ok [] ?_; (first | (simp only [go_sem]; done) | (simp only [go_sem]; ((try dsimp only); (repeat' (refine And.intro ?_ ?_)) <;> first | with_reducible rfl | (simp only [go_sem]; done) | (simp only [go_sem]; rfl) | (simp only [go_sem, okR, failR, setF]; done) | (simp only [okR, failR, setF]; (try simp only [go_sem]); first | done | rfl) | (simp only [go_sem]; simp [okR, failR, setF]; done) | (simp [okR, failR, setF]; done) | rfl)))
  | false =>
    rw [resB_F]
    rw [e] at fw
    have fz := rvalu_fn (0 : Int) false
    rw [resB_F] at fz
    refine zgo m_rdo_ok fun W S => ?_
    refine zcd (fv) ?_
    refine zcd (fa) ?_
    refine zcd (fx) ?_
    refine zcd (fkk) ?_
    refine zcd (fb) ?_
    refine zcd (fc) ?_
    refine ev_unroll 3 ?_
    refine zsx (And.intro v0 (v1)) ?_
    (first | refine callD (f00) ?_ | refine callDw (f00) ?_); simp only [go_sem, failR, okR]
    refine zst ?_
    refine zcd (fw) ?_
    (first | refine callD (fz) ?_ | refine callDw (fz) ?_); simp only [go_sem, okR, failR]
    refine zst ?_
    refine ret m_rdo_ok [] ?_; (first | (simp only [go_sem]; done) | (simp only [go_sem]; ((try dsimp only); (repeat' (refine And.intro ?_ ?_)) <;> first | with_reducible rfl | (simp only [go_sem]; done) | (simp only [go_sem]; rfl) | (simp only [go_sem, okR, failR, setF]; done) | (simp only [okR, failR, setF]; (try simp only [go_sem]); first | done | rfl) | (simp only [go_sem]; simp [okR, failR, setF]; done) | (simp [okR, failR, setF]; done) | rfl)))
set_option maxHeartbeats 16000000 in
theorem rdo6_fn (o : Rdn.Outside) (q : Request) (F : FitO o) (A : asksB q = true) (c : q.call = 6) : Fnc Tryz.prog 15 [outsV o, reqV q] (fun x obs => x = .tup [outsV (doS o q).1, resV (doS o q).2, .int .i64 0] ∧ obs = []) := by
  refine Fnc.low (Fnc.wf fun hw => ?_)
  have hwd := req_words hw.2.1
  have hm : ∀ k, k < o.clock.length → 0 ≤ o.clock[k]! ∧ o.clock[k]! ≤ 65535 := fun k hk => by
    have := hw.1
    simp only [V.wf, V.wfs, wfs_map] at this
    exact inK_u16' (this.1.1 _ (mem_at hk))
  clear hw
  have hl := asks_len A
  rw [show (kl q.call).length = 0 by rw [c]; unfold kl; rfl] at hl
  rw [doS_6 c]
  have fv := roval_fn o
  rw [valO_T F] at fv
  obtain ⟨FQ, hst⟩ := asks_fit A
  have fa := rrval_fn q
  rw [valQ_T FQ] at fa
  have fx := ract_fn q.call
  rw [show actB q.call = true by rw [c]; rfl] at fx
  have fkk := rkinds_fn q (by omega)
  rw [asks_L A] at fkk
  have fb := rbuf_fn q.call (by omega) (by omega)
  rw [show bufS q.call = 0 by rw [c]; rfl] at fb
  have fc := rocpy_fn o F
  have f00 := rvalu_fn 0 false
  rw [resB_F] at f00
  by_cases e : o.clock.length = 0
  · rw [sFirst_T e, resB_F]
    refine zgo m_rdo_ok fun W S => ?_
    refine zcd (fv) ?_
    refine zcd (fa) ?_
    refine zcd (fx) ?_
    refine zcd (fkk) ?_
    refine zcd (fb) ?_
    refine zcd (fc) ?_
    refine ev_unroll 1 ?_
    refine zst ?_
    (first | refine callD (f00) ?_ | refine callDw (f00) ?_); simp only [go_sem, failR, okR]
    refine zst ?_
    refine ret m_rdo_ok [] ?_; (first | (simp only [go_sem]; done) | (simp only [go_sem]; ((try dsimp only); (repeat' (refine And.intro ?_ ?_)) <;> first | with_reducible rfl | (simp only [go_sem]; done) | (simp only [go_sem]; rfl) | (simp only [go_sem, okR, failR]; done) | (simp only [okR, failR]; (try simp only [go_sem]); first | done | rfl) | (simp only [go_sem]; simp [okR, failR]; done) | (simp [okR, failR]; done) | rfl)))
  · obtain ⟨z1, z2⟩ := hm 0 (by omega)
    have z3 : IntKind.i64.wrap o.clock[0]! = o.clock[0]! := wrapI64 (by omega) (by omega)
    have z4 : IntKind.u16.wrap o.clock[0]! = o.clock[0]! := wrapU16 z1 z2
    rw [sFirst_F e, resB_T]
    have fw := rvalu_fn o.clock[0]! true
    rw [resB_T, show numR o.clock[0]! = ⟨0, o.clock[0]!, 0, 0⟩ by unfold numR; rw [z4]] at fw
    refine zgo m_rdo_ok fun W S => ?_
    refine zcd (fv) ?_
    refine zcd (fa) ?_
    refine zcd (fx) ?_
    refine zcd (fkk) ?_
    refine zcd (fb) ?_
    refine zcd (fc) ?_
    refine ev_unroll 1 ?_
    refine zst ?_
    (first | refine callD (f00) ?_ | refine callDw (f00) ?_); simp only [go_sem, failR, okR]
    refine zst ?_
    refine zsx z3 ?_
    (first | refine callD (fw) ?_ | refine callDw (fw) ?_); simp only [go_sem, okR]
    refine zst ?_
    refine ret m_rdo_ok [] ?_; (first | (simp only [go_sem]; done) | (simp only [go_sem]; ((try dsimp only); (repeat' (refine And.intro ?_ ?_)) <;> first | with_reducible rfl | (simp only [go_sem]; done) | (simp only [go_sem]; rfl) | (simp only [go_sem, okR]; done) | (simp only [okR]; (try simp only [go_sem]); first | done | rfl) | (simp only [go_sem]; simp [okR]; done) | (simp [okR]; done) | rfl)))
set_option maxHeartbeats 16000000 in
theorem rdo7_fn (o : Rdn.Outside) (q : Request) (F : FitO o) (A : asksB q = true) (c : q.call = 7) : Fnc Tryz.prog 15 [outsV o, reqV q] (fun x obs => x = .tup [outsV (doS o q).1, resV (doS o q).2, .int .i64 0] ∧ obs = []) := by
  refine Fnc.low (Fnc.wf fun hw => ?_)
  have hwd := req_words hw.2.1
  have hm : ∀ k, k < o.random.length → 0 ≤ o.random[k]! ∧ o.random[k]! ≤ 65535 := fun k hk => by
    have := hw.1
    simp only [V.wf, V.wfs, wfs_map] at this
    exact inK_u16' (this.2.1.1 _ (mem_at hk))
  clear hw
  have hl := asks_len A
  rw [show (kl q.call).length = 0 by rw [c]; unfold kl; rfl] at hl
  rw [doS_7 c]
  have fv := roval_fn o
  rw [valO_T F] at fv
  obtain ⟨FQ, hst⟩ := asks_fit A
  have fa := rrval_fn q
  rw [valQ_T FQ] at fa
  have fx := ract_fn q.call
  rw [show actB q.call = true by rw [c]; rfl] at fx
  have fkk := rkinds_fn q (by omega)
  rw [asks_L A] at fkk
  have fb := rbuf_fn q.call (by omega) (by omega)
  rw [show bufS q.call = 0 by rw [c]; rfl] at fb
  have fc := rocpy_fn o F
  have f00 := rvalu_fn 0 false
  rw [resB_F] at f00
  by_cases e : o.random.length = 0
  · rw [sFirst_T e, resB_F]
    refine zgo m_rdo_ok fun W S => ?_
    refine zcd (fv) ?_
    refine zcd (fa) ?_
    refine zcd (fx) ?_
    refine zcd (fkk) ?_
    refine zcd (fb) ?_
    refine zcd (fc) ?_
    refine ev_unroll 1 ?_
    refine zst ?_
    (first | refine callD (f00) ?_ | refine callDw (f00) ?_); simp only [go_sem, failR, okR]
    refine zst ?_
    refine ret m_rdo_ok [] ?_; (first | (simp only [go_sem]; done) | (simp only [go_sem]; ((try dsimp only); (repeat' (refine And.intro ?_ ?_)) <;> first | with_reducible rfl | (simp only [go_sem]; done) | (simp only [go_sem]; rfl) | (simp only [go_sem, okR, failR]; done) | (simp only [okR, failR]; (try simp only [go_sem]); first | done | rfl) | (simp only [go_sem]; simp [okR, failR]; done) | (simp [okR, failR]; done) | rfl)))
  · obtain ⟨z1, z2⟩ := hm 0 (by omega)
    have z3 : IntKind.i64.wrap o.random[0]! = o.random[0]! := wrapI64 (by omega) (by omega)
    have z4 : IntKind.u16.wrap o.random[0]! = o.random[0]! := wrapU16 z1 z2
    rw [sFirst_F e, resB_T]
    have fw := rvalu_fn o.random[0]! true
    rw [resB_T, show numR o.random[0]! = ⟨0, o.random[0]!, 0, 0⟩ by unfold numR; rw [z4]] at fw
    refine zgo m_rdo_ok fun W S => ?_
    refine zcd (fv) ?_
    refine zcd (fa) ?_
    refine zcd (fx) ?_
    refine zcd (fkk) ?_
    refine zcd (fb) ?_
    refine zcd (fc) ?_
    refine ev_unroll 1 ?_
    refine zst ?_
    (first | refine callD (f00) ?_ | refine callDw (f00) ?_); simp only [go_sem, failR, okR]
    refine zst ?_
    refine zsx z3 ?_
    (first | refine callD (fw) ?_ | refine callDw (fw) ?_); simp only [go_sem, okR]
    refine zst ?_
    refine ret m_rdo_ok [] ?_; (first | (simp only [go_sem]; done) | (simp only [go_sem]; ((try dsimp only); (repeat' (refine And.intro ?_ ?_)) <;> first | with_reducible rfl | (simp only [go_sem]; done) | (simp only [go_sem]; rfl) | (simp only [go_sem, okR]; done) | (simp only [okR]; (try simp only [go_sem]); first | done | rfl) | (simp only [go_sem]; simp [okR]; done) | (simp [okR]; done) | rfl)))
set_option maxHeartbeats 16000000 in
theorem rdo13_fn (o : Rdn.Outside) (q : Request) (F : FitO o) (A : asksB q = true) (c : q.call = 13) : Fnc Tryz.prog 15 [outsV o, reqV q] (fun x obs => x = .tup [outsV (doS o q).1, resV (doS o q).2, .int .i64 0] ∧ obs = []) := by
  refine Fnc.low (Fnc.wf fun hw => ?_)
  have hwd := req_words hw.2.1
  clear hw
  have hl := asks_len A
  rw [show (kl q.call).length = 3 by rw [c]; unfold kl; rfl] at hl
  rw [doS_13 c]
  have fv := roval_fn o
  rw [valO_T F] at fv
  obtain ⟨FQ, hst⟩ := asks_fit A
  have fa := rrval_fn q
  rw [valQ_T FQ] at fa
  have fx := ract_fn q.call
  rw [show actB q.call = true by rw [c]; rfl] at fx
  have fkk := rkinds_fn q (by omega)
  rw [asks_L A] at fkk
  have fb := rbuf_fn q.call (by omega) (by omega)
  rw [show bufS q.call = 1 by rw [c]; rfl] at fb
  have fc := rocpy_fn o F
  have f00 := rvalu_fn 0 false
  rw [resB_F] at f00
  have w0 := hwd 0 (by omega)
  have v0 : IntKind.i64.wrap q.args[0]!.val = q.args[0]!.val := wrapI64 (by omega) (by omega)
  have w1 := hwd 1 (by omega)
  have v1 : IntKind.i64.wrap q.args[1]!.val = q.args[1]!.val := wrapI64 (by omega) (by omega)
  have w2 := hwd 2 (by omega)
  have v2 : IntKind.i64.wrap q.args[2]!.val = q.args[2]!.val := wrapI64 (by omega) (by omega)
  have hd0 := fit_data FQ
  have hd : q.data.length ≤ 100000 := by omega
  have fw := rsend_fn o.outputs q.args[0]!.val q.data (by have := F.n; omega) F.short (by omega)
  generalize hr : sSend o.outputs q.args[0]!.val q.data = r at fw ⊢
  cases e : r.2.2 with
  | true =>
    rw [resB_T]
    rw [e] at fw
    have fz := rvalu_fn r.2.1 true
    rw [resB_T] at fz
    refine zgo m_rdo_ok fun W S => ?_
    refine zcd (fv) ?_
    refine zcd (fa) ?_
    refine zcd (fx) ?_
    refine zcd (fkk) ?_
    refine zcd (fb) ?_
    refine zcd (fc) ?_
    refine ev_unroll 4 ?_
    refine zsx (And.intro v0 (And.intro v1 (v2))) ?_
    (first | refine callD (f00) ?_ | refine callDw (f00) ?_); simp only [go_sem, failR, okR]
    refine zst ?_
    refine zcd (fw) ?_
    (first | refine callD (fz) ?_ | refine callDw (fz) ?_); simp only [go_sem, okR, failR]
    refine zst ?_
    refine ret m_rdo_ok [] ?_; (first | (simp only [go_sem]; done) | (simp only [go_sem]; ((try dsimp only); (repeat' (refine And.intro ?_ ?_)) <;> first | with_reducible rfl | (simp only [go_sem]; done) | (simp only [go_sem]; rfl) | (simp only [go_sem, okR, failR, setF]; done) | (simp only [okR, failR, setF]; (try simp only [go_sem]); first | done | rfl) | (simp only [go_sem]; simp [okR, failR, setF]; done) | (simp [okR, failR, setF]; done) | rfl)))
  | false =>
    rw [resB_F]
    rw [e] at fw
    have fz := rvalu_fn r.2.1 false
    rw [resB_F] at fz
    refine zgo m_rdo_ok fun W S => ?_
    refine zcd (fv) ?_
    refine zcd (fa) ?_
    refine zcd (fx) ?_
    refine zcd (fkk) ?_
    refine zcd (fb) ?_
    refine zcd (fc) ?_
    refine ev_unroll 4 ?_
    refine zsx (And.intro v0 (And.intro v1 (v2))) ?_
    (first | refine callD (f00) ?_ | refine callDw (f00) ?_); simp only [go_sem, failR, okR]
    refine zst ?_
    refine zcd (fw) ?_
    (first | refine callD (fz) ?_ | refine callDw (fz) ?_); simp only [go_sem, okR, failR]
    refine zst ?_
    refine ret m_rdo_ok [] ?_; (first | (simp only [go_sem]; done) | (simp only [go_sem]; ((try dsimp only); (repeat' (refine And.intro ?_ ?_)) <;> first | with_reducible rfl | (simp only [go_sem]; done) | (simp only [go_sem]; rfl) | (simp only [go_sem, okR, failR, setF]; done) | (simp only [okR, failR, setF]; (try simp only [go_sem]); first | done | rfl) | (simp only [go_sem]; simp [okR, failR, setF]; done) | (simp [okR, failR, setF]; done) | rfl)))
set_option maxHeartbeats 16000000 in
theorem rdo14_fn (o : Rdn.Outside) (q : Request) (F : FitO o) (A : asksB q = true) (c : q.call = 14) (h16 : q.args[2]!.val ≤ 16) : Fnc Tryz.prog 15 [outsV o, reqV q] (fun x obs => x = .tup [outsV (doS o q).1, resV (doS o q).2, .int .i64 0] ∧ obs = []) := by
  refine Fnc.low (Fnc.wf fun hw => ?_)
  have hwd := req_words hw.2.1
  clear hw
  have hl := asks_len A
  rw [show (kl q.call).length = 3 by rw [c]; unfold kl; rfl] at hl
  rw [doS_14 c]
  have fv := roval_fn o
  rw [valO_T F] at fv
  obtain ⟨FQ, hst⟩ := asks_fit A
  have fa := rrval_fn q
  rw [valQ_T FQ] at fa
  have fx := ract_fn q.call
  rw [show actB q.call = true by rw [c]; rfl] at fx
  have fkk := rkinds_fn q (by omega)
  rw [asks_L A] at fkk
  have fb := rbuf_fn q.call (by omega) (by omega)
  rw [show bufS q.call = 2 by rw [c]; rfl] at fb
  have fc := rocpy_fn o F
  have f00 := rvalu_fn 0 false
  rw [resB_F] at f00
  have w0 := hwd 0 (by omega)
  have v0 : IntKind.i64.wrap q.args[0]!.val = q.args[0]!.val := wrapI64 (by omega) (by omega)
  have w1 := hwd 1 (by omega)
  have v1 : IntKind.i64.wrap q.args[1]!.val = q.args[1]!.val := wrapI64 (by omega) (by omega)
  have w2 := hwd 2 (by omega)
  have v2 : IntKind.i64.wrap q.args[2]!.val = q.args[2]!.val := wrapI64 (by omega) (by omega)
  have fw := rrecvG_fn o.inputs q.args[0]!.val q.args[2]!.val (by have := F.i; omega) (fun w hw => by have := F.w w hw; omega)
  have hno : (sRecv o.inputs q.args[0]!.val q.args[2]!.val).2.2 = false → (sRecv o.inputs q.args[0]!.val q.args[2]!.val).2.1 = [] := sRecv_no
  generalize hr : sRecv o.inputs q.args[0]!.val q.args[2]!.val = r at fw hno ⊢
  cases e : r.2.2 with
  | true =>
    rw [resB_T]
    rw [e] at fw
    have fz := rvalu_fn (r.2.1.length : Int) true
    rw [resB_T] at fz
    refine zgo m_rdo_ok fun W S => ?_
    refine zcd (fv) ?_
    refine zcd (fa) ?_
    refine zcd (fx) ?_
    refine zcd (fkk) ?_
    refine zcd (fb) ?_
    refine zcd (fc) ?_
    refine ev_unroll 4 ?_
    refine zsx (And.intro v0 (And.intro v1 (v2))) ?_
    (first | refine callD (f00) ?_ | refine callDw (f00) ?_); simp only [go_sem, failR, okR]
    refine zst ?_
    refine zcd (fw) ?_
    (first | refine callD (fz) ?_ | refine callDw (fz) ?_); simp only [go_sem, okR, failR]
    refine zst ?_
    refine ret m_rdo_ok [] ?_; (first | (simp only [go_sem]; done) | (simp only [go_sem]; ((try dsimp only); (repeat' (refine And.intro ?_ ?_)) <;> first | with_reducible rfl | (simp only [go_sem]; done) | (simp only [go_sem]; rfl) | (simp only [go_sem, okR, failR, setF]; done) | (simp only [okR, failR, setF]; (try simp only [go_sem]); first | done | rfl) | (simp only [go_sem]; simp [okR, failR, setF]; done) | (simp [okR, failR, setF]; done) | rfl)))
  | false =>
    rw [resB_F]
    rw [e] at fw
    have fz := rvalu_fn (r.2.1.length : Int) false
    rw [resB_F] at fz
    rw [hno e] at fw
    rw [hno e] at fz
    refine zgo m_rdo_ok fun W S => ?_
    refine zcd (fv) ?_
    refine zcd (fa) ?_
    refine zcd (fx) ?_
    refine zcd (fkk) ?_
    refine zcd (fb) ?_
    refine zcd (fc) ?_
    refine ev_unroll 4 ?_
    refine zsx (And.intro v0 (And.intro v1 (v2))) ?_
    (first | refine callD (f00) ?_ | refine callDw (f00) ?_); simp only [go_sem, failR, okR]
    refine zst ?_
    refine zcd (fw) ?_
    (first | refine callD (fz) ?_ | refine callDw (fz) ?_); simp only [go_sem, okR, failR]
    refine zst ?_
    refine ret m_rdo_ok [] ?_; (first | (simp only [go_sem]; done) | (simp only [go_sem]; ((try dsimp only); (repeat' (refine And.intro ?_ ?_)) <;> first | with_reducible rfl | (simp only [go_sem]; done) | (simp only [go_sem]; rfl) | (simp only [go_sem, okR, failR, setF]; done) | (simp only [okR, failR, setF]; (try simp only [go_sem]); first | done | rfl) | (simp only [go_sem]; simp [okR, failR, setF]; done) | (simp [okR, failR, setF]; done) | rfl)))
end Go.Proofs.YtkfpcgkmemfdaaaGreat
