/- The law JournalRaw. -/
import Derived.Test.YtdjjhajkpfiagaaJ8
import Derived.Test.YtdjjhajkpfiagaaC5
import Derived.Test.YtdjjhajkpfiagaaC4
namespace Go.Proofs.Ytdjjhajkpfiagaa
open Go Go.RowKit Rdn Rdn.Dp
set_option linter.unusedVariables false
set_option linter.unusedSimpArgs false
theorem m_awake39_ok : compF Try.prog 13 = some (54, Qr ([Qc 0 (.bool false)])
 (Qr ([Qw 7 (.build none [.int .i64 0, .int .i64 0, .int .i64 0, .nilS] [(0, (Qi 3)), (1, (Qi 3))]), Qq 8 16 [(.t 7)], Qm 6 8, Qe 9 6 0, Qe 10 6 1, Qm 1 9, Qm 2 10])
 (Qr ([Qm 12 1, Qq 13 18 [(.t 12)], Qm 11 13, Qe 14 11 0, Qe 15 11 1, Qe 16 11 2, Qw 3 (.alloc 34 (.agg [.int .i64 0, .int .i64 0, .int .i64 0, .nilS])), Qs 4 3 14, Qm 4 15, Qm 5 16])
 (Qr ([Qm 17 2, Qk 18 .eql 17 0, Qm 19 18, Q1 20 19 (.mov (.t 5)), Q1 21 19 (.bin 0 .eql (.t 20) (Qi 0)), Qu 22 19 21, Qm 23 22, Q1 24 23 (.mov (.t 1)), Q1 25 23 (.len (.t 24)), Q1 26 23 (.bin 0 .eql (.t 25) (Qi 12)), Qu 27 23 26, Qm 28 27, Q1 29 28 (.mov (.t 1)), Q1 30 28 (.idxA 1 (.t 29) (Qi 0)), Q1 31 28 (.load false 1 (.t 30)), Q1 32 28 (.bin 0 .eql (.t 31) (.c (.int .u8 6))), Qu 33 28 32, Qm 34 33, Q1 35 34 (.mov (.t 1)), Q1 36 34 (.idxA 1 (.t 35) (Qi 1)), Q1 37 34 (.load false 1 (.t 36)), Q1 38 34 (.bin 0 .eql (.t 37) (.c (.int .u8 0))), Qu 39 34 38, Qm 40 39, Q1 41 40 (.mov (.t 4)), Q1 42 40 (.bin 0 .eql (.t 41) (Qi 12)), Qu 43 40 42, Qm 44 43, Q1 45 44 (.fieldA 0 0 (.t 3)), Q1 46 44 (.load false 1 (.t 45)), Q1 47 44 (.bin 0 .eql (.t 46) (Qi 3)), Qu 48 44 47, Qm 49 48, Q1 50 49 (.fieldA 1 1 (.t 3)), Q1 51 49 (.load false 1 (.t 50)), Q1 52 49 (.bin 0 .eql (.t 51) (Qi 3)), Qu 53 49 52, Qm 0 53])
 (.ret)))), [.mov (.t 0)]) := by kernel_rfl
theorem m_agree39_ok : compF Try.prog 39 = some (121, Qr ([Qw 2 (.box 34 (.t 0)), Qc 4 (.bool false)])
 (Qr ([QL 24 4 2, Qq 25 16 [(.t 24)], Qm 23 25, Qe 26 23 0, Qe 27 23 1, Qm 5 26, Qm 6 27])
 (Qr ([QL 29 4 2, Qq 30 64 [(.t 29)], Qm 28 30, Qe 31 28 0, Qe 32 28 1, Qm 7 31, Qm 8 32])
 (Qr ([Qm 34 1, Qq 35 18 [(.t 34)], Qm 33 35, Qe 36 33 0, Qe 37 33 1, Qe 38 33 2, Qw 9 (.alloc 34 (.agg [.int .i64 0, .int .i64 0, .int .i64 0, .nilS])), Qs 4 9 36, Qm 10 37, Qm 11 38])
 (Qr ([Qm 40 1, Qq 41 65 [(.t 40)], Qm 39 41, Qe 42 39 0, Qe 43 39 1, Qe 44 39 2, Qw 12 (.alloc 34 (.agg [.int .i64 0, .int .i64 0, .int .i64 0, .nilS])), Qs 4 12 42, Qm 13 43, Qm 14 44])
 (Qr ([Qm 46 1, QL 47 4 2, Qq 48 41 [(.t 46), (.t 47)], Qm 45 48, Qe 49 45 0, Qe 50 45 1, Qm 15 49, Qm 16 50])
 (Qr ([Qm 52 1, QL 53 4 2, Qq 54 66 [(.t 52), (.t 53)], Qm 51 54, Qe 55 51 0, Qe 56 51 1, Qm 17 55, Qm 18 56])
 (Qr ([Qm 58 1, Qq 59 42 [(.t 58)], Qm 57 59, Qe 60 57 0, Qe 61 57 1, Qm 19 60, Qm 20 61])
 (Qr ([Qm 63 1, Qq 64 67 [(.t 63)], Qm 62 64, Qe 65 62 0, Qe 66 62 1, Qm 21 65, Qm 22 66])
 (.seq (.dreg [Qm 67 6, Qm 68 8, Qb 69 .eql 67 68, Qm 70 69, Q1 71 70 (.mov (.t 11)), Q1 72 70 (.mov (.t 14)), Q1 73 70 (.bin 0 .eql (.t 71) (.t 72)), Qu 74 70 73, Qm 75 74, Q1 76 75 (.mov (.t 16)), Q1 77 75 (.mov (.t 18)), Q1 78 75 (.bin 0 .eql (.t 76) (.t 77)), Qu 79 75 78, Qm 80 79, Q1 81 80 (.mov (.t 10)), Q1 82 80 (.mov (.t 13)), Q1 83 80 (.bin 0 .eql (.t 81) (.t 82)), Qu 84 80 83, Qm 85 84, Q1 86 85 (.mov (.t 20)), Q1 87 85 (.mov (.t 22)), Q1 88 85 (.bin 0 .eql (.t 86) (.t 87)), Qu 89 85 88, Qm 90 89, Q1 91 90 (.mov (.t 5)), Q1 92 90 (.b2s (.t 91)), Q1 93 90 (.mov (.t 7)), Q1 94 90 (.b2s (.t 93)), Q1 95 90 (.bin 0 .eql (.t 92) (.t 94)), Qu 96 90 95, Qm 97 96, Q1 98 97 (.mov (.t 15)), Q1 99 97 (.b2s (.t 98)), Q1 100 97 (.mov (.t 17)), Q1 101 97 (.b2s (.t 100)), Q1 102 97 (.bin 0 .eql (.t 99) (.t 101)), Qu 103 97 102, Qm 104 103, Q1 105 104 (.load true 4 (.t 9)), Q1 106 104 (.load true 4 (.t 12)), ⟨(some 107), (some (104, true)), (.call 20 [(.t 105), (.t 106)])⟩, Qu 108 104 107, Qm 109 108, Q1 110 109 (.mov (.t 19)), Q1 111 109 (.mov (.t 21)), ⟨(some 112), (some (109, true)), (.call 43 [(.t 110), (.t 111)])⟩, Qu 113 109 112, Qm 114 113, Q1 115 114 (.load true 4 (.t 2)), ⟨(some 116), (some (114, true)), (.call 19 [(.t 115)])⟩, Q1 117 114 (.load true 4 (.t 2)), ⟨(some 118), (some (114, true)), (.call 68 [(.t 117)])⟩, Q1 119 114 (.bin 0 .eql (.t 116) (.t 118)), Qu 120 114 119, Qm 4 120] [[], [], [0, 1], [0, 1, 2], [0, 1, 2, 3], [0, 1, 2, 3], [0, 1, 2, 3, 4, 5], [0, 1, 2, 3, 4, 5, 6], [0, 1, 2, 3, 4, 5, 6, 7], [0, 1, 2, 3, 4, 5, 6, 7, 8], [0, 1, 2, 3, 4, 5, 6, 7, 8], [0, 1, 2, 3, 4, 5, 6, 7, 8, 9, 10], [0, 1, 2, 3, 4, 5, 6, 7, 8, 9, 10, 11], [0, 1, 2, 3, 4, 5, 6, 7, 8, 9, 10, 11, 12], [0, 1, 2, 3, 4, 5, 6, 7, 8, 9, 10, 11, 12, 13], [0, 1, 2, 3, 4, 5, 6, 7, 8, 9, 10, 11, 12, 13], [0, 1, 2, 3, 4, 5, 6, 7, 8, 9, 10, 11, 12, 13, 14, 15], [0, 1, 2, 3, 4, 5, 6, 7, 8, 9, 10, 11, 12, 13, 14, 15, 16], [0, 1, 2, 3, 4, 5, 6, 7, 8, 9, 10, 11, 12, 13, 14, 15, 16, 17], [0, 1, 2, 3, 4, 5, 6, 7, 8, 9, 10, 11, 12, 13, 14, 15, 16, 17, 18], [0, 1, 2, 3, 4, 5, 6, 7, 8, 9, 10, 11, 12, 13, 14, 15, 16, 17, 18], [0, 1, 2, 3, 4, 5, 6, 7, 8, 9, 10, 11, 12, 13, 14, 15, 16, 17, 18, 19, 20], [0, 1, 2, 3, 4, 5, 6, 7, 8, 9, 10, 11, 12, 13, 14, 15, 16, 17, 18, 19, 20, 21], [0, 1, 2, 3, 4, 5, 6, 7, 8, 9, 10, 11, 12, 13, 14, 15, 16, 17, 18, 19, 20, 21, 22], [0, 1, 2, 3, 4, 5, 6, 7, 8, 9, 10, 11, 12, 13, 14, 15, 16, 17, 18, 19, 20, 21, 22, 23], [0, 1, 2, 3, 4, 5, 6, 7, 8, 9, 10, 11, 12, 13, 14, 15, 16, 17, 18, 19, 20, 21, 22, 23, 24], [0, 1, 2, 3, 4, 5, 6, 7, 8, 9, 10, 11, 12, 13, 14, 15, 16, 17, 18, 19, 20, 21, 22, 23], [0, 1, 2, 3, 4, 5, 6, 7, 8, 9, 10, 11, 12, 13, 14, 15, 16, 17, 18, 19, 20, 21, 22, 23, 26], [0, 1, 2, 3, 4, 5, 6, 7, 8, 9, 10, 11, 12, 13, 14, 15, 16, 17, 18, 19, 20, 21, 22, 23, 24, 25, 26, 27], [0, 1, 2, 3, 4, 5, 6, 7, 8, 9, 10, 11, 12, 13, 14, 15, 16, 17, 18, 19, 20, 21, 22, 23, 24, 25, 26, 27, 28], [0, 1, 2, 3, 4, 5, 6, 7, 8, 9, 10, 11, 12, 13, 14, 15, 16, 17, 18, 19, 20, 21, 22, 23, 24, 25, 26, 27, 28, 29], [0, 1, 2, 3, 4, 5, 6, 7, 8, 9, 10, 11, 12, 13, 14, 15, 16, 17, 18, 19, 20, 21, 22, 23, 24, 25, 26, 27, 28, 29, 30], [0, 1, 2, 3, 4, 5, 6, 7, 8, 9, 10, 11, 12, 13, 14, 15, 16, 17, 18, 19, 20, 21, 22, 23, 24, 25, 26, 27, 28, 29, 30, 31], [0, 1, 2, 3, 4, 5, 6, 7, 8, 9, 10, 11, 12, 13, 14, 15, 16, 17, 18, 19, 20, 21, 22, 23, 24, 25, 26, 27, 28, 29, 30], [0, 1, 2, 3, 4, 5, 6, 7, 8, 9, 10, 11, 12, 13, 14, 15, 16, 17, 18, 19, 20, 21, 22, 23, 24, 25, 26, 27, 28, 29, 30, 33], [0, 1, 2, 3, 4, 5, 6, 7, 8, 9, 10, 11, 12, 13, 14, 15, 16, 17, 18, 19, 20, 21, 22, 23, 24, 25, 26, 27, 28, 29, 30, 31, 32, 33, 34], [0, 1, 2, 3, 4, 5, 6, 7, 8, 9, 10, 11, 12, 13, 14, 15, 16, 17, 18, 19, 20, 21, 22, 23, 24, 25, 26, 27, 28, 29, 30, 31, 32, 33, 34, 35], [0, 1, 2, 3, 4, 5, 6, 7, 8, 9, 10, 11, 12, 13, 14, 15, 16, 17, 18, 19, 20, 21, 22, 23, 24, 25, 26, 27, 28, 29, 30, 31, 32, 33, 34, 35, 36], [0, 1, 2, 3, 4, 5, 6, 7, 8, 9, 10, 11, 12, 13, 14, 15, 16, 17, 18, 19, 20, 21, 22, 23, 24, 25, 26, 27, 28, 29, 30, 31, 32, 33, 34, 35, 36, 37], [0, 1, 2, 3, 4, 5, 6, 7, 8, 9, 10, 11, 12, 13, 14, 15, 16, 17, 18, 19, 20, 21, 22, 23, 24, 25, 26, 27, 28, 29, 30, 31, 32, 33, 34, 35, 36, 37], [0, 1, 2, 3, 4, 5, 6, 7, 8, 9, 10, 11, 12, 13, 14, 15, 16, 17, 18, 19, 20, 21, 22, 23, 24, 25, 26, 27, 28, 29, 30, 31, 32, 33, 34, 35, 36, 37, 38, 39], [0, 1, 2, 3, 4, 5, 6, 7, 8, 9, 10, 11, 12, 13, 14, 15, 16, 17, 18, 19, 20, 21, 22, 23, 24, 25, 26, 27, 28, 29, 30, 31, 32, 33, 34, 35, 36, 37, 38, 39, 40], [0, 1, 2, 3, 4, 5, 6, 7, 8, 9, 10, 11, 12, 13, 14, 15, 16, 17, 18, 19, 20, 21, 22, 23, 24, 25, 26, 27, 28, 29, 30, 31, 32, 33, 34, 35, 36, 37, 38, 39, 40, 41], [0, 1, 2, 3, 4, 5, 6, 7, 8, 9, 10, 11, 12, 13, 14, 15, 16, 17, 18, 19, 20, 21, 22, 23, 24, 25, 26, 27, 28, 29, 30, 31, 32, 33, 34, 35, 36, 37, 38, 39, 40, 41, 42], [0, 1, 2, 3, 4, 5, 6, 7, 8, 9, 10, 11, 12, 13, 14, 15, 16, 17, 18, 19, 20, 21, 22, 23, 24, 25, 26, 27, 28, 29, 30, 31, 32, 33, 34, 35, 36, 37, 38, 39, 40, 41, 42], [0, 1, 2, 3, 4, 5, 6, 7, 8, 9, 10, 11, 12, 13, 14, 15, 16, 17, 18, 19, 20, 21, 22, 23, 24, 25, 26, 27, 28, 29, 30, 31, 32, 33, 34, 35, 36, 37, 38, 39, 40, 41, 42, 43, 44], [0, 1, 2, 3, 4, 5, 6, 7, 8, 9, 10, 11, 12, 13, 14, 15, 16, 17, 18, 19, 20, 21, 22, 23, 24, 25, 26, 27, 28, 29, 30, 31, 32, 33, 34, 35, 36, 37, 38, 39, 40, 41, 42, 43, 44, 45], [0, 1, 2, 3, 4, 5, 6, 7, 8, 9, 10, 11, 12, 13, 14, 15, 16, 17, 18, 19, 20, 21, 22, 23, 24, 25, 26, 27, 28, 29, 30, 31, 32, 33, 34, 35, 36, 37, 38, 39, 40, 41, 42, 43, 44, 45, 46], [0, 1, 2, 3, 4, 5, 6, 7, 8, 9, 10, 11, 12, 13, 14, 15, 16, 17, 18, 19, 20, 21, 22, 23, 24, 25, 26, 27, 28, 29, 30, 31, 32, 33, 34, 35, 36, 37, 38, 39, 40, 41, 42, 43, 44, 45, 46, 47], [0, 1, 2, 3, 4, 5, 6, 7, 8, 9, 10, 11, 12, 13, 14, 15, 16, 17, 18, 19, 20, 21, 22, 23, 24, 25, 26, 27, 28, 29, 30, 31, 32, 33, 34, 35, 36, 37, 38, 39, 40, 41, 42, 43, 44, 45, 46, 47, 48], [0, 1, 2, 3, 4, 5, 6, 7, 8, 9, 10, 11, 12, 13, 14, 15, 16, 17, 18, 19, 20, 21, 22, 23, 24, 25, 26, 27, 28, 29, 30, 31, 32, 33, 34, 35, 36, 37, 38, 39, 40, 41, 42, 43, 44, 45, 46, 47], [0, 1, 2, 3, 4, 5, 6, 7, 8, 9, 10, 11, 12, 13, 14, 15, 16, 17, 18, 19, 20, 21, 22, 23, 24, 25, 26, 27, 28, 29, 30, 31, 32, 33, 34, 35, 36, 37, 38, 39, 40, 41, 42, 43, 44, 45, 46, 47, 48, 49, 50], [0, 1, 2, 3, 4, 5, 6, 7, 8, 9, 10, 11, 12, 13, 14, 15, 16, 17, 18, 19, 20, 21, 22, 23, 24, 25, 26, 27, 28, 29, 30, 31, 32, 33, 34, 35, 36, 37, 38, 39, 40, 41, 42, 43, 44, 45, 46, 47, 48, 49, 50, 51], [0, 1, 2, 3, 4, 5, 6, 7, 8, 9, 10, 11, 12, 13, 14, 15, 16, 17, 18, 19, 20, 21, 22, 23, 24, 25, 26, 27, 28, 29, 30, 31, 32, 33, 34, 35, 36, 37, 38, 39, 40, 41, 42, 43, 44, 45, 46, 47, 48, 49, 50, 51, 52], [0, 1, 2, 3, 4, 5, 6, 7, 8, 9, 10, 11, 12, 13, 14, 15, 16, 17, 18, 19, 20, 21, 22, 23, 24, 25, 26, 27, 28, 29, 30, 31, 32, 33, 34, 35, 36, 37, 38, 39, 40, 41, 42, 43, 44, 45, 46, 47, 48, 49, 50, 51, 52, 53]])
 (.ret)))))))))), [.mov (.t 4)]) := by kernel_rfl
theorem m_jraw_ok : compF Try.prog 9 = some (22, Qr ([Qw 2 (.box 34 (.t 0)), Qc 4 (.bool false)])
 (Qr ([Qf 5 3 3 2, Ql 6 1 5, Qn 7 6, Qk 8 .gtr 7 5000, Qm 9 8, Q0 10 9 (.mov (.t 1)), Q0 11 9 (.len (.t 10)), Q0 12 9 (.bin 0 .gtr (.t 11) (Qi 3000)), Qt 13 9 12, Qm 14 13, Q0 15 14 (.load true 4 (.t 2)), Q0 16 14 (.mov (.t 1)), ⟨(some 17), (some (14, false)), (.call 39 [(.t 15), (.t 16)])⟩, Qt 18 14 17, Qm 19 18, ⟨(some 20), (some (19, true)), (.call 13 [])⟩, Qu 21 19 20, Qm 4 21])
 (.ret)), [.mov (.t 4)]) := by kernel_rfl
theorem okn1 : chkN ⟨3, 3, 0, []⟩ = 0 := rfl
theorem encn1 : sEnc ⟨3, 3, 0, []⟩ = (encB ⟨3, 3, 0, []⟩, 0) := by rw [sEnc, if_pos okn1]
theorem decn1 : sDec (encB ⟨3, 3, 0, []⟩) = (⟨3, 3, 0, []⟩, 12, 0) := by
  have h := dec_enc okn1 []
  rwa [List.append_nil] at h
theorem lenn1 : (encB ⟨3, 3, 0, []⟩).length = 12 := encB_len _
theorem at0n1 : (encB ⟨3, 3, 0, []⟩)[0]! = 6 := by rw [encB_list]; rfl
theorem at1n1 : (encB ⟨3, 3, 0, []⟩)[1]! = 0 := by rw [encB_list]; rfl
attribute [local go_sem] numV_u8s
attribute [local irreducible] encB sEnc sDec sApp sRec
set_option maxHeartbeats 4000000 in
theorem awake39_fn : Fnc Try.prog 13 [] (fun x obs => x = .bool true ∧ obs = []) := by
  have f1 := wenc_fn ⟨3, 3, 0, []⟩
  rw [encn1] at f1
  have f2 := wdec_fn (encB ⟨3, 3, 0, []⟩)
  rw [decn1] at f2
  have l1 := lenn1
  have a0 := at0n1
  have a1 := at1n1
  generalize encB ⟨3, 3, 0, []⟩ = E at f1 f2 l1 a0 a1
  refine zgo m_awake39_ok fun W S => ?_
  refine zcd (f1) ?_
  refine zcd (f2) ?_
  exact zrt m_awake39_ok
set_option maxHeartbeats 4000000 in
theorem agree39_fn (n : Note) (b : List Int) (hb : b.length ≤ 1000000) : Fnc Try.prog 39 [.agg (noteL false n), .sl false 1 (u8s b)] (fun x obs => x = .bool true ∧ obs = []) := by
  have f1 := wenc_fn n
  have f2 := renc_fn n
  generalize sEnc n = r1 at f1 f2
  have f3 := wdec_fn b
  have f4 := rdec_fn b
  generalize sDec b = r2 at f3 f4
  have f5 := wapp_fn b n
  have f6 := rapp_fn b n
  generalize sApp b n = r3 at f5 f6
  have f7 := wrec_fn b hb
  have f8 := rrec_fn b hb
  generalize sRec b = r4 at f7 f8
  have f9 := wchk_fn n
  have f0 := rchk_fn n
  generalize chkN n = c at f9 f0
  refine zgo m_agree39_ok fun W S => ?_
  refine zcd (f1) ?_
  refine zcd (f2) ?_
  refine zcd (f3) ?_
  refine zcd (f4) ?_
  refine zcd (f5) ?_
  refine zcd (f6) ?_
  refine zcd (f7) ?_
  refine zcd (f8) ?_
  refine zcd (same_refl r2.1) ?_
  refine zcd (sameall_fn r4.1) ?_
  refine zcd (f9) ?_
  refine zcd (f0) ?_
  exact zrt m_agree39_ok
set_option maxHeartbeats 4000000 in
theorem jraw_fn (n : Note) (b : List Int) : Fnc Try.prog 9 [.agg (noteL false n), .sl false 1 (u8s b)] (fun x obs => x = .bool true) := by
  refine Fnc.wf fun hw => ?_
  simp only [noteL, V.wfs, V.wf, List.length_map] at hw
  have w1 := hw.1.2.2.2.1.2
  have w2 := hw.2.1.2
  clear hw
  by_cases c1 : n.bytes.length > 5000
  · skip
    refine zgo m_jraw_ok fun W S => ?_
    refine zcd (awake39_fn) ?_
    refine ret m_jraw_ok [] ?_; (first | (simp only [go_sem]; done) | (simp only [go_sem]; rfl))
  by_cases c2 : b.length > 3000
  · skip
    refine zgo m_jraw_ok fun W S => ?_
    refine zcd (awake39_fn) ?_
    refine ret m_jraw_ok [] ?_; (first | (simp only [go_sem]; done) | (simp only [go_sem]; rfl))
  · skip
    refine zgo m_jraw_ok fun W S => ?_
    refine zcd (agree39_fn n b (by omega)) ?_
    refine zcd (awake39_fn) ?_
    refine ret m_jraw_ok [] ?_; (first | (simp only [go_sem]; done) | (simp only [go_sem]; rfl))
theorem jraw_law {a0 : Note} {c0 : Array Value} {a1 : List Int} {v1 : Value} (W : World) (e0 : Note.sh.rd (old W) W a0 c0.toList) (e1 : (Sh.slice (Sh.int .u8)).rd (old W) W a1 [v1]) :
    Calls Try.prog 9 #[.agg c0, v1] W fun e w' => e = .returned (.bool true) ∧ Below W.heap.size W w' :=
  Fnc.law (jraw_fn a0 a1) (RdTs.agg enc_note e0 (RdTs.slice enc_u8s e1 RdTs.nil'))
end Go.Proofs.Ytdjjhajkpfiagaa
