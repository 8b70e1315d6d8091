/- Gateways: the sanity check; all functions do what the reference does. -/
import Derived.Test.YtdjjhajkpfiagaaGH
import Derived.Test.YtdjjhajkpfiagaaC5
namespace Go.Proofs.Ytdjjhajkpfiagaa
open Go Go.RowKit Rdn Rdn.Dp
set_option linter.unusedVariables false
set_option linter.unusedSimpArgs false
theorem m_awake38_ok : compF Try.prog 22 = some (122, Qr ([Qc 0 (.bool false)])
 (Qr ([Qw 18 (.build none [.int .i64 0, .int .i64 0, .int .i64 0, .nilS] []), Qw 19 (.build none [.int .u8 0, .int .u16 0, .int .i64 0, .int .i64 0] [(1, (.c (.int .u16 5)))]), Qw 20 (.buildS 88 4 (.agg [.int .u8 0, .int .u16 0, .int .i64 0, .int .i64 0]) 1 [(0, (.t 19))]), Qq 21 32 [(.t 18), (Qi 1), (.t 20)], Qm 17 21, Qe 22 17 0, Qe 23 17 1, Qe 24 17 2, Qw 1 (.alloc 44 (.agg [.int .i64 0, .int .i64 0, .int .i64 0, .nilS])), Qs 4 1 22, Qm 2 23, Qm 3 24])
 (Qr ([QL 26 4 1, Qq 27 35 [(.t 26)], Qm 25 27, Qe 28 25 0, Qe 29 25 1, Qm 4 28, Qm 5 29])
 (Qr ([QL 31 4 1, Qq 32 33 [(.t 31), (Qi 1)], Qm 30 32, Qe 33 30 0, Qe 34 30 1, Qs 4 1 33, Qm 6 34])
 (Qr ([QL 36 4 1, Qq 37 35 [(.t 36)], Qm 35 37, Qe 38 35 0, Qe 39 35 1, Qm 7 38, Qm 8 39])
 (.seq (Qr ([Qm 40 3, Qk 41 .neq 40 0, Qm 42 41, Q0 43 42 (.mov (.t 5)), Q0 44 42 (.bin 0 .neq (.t 43) (Qi 0)), Qt 45 42 44, Qm 46 45, Q0 47 46 (.mov (.t 6)), Q0 48 46 (.bin 0 .neq (.t 47) (Qi 0)), Qt 49 46 48, Qm 50 49, Q0 51 50 (.mov (.t 8)), Q0 52 50 (.bin 0 .neq (.t 51) (Qi 0)), Qt 53 50 52, Qm 54 53, Q0 55 54 (.mov (.t 2)), Q0 56 54 (.bin 0 .neq (.t 55) (Qi 0)), Qt 57 54 56, Qm 58 57, Q0 59 58 (.mov (.t 4)), Q0 60 58 (.len (.t 59)), Q0 61 58 (.bin 0 .neq (.t 60) (Qi 0)), Qt 62 58 61, Qm 63 62, Q0 64 63 (.mov (.t 7)), Q0 65 63 (.len (.t 64)), Q0 66 63 (.bin 0 .neq (.t 65) (Qi 1)), Qt 67 63 66])
 (.cond (.t 67) (Qr ([Qc 0 (.bool false)])
 (.ret)) (.skip)))
 (Qr ([Qw 69 (.build none [.int .i64 0, .int .i64 0, .nilS] []), Qm 70 7, Qp 71 (.idxA 3 (.t 70) (Qi 0)), QL 72 3 71, Qq 73 36 [(.t 69), (Qi 1), (.t 72)], Qm 68 73, Qe 74 68 0, Qe 75 68 1, Qe 76 68 2, Qw 9 (.alloc 47 (.agg [.int .i64 0, .int .i64 0, .nilS])), Qs 3 9 74, Qm 10 75, Qm 11 76])
 (.seq (.dreg [QL 78 3 9, Qm 79 7, Qp 80 (.idxA 3 (.t 79) (Qi 0)), QL 81 3 80, Qq 82 36 [(.t 78), (Qi 1), (.t 81)], Qm 77 82, Qe 83 77 0, Qe 84 77 1, Qe 85 77 2, Qs 3 9 83, Qm 12 84, Qm 13 85] [[], [], [1], [1, 2], [0, 1, 2, 3], [0, 1, 2, 3, 4], [0, 1, 2, 3, 4, 5], [0, 1, 2, 3, 4, 5], [0, 1, 2, 3, 4, 5], [0, 1, 2, 3, 4, 5, 6], [0, 1, 2, 3, 4, 5, 6, 7, 9], [0, 1, 2, 3, 4, 5, 6, 7, 8, 9, 10]])
 (.seq (.dreg [QL 87 3 9, Qm 88 7, Qp 89 (.idxA 3 (.t 88) (Qi 0)), QL 90 3 89, Qq 91 36 [(.t 87), (Qi 0), (.t 90)], Qm 86 91, Qe 92 86 0, Qe 93 86 1, Qe 94 86 2, Qw 14 (.alloc 47 (.agg [.int .i64 0, .int .i64 0, .nilS])), Qs 3 14 92, Qm 15 93, Qm 16 94] [[], [], [1], [1, 2], [0, 1, 2, 3], [0, 1, 2, 3, 4], [0, 1, 2, 3, 4, 5], [0, 1, 2, 3, 4, 5], [0, 1, 2, 3, 4, 5], [], [0, 1, 2, 3, 4, 5, 6, 9], [0, 1, 2, 3, 4, 5, 6, 7, 9, 10], [0, 1, 2, 3, 4, 5, 6, 7, 8, 9, 10, 11]])
 (Qr ([Qm 95 11, Qk 96 .eql 95 0, Qm 97 96, Q1 98 97 (.mov (.t 13)), Q1 99 97 (.bin 0 .eql (.t 98) (Qi 0)), Qu 100 97 99, Qm 101 100, Q1 102 101 (.mov (.t 16)), Q1 103 101 (.bin 0 .eql (.t 102) (Qi 34)), Qu 104 101 103, Qm 105 104, Q1 106 105 (.mov (.t 10)), Qu 107 105 106, Qm 108 107, Q1 109 108 (.mov (.t 12)), Q1 110 108 (.un .not (.t 109)), Qu 111 108 110, Qm 112 111, Q1 113 112 (.mov (.t 15)), Q1 114 112 (.un .not (.t 113)), Qu 115 112 114, Qm 116 115, Q1 117 116 (.fieldA 2 2 (.t 9)), Q1 118 116 (.load false 1 (.t 117)), Q1 119 116 (.len (.t 118)), Q1 120 116 (.bin 0 .eql (.t 119) (Qi 1)), Qu 121 116 120, Qm 0 121])
 (.ret)))))))))), [.mov (.t 0)]) := by kernel_rfl
theorem m_agree_ok : compF Try.prog 23 = some (118, Qr ([Qw 4 (.box 44 (.t 0)), Qc 8 (.bool false)])
 (Qr ([QL 20 4 4, Qm 21 1, Qm 22 2, Qq 23 32 [(.t 20), (.t 21), (.t 22)], Qm 19 23, Qe 24 19 0, Qe 25 19 1, Qe 26 19 2, Qw 9 (.alloc 44 (.agg [.int .i64 0, .int .i64 0, .int .i64 0, .nilS])), Qs 4 9 24, Qm 10 25, Qm 11 26])
 (Qr ([QL 28 4 4, Qm 29 1, Qm 30 2, Qq 31 28 [(.t 28), (.t 29), (.t 30)], Qm 27 31, Qe 32 27 0, Qe 33 27 1, Qe 34 27 2, Qw 12 (.alloc 44 (.agg [.int .i64 0, .int .i64 0, .int .i64 0, .nilS])), Qs 4 12 32, Qm 13 33, Qm 14 34])
 (.seq (.seq (.dreg [Qm 35 11, Qm 36 14, Qb 37 .neq 35 36, Qm 38 37, Q0 39 38 (.mov (.t 10)), Q0 40 38 (.mov (.t 13)), Q0 41 38 (.bin 0 .neq (.t 39) (.t 40)), Qt 42 38 41, Qm 43 42, Q0 44 43 (.load true 4 (.t 9)), Q0 45 43 (.load true 4 (.t 12)), ⟨(some 46), (some (43, false)), (.call 51 [(.t 44), (.t 45)])⟩, Q0 47 43 (.un .not (.t 46)), Qt 48 43 47, Qm 49 48, Q0 50 49 (.load true 4 (.t 4)), ⟨(some 51), (some (49, false)), (.call 52 [(.t 50)])⟩, Q0 52 49 (.load true 4 (.t 4)), ⟨(some 53), (some (49, false)), (.call 53 [(.t 52)])⟩, Q0 54 49 (.bin 0 .neq (.t 51) (.t 53)), Qt 55 49 54] [[], [], [0, 1], [0, 1, 2], [0, 1, 2, 3], [0, 1, 2, 3], [0, 1, 2, 3, 4, 5], [0, 1, 2, 3, 4, 5, 6], [0, 1, 2, 3, 4, 5, 6, 7], [0, 1, 2, 3, 4, 5, 6, 7, 8], [0, 1, 2, 3, 4, 5, 6, 7, 8], [0, 1, 2, 3, 4, 5, 6, 7, 8, 9, 10], [0, 1, 2, 3, 4, 5, 6, 7, 8, 9, 10, 11], [0, 1, 2, 3, 4, 5, 6, 7, 8, 9, 10, 11, 12], [0, 1, 2, 3, 4, 5, 6, 7, 8, 9, 10, 11, 12, 13], [0, 1, 2, 3, 4, 5, 6, 7, 8, 9, 10, 11, 12, 13, 14], [0, 1, 2, 3, 4, 5, 6, 7, 8, 9, 10, 11, 12, 13, 14, 15], [0, 1, 2, 3, 4, 5, 6, 7, 8, 9, 10, 11, 12, 13, 14], [0, 1, 2, 3, 4, 5, 6, 7, 8, 9, 10, 11, 12, 13, 14, 15, 16, 17], [0, 1, 2, 3, 4, 5, 6, 7, 8, 9, 10, 11, 12, 13, 14, 15, 16, 17, 18], [0, 1, 2, 3, 4, 5, 6, 7, 8, 9, 10, 11, 12, 13, 14, 15, 16, 17, 18, 19]])
 (.cond (.t 55) (Qr ([Qc 8 (.bool false)])
 (.ret)) (.skip)))
 (Qr ([QL 57 4 4, Qm 58 3, Qq 59 33 [(.t 57), (.t 58)], Qm 56 59, Qe 60 56 0, Qe 61 56 1, Qs 4 9 60, Qm 11 61])
 (Qr ([QL 63 4 4, Qm 64 3, Qq 65 29 [(.t 63), (.t 64)], Qm 62 65, Qe 66 62 0, Qe 67 62 1, Qs 4 12 66, Qm 14 67])
 (Qr ([QL 69 4 4, Qq 70 35 [(.t 69)], Qm 68 70, Qe 71 68 0, Qe 72 68 1, Qm 15 71, Qm 16 72])
 (Qr ([QL 74 4 4, Qq 75 54 [(.t 74)], Qm 73 75, Qe 76 73 0, Qe 77 73 1, Qm 17 76, Qm 18 77])
 (.seq (Qr ([Qm 78 11, Qm 79 14, Qb 80 .neq 78 79, Qm 81 80, Q0 82 81 (.mov (.t 16)), Q0 83 81 (.mov (.t 18)), Q0 84 81 (.bin 0 .neq (.t 82) (.t 83)), Qt 85 81 84, Qm 86 85, Q0 87 86 (.load true 4 (.t 9)), Q0 88 86 (.load true 4 (.t 12)), ⟨(some 89), (some (86, false)), (.call 51 [(.t 87), (.t 88)])⟩, Q0 90 86 (.un .not (.t 89)), Qt 91 86 90, Qm 92 91, Q0 93 92 (.mov (.t 15)), Q0 94 92 (.mov (.t 17)), ⟨(some 95), (some (92, false)), (.call 37 [(.t 93), (.t 94)])⟩, Q0 96 92 (.un .not (.t 95)), Qt 97 92 96])
 (.cond (.t 97) (Qr ([Qc 8 (.bool false)])
 (.ret)) (.skip)))
 (Qr ([QL 99 4 4, Qm 100 3, Qq 101 34 [(.t 99), (.t 100)], Qm 98 101, Qe 102 98 0, Qe 103 98 1, Qs 4 9 102, Qm 11 103])
 (Qr ([QL 105 4 4, Qm 106 3, Qq 107 30 [(.t 105), (.t 106)], Qm 104 107, Qe 108 104 0, Qe 109 104 1, Qs 4 12 108, Qm 14 109])
 (Qr ([Qm 110 11, Qm 111 14, Qb 112 .eql 110 111, Qm 113 112, Q1 114 113 (.load true 4 (.t 9)), Q1 115 113 (.load true 4 (.t 12)), ⟨(some 116), (some (113, true)), (.call 51 [(.t 114), (.t 115)])⟩, Qu 117 113 116, Qm 8 117])
 (.ret)))))))))))), [.mov (.t 8)]) := by kernel_rfl
theorem m_agtake_ok : compF Try.prog 24 = some (42, Qr ([Qw 3 (.box 47 (.t 0)), Qw 5 (.box 49 (.t 2)), Qc 6 (.bool false)])
 (Qr ([QL 14 3 3, Qm 15 1, QL 16 3 5, Qq 17 36 [(.t 14), (.t 15), (.t 16)], Qm 13 17, Qe 18 13 0, Qe 19 13 1, Qe 20 13 2, Qw 7 (.alloc 47 (.agg [.int .i64 0, .int .i64 0, .nilS])), Qs 3 7 18, Qm 8 19, Qm 9 20])
 (Qr ([QL 22 3 3, Qm 23 1, QL 24 3 5, Qq 25 31 [(.t 22), (.t 23), (.t 24)], Qm 21 25, Qe 26 21 0, Qe 27 21 1, Qe 28 21 2, Qw 10 (.alloc 47 (.agg [.int .i64 0, .int .i64 0, .nilS])), Qs 3 10 26, Qm 11 27, Qm 12 28])
 (Qr ([Qm 29 9, Qm 30 12, Qb 31 .eql 29 30, Qm 32 31, Q1 33 32 (.mov (.t 8)), Q1 34 32 (.mov (.t 11)), Q1 35 32 (.bin 1 .eql (.t 33) (.t 34)), Qu 36 32 35, Qm 37 36, Q1 38 37 (.load true 3 (.t 7)), Q1 39 37 (.load true 3 (.t 10)), ⟨(some 40), (some (37, true)), (.call 55 [(.t 38), (.t 39)])⟩, Qu 41 37 40, Qm 6 41])
 (.ret)))), [.mov (.t 6)]) := by kernel_rfl
theorem ok0 : okG ⟨0, 0, 0, []⟩ := ⟨by simp [okN], fun j hj => by simp at hj⟩
theorem ok1 : okG ⟨1, 0, 0, [⟨0, 1, [⟨0, 5, 0, 0⟩]⟩]⟩ := ⟨by simp [okN], fun j hj => by
  match j, hj with
  | 0, _ => simp [okO]⟩
theorem ok2 : okG ⟨1, 1, 0, [⟨0, 1, [⟨0, 5, 0, 0⟩]⟩]⟩ := ⟨by simp [okN], fun j hj => by
  match j, hj with
  | 0, _ => simp [okO]⟩
theorem awk1 : sOff ⟨0, 0, 0, []⟩ 1 [⟨0, 5, 0, 0⟩] = (⟨1, 0, 0, [⟨0, 1, [⟨0, 5, 0, 0⟩]⟩]⟩, 0, 0) := by rw [sOff, chk_T ok0]; rfl
theorem awk2 : sSend ⟨1, 0, 0, [⟨0, 1, [⟨0, 5, 0, 0⟩]⟩]⟩ = ([], 0) := by rw [sSend, chk_T ok1]; rfl
theorem awk3 : sFree ⟨1, 0, 0, [⟨0, 1, [⟨0, 5, 0, 0⟩]⟩]⟩ 1 = (⟨1, 1, 0, [⟨0, 1, [⟨0, 5, 0, 0⟩]⟩]⟩, 0) := by rw [sFree, chk_T ok1]; rfl
theorem awk4 : sSend ⟨1, 1, 0, [⟨0, 1, [⟨0, 5, 0, 0⟩]⟩]⟩ = ([⟨0, 1, [⟨0, 5, 0, 0⟩]⟩], 0) := by rw [sSend, chk_T ok2]; rfl
theorem awk5 : sTake ⟨0, 0, []⟩ 1 ⟨0, 1, [⟨0, 5, 0, 0⟩]⟩ = (⟨1, 1, [⟨0, 1, [⟨0, 5, 0, 0⟩]⟩]⟩, true, 0) := rfl
theorem awk6 : sTake ⟨1, 1, [⟨0, 1, [⟨0, 5, 0, 0⟩]⟩]⟩ 1 ⟨0, 1, [⟨0, 5, 0, 0⟩]⟩ = (⟨1, 1, [⟨0, 1, [⟨0, 5, 0, 0⟩]⟩]⟩, false, 0) := rfl
theorem awk7 : sTake ⟨1, 1, [⟨0, 1, [⟨0, 5, 0, 0⟩]⟩]⟩ 0 ⟨0, 1, [⟨0, 5, 0, 0⟩]⟩ = (⟨1, 1, [⟨0, 1, [⟨0, 5, 0, 0⟩]⟩]⟩, false, 34) := rfl
theorem fit1 : fitO [⟨0, 1, [⟨0, 5, 0, 0⟩]⟩] := ⟨by simp, fun o ho => by simp at ho; subst ho; simp⟩
theorem fit0 : fitO [] := ⟨by simp, fun o ho => by simp at ho⟩
attribute [local irreducible] sOff sFree sSend sAck sTake
set_option maxHeartbeats 4000000 in
theorem awake38_fn : Fnc Try.prog 22 [] (fun x obs => x = .bool true ∧ obs = []) := by
  have f1 := woff_fn ⟨0, 0, 0, []⟩ 1 [⟨0, 5, 0, 0⟩] ok0.fit
  rw [awk1] at f1
  have f2 := wsend_fn ⟨1, 0, 0, [⟨0, 1, [⟨0, 5, 0, 0⟩]⟩]⟩
  rw [awk2] at f2
  have f3 := wfree_fn ⟨1, 0, 0, [⟨0, 1, [⟨0, 5, 0, 0⟩]⟩]⟩ 1 ok1.fit
  rw [awk3] at f3
  have f4 := wsend_fn ⟨1, 1, 0, [⟨0, 1, [⟨0, 5, 0, 0⟩]⟩]⟩
  rw [awk4] at f4
  have f5 := wtake_fn ⟨0, 0, []⟩ 1 ⟨0, 1, [⟨0, 5, 0, 0⟩]⟩ fit0 (by simp)
  rw [awk5] at f5
  have f6 := wtake_fn ⟨1, 1, [⟨0, 1, [⟨0, 5, 0, 0⟩]⟩]⟩ 1 ⟨0, 1, [⟨0, 5, 0, 0⟩]⟩ fit1 (by simp)
  rw [awk6] at f6
  have f7 := wtake_fn ⟨1, 1, [⟨0, 1, [⟨0, 5, 0, 0⟩]⟩]⟩ 0 ⟨0, 1, [⟨0, 5, 0, 0⟩]⟩ fit1 (by simp)
  rw [awk7] at f7
  refine zgo m_awake38_ok fun W S => ?_
  refine evr_calmC ?_; refine zev ?_
  refine zcd (f1) ?_
  (first | refine callD (f2) ?_ | refine callDw (f2) ?_); simp only [go_sem, outputV, canonV]
  refine zst ?_
  (first | refine callD (f3) ?_ | refine callDw (f3) ?_); simp only [go_sem, outputV, canonV]
  refine zst ?_
  (first | refine callD (f4) ?_ | refine callDw (f4) ?_); simp only [go_sem, outputV, canonV]
  refine zst ?_
  (first | refine callD (f5) ?_ | refine callDw (f5) ?_); simp only [go_sem, outputV, canonV]
  refine zst ?_
  (first | refine callD (f6) ?_ | refine callDw (f6) ?_); simp only [go_sem, outputV, canonV]
  refine zst ?_
  (first | refine callD (f7) ?_ | refine callDw (f7) ?_); simp only [go_sem, outputV, canonV]
  refine zst ?_
  exact zrt m_awake38_ok
set_option maxHeartbeats 4000000 in
theorem agree_fn (g : Gateway) (s : Int) (d : List Canon) (n : Int) (hg : fitG g) : Fnc Try.prog 23 [.agg (gwL false g), .int .i64 s, .sl false 4 (d.map canonV), .int .i64 n] (fun x obs => x = .bool true ∧ obs = []) := by
  have f1 := woff_fn g s d hg
  have f2 := roff_fn g s d
  generalize sOff g s d = r1 at f1 f2
  have f3 := wfree_fn g n hg
  have f4 := rfree_fn g n
  generalize sFree g n = r2 at f3 f4
  have f5 := wsend_fn g
  have f6 := rsend_fn g
  generalize sSend g = r3 at f5 f6
  have f7 := wack_fn g n hg
  have f8 := rack_fn g n
  generalize sAck g n = r4 at f7 f8
  have f9 := wchk_fn g
  have f0 := rchk_fn g
  generalize chk g = c at f9 f0
  refine zgo m_agree_ok fun W S => ?_
  refine zcd (f1) ?_
  refine zcd (f2) ?_
  refine zcd (gwq_fn r1.1) ?_
  refine zcd (f9) ?_
  refine zcd (f0) ?_
  refine zcd (f3) ?_
  refine zcd (f4) ?_
  refine zcd (f5) ?_
  refine zcd (f6) ?_
  refine zcd (gwq_fn r2.1) ?_
  refine zcd (outsq_fn r3.1) ?_
  refine zcd (f7) ?_
  refine zcd (f8) ?_
  refine zcd (gwq_fn r4.1) ?_
  exact zrt m_agree_ok
set_option maxHeartbeats 4000000 in
theorem agtake_fn (m : Mailbox) (e : Int) (o : Output) (hm : fitO m.taken) (ho : o.data.length ≤ 5864062014634) : Fnc Try.prog 24 [.agg (mbL false m), .int .i64 e, outputV false o] (fun x obs => x = .bool true ∧ obs = []) := by
  have f1 := wtake_fn m e o hm ho
  have f2 := rtake_fn m e o hm ho
  generalize sTake m e o = r at f1 f2
  refine zgo m_agtake_ok fun W S => ?_
  refine zcd (f1) ?_
  refine zcd (f2) ?_
  refine zcd (mbq_fn r.1) ?_
  exact zrt m_agtake_ok
end Go.Proofs.Ytdjjhajkpfiagaa
