/- Standby: all functions of a pair do what the reference does. -/
import Derived.Test.YtdpfglkjhdnbbaaGreatR25
import Derived.Test.YtdpfglkjhdnbbaaGreatC5
import Derived.Test.YtdpfglkjhdnbbaaGreatR18
namespace Go.Proofs.YtdpfglkjhdnbbaaGreat
open Go Go.RowKit Rdn Rdn.Dp
set_option linter.unusedVariables false
set_option linter.unusedSimpArgs false
theorem m_agr40_ok : compF Tryz.prog 11 = some (165, Qr ([Qw 5 (.box 35 (.t 0)), Qw 6 (.box 42 (.t 1)), Qc 10 (.bool false)])
 (Qr ([QL 20 14 5, QL 21 4 6, Qq 22 15 [(.t 20), (.t 21)], Qm 19 22, Qe 23 19 0, Qe 24 19 1, Qw 11 (.alloc 35 (.agg [.int .i64 0, .int .i64 0, .int .i64 0, .nilS, .nilS, .nilS, .agg [.int .i64 0, .int .i64 0, .int .i64 0, .nilS], .int .i64 0, .agg [.int .i64 0, .int .i64 0, .nilS]])), Qs 14 11 23, Qm 12 24])
 (Qr ([QL 26 14 5, QL 27 4 6, Qq 28 22 [(.t 26), (.t 27)], Qm 25 28, Qe 29 25 0, Qe 30 25 1, Qw 13 (.alloc 35 (.agg [.int .i64 0, .int .i64 0, .int .i64 0, .nilS, .nilS, .nilS, .agg [.int .i64 0, .int .i64 0, .int .i64 0, .nilS], .int .i64 0, .agg [.int .i64 0, .int .i64 0, .nilS]])), Qs 14 13 29, Qm 14 30])
 (.seq (.seq (.dreg [Qm 31 12, Qm 32 14, Qb 33 .neq 31 32, Qm 34 33, Q0 35 34 (.load true 14 (.t 11)), Q0 36 34 (.load true 14 (.t 13)), ⟨(some 37), (some (34, false)), (.call 23 [(.t 35), (.t 36)])⟩, Q0 38 34 (.un .not (.t 37)), Qt 39 34 38, Qm 40 39, Q0 41 40 (.load true 14 (.t 5)), ⟨(some 42), (some (40, false)), (.call 17 [(.t 41)])⟩, Q0 43 40 (.load true 14 (.t 5)), ⟨(some 44), (some (40, false)), (.call 24 [(.t 43)])⟩, Q0 45 40 (.bin 0 .neq (.t 42) (.t 44)), Qt 46 40 45] [[], [], [0, 1], [0, 1, 2], [0, 1, 2, 3], [0, 1, 2, 3], [0, 1, 2, 3, 4, 5], [0, 1, 2, 3, 4, 5, 6], [0, 1, 2, 3, 4, 5, 6, 7], [0, 1, 2, 3, 4, 5, 6, 7, 8], [0, 1, 2, 3, 4, 5, 6, 7, 8, 9], [0, 1, 2, 3, 4, 5, 6, 7, 8, 9, 10], [0, 1, 2, 3, 4, 5, 6, 7, 8, 9], [0, 1, 2, 3, 4, 5, 6, 7, 8, 9, 10, 11, 12], [0, 1, 2, 3, 4, 5, 6, 7, 8, 9, 10, 11, 12, 13], [0, 1, 2, 3, 4, 5, 6, 7, 8, 9, 10, 11, 12, 13, 14]])
 (.cond (.t 46) (Qr ([Qc 10 (.bool false)])
 (.ret)) (.skip)))
 (Qr ([QL 48 14 5, QL 49 4 6, Qm 50 2, Qm 51 3, Qq 52 25 [(.t 48), (.t 49), (.t 50), (.t 51)], Qm 47 52, Qe 53 47 0, Qe 54 47 1, Qs 14 11 53, Qm 12 54])
 (Qr ([QL 56 14 5, QL 57 4 6, Qm 58 2, Qm 59 3, Qq 60 26 [(.t 56), (.t 57), (.t 58), (.t 59)], Qm 55 60, Qe 61 55 0, Qe 62 55 1, Qs 14 13 61, Qm 14 62])
 (.seq (Qr ([Qm 63 12, Qm 64 14, Qb 65 .neq 63 64, Qm 66 65, Q0 67 66 (.load true 14 (.t 11)), Q0 68 66 (.load true 14 (.t 13)), ⟨(some 69), (some (66, false)), (.call 23 [(.t 67), (.t 68)])⟩, Q0 70 66 (.un .not (.t 69)), Qt 71 66 70])
 (.cond (.t 71) (Qr ([Qc 10 (.bool false)])
 (.ret)) (.skip)))
 (Qr ([QL 73 14 5, Qq 74 16 [(.t 73)], Qm 72 74, Qe 75 72 0, Qe 76 72 1, Qe 77 72 2, Qs 14 11 75, Qm 15 76, Qm 12 77])
 (Qr ([QL 79 14 5, Qq 80 27 [(.t 79)], Qm 78 80, Qe 81 78 0, Qe 82 78 1, Qe 83 78 2, Qs 14 13 81, Qm 16 82, Qm 14 83])
 (.seq (Qr ([Qm 84 12, Qm 85 14, Qb 86 .neq 84 85, Qm 87 86, Q0 88 87 (.mov (.t 15)), Q0 89 87 (.mov (.t 16)), Q0 90 87 (.bin 0 .neq (.t 88) (.t 89)), Qt 91 87 90, Qm 92 91, Q0 93 92 (.load true 14 (.t 11)), Q0 94 92 (.load true 14 (.t 13)), ⟨(some 95), (some (92, false)), (.call 23 [(.t 93), (.t 94)])⟩, Q0 96 92 (.un .not (.t 95)), Qt 97 92 96])
 (.cond (.t 97) (Qr ([Qc 10 (.bool false)])
 (.ret)) (.skip)))
 (Qr ([QL 99 14 5, Qm 100 4, Qq 101 28 [(.t 99), (.t 100)], Qm 98 101, Qe 102 98 0, Qe 103 98 1, Qs 14 11 102, Qm 12 103])
 (Qr ([QL 105 14 5, Qm 106 4, Qq 107 29 [(.t 105), (.t 106)], Qm 104 107, Qe 108 104 0, Qe 109 104 1, Qs 14 13 108, Qm 14 109])
 (.seq (Qr ([Qm 110 12, Qm 111 14, Qb 112 .neq 110 111, Qm 113 112, Q0 114 113 (.load true 14 (.t 11)), Q0 115 113 (.load true 14 (.t 13)), ⟨(some 116), (some (113, false)), (.call 23 [(.t 114), (.t 115)])⟩, Q0 117 113 (.un .not (.t 116)), Qt 118 113 117])
 (.cond (.t 118) (Qr ([Qc 10 (.bool false)])
 (.ret)) (.skip)))
 (Qr ([QL 120 14 5, Qm 121 4, Qq 122 30 [(.t 120), (.t 121)], Qm 119 122, Qe 123 119 0, Qe 124 119 1, Qs 14 11 123, Qm 12 124])
 (Qr ([QL 126 14 5, Qm 127 4, Qq 128 31 [(.t 126), (.t 127)], Qm 125 128, Qe 129 125 0, Qe 130 125 1, Qs 14 13 129, Qm 14 130])
 (.seq (Qr ([Qm 131 12, Qm 132 14, Qb 133 .neq 131 132, Qm 134 133, Q0 135 134 (.load true 14 (.t 11)), Q0 136 134 (.load true 14 (.t 13)), ⟨(some 137), (some (134, false)), (.call 23 [(.t 135), (.t 136)])⟩, Q0 138 134 (.un .not (.t 137)), Qt 139 134 138])
 (.cond (.t 139) (Qr ([Qc 10 (.bool false)])
 (.ret)) (.skip)))
 (Qr ([QL 141 14 5, Qq 142 32 [(.t 141)], Qm 140 142, Qe 143 140 0, Qe 144 140 1, Qe 145 140 2, Qs 14 11 143, Qm 17 144, Qm 12 145])
 (Qr ([QL 147 14 5, Qq 148 33 [(.t 147)], Qm 146 148, Qe 149 146 0, Qe 150 146 1, Qe 151 146 2, Qs 14 13 149, Qm 18 150, Qm 14 151])
 (Qr ([Qm 152 12, Qm 153 14, Qb 154 .eql 152 153, Qm 155 154, Q1 156 155 (.mov (.t 17)), Q1 157 155 (.mov (.t 18)), Q1 158 155 (.bin 1 .eql (.t 156) (.t 157)), Qu 159 155 158, Qm 160 159, Q1 161 160 (.load true 14 (.t 11)), Q1 162 160 (.load true 14 (.t 13)), ⟨(some 163), (some (160, true)), (.call 23 [(.t 161), (.t 162)])⟩, Qu 164 160 163, Qm 10 164])
 (.ret))))))))))))))))))), [.mov (.t 10)]) := by kernel_rfl
attribute [local irreducible] sWr sTear sSnd sFail sStart sTick chkP
set_option maxHeartbeats 16000000 in
theorem agree40_fn (p : Pair) (n : Note) (f s i : Int) (F : FitP p) (hm : p.mailbox.taken.length ≤ 3518437208780) : Fnc Tryz.prog 11 [prV false p, .agg (noteL false n), .int .i64 f, .int .i64 s, .int .i64 i] (fun x obs => x = .bool true ∧ obs = []) := by
  have f1 := pWr_fn p n F
  have f2 := rwr_fn p n
  have f3 := pchk_fn p
  have f4 := rpchk_fn p
  have f5 := ptear_fn p n f s F
  have f6 := rtear_fn p n f s
  have f7 := psnd_fn p F hm
  have f8 := rsnd_fn p F.m.2 hm
  have f9 := pfail_fn p i F
  have f10 := rfail_fn p i
  have f11 := pstart_fn p i F
  have f12 := rstart_fn p i
  have f13 := ptick_fn p F
  have f14 := rtick_fn p
  have g1 := rprq_fn (sWr p n).1
  have g2 := rprq_fn (sTear p n f s).1
  have g3 := rprq_fn (sSnd p).1
  have g4 := rprq_fn (sFail p i).1
  have g5 := rprq_fn (sStart p i).1
  have g6 := rprq_fn (sTick p).1
  clear F hm
  generalize sWr p n = z1 at *
  generalize chkP p = z2 at *
  generalize sTear p n f s = z3 at *
  generalize sSnd p = z4 at *
  generalize sFail p i = z5 at *
  generalize sStart p i = z6 at *
  generalize sTick p = z7 at *
  obtain ⟨z7a, z7b, z7c⟩ := z7
  dsimp only at f13 f14 g6
  refine zgo m_agr40_ok fun W S => ?_
  refine zcd (f1) ?_
  refine zcd (f2) ?_
  refine zcd (g1) ?_
  refine zcd (f3) ?_
  refine zcd (f4) ?_
  refine zcd (f5) ?_
  refine zcd (f6) ?_
  refine zcd (g2) ?_
  refine zcd (f7) ?_
  refine zcd (f8) ?_
  refine zcd (g3) ?_
  refine zcd (f9) ?_
  refine zcd (f10) ?_
  refine zcd (g4) ?_
  refine zcd (f11) ?_
  refine zcd (f12) ?_
  refine zcd (g5) ?_
  refine zcd (f13) ?_
  refine zcd (f14) ?_
  cases z7b <;> skip
  · skip
    refine zcd (g6) ?_
    exact zrt m_agr40_ok
  · skip
    refine zcd (g6) ?_
    exact zrt m_agr40_ok
end Go.Proofs.YtdpfglkjhdnbbaaGreat
