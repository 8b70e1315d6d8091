/- Pages and their bytes: what there is. -/
import Derived.Test.YtcphobeommkgeaaP25
import Derived.Test.YtcphobeommkgeaaC5
import Derived.Test.YtcphobeommkgeaaP21
import Derived.Test.YtcphobeommkgeaaP22
import Derived.Test.YtcphobeommkgeaaP6
namespace Go.Proofs.Ytcphobeommkgeaa
open Go Go.RowKit Rdn Rdn.Dp
set_option linter.unusedVariables false
set_option linter.unusedSimpArgs false
theorem m_few_ok : compF Try.prog 13 = some (6, Qr ([Qc 2 (.bool false)])
 (Qr ([Qm 3 0, Qn 4 3, Qk 5 .leq 4 400, Qm 2 5])
 (.ret)), [.mov (.t 2)]) := by kernel_rfl
theorem m_awake25_ok : compF Try.prog 14 = some (43, Qr ([Qc 0 (.bool false)])
 (Qr ([Qw 4 (.buildS 3 1 (.int .i64 0) 2 [(0, (Qi 8)), (1, (Qi 9))]), Qq 5 39 [(.t 4), (Qi 1)], Qm 3 5, Qe 6 3 0, Qe 7 3 1, Qm 1 6, Qm 2 7])
 (Qr ([Qm 8 2, Qk 9 .eql 8 0, Qm 10 9, Q1 11 10 (.mov (.t 1)), Q1 12 10 (.len (.t 11)), Q1 13 10 (.bin 0 .eql (.t 12) (Qi 4)), Qu 14 10 13, Qm 15 14, Q1 16 15 (.mov (.t 1)), Q1 17 15 (.idxA 2 (.t 16) (Qi 0)), Q1 18 15 (.load true 2 (.t 17)), ⟨(some 19), (some (15, true)), (.m (.build none [.int .i64 0, .int .i64 0] []))⟩, Q1 20 15 (.eqs false [(some .i64), (some .i64)] (.t 18) (.t 19)), Qu 21 15 20, Qm 22 21, Q1 23 22 (.mov (.t 1)), Q1 24 22 (.idxA 2 (.t 23) (Qi 1)), Q1 25 22 (.load true 2 (.t 24)), ⟨(some 26), (some (22, true)), (.m (.build none [.int .i64 0, .int .i64 0] [(0, (Qi 1))]))⟩, Q1 27 22 (.eqs false [(some .i64), (some .i64)] (.t 25) (.t 26)), Qu 28 22 27, Qm 29 28, Q1 30 29 (.mov (.t 1)), Q1 31 29 (.idxA 2 (.t 30) (Qi 2)), Q1 32 29 (.load true 2 (.t 31)), ⟨(some 33), (some (29, true)), (.m (.build none [.int .i64 0, .int .i64 0] [(0, (Qi 1)), (1, (Qi 1))]))⟩, Q1 34 29 (.eqs false [(some .i64), (some .i64)] (.t 32) (.t 33)), Qu 35 29 34, Qm 36 35, Q1 37 36 (.mov (.t 1)), Q1 38 36 (.idxA 2 (.t 37) (Qi 3)), Q1 39 36 (.load true 2 (.t 38)), ⟨(some 40), (some (36, true)), (.m (.build none [.int .i64 0, .int .i64 0] [(0, (Qi (-1)))]))⟩, Q1 41 36 (.eqs false [(some .i64), (some .i64)] (.t 39) (.t 40)), Qu 42 36 41, Qm 0 42])
 (.ret))), [.mov (.t 0)]) := by kernel_rfl
theorem m_pby_ok : compF Try.prog 3 = some (91, Qr ([Qc 6 (.bool false)])
 (.seq (Qr ([Qm 16 0, Qq 17 13 [(.t 16)], Qp 18 (.un .not (.t 17))])
 (.cond (.t 18) (Qr ([Qq 19 14 [], Qm 6 19])
 (.ret)) (.skip)))
 (Qr ([Qm 20 0, Qq 21 15 [(.t 20)], Qm 7 21])
 (Qr ([Qm 22 7, Qq 23 16 [(.t 22)], Qw 8 (.alloc 30 (.agg [.nilS, .nilS])), Qs 2 8 23])
 (Qr ([QL 25 2 8, Qq 26 17 [(.t 25)], Qm 24 26, Qe 27 24 0, Qe 28 24 1, Qm 9 27, Qm 10 28])
 (.seq (.dreg [Qm 30 7, QL 31 2 8, Qm 32 7, Qq 33 19 [(.t 32), (Qi 4)], Qq 34 18 [(.t 30), (.t 31), (.t 33)], Qq 35 17 [(.t 34)], Qm 29 35, Qe 36 29 0, Qe 37 29 1, Qm 11 36, Qm 12 37] [[], [], [], [2], [0, 1, 2, 3], [0, 1, 2, 3, 4], [0, 1, 2, 3, 4, 5], [0, 1, 2, 3, 4, 5, 6], [0, 1, 2, 3, 4, 5, 6], [0, 1, 2, 3, 4, 5, 6, 7], [0, 1, 2, 3, 4, 5, 6, 7, 8, 9]])
 (.seq (.dreg [Qm 38 9, Qm 39 1, Qm 40 9, Qn 41 40, Qq 42 20 [(.t 39), (.t 41)], Qx 43 11 38 42, QL 44 11 43, Qm 45 11, Qm 46 2, Qm 47 11, Qn 48 47, Qq 49 20 [(.t 46), (.t 48)], Qx 50 11 45 49, QL 51 11 50, Qw 13 (.alloc 45 (.agg [.agg [.int .i64 0, .int .i64 0], .nilS, .agg [.int .i64 0, .int .i64 0, .int .i64 0, .int .i64 0, .int .i64 0, .int .i64 0, .int .u16 0, .nilS]])), Qw 14 (.alloc 45 (.agg [.agg [.int .i64 0, .int .i64 0], .nilS, .agg [.int .i64 0, .int .i64 0, .int .i64 0, .int .i64 0, .int .i64 0, .int .i64 0, .int .u16 0, .nilS]])), Qs 11 13 44, Qs 11 14 51] [[], [], [], [2], [1, 2, 3], [0, 1, 2, 3, 4], [0, 1, 2, 3, 4, 5], [], [], [], [9], [1, 2, 3, 4, 8, 9, 10], [1, 2, 3, 4, 7, 8, 9, 10, 11], [1, 2, 3, 4, 7, 8, 9, 10, 11, 12], [], [], [0, 1, 2, 3, 4, 5, 6, 8, 9, 10, 11, 14, 15], [0, 1, 2, 3, 4, 5, 6, 7, 8, 9, 10, 11, 12, 13, 14, 15, 16]])
 (Qr ([Qm 52 11, Qm 53 1, Qm 54 11, Qn 55 54, Qq 56 20 [(.t 53), (.t 55)], Qx 57 11 52 56, QL 58 11 57, Qw 15 (.alloc 45 (.agg [.agg [.int .i64 0, .int .i64 0], .nilS, .agg [.int .i64 0, .int .i64 0, .int .i64 0, .int .i64 0, .int .i64 0, .int .i64 0, .int .u16 0, .nilS]])), Qs 11 15 58])
 (.seq (.dreg [QL 59 11 13, QL 60 11 14, Qq 61 21 [(.t 59), (.t 60)], QL 62 11 13, Qq 63 22 [(.t 62)], Qp 64 (.b2s (.t 63)), QL 65 11 14, Qq 66 22 [(.t 65)], Qp 67 (.b2s (.t 66)), Qb 68 .eql 64 67, Qp 69 (.bin 1 .eql (.t 61) (.t 68)), Qm 70 69, Q1 71 70 (.load true 11 (.t 13)), Q1 72 70 (.load true 11 (.t 15)), ⟨(some 73), (some (70, true)), (.call 21 [(.t 71), (.t 72)])⟩, Q1 74 70 (.load true 11 (.t 13)), ⟨(some 75), (some (70, true)), (.call 22 [(.t 74)])⟩, Q1 76 70 (.b2s (.t 75)), Q1 77 70 (.load true 11 (.t 15)), ⟨(some 78), (some (70, true)), (.call 22 [(.t 77)])⟩, Q1 79 70 (.b2s (.t 78)), Q1 80 70 (.bin 0 .eql (.t 76) (.t 79)), Q1 81 70 (.bin 1 .eql (.t 73) (.t 80)), Qu 82 70 81, Qm 83 82, Q1 84 83 (.load true 11 (.t 13)), Q1 85 83 (.load true 11 (.t 13)), ⟨(some 86), (some (83, true)), (.call 21 [(.t 84), (.t 85)])⟩, Qu 87 83 86, Qm 88 87, ⟨(some 89), (some (88, true)), (.call 14 [])⟩, Qu 90 88 89, Qm 6 90] [[], [], [0, 1], [], [0, 1, 2, 3], [0, 1, 2, 3, 4], [], [0, 1, 2, 3, 4, 6], [0, 1, 2, 3, 4, 6, 7], [0, 1, 2, 3, 4, 5, 6, 7, 8], [0, 1, 2, 3, 4, 5, 6, 7, 8, 9], [0, 1, 2, 3, 4, 5, 6, 7, 8, 9, 10], [0, 1, 2, 3, 4, 5, 6, 7, 8, 9, 10, 11], [0, 1, 2, 3, 4, 5, 6, 7, 8, 9, 10, 11], [0, 1, 2, 3, 4, 5, 6, 7, 8, 9, 10, 11, 12, 13], [0, 1, 2, 3, 4, 5, 6, 7, 8, 9, 10, 11], [0, 1, 2, 3, 4, 5, 6, 7, 8, 9, 10, 11, 12, 13, 14, 15], [0, 1, 2, 3, 4, 5, 6, 7, 8, 9, 10, 11, 12, 13, 14, 15, 16], [0, 1, 2, 3, 4, 5, 6, 7, 8, 9, 10, 11], [0, 1, 2, 3, 4, 5, 6, 7, 8, 9, 10, 11, 12, 13, 14, 15, 16, 18], [0, 1, 2, 3, 4, 5, 6, 7, 8, 9, 10, 11, 12, 13, 14, 15, 16, 18, 19], [0, 1, 2, 3, 4, 5, 6, 7, 8, 9, 10, 11, 12, 13, 14, 15, 16, 17, 18, 19, 20], [0, 1, 2, 3, 4, 5, 6, 7, 8, 9, 10, 11, 12, 13, 14, 15, 16, 17, 18, 19, 20, 21], [0, 1, 2, 3, 4, 5, 6, 7, 8, 9, 10, 11, 12, 13, 14, 15, 16, 17, 18, 19, 20, 21, 22], [0, 1, 2, 3, 4, 5, 6, 7, 8, 9, 10, 11, 12, 13, 14, 15, 16, 17, 18, 19, 20, 21, 22, 23], [0, 1, 2, 3, 4, 5, 6, 7, 8, 9, 10, 11, 12, 13, 14, 15, 16, 17, 18, 19, 20, 21, 22, 23, 24], [0, 1, 2, 3, 4, 5, 6, 7, 8, 9, 10, 11, 12, 13, 14, 15, 16, 17, 18, 19, 20, 21, 22, 23, 24], [0, 1, 2, 3, 4, 5, 6, 7, 8, 9, 10, 11, 12, 13, 14, 15, 16, 17, 18, 19, 20, 21, 22, 23, 24, 25, 26], [0, 1, 2, 3, 4, 5, 6, 7, 8, 9, 10, 11, 12, 13, 14, 15, 16, 17, 18, 19, 20, 21, 22, 23, 24, 25, 26, 27], [0, 1, 2, 3, 4, 5, 6, 7, 8, 9, 10, 11, 12, 13, 14, 15, 16, 17, 18, 19, 20, 21, 22, 23, 24, 25, 26, 27, 28], [0, 1, 2, 3, 4, 5, 6, 7, 8, 9, 10, 11, 12, 13, 14, 15, 16, 17, 18, 19, 20, 21, 22, 23, 24, 25, 26, 27, 28, 29], [0, 1, 2, 3, 4, 5, 6, 7, 8, 9, 10, 11, 12, 13, 14, 15, 16, 17, 18, 19, 20, 21, 22, 23, 24, 25, 26, 27, 28, 29, 30], [0, 1, 2, 3, 4, 5, 6, 7, 8, 9, 10, 11, 12, 13, 14, 15, 16, 17, 18, 19, 20, 21, 22, 23, 24, 25, 26, 27, 28, 29, 30, 31]])
 (.ret))))))))), [.mov (.t 6)]) := by kernel_rfl
set_option maxHeartbeats 4000000 in
theorem few_fn (l : List Int) : Fnc Try.prog 13 [.sl false 1 (i64s l)] (fun x obs => x = .bool (decide (l.length ≤ 400)) ∧ obs = []) := by
  refine Fnc.wf fun hw => ?_
  simp only [V.wfs, V.wf, wfs_map, List.length_map] at hw
  have hm := hw.1.2
  clear hw
  by_cases h : l.length ≤ 400
  · skip
    refine zgo m_few_ok fun W S => ?_
    exact zrt m_few_ok
  · skip
    refine zgo m_few_ok fun W S => ?_
    exact zrt m_few_ok
theorem aw25_1 : sList [8, 9] 1 = ([⟨0, 0⟩, ⟨1, 0⟩, ⟨1, 1⟩, ⟨-1, 0⟩], 0) := by decide
set_option maxHeartbeats 4000000 in
theorem awake25_fn : Fnc Try.prog 14 [] (fun x obs => x = .bool true ∧ obs = []) := by
  have f1 := plist_fn [8, 9] 1
  rw [aw25_1] at f1
  refine zgo m_awake25_ok fun W S => ?_
  refine evr_calmA ?_; refine zev ?_
  refine zcd (f1) ?_
  exact zrt m_awake25_ok
theorem near_fn (l : List Int) (s : State) (kk n : Nat) (hF : Fine s) (h3 : s.regions.length ≤ 3) (hk : kk ≤ l.length) (hn : n ≤ 100) : FncM Try.prog 18 91 (deckV l kk) [staV s, .int .i64 n] (fun x obs c => x = staV (nrs l (s, kk) n).1 ∧ obs = [] ∧ c = deckV l (nrs l (s, kk) n).2) := by
  have h1 := hF.one
  by_cases c1 : s.regions.length = 1
  · exact near1_fn l s kk n hF c1 hk hn
  by_cases c2 : s.regions.length = 2
  · exact near2_fn l s kk n hF c2 hk hn
  · exact near3_fn l s kk n hF (by omega) hk hn
end Go.Proofs.Ytcphobeommkgeaa
