/- P9, P10, P16, P17, in one text. -/
import Derived.Test.YtcphobeommkgeaaM7
import Derived.Test.YtcphobeommkgeaaZt
import Derived.Test.YtcphobeommkgeaaDeep
import Derived.Test.YtcphobeommkgeaaF1
/- Trees: Update and Differ of any trees, and by the reference. -/
namespace Go.Proofs.Ytcphobeommkgeaa
open Go Go.RowKit Rdn Rdn.Dp
set_option linter.unusedVariables false
set_option linter.unusedSimpArgs false
def m_zup : MC := .seq (.reg [⟨(some 3), none, (.m (.box 57 (.t 0)))⟩, ⟨(some 6), none, (.m (.alloc 57 (.agg [.nilS])))⟩, ⟨(some 7), none, (.p (.mov (.c (.int .i64 0))))⟩])
 (.seq (.seq (.reg [⟨(some 11), none, (.p (.load true 1 (.t 3)))⟩, ⟨(some 12), none, (.call 65 [(.t 11)])⟩, ⟨(some 13), none, (.p (.un .not (.t 12)))⟩])
 (.cond (.t 13) (.seq (.reg [⟨(some 14), none, (.m (.build none [.nilS] []))⟩, ⟨none, none, (.m (.store 1 (.t 6) (.t 14)))⟩, ⟨(some 7), none, (.p (.mov (.c (.int .i64 1))))⟩])
 (.ret)) (.skip)))
 (.seq (.seq (.reg [⟨(some 15), none, (.p (.mov (.t 1)))⟩, ⟨(some 16), none, (.p (.bin 0 .lss (.t 15) (.c (.int .i64 0))))⟩, ⟨(some 17), none, (.p (.mov (.t 16)))⟩, ⟨(some 18), (some (17, false)), (.p (.mov (.t 1)))⟩, ⟨(some 19), (some (17, false)), (.p (.fieldA 0 0 (.t 3)))⟩, ⟨(some 20), (some (17, false)), (.p (.load false 1 (.t 19)))⟩, ⟨(some 21), (some (17, false)), (.p (.idxA 1 (.t 20) (.c (.int .i64 0))))⟩, ⟨(some 22), (some (17, false)), (.p (.load false 1 (.t 21)))⟩, ⟨(some 23), (some (17, false)), (.p (.len (.t 22)))⟩, ⟨(some 24), (some (17, false)), (.p (.bin 0 .geq (.t 18) (.t 23)))⟩, ⟨(some 25), none, (.p (.pick (.t 17) (.c (.bool true)) (.t 24)))⟩])
 (.cond (.t 25) (.seq (.reg [⟨(some 26), none, (.m (.build none [.nilS] []))⟩, ⟨none, none, (.m (.store 1 (.t 6) (.t 26)))⟩, ⟨(some 7), none, (.p (.mov (.c (.int .i64 6))))⟩])
 (.ret)) (.skip)))
 (.seq (.reg [⟨(some 27), none, (.m (.buildS 54 1 (.int .u32 0) 0 []))⟩, ⟨(some 28), none, (.p (.fieldA 0 0 (.t 3)))⟩, ⟨(some 29), none, (.p (.load false 1 (.t 28)))⟩, ⟨(some 30), none, (.p (.idxA 1 (.t 29) (.c (.int .i64 0))))⟩, ⟨(some 31), none, (.p (.load false 1 (.t 30)))⟩, ⟨(some 32), none, (.m (.app 54 1 4 (.t 27) (.t 31)))⟩, ⟨(some 8), none, (.p (.mov (.t 32)))⟩])
 (.seq (.reg [⟨(some 33), none, (.p (.mov (.t 8)))⟩, ⟨(some 34), none, (.p (.mov (.t 1)))⟩, ⟨(some 35), none, (.p (.mov (.t 2)))⟩, ⟨(some 36), none, (.p (.idxA 1 (.t 33) (.t 34)))⟩, ⟨none, none, (.m (.store 1 (.t 36) (.t 35)))⟩])
 (.seq (.reg [⟨(some 38), none, (.p (.mov (.t 8)))⟩, ⟨(some 39), none, (.call 26 [(.t 38)])⟩, ⟨(some 37), none, (.p (.mov (.t 39)))⟩, ⟨(some 40), none, (.p (.ext (.t 37) 0))⟩, ⟨(some 41), none, (.p (.ext (.t 37) 1))⟩, ⟨(some 9), none, (.m (.alloc 57 (.agg [.nilS])))⟩, ⟨none, none, (.m (.store 1 (.t 9) (.t 40)))⟩, ⟨(some 10), none, (.p (.mov (.t 41)))⟩])
 (.seq (.reg [⟨(some 42), none, (.p (.load true 1 (.t 9)))⟩, ⟨none, none, (.m (.store 1 (.t 6) (.t 42)))⟩, ⟨(some 7), none, (.p (.mov (.c (.int .i64 0))))⟩])
 (.ret)))))))
theorem m_zup_ok : compF Try.prog 62 = some (43, m_zup, [.load true 1 (.t 6), .mov (.t 7)]) := by kernel_rfl
def m_zdiffer : MC := .seq (.reg [⟨(some 2), none, (.m (.box 57 (.t 0)))⟩, ⟨(some 3), none, (.m (.box 57 (.t 1)))⟩, ⟨(some 4), none, (.p (.mov (.c (.nilS))))⟩, ⟨(some 5), none, (.p (.mov (.c (.int .i64 0))))⟩, ⟨(some 6), none, (.p (.mov (.c (.int .i64 0))))⟩])
 (.seq (.seq (.dreg [⟨(some 13), none, (.p (.load true 1 (.t 2)))⟩, ⟨(some 14), none, (.call 65 [(.t 13)])⟩, ⟨(some 15), none, (.p (.un .not (.t 14)))⟩, ⟨(some 16), none, (.p (.mov (.t 15)))⟩, ⟨(some 17), (some (16, false)), (.p (.load true 1 (.t 3)))⟩, ⟨(some 18), (some (16, false)), (.call 65 [(.t 17)])⟩, ⟨(some 19), (some (16, false)), (.p (.un .not (.t 18)))⟩, ⟨(some 20), none, (.p (.pick (.t 16) (.c (.bool true)) (.t 19)))⟩, ⟨(some 21), none, (.p (.mov (.t 20)))⟩, ⟨(some 22), (some (21, false)), (.p (.fieldA 0 0 (.t 2)))⟩, ⟨(some 23), (some (21, false)), (.p (.load false 1 (.t 22)))⟩, ⟨(some 24), (some (21, false)), (.p (.idxA 1 (.t 23) (.c (.int .i64 0))))⟩, ⟨(some 25), (some (21, false)), (.p (.load false 1 (.t 24)))⟩, ⟨(some 26), (some (21, false)), (.p (.len (.t 25)))⟩, ⟨(some 27), (some (21, false)), (.p (.fieldA 0 0 (.t 3)))⟩, ⟨(some 28), (some (21, false)), (.p (.load false 1 (.t 27)))⟩, ⟨(some 29), (some (21, false)), (.p (.idxA 1 (.t 28) (.c (.int .i64 0))))⟩, ⟨(some 30), (some (21, false)), (.p (.load false 1 (.t 29)))⟩, ⟨(some 31), (some (21, false)), (.p (.len (.t 30)))⟩, ⟨(some 32), (some (21, false)), (.p (.bin 0 .neq (.t 26) (.t 31)))⟩, ⟨(some 33), none, (.p (.pick (.t 21) (.c (.bool true)) (.t 32)))⟩] [[], [0], [0, 1], [0, 1, 2], [0, 1, 2, 3], [0, 1, 2, 3, 4], [0, 1, 2, 3, 4, 5], [0, 1, 2, 3, 4, 5, 6], [0, 1, 2, 3, 4, 5, 6, 7], [0, 1, 2, 3, 4, 5, 6, 7, 8], [0, 1, 2, 3, 4, 5, 6, 7, 8, 9], [0, 1, 2, 3, 4, 5, 6, 7, 8, 9, 10], [0, 1, 2, 3, 4, 5, 6, 7, 8, 9, 10, 11], [0, 1, 2, 3, 4, 5, 6, 7, 8, 9, 10, 11, 12], [0, 1, 2, 3, 4, 5, 6, 7, 8], [0, 1, 2, 3, 4, 5, 6, 7, 8, 14], [0, 1, 2, 3, 4, 5, 6, 7, 8, 14, 15], [0, 1, 2, 3, 4, 5, 6, 7, 8, 14, 15, 16], [0, 1, 2, 3, 4, 5, 6, 7, 8, 14, 15, 16, 17], [0, 1, 2, 3, 4, 5, 6, 7, 8, 9, 10, 11, 12, 13, 14, 15, 16, 17, 18], [0, 1, 2, 3, 4, 5, 6, 7, 8, 9, 10, 11, 12, 13, 14, 15, 16, 17, 18, 19]])
 (.cond (.t 33) (.seq (.reg [⟨(some 4), none, (.p (.mov (.c (.nilS))))⟩, ⟨(some 5), none, (.p (.mov (.c (.int .i64 0))))⟩, ⟨(some 6), none, (.p (.mov (.c (.int .i64 1))))⟩])
 (.ret)) (.skip)))
 (.seq (.reg [⟨(some 7), none, (.p (.mov (.c (.int .i64 0))))⟩])
 (.seq (.reg [⟨(some 34), none, (.m (.buildS 3 1 (.int .i64 0) 1 [(0, (.c (.int .i64 0)))]))⟩, ⟨(some 8), none, (.p (.mov (.t 34)))⟩])
 (.seq (.seq (.reg [⟨(some 35), none, (.p (.fieldA 0 0 (.t 2)))⟩, ⟨(some 36), none, (.p (.load false 1 (.t 35)))⟩, ⟨(some 37), none, (.p (.len (.t 36)))⟩, ⟨(some 38), none, (.p (.bin 0 .sub (.t 37) (.c (.int .i64 1))))⟩, ⟨(some 9), none, (.p (.mov (.t 38)))⟩])
 (.block 0 (.loop (.seq (.seq (.reg [⟨(some 39), none, (.p (.mov (.t 9)))⟩, ⟨(some 40), none, (.p (.bin 0 .geq (.t 39) (.c (.int .i64 0))))⟩])
 (.cond (.t 40) (.skip) (.exit 0)))
 (.seq (.block 1 (.seq (.reg [⟨(some 10), none, (.p (.mov (.c (.nilS))))⟩])
 (.seq (.seq (.reg [⟨(some 11), none, (.p (.mov (.c (.int .i64 0))))⟩])
 (.block 2 (.loop (.seq (.seq (.reg [⟨(some 43), none, (.p (.mov (.t 11)))⟩, ⟨(some 44), none, (.p (.mov (.t 8)))⟩, ⟨(some 45), none, (.p (.len (.t 44)))⟩, ⟨(some 46), none, (.p (.bin 0 .lss (.t 43) (.t 45)))⟩])
 (.cond (.t 46) (.skip) (.exit 2)))
 (.seq (.block 3 (.seq (.reg [⟨(some 49), none, (.p (.mov (.t 8)))⟩, ⟨(some 50), none, (.p (.mov (.t 11)))⟩, ⟨(some 51), none, (.p (.idxA 1 (.t 49) (.t 50)))⟩, ⟨(some 52), none, (.p (.load false 1 (.t 51)))⟩, ⟨(some 12), none, (.p (.mov (.t 52)))⟩])
 (.seq (.reg [⟨(some 53), none, (.p (.mov (.t 7)))⟩, ⟨(some 54), none, (.p (.bin 0 .add (.t 53) (.c (.int .i64 1))))⟩, ⟨(some 7), none, (.p (.mov (.t 54)))⟩])
 (.seq (.seq (.dreg [⟨(some 55), none, (.p (.fieldA 0 0 (.t 2)))⟩, ⟨(some 56), none, (.p (.load false 1 (.t 55)))⟩, ⟨(some 57), none, (.p (.mov (.t 9)))⟩, ⟨(some 58), none, (.p (.idxA 1 (.t 56) (.t 57)))⟩, ⟨(some 59), none, (.p (.load false 1 (.t 58)))⟩, ⟨(some 60), none, (.p (.mov (.t 12)))⟩, ⟨(some 61), none, (.p (.idxA 1 (.t 59) (.t 60)))⟩, ⟨(some 62), none, (.p (.load false 1 (.t 61)))⟩, ⟨(some 63), none, (.p (.fieldA 0 0 (.t 3)))⟩, ⟨(some 64), none, (.p (.load false 1 (.t 63)))⟩, ⟨(some 65), none, (.p (.mov (.t 9)))⟩, ⟨(some 66), none, (.p (.idxA 1 (.t 64) (.t 65)))⟩, ⟨(some 67), none, (.p (.load false 1 (.t 66)))⟩, ⟨(some 68), none, (.p (.mov (.t 12)))⟩, ⟨(some 69), none, (.p (.idxA 1 (.t 67) (.t 68)))⟩, ⟨(some 70), none, (.p (.load false 1 (.t 69)))⟩, ⟨(some 71), none, (.p (.bin 0 .eql (.t 62) (.t 70)))⟩] [[], [0], [], [0, 1, 2], [0, 1, 2, 3], [], [0, 1, 2, 3, 4, 5], [0, 1, 2, 3, 4, 5, 6], [], [8], [], [8, 9, 10], [8, 9, 10, 11], [], [8, 9, 10, 11, 12, 13], [8, 9, 10, 11, 12, 13, 14], [0, 1, 2, 3, 4, 5, 6, 7, 8, 9, 10, 11, 12, 13, 14, 15]])
 (.cond (.t 71) (.exit 3) (.skip)))
 (.seq (.seq (.reg [⟨(some 72), none, (.p (.mov (.t 9)))⟩, ⟨(some 73), none, (.p (.bin 0 .eql (.t 72) (.c (.int .i64 0))))⟩])
 (.cond (.t 73) (.seq (.reg [⟨(some 74), none, (.p (.mov (.t 10)))⟩, ⟨(some 75), none, (.p (.mov (.t 12)))⟩, ⟨(some 76), none, (.m (.buildS 3 1 (.int .i64 0) 1 [(0, (.t 75))]))⟩, ⟨(some 77), none, (.m (.app 3 1 8 (.t 74) (.t 76)))⟩, ⟨(some 10), none, (.p (.mov (.t 77)))⟩])
 (.exit 3)) (.skip)))
 (.seq (.reg [⟨(some 78), none, (.p (.mov (.t 10)))⟩, ⟨(some 79), none, (.p (.mov (.t 12)))⟩, ⟨(some 80), none, (.p (.bin 0 .mul (.c (.int .i64 2)) (.t 79)))⟩, ⟨(some 81), none, (.m (.buildS 3 1 (.int .i64 0) 1 [(0, (.t 80))]))⟩, ⟨(some 82), none, (.m (.app 3 1 8 (.t 78) (.t 81)))⟩, ⟨(some 10), none, (.p (.mov (.t 82)))⟩])
 (.seq (.reg [⟨(some 83), none, (.p (.mov (.t 12)))⟩, ⟨(some 84), none, (.p (.bin 0 .mul (.c (.int .i64 2)) (.t 83)))⟩, ⟨(some 85), none, (.p (.bin 0 .add (.t 84) (.c (.int .i64 1))))⟩, ⟨(some 86), none, (.p (.fieldA 0 0 (.t 2)))⟩, ⟨(some 87), none, (.p (.load false 1 (.t 86)))⟩, ⟨(some 88), none, (.p (.mov (.t 9)))⟩, ⟨(some 89), none, (.p (.bin 0 .sub (.t 88) (.c (.int .i64 1))))⟩, ⟨(some 90), none, (.p (.idxA 1 (.t 87) (.t 89)))⟩, ⟨(some 91), none, (.p (.load false 1 (.t 90)))⟩, ⟨(some 92), none, (.p (.len (.t 91)))⟩, ⟨(some 93), none, (.p (.bin 0 .lss (.t 85) (.t 92)))⟩])
 (.cond (.t 93) (.reg [⟨(some 94), none, (.p (.mov (.t 10)))⟩, ⟨(some 95), none, (.p (.mov (.t 12)))⟩, ⟨(some 96), none, (.p (.bin 0 .mul (.c (.int .i64 2)) (.t 95)))⟩, ⟨(some 97), none, (.p (.bin 0 .add (.t 96) (.c (.int .i64 1))))⟩, ⟨(some 98), none, (.m (.buildS 3 1 (.int .i64 0) 1 [(0, (.t 97))]))⟩, ⟨(some 99), none, (.m (.app 3 1 8 (.t 94) (.t 98)))⟩, ⟨(some 10), none, (.p (.mov (.t 99)))⟩]) (.skip)))))))))
 (.reg [⟨(some 47), none, (.p (.mov (.t 11)))⟩, ⟨(some 48), none, (.p (.bin 0 .add (.t 47) (.c (.int .i64 1))))⟩, ⟨(some 11), none, (.p (.mov (.t 48)))⟩]))))))
 (.reg [⟨(some 100), none, (.p (.mov (.t 10)))⟩, ⟨(some 8), none, (.p (.mov (.t 100)))⟩]))))
 (.reg [⟨(some 41), none, (.p (.mov (.t 9)))⟩, ⟨(some 42), none, (.p (.bin 0 .sub (.t 41) (.c (.int .i64 1))))⟩, ⟨(some 9), none, (.p (.mov (.t 42)))⟩]))))))
 (.seq (.reg [⟨(some 101), none, (.p (.mov (.t 8)))⟩, ⟨(some 102), none, (.p (.mov (.t 7)))⟩, ⟨(some 4), none, (.p (.mov (.t 101)))⟩, ⟨(some 5), none, (.p (.mov (.t 102)))⟩, ⟨(some 6), none, (.p (.mov (.c (.int .i64 0))))⟩])
 (.ret))))))
theorem m_zdiffer_ok : compF Try.prog 63 = some (103, m_zdiffer, [.mov (.t 4), .mov (.t 5), .mov (.t 6)]) := by kernel_rfl
def m_sints26 : MC := .seq (.reg [⟨(some 4), none, (.p (.mov (.c (.bool false))))⟩])
 (.seq (.seq (.reg [⟨(some 6), none, (.p (.mov (.t 0)))⟩, ⟨(some 7), none, (.p (.len (.t 6)))⟩, ⟨(some 8), none, (.p (.mov (.t 1)))⟩, ⟨(some 9), none, (.p (.len (.t 8)))⟩, ⟨(some 10), none, (.p (.bin 0 .neq (.t 7) (.t 9)))⟩])
 (.cond (.t 10) (.seq (.reg [⟨(some 4), none, (.p (.mov (.c (.bool false))))⟩])
 (.ret)) (.skip)))
 (.seq (.seq (.reg [⟨(some 5), none, (.p (.mov (.c (.int .i64 0))))⟩])
 (.block 0 (.loop (.seq (.seq (.reg [⟨(some 11), none, (.p (.mov (.t 5)))⟩, ⟨(some 12), none, (.p (.mov (.t 0)))⟩, ⟨(some 13), none, (.p (.len (.t 12)))⟩, ⟨(some 14), none, (.p (.bin 0 .lss (.t 11) (.t 13)))⟩])
 (.cond (.t 14) (.skip) (.exit 0)))
 (.seq (.block 1 (.seq (.dreg [⟨(some 17), none, (.p (.mov (.t 0)))⟩, ⟨(some 18), none, (.p (.mov (.t 5)))⟩, ⟨(some 19), none, (.p (.idxA 1 (.t 17) (.t 18)))⟩, ⟨(some 20), none, (.p (.load false 1 (.t 19)))⟩, ⟨(some 21), none, (.p (.mov (.t 1)))⟩, ⟨(some 22), none, (.p (.mov (.t 5)))⟩, ⟨(some 23), none, (.p (.idxA 1 (.t 21) (.t 22)))⟩, ⟨(some 24), none, (.p (.load false 1 (.t 23)))⟩, ⟨(some 25), none, (.p (.bin 0 .neq (.t 20) (.t 24)))⟩] [[], [], [0, 1], [0, 1, 2], [], [], [4, 5], [4, 5, 6], [0, 1, 2, 3, 4, 5, 6, 7]])
 (.cond (.t 25) (.seq (.reg [⟨(some 4), none, (.p (.mov (.c (.bool false))))⟩])
 (.ret)) (.skip))))
 (.reg [⟨(some 15), none, (.p (.mov (.t 5)))⟩, ⟨(some 16), none, (.p (.bin 0 .add (.t 15) (.c (.int .i64 1))))⟩, ⟨(some 5), none, (.p (.mov (.t 16)))⟩]))))))
 (.seq (.reg [⟨(some 4), none, (.p (.mov (.c (.bool true))))⟩])
 (.ret))))
theorem m_sints26_ok : compF Try.prog 64 = some (26, m_sints26, [.mov (.t 4)]) := by kernel_rfl
attribute [local irreducible] bld lev vld rootOf
set_option maxHeartbeats 8000000 in
theorem tup_bad (L : List (List Int)) (i d : Int) (h : vld L = false) : Fnc Try.prog 29 [trV L, .int .i64 i, .int .u32 d] (fun x obs => x = .tup [.agg [.nilS], .int .i64 1] ∧ obs = []) := by
  have hv := tval_fn L
  rw [h] at hv
  refine Fnc.intro m_tup_ok (by simp) fun W S => ?_
  unfold m_tup
  simp only [ents, Nat.zero_add, Nat.reduceAdd]
  refine zst ?_
  (first | refine callD (hv) ?_ | refine callDw (hv) ?_); simp only [go_sem]
  refine zst ?_
  refine ret m_tup_ok [] ?_; (first | (simp only [go_sem]; done) | (simp only [go_sem]; ((try dsimp only); (repeat' (refine And.intro ?_ ?_)) <;> first | with_reducible rfl | (simp only [go_sem]; done) | (simp only [go_sem]; rfl) | (simp only []; (try simp only [go_sem]); first | done | rfl) | (simp only [go_sem]; simp []; done) | (simp []; done) | rfl)))
set_option maxHeartbeats 8000000 in
theorem zup_bad (L : List (List Int)) (i d : Int) (h : vld L = false) : Fnc Try.prog 62 [trV L, .int .i64 i, .int .u32 d] (fun x obs => x = .tup [.agg [.nilS], .int .i64 1] ∧ obs = []) := by
  have hv := rval_fn L
  rw [h] at hv
  refine Fnc.intro m_zup_ok (by simp) fun W S => ?_
  unfold m_zup
  simp only [ents, Nat.zero_add, Nat.reduceAdd]
  refine zst ?_
  (first | refine callD (hv) ?_ | refine callDw (hv) ?_); simp only [go_sem]
  refine zst ?_
  refine ret m_zup_ok [] ?_; (first | (simp only [go_sem]; done) | (simp only [go_sem]; ((try dsimp only); (repeat' (refine And.intro ?_ ?_)) <;> first | with_reducible rfl | (simp only [go_sem]; done) | (simp only [go_sem]; rfl) | (simp only []; (try simp only [go_sem]); first | done | rfl) | (simp only [go_sem]; simp []; done) | (simp []; done) | rfl)))
set_option maxHeartbeats 8000000 in
theorem tup_out (L : List (List Int)) (i d : Int) (h : vld L = true) (hi : i < 0 ∨ (L[0]!.length : Int) ≤ i) : Fnc Try.prog 29 [trV L, .int .i64 i, .int .u32 d] (fun x obs => x = .tup [.agg [.nilS], .int .i64 6] ∧ obs = []) := by
  have hv := tval_fn L
  rw [h] at hv
  have ht := vld_to h
  have h1 := ht.1
  have h2 := ht.2.2.1
  by_cases c : i < 0
  · skip
    refine Fnc.intro m_tup_ok (by simp) fun W S => ?_
    unfold m_tup
    simp only [ents, Nat.zero_add, Nat.reduceAdd]
    refine zst ?_
    (first | refine callD (hv) ?_ | refine callDw (hv) ?_); simp only [go_sem]
    refine zst ?_
    refine ret m_tup_ok [] ?_; (first | (simp only [go_sem]; done) | (simp only [go_sem]; ((try dsimp only); (repeat' (refine And.intro ?_ ?_)) <;> first | with_reducible rfl | (simp only [go_sem]; done) | (simp only [go_sem]; rfl) | (simp only []; (try simp only [go_sem]); first | done | rfl) | (simp only [go_sem]; simp []; done) | (simp []; done) | rfl)))
  · skip
    refine Fnc.intro m_tup_ok (by simp) fun W S => ?_
    unfold m_tup
    simp only [ents, Nat.zero_add, Nat.reduceAdd]
    refine zst ?_
    (first | refine callD (hv) ?_ | refine callDw (hv) ?_); simp only [go_sem]
    refine zst ?_
    refine ret m_tup_ok [] ?_; (first | (simp only [go_sem]; done) | (simp only [go_sem]; ((try dsimp only); (repeat' (refine And.intro ?_ ?_)) <;> first | with_reducible rfl | (simp only [go_sem]; done) | (simp only [go_sem]; rfl) | (simp only []; (try simp only [go_sem]); first | done | rfl) | (simp only [go_sem]; simp []; done) | (simp []; done) | rfl)))
set_option maxHeartbeats 8000000 in
theorem zup_out (L : List (List Int)) (i d : Int) (h : vld L = true) (hi : i < 0 ∨ (L[0]!.length : Int) ≤ i) : Fnc Try.prog 62 [trV L, .int .i64 i, .int .u32 d] (fun x obs => x = .tup [.agg [.nilS], .int .i64 6] ∧ obs = []) := by
  have hv := rval_fn L
  rw [h] at hv
  have ht := vld_to h
  have h1 := ht.1
  have h2 := ht.2.2.1
  by_cases c : i < 0
  · skip
    refine Fnc.intro m_zup_ok (by simp) fun W S => ?_
    unfold m_zup
    simp only [ents, Nat.zero_add, Nat.reduceAdd]
    refine zst ?_
    (first | refine callD (hv) ?_ | refine callDw (hv) ?_); simp only [go_sem]
    refine zst ?_
    refine ret m_zup_ok [] ?_; (first | (simp only [go_sem]; done) | (simp only [go_sem]; ((try dsimp only); (repeat' (refine And.intro ?_ ?_)) <;> first | with_reducible rfl | (simp only [go_sem]; done) | (simp only [go_sem]; rfl) | (simp only []; (try simp only [go_sem]); first | done | rfl) | (simp only [go_sem]; simp []; done) | (simp []; done) | rfl)))
  · skip
    refine Fnc.intro m_zup_ok (by simp) fun W S => ?_
    unfold m_zup
    simp only [ents, Nat.zero_add, Nat.reduceAdd]
    refine zst ?_
    (first | refine callD (hv) ?_ | refine callDw (hv) ?_); simp only [go_sem]
    refine zst ?_
    refine ret m_zup_ok [] ?_; (first | (simp only [go_sem]; done) | (simp only [go_sem]; ((try dsimp only); (repeat' (refine And.intro ?_ ?_)) <;> first | with_reducible rfl | (simp only [go_sem]; done) | (simp only [go_sem]; rfl) | (simp only []; (try simp only [go_sem]); first | done | rfl) | (simp only [go_sem]; simp []; done) | (simp []; done) | rfl)))
set_option maxHeartbeats 8000000 in
theorem zup_ok (l : List Int) (h1 : 1 ≤ l.length) (h2 : l.length ≤ 20) (i : Nat) (hi : i < l.length) (d : Int) : Fnc Try.prog 62 [trV (bld l), .int .i64 i, .int .u32 d] (fun x obs => x = .tup [trV (bld (l.set i d)), .int .i64 0] ∧ obs = []) := by
  have hv := rval_fn (bld l)
  rw [vld_bld h1 h2] at hv
  have hl := bld_len l
  have hz := bld_zero l
  have hB := rbuild_fn (l.set i d) (by rw [List.length_set]; exact h1) (by rw [List.length_set]; exact h2)
  refine Fnc.intro m_zup_ok (by simp) fun W S => ?_
  unfold m_zup
  simp only [ents, Nat.zero_add, Nat.reduceAdd]
  refine zst ?_
  (first | refine callD (hv) ?_ | refine callDw (hv) ?_); refine zev ?_
  repeat (first | (simp only [hz]; try simp only [go_sem]) | refine And.intro (by omega) ?_ | refine And.intro rfl ?_ | refine ev_ctl rfl rfl ?_ | refine evr_nil ?_ | refine evw_nil (by kernel_rfl) ?_ | (simp (disch := omega) only [takeAll, Nat.min_eq_left, Nat.min_eq_right, if_pos, if_neg, getD_map, wrapI64, modIn, fdivE, tmodE, tdivE, decT, decF, beqT, beqF, bneT, bneF, Int.toNat_natCast]; try simp only [go_sem]) | (refine ev_condTb rfl ?_ ?_; · (simp <;> omega)) | (refine ev_condFb rfl ?_ ?_; · (simp <;> omega)) | ((first | refine ev_region ?_ | refine evr_go rfl ?_ | refine evw_go rfl ?_ | refine ev_dr0 mixed rfl (by kernel_rfl) ?_ | refine ev_dr1 mixed rfl (by kernel_rfl) ?_ | refine ev_dr2 mixed rfl (by kernel_rfl) ?_); simp only [go_sem]))
  refine evr_calmA ?_; (refine zev ?_); (first | refine callD (hB) ?_ | refine callDw (hB) ?_); simp only [go_sem]
  refine zst ?_
  refine ret m_zup_ok [] ?_; (first | (simp only [go_sem]; done) | (simp only [go_sem]; ((try dsimp only); (repeat' (refine And.intro ?_ ?_)) <;> first | with_reducible rfl | (simp only [go_sem]; done) | (simp only [go_sem]; rfl) | (simp only []; (try simp only [go_sem]); first | done | rfl) | (simp only [go_sem]; simp []; done) | (simp []; done) | rfl)))
set_option maxHeartbeats 8000000 in
theorem differ_bad (L M : List (List Int)) (h : vld L = false ∨ vld M = false ∨ L[0]!.length ≠ M[0]!.length) : Fnc Try.prog 30 [trV L, trV M] (fun x obs => x = .tup [.nilS, .int .i64 0, .int .i64 1] ∧ obs = []) := by
  have f1 := tval_fn L
  have f2 := tval_fn M
  cases c1 : vld L with
  | false =>
    rw [c1] at f1
    refine Fnc.intro m_differ_ok (by simp) fun W S => ?_
    unfold m_differ
    simp only [ents, Nat.zero_add, Nat.reduceAdd]
    refine zst ?_
    (first | refine callD (f1) ?_ | refine callDw (f1) ?_); simp only [go_sem]
    refine zst ?_
    refine ret m_differ_ok [] ?_; (first | (simp only [go_sem]; done) | (simp only [go_sem]; ((try dsimp only); (repeat' (refine And.intro ?_ ?_)) <;> first | with_reducible rfl | (simp only [go_sem]; done) | (simp only [go_sem]; rfl) | (simp only []; (try simp only [go_sem]); first | done | rfl) | (simp only [go_sem]; simp []; done) | (simp []; done) | rfl)))
  | true =>
    rw [c1] at f1
    cases c2 : vld M with
    | false =>
      rw [c2] at f2
      refine Fnc.intro m_differ_ok (by simp) fun W S => ?_
      unfold m_differ
      simp only [ents, Nat.zero_add, Nat.reduceAdd]
      refine zst ?_
      (first | refine callD (f1) ?_ | refine callDw (f1) ?_); simp only [go_sem]
      refine zst ?_
      (first | refine callD (f2) ?_ | refine callDw (f2) ?_); simp only [go_sem]
      refine zst ?_
      refine ret m_differ_ok [] ?_; (first | (simp only [go_sem]; done) | (simp only [go_sem]; ((try dsimp only); (repeat' (refine And.intro ?_ ?_)) <;> first | with_reducible rfl | (simp only [go_sem]; done) | (simp only [go_sem]; rfl) | (simp only []; (try simp only [go_sem]); first | done | rfl) | (simp only [go_sem]; simp []; done) | (simp []; done) | rfl)))
    | true =>
      rw [c2] at f2
      have h3 : L[0]!.length ≠ M[0]!.length := by
        rcases h with h | h | h
        · rw [c1] at h; cases h
        · rw [c2] at h; cases h
        · exact h
      have t1 := (vld_to c1).1
      have t2 := (vld_to c2).1
      refine Fnc.intro m_differ_ok (by simp) fun W S => ?_
      unfold m_differ
      simp only [ents, Nat.zero_add, Nat.reduceAdd]
      refine zst ?_
      (first | refine callD (f1) ?_ | refine callDw (f1) ?_); simp only [go_sem]
      refine zst ?_
      (first | refine callD (f2) ?_ | refine callDw (f2) ?_); simp only [go_sem]
      refine zst ?_
      refine ret m_differ_ok [] ?_; (first | (simp only [go_sem]; done) | (simp only [go_sem]; ((try dsimp only); (repeat' (refine And.intro ?_ ?_)) <;> first | with_reducible rfl | (simp only [go_sem]; done) | (simp only [go_sem]; rfl) | (simp only []; (try simp only [go_sem]); first | done | rfl) | (simp only [go_sem]; simp []; done) | (simp []; done) | rfl)))
set_option maxHeartbeats 8000000 in
theorem zdiffer_bad (L M : List (List Int)) (h : vld L = false ∨ vld M = false ∨ L[0]!.length ≠ M[0]!.length) : Fnc Try.prog 63 [trV L, trV M] (fun x obs => x = .tup [.nilS, .int .i64 0, .int .i64 1] ∧ obs = []) := by
  have f1 := rval_fn L
  have f2 := rval_fn M
  cases c1 : vld L with
  | false =>
    rw [c1] at f1
    refine Fnc.intro m_zdiffer_ok (by simp) fun W S => ?_
    unfold m_zdiffer
    simp only [ents, Nat.zero_add, Nat.reduceAdd]
    refine zst ?_
    (first | refine callD (f1) ?_ | refine callDw (f1) ?_); simp only [go_sem]
    refine zst ?_
    refine ret m_zdiffer_ok [] ?_; (first | (simp only [go_sem]; done) | (simp only [go_sem]; ((try dsimp only); (repeat' (refine And.intro ?_ ?_)) <;> first | with_reducible rfl | (simp only [go_sem]; done) | (simp only [go_sem]; rfl) | (simp only []; (try simp only [go_sem]); first | done | rfl) | (simp only [go_sem]; simp []; done) | (simp []; done) | rfl)))
  | true =>
    rw [c1] at f1
    cases c2 : vld M with
    | false =>
      rw [c2] at f2
      refine Fnc.intro m_zdiffer_ok (by simp) fun W S => ?_
      unfold m_zdiffer
      simp only [ents, Nat.zero_add, Nat.reduceAdd]
      refine zst ?_
      (first | refine callD (f1) ?_ | refine callDw (f1) ?_); simp only [go_sem]
      refine zst ?_
      (first | refine callD (f2) ?_ | refine callDw (f2) ?_); simp only [go_sem]
      refine zst ?_
      refine ret m_zdiffer_ok [] ?_; (first | (simp only [go_sem]; done) | (simp only [go_sem]; ((try dsimp only); (repeat' (refine And.intro ?_ ?_)) <;> first | with_reducible rfl | (simp only [go_sem]; done) | (simp only [go_sem]; rfl) | (simp only []; (try simp only [go_sem]); first | done | rfl) | (simp only [go_sem]; simp []; done) | (simp []; done) | rfl)))
    | true =>
      rw [c2] at f2
      have h3 : L[0]!.length ≠ M[0]!.length := by
        rcases h with h | h | h
        · rw [c1] at h; cases h
        · rw [c2] at h; cases h
        · exact h
      have t1 := (vld_to c1).1
      have t2 := (vld_to c2).1
      refine Fnc.intro m_zdiffer_ok (by simp) fun W S => ?_
      unfold m_zdiffer
      simp only [ents, Nat.zero_add, Nat.reduceAdd]
      refine zst ?_
      (first | refine callD (f1) ?_ | refine callDw (f1) ?_); simp only [go_sem]
      refine zst ?_
      (first | refine callD (f2) ?_ | refine callDw (f2) ?_); simp only [go_sem]
      refine zst ?_
      refine ret m_zdiffer_ok [] ?_; (first | (simp only [go_sem]; done) | (simp only [go_sem]; ((try dsimp only); (repeat' (refine And.intro ?_ ?_)) <;> first | with_reducible rfl | (simp only [go_sem]; done) | (simp only [go_sem]; rfl) | (simp only []; (try simp only [go_sem]); first | done | rfl) | (simp only [go_sem]; simp []; done) | (simp []; done) | rfl)))
set_option maxHeartbeats 4000000 in
theorem sints26_fn (a b : List Int) : Fnc Try.prog 64 [.sl false 1 (a.map (V.int .i64)), .sl false 1 (b.map (V.int .i64))] (fun x obs => x = .bool (decide (a = b)) ∧ obs = []) := by
  refine Fnc.wf fun hw => ?_
  simp only [V.wfs, V.wf, wfs_map, List.length_map] at hw
  have hm := hw.1.2
  have hm' := hw.2.1.2
  by_cases hl : a.length = b.length
  · skip
    refine Fnc.intro m_sints26_ok (by simp) fun W S => ?_
    unfold m_sints26
    simp only [ents, Nat.zero_add, Nat.reduceAdd]
    refine zst ?_
    refine ev_loopK [0, 1] (fun p : {p : Nat // p ≤ a.length ∧ a.take p = b.take p} => [(5, .int .i64 p.1)]) (fun _ => []) (fun p => a.length - p.1) (⟨0, by simp⟩) 0 (by simp only [go_sem]; rfl) ?_ (by first | rfl | (simp only [go_sem]; done)) (by simp) (by first | rfl | (simp only [go_sem]; done)) (by first | rfl | (simp only [go_sem]; done)) (by first | rfl | (simp only [go_sem]; done)) ?_
    · (simp only [go_sem]; (try simp []); done)
    intro J hJ
    rintro ⟨k, hk0, hk1⟩
    by_cases hlt : k < a.length
    · by_cases e : a[k]! = b[k]!
      · skip
        refine zst ?_
        refine ev_next 0 (hJ _ (⟨k + 1, hlt, by rw [take_snoc hlt, take_snoc (by omega), hk1, e]⟩) (by first | omega | (dsimp only; omega) | (simp; omega))) rfl (by simp) ?_ (by first | rfl | (simp only [go_sem]; done)) (by first | rfl | (simp only [go_sem]; done) | (simp only [hlt]; (try simp only [go_sem]); first | done | rfl)) ?_
        · (first | rfl | (simp only [go_sem]; done) | (simp only [go_sem]; simp only [hlt]; done) | (simp only [hlt]; done) | (simp only [go_sem]; simp [hlt]; done) | (simp [hlt]; done))
        · (simp only [go_sem]; (repeat' (refine And.intro ?_ ?_)) <;> first | exact trivial | with_reducible rfl | (simp only [hlt]; done) | (simp only [hlt]; with_reducible rfl) | (simp [hlt]; done) | (simp [hlt]; omega) | (simp only [hlt]; rfl) | skip)
      · have hne : a ≠ b := fun h => e (at_of_eq h k)
        refine zst ?_
        refine ret m_sints26_ok [] ?_; (first | (simp only [go_sem]; done) | (simp only [go_sem]; exact ⟨rfl, rfl⟩))
    · have hab := eq_of_take (by omega) (by omega) hk1
      refine zst ?_
      refine ret m_sints26_ok [] ?_; (first | (simp only [go_sem]; done) | (simp only [go_sem]; exact ⟨rfl, rfl⟩))
  · have hne : a ≠ b := fun h => hl (by rw [h])
    refine Fnc.intro m_sints26_ok (by simp) fun W S => ?_
    unfold m_sints26
    simp only [ents, Nat.zero_add, Nat.reduceAdd]
    refine zst ?_
    refine ret m_sints26_ok [] ?_; (first | (simp only [go_sem]; done) | (simp only [go_sem]; exact ⟨rfl, rfl⟩))
theorem ch1_two {w i : Nat} (h : 2 * i < w) : ch1 w i = if 2 * i + 1 < w then [2 * i, 2 * i + 1] else [2 * i] := by
  unfold ch1
  rw [if_pos h]
  split <;> rfl
theorem nI_two (L : List Nat) (x y : Nat) : i64s (nI L) ++ [V.int .i64 (x : Int)] ++ [V.int .i64 (y : Int)] = i64s (nI (L ++ [x, y])) := by simp [nI]
theorem chl_dif {w : Nat} {x y : List Int} {L : List Nat} {q : Nat} (h : q < L.length) : chl w (dif x y (L.take (q + 1))) = if x[L[q]!]! = y[L[q]!]! then chl w (dif x y (L.take q)) else chl w (dif x y (L.take q)) ++ ch1 w L[q]! := by
  rw [dif_snoc h]
  split
  · rfl
  · unfold chl; rw [List.flatMap_append]; simp
theorem nI_two' (i : Nat) : nI [2 * i, 2 * i + 1] = [2 * (i : Int), 2 * (i : Int) + 1] := by simp [nI]
attribute [local irreducible] nI dif chl dst ch1 dres dnum
set_option maxHeartbeats 32000000 in
set_option maxRecDepth 100000 in
theorem zdiffer_fn (l m : List Int) (h1 : 1 ≤ l.length) (h2 : l.length ≤ 20) (hm : m.length = l.length) : Fnc Try.prog 63 [trV (bld l), trV (bld m)] (fun x obs => x = .tup [.sl false 1 (i64s (nI (dres l m))), .int .i64 (dnum l m), .int .i64 0] ∧ obs = []) := by
  refine Fnc.low ?_
  have hv := rval_fn (bld l)
  rw [vld_bld h1 h2] at hv
  have hv' := rval_fn (bld m)
  rw [vld_bld (by omega) (by omega)] at hv'
  have hbl := bld_len l
  have hz := bld_zero l
  have hbl' := bld_len m
  have hz' := bld_zero m
  rw [hm] at hbl'
  have h5 := dep_le l.length
  refine Fnc.intro m_zdiffer_ok (by simp) fun W S => ?_
  unfold m_zdiffer
  simp only [ents, Nat.zero_add, Nat.reduceAdd]
  refine zst ?_
  (first | refine callD (hv) ?_ | refine callDw (hv) ?_); simp only [go_sem]
  refine zst ?_
  (first | refine callD (hv') ?_ | refine callDw (hv') ?_); refine zev ?_
  repeat (first | (simp only [hz, hz']; try simp only [go_sem]) | refine And.intro (by omega) ?_ | refine And.intro rfl ?_ | refine ev_ctl rfl rfl ?_ | refine evr_nil ?_ | refine evw_nil (by kernel_rfl) ?_ | (simp (disch := omega) only [takeAll, Nat.min_eq_left, Nat.min_eq_right, if_pos, if_neg, getD_map, wrapI64, modIn, fdivE, tmodE, tdivE, decT, decF, beqT, beqF, bneT, bneF, Int.toNat_natCast]; try simp only [go_sem]) | (refine ev_condTb rfl ?_ ?_; · (simp <;> omega)) | (refine ev_condFb rfl ?_ ?_; · (simp <;> omega)) | ((first | refine ev_region ?_ | refine evr_go rfl ?_ | refine evw_go rfl ?_ | refine ev_dr0 mixed rfl (by kernel_rfl) ?_ | refine ev_dr1 mixed rfl (by kernel_rfl) ?_ | refine ev_dr2 mixed rfl (by kernel_rfl) ?_); simp only [go_sem]))
  refine ev_freeze 8 rfl rfl ?_
  have e0 : [V.int .i64 0] = i64s (nI (dst l m 0).1) := by rw [dst_zero]; exact nI_one.symm
  have e1 : ((dst l m 0).2 : Int) = 0 := by rw [dst_zero]; rfl
  have e2 : ((bld l).length : Int) - 1 = (dep l.length : Int) - ((0 : Nat) : Int) := by omega
  refine ev_loopK [2, 3] (fun p : {p : Nat // p ≤ dep l.length + 1} => [(7, .int .i64 ((if p.1 ≤ dep l.length then (dst l m p.1).2 else dnum l m : Nat) : Int)), (8, .sl true 1 (i64s (nI (if p.1 ≤ dep l.length then (dst l m p.1).1 else dres l m)))), (9, .int .i64 ((dep l.length : Int) - (p.1 : Int)))]) (fun _ => [⟨.box false 57, true, 0, trV (bld l)⟩, ⟨.box false 57, true, 0, trV (bld m)⟩]) (fun p => dep l.length + 1 - p.1) (⟨0, by simp⟩) 2 (by simp only [go_sem]; rfl) ?_ (by first | rfl | (simp only [go_sem]; done) | (simp only [go_sem]; simp [e0, e1, e2, if_pos (Nat.zero_le _)]; done)) (by simp) (by first | rfl | (simp only [go_sem]; done)) (by first | rfl | (simp only [go_sem]; done)) (by first | rfl | (simp only [go_sem]; done) | (simp only [e0, e1, e2, if_pos (Nat.zero_le _)]; (try simp only [go_sem]); first | done | rfl)) ?_
  · (simp only [go_sem]; (try simp [e0, e1, e2, if_pos (Nat.zero_le _)]); done)
  intro J hJ
  rintro ⟨p, hp⟩
  by_cases hpd : p ≤ dep l.length
  rotate_left
  · obtain rfl : p = dep l.length + 1 := by omega
    dsimp only
    rw [if_neg hpd, if_neg hpd]
    refine zst ?_
    refine ret m_zdiffer_ok [] ?_; (first | (simp only [go_sem]; done) | (simp only [go_sem]; ((try dsimp only); (repeat' (refine And.intro ?_ ?_)) <;> first | with_reducible rfl | (simp only [go_sem]; done) | (simp only [go_sem]; rfl) | (simp only []; (try simp only [go_sem]); first | done | rfl) | (simp only [go_sem]; simp []; done) | (simp []; done) | rfl)))
  have ha := dst_asc (m := m) h1 h2 hpd
  have hL := ha.len
  have hlK := bld_at l (k := dep l.length - p) (by omega)
  have hmK := bld_at m (k := dep l.length - p) (by rw [hm]; omega)
  have hlw := lev_len l (dep l.length - p)
  have hmw := lev_len m (dep l.length - p)
  rw [hm] at hmw
  obtain ⟨K, hK⟩ : ∃ K, dep l.length - p = K := ⟨_, rfl⟩
  rw [hK] at hlK hmK hlw hmw ha hL
  have hK' : (dep l.length : Int) - (p : Int) = (K : Int) := by omega
  have hres : p = dep l.length → dres l m = dif (lev l K) (lev m K) (dst l m p).1 ∧ dnum l m = (dst l m p).2 + (dst l m p).1.length := fun e => by
    subst e
    obtain rfl : K = 0 := by omega
    exact ⟨dres_eq l m, dnum_eq l m⟩
  have hnx : dst l m (p + 1) = (chl (lev l (K - 1)).length (dif (lev l K) (lev m K) (dst l m p).1), (dst l m p).2 + (dst l m p).1.length) := by
    rw [← hK]; exact dst_succ l m p
  have hn : (dst l m p).2 ≤ 100 := Nat.le_trans (dst_small h1 h2 hpd) (by omega)
  dsimp only
  rw [if_pos hpd, if_pos hpd, hK']
  generalize dst l m p = r at ha hL hres hnx hn
  obtain ⟨L, n⟩ := r
  dsimp only at ha hL hres hnx hn ⊢
  have hle := hl_le h1 K
  have hLl : (nI L).length = L.length := nI_len L
  have hJ0 := hJ
  have hb2 : ((K : Int)).toNat = K := by omega
  refine zst ?_
  refine ev_adopt (i := 10) (e := 3) (s := 1) rfl (by decide) ?_
  by_cases cK : K = 0
  · subst cK
    obtain ⟨r1, r2⟩ := hres (by omega)
    have hpe : p = dep l.length := by omega
    have e3 : ((if p + 1 ≤ dep l.length then (dst l m (p + 1)).2 else dnum l m : Nat) : Int) = (n : Int) + (L.length : Int) := by rw [if_neg (by omega), r2]; omega
    have e4 : (if p + 1 ≤ dep l.length then (dst l m (p + 1)).1 else dres l m) = dif (lev l 0) (lev m 0) L := by rw [if_neg (by omega), r1]
    have e5 : (dep l.length : Int) - ((p + 1 : Nat) : Int) = -1 := by omega
    refine ev_loopK [2, 3, 8, 9] (fun q : {q : Nat // q ≤ L.length} => [(7, .int .i64 ((n : Int) + q.1)), (10, .own 2 (dif (lev l 0) (lev m 0) (L.take q.1)).length), (11, .int .i64 q.1)]) (fun q => [⟨.box false 57, true, 0, trV (bld l)⟩, ⟨.box false 57, true, 0, trV (bld m)⟩, ⟨.row 3, true, (dif (lev l 0) (lev m 0) (L.take q.1)).length, .arr 1 (i64s (nI (dif (lev l 0) (lev m 0) (L.take q.1))))⟩]) (fun q => L.length - q.1) (⟨0, by simp⟩) 3 (by simp only [go_sem]; rfl) ?_ (by first | rfl | (simp only [go_sem]; done) | (simp only [go_sem]; simp [dif_nil, nI_nil]; done)) (by simp) (by first | rfl | (simp only [go_sem]; done)) (by first | rfl | (simp only [go_sem]; done)) (by first | rfl | (simp only [go_sem]; done) | (simp only [dif_nil, nI_nil]; (try simp only [go_sem]); first | done | rfl)) ?_
    · (simp only [go_sem]; (try simp [dif_nil, nI_nil]); done)
    intro J hJ
    rintro ⟨q, hq⟩
    by_cases hlt : q < L.length
    · have hx := nI_at (L := L) (k := q) hlt
      have hd := dif_snoc (x := lev l 0) (y := lev m 0) (L := L) (q := q) hlt
      have hi := ha.2 L[q]! (mem_at hlt)
      have hdl := dif_le (x := lev l 0) (y := lev m 0) L q
      obtain ⟨i, hiq⟩ : ∃ i, L[q]! = i := ⟨_, rfl⟩
      rw [hiq] at hx hd hi
      have hit : ((i : Int)).toNat = i := by omega
      by_cases c : (lev l 0)[i]! = (lev m 0)[i]!
      · rw [if_pos c] at hd
        repeat (first | (simp only [hx, hit, hlK, hmK]; try simp only [go_sem]) | refine And.intro (by omega) ?_ | refine And.intro rfl ?_ | refine ev_ctl rfl rfl ?_ | refine evr_nil ?_ | refine evw_nil (by kernel_rfl) ?_ | (simp (disch := omega) only [takeAll, Nat.min_eq_left, Nat.min_eq_right, if_pos, if_neg, getD_map, wrapI64, modIn, fdivE, tmodE, tdivE, decT, decF, beqT, beqF, bneT, bneF, Int.toNat_natCast]; try simp only [go_sem]) | (refine ev_condTb rfl ?_ ?_; · (simp <;> omega)) | (refine ev_condFb rfl ?_ ?_; · (simp <;> omega)) | ((first | refine ev_region ?_ | refine evr_go rfl ?_ | refine evw_go rfl ?_ | refine ev_dr0 mixed rfl (by kernel_rfl) ?_ | refine ev_dr1 mixed rfl (by kernel_rfl) ?_ | refine ev_dr2 mixed rfl (by kernel_rfl) ?_); simp only [go_sem]))
        refine ev_next 3 (hJ _ (⟨q + 1, hlt⟩) (by first | omega | (dsimp only; omega) | (simp; omega))) rfl (by simp) ?_ (by first | rfl | (simp only [go_sem]; done)) (by first | rfl | (simp only [go_sem]; done) | (simp only [hd, Int.natCast_add]; (try simp only [go_sem]); first | done | rfl)) ?_
        · (first | rfl | (simp only [go_sem]; done) | (simp only [go_sem]; simp only [hd, Int.natCast_add]; done) | (simp only [hd, Int.natCast_add]; done) | (simp only [go_sem]; simp [hd, Int.natCast_add]; done) | (simp [hd, Int.natCast_add]; done))
        · (simp only [go_sem]; (repeat' (refine And.intro ?_ ?_)) <;> first | exact trivial | with_reducible rfl | (simp only [hd, Int.natCast_add]; done) | (simp only [hd, Int.natCast_add]; with_reducible rfl) | (simp [hd, Int.natCast_add]; done) | (simp [hd, Int.natCast_add]; omega) | (simp only [hd, Int.natCast_add]; rfl) | skip)
      · rw [if_neg c] at hd
        have hs := nI_snoc (dif (lev l 0) (lev m 0) (L.take q)) i
        have hnl := nI_len (dif (lev l 0) (lev m 0) (L.take q))
        repeat (first | (simp only [hx, hit, hlK, hmK]; try simp only [go_sem]) | refine And.intro (by omega) ?_ | refine And.intro rfl ?_ | refine ev_ctl rfl rfl ?_ | refine evr_nil ?_ | refine evw_nil (by kernel_rfl) ?_ | (simp (disch := omega) only [takeAll, Nat.min_eq_left, Nat.min_eq_right, if_pos, if_neg, getD_map, wrapI64, modIn, fdivE, tmodE, tdivE, decT, decF, beqT, beqF, bneT, bneF, Int.toNat_natCast]; try simp only [go_sem]) | (refine ev_condTb rfl ?_ ?_; · (simp <;> omega)) | (refine ev_condFb rfl ?_ ?_; · (simp <;> omega)) | ((first | refine ev_region ?_ | refine evr_go rfl ?_ | refine evw_go rfl ?_ | refine ev_dr0 mixed rfl (by kernel_rfl) ?_ | refine ev_dr1 mixed rfl (by kernel_rfl) ?_ | refine ev_dr2 mixed rfl (by kernel_rfl) ?_); simp only [go_sem]))
        refine ev_next 3 (hJ _ (⟨q + 1, hlt⟩) (by first | omega | (dsimp only; omega) | (simp; omega))) rfl (by simp) ?_ (by first | rfl | (simp only [go_sem]; done)) (by first | rfl | (simp only [go_sem]; done) | (simp only [hd, hs, Int.natCast_add]; (try simp only [go_sem]); first | done | rfl)) ?_
        · (first | rfl | (simp only [go_sem]; done) | (simp only [go_sem]; simp only [hd, hs, Int.natCast_add]; done) | (simp only [hd, hs, Int.natCast_add]; done) | (simp only [go_sem]; simp [hd, hs, Int.natCast_add]; done) | (simp [hd, hs, Int.natCast_add]; done))
        · (simp only [go_sem]; (repeat' (refine And.intro ?_ ?_)) <;> first | exact trivial | with_reducible rfl | (simp only [hd, hs, Int.natCast_add]; done) | (simp only [hd, hs, Int.natCast_add]; with_reducible rfl) | (simp [hd, hs, Int.natCast_add]; done) | (simp [hd, hs, Int.natCast_add]; omega) | (simp only [hd, hs, Int.natCast_add]; rfl) | skip)
    · obtain rfl : q = L.length := by omega
      rw [List.take_length]
      have hJ := hJ0
      refine zst ?_
      refine ev_freeze 8 rfl rfl ?_
      refine zst ?_
      refine ev_next 2 (hJ _ (⟨p + 1, by omega⟩) (by first | omega | (dsimp only; omega) | (simp; omega))) rfl (by simp) ?_ (by first | rfl | (simp only [go_sem]; done)) (by first | rfl | (simp only [go_sem]; done) | (simp only [e3, e4, e5]; (try simp only [go_sem]); first | done | rfl)) ?_
      · (first | rfl | (simp only [go_sem]; done) | (simp only [go_sem]; simp only [e3, e4, e5]; done) | (simp only [e3, e4, e5]; done) | (simp only [go_sem]; simp [e3, e4, e5]; done) | (simp [e3, e4, e5]; done))
      · (simp only [go_sem]; (repeat' (refine And.intro ?_ ?_)) <;> first | exact trivial | with_reducible rfl | (simp only [e3, e4, e5]; done) | (simp only [e3, e4, e5]; with_reducible rfl) | (simp [e3, e4, e5]; done) | (simp [e3, e4, e5]; omega) | (simp only [e3, e4, e5]; rfl) | skip)
  · have hwK := bld_at l (k := K - 1) (by omega)
    have hcK : ((K : Int) - 1).toNat = K - 1 := by omega
    obtain ⟨w, hw⟩ : ∃ w, (lev l (K - 1)).length = w := ⟨_, rfl⟩
    have hw20 := lev_len l (K - 1)
    have hle1 := hl_le h1 (K - 1)
    have hKw : hl l.length K = (w + 1) / 2 := by rw [← hw, hw20]; obtain ⟨j, rfl⟩ : ∃ j, K = j + 1 := ⟨K - 1, by omega⟩; rfl
    rw [hw] at hnx hw20
    have e3 : ((if p + 1 ≤ dep l.length then (dst l m (p + 1)).2 else dnum l m : Nat) : Int) = (n : Int) + (L.length : Int) := by rw [if_pos (by omega), hnx]; simp
    have e4 : (if p + 1 ≤ dep l.length then (dst l m (p + 1)).1 else dres l m) = chl w (dif (lev l K) (lev m K) L) := by rw [if_pos (by omega), hnx]
    have e5 : (dep l.length : Int) - ((p + 1 : Nat) : Int) = (K : Int) - 1 := by omega
    refine ev_loopK [2, 3, 8, 9] (fun q : {q : Nat // q ≤ L.length} => [(7, .int .i64 ((n : Int) + q.1)), (10, .own 2 (chl w (dif (lev l K) (lev m K) (L.take q.1))).length), (11, .int .i64 q.1)]) (fun q => [⟨.box false 57, true, 0, trV (bld l)⟩, ⟨.box false 57, true, 0, trV (bld m)⟩, ⟨.row 3, true, (chl w (dif (lev l K) (lev m K) (L.take q.1))).length, .arr 1 (i64s (nI (chl w (dif (lev l K) (lev m K) (L.take q.1)))))⟩]) (fun q => L.length - q.1) (⟨0, by simp⟩) 3 (by simp only [go_sem]; rfl) ?_ (by first | rfl | (simp only [go_sem]; done) | (simp only [go_sem]; simp [dif_nil, chl_nil, nI_nil]; done)) (by simp) (by first | rfl | (simp only [go_sem]; done)) (by first | rfl | (simp only [go_sem]; done)) (by first | rfl | (simp only [go_sem]; done) | (simp only [dif_nil, chl_nil, nI_nil]; (try simp only [go_sem]); first | done | rfl)) ?_
    · (simp only [go_sem]; (try simp [dif_nil, chl_nil, nI_nil]); done)
    intro J hJ
    rintro ⟨q, hq⟩
    by_cases hlt : q < L.length
    · have hx := nI_at (L := L) (k := q) hlt
      have hd := chl_dif (w := w) (x := lev l K) (y := lev m K) (L := L) (q := q) hlt
      have hi := ha.2 L[q]! (mem_at hlt)
      have hdl := dif_le (x := lev l K) (y := lev m K) L q
      have hcl := chl_len w (dif (lev l K) (lev m K) (L.take q))
      obtain ⟨i, hiq⟩ : ∃ i, L[q]! = i := ⟨_, rfl⟩
      rw [hiq] at hx hd hi
      have hit : ((i : Int)).toNat = i := by omega
      have hiw : 2 * i < w := by omega
      by_cases c : (lev l K)[i]! = (lev m K)[i]!
      · rw [if_pos c] at hd
        repeat (first | (simp only [hx, hit, hlK, hmK]; try simp only [go_sem]) | refine And.intro (by omega) ?_ | refine And.intro rfl ?_ | refine ev_ctl rfl rfl ?_ | refine evr_nil ?_ | refine evw_nil (by kernel_rfl) ?_ | (simp (disch := omega) only [takeAll, Nat.min_eq_left, Nat.min_eq_right, if_pos, if_neg, getD_map, wrapI64, modIn, fdivE, tmodE, tdivE, decT, decF, beqT, beqF, bneT, bneF, Int.toNat_natCast]; try simp only [go_sem]) | (refine ev_condTb rfl ?_ ?_; · (simp <;> omega)) | (refine ev_condFb rfl ?_ ?_; · (simp <;> omega)) | ((first | refine ev_region ?_ | refine evr_go rfl ?_ | refine evw_go rfl ?_ | refine ev_dr0 mixed rfl (by kernel_rfl) ?_ | refine ev_dr1 mixed rfl (by kernel_rfl) ?_ | refine ev_dr2 mixed rfl (by kernel_rfl) ?_); simp only [go_sem]))
        refine ev_next 3 (hJ _ (⟨q + 1, hlt⟩) (by first | omega | (dsimp only; omega) | (simp; omega))) rfl (by simp) ?_ (by first | rfl | (simp only [go_sem]; done)) (by first | rfl | (simp only [go_sem]; done) | (simp only [hd, Int.natCast_add]; (try simp only [go_sem]); first | done | rfl)) ?_
        · (first | rfl | (simp only [go_sem]; done) | (simp only [go_sem]; simp only [hd, Int.natCast_add]; done) | (simp only [hd, Int.natCast_add]; done) | (simp only [go_sem]; simp [hd, Int.natCast_add]; done) | (simp [hd, Int.natCast_add]; done))
        · (simp only [go_sem]; (repeat' (refine And.intro ?_ ?_)) <;> first | exact trivial | with_reducible rfl | (simp only [hd, Int.natCast_add]; done) | (simp only [hd, Int.natCast_add]; with_reducible rfl) | (simp [hd, Int.natCast_add]; done) | (simp [hd, Int.natCast_add]; omega) | (simp only [hd, Int.natCast_add]; rfl) | skip)
      · rw [if_neg c, ch1_two hiw] at hd
        have hnl := nI_len (chl w (dif (lev l K) (lev m K) (L.take q)))
        by_cases cw : 2 * i + 1 < w
        · rw [if_pos cw] at hd
          have hnl2 : (nI (chl w (dif (lev l K) (lev m K) (L.take q)))).length ≤ 1000 := by omega
          have hg : (chl w (dif (lev l K) (lev m K) (L.take (q + 1)))).length = (chl w (dif (lev l K) (lev m K) (L.take q))).length + 1 + 1 := by rw [hd, List.length_append]; rfl
          have hs : nI (chl w (dif (lev l K) (lev m K) (L.take q))) ++ [2 * (i : Int)] ++ [2 * (i : Int) + 1] = nI (chl w (dif (lev l K) (lev m K) (L.take (q + 1)))) := by rw [hd, nI_app, List.append_assoc, nI_two']; rfl
          repeat (first | (simp only [hx, hit, hlK, hmK, hwK, hcK, hw]; try simp only [go_sem]) | refine And.intro (by omega) ?_ | refine And.intro rfl ?_ | refine ev_ctl rfl rfl ?_ | refine evr_nil ?_ | refine evw_nil (by kernel_rfl) ?_ | (simp (disch := omega) only [takeAll, Nat.min_eq_left, Nat.min_eq_right, if_pos, if_neg, getD_map, wrapI64, modIn, fdivE, tmodE, tdivE, decT, decF, beqT, beqF, bneT, bneF, Int.toNat_natCast]; try simp only [go_sem]) | (refine ev_condTb rfl ?_ ?_; · (simp <;> omega)) | (refine ev_condFb rfl ?_ ?_; · (simp <;> omega)) | ((first | refine ev_region ?_ | refine evr_go rfl ?_ | refine evw_go rfl ?_ | refine ev_dr0 mixed rfl (by kernel_rfl) ?_ | refine ev_dr1 mixed rfl (by kernel_rfl) ?_ | refine ev_dr2 mixed rfl (by kernel_rfl) ?_); simp only [go_sem]))
          refine ev_next 3 (hJ _ (⟨q + 1, hlt⟩) (by first | omega | (dsimp only; omega) | (simp; omega))) rfl (by simp) ?_ (by first | rfl | (simp only [go_sem]; done)) (by first | rfl | (simp only [go_sem]; done) | (simp only [hg, hs, Int.natCast_add]; (try simp only [go_sem]); first | done | rfl)) ?_
          · (first | rfl | (simp only [go_sem]; done) | (simp only [go_sem]; simp only [hg, hs, Int.natCast_add]; done) | (simp only [hg, hs, Int.natCast_add]; done) | (simp only [go_sem]; simp [hg, hs, Int.natCast_add]; done) | (simp [hg, hs, Int.natCast_add]; done))
          · (simp only [go_sem]; (repeat' (refine And.intro ?_ ?_)) <;> first | exact trivial | with_reducible rfl | (simp only [hg, hs, Int.natCast_add]; done) | (simp only [hg, hs, Int.natCast_add]; with_reducible rfl) | (simp [hg, hs, Int.natCast_add]; done) | (simp [hg, hs, Int.natCast_add]; omega) | (simp only [hg, hs, Int.natCast_add]; rfl) | skip)
        · rw [if_neg cw] at hd
          have hs := nI_snoc (chl w (dif (lev l K) (lev m K) (L.take q))) (2 * i)
          have z1 : ((2 * i : Nat) : Int) = 2 * (i : Int) := by omega
          rw [z1, ← hd] at hs
          have hg : (chl w (dif (lev l K) (lev m K) (L.take (q + 1)))).length = (chl w (dif (lev l K) (lev m K) (L.take q))).length + 1 := by rw [hd, List.length_append]; rfl
          repeat (first | (simp only [hx, hit, hlK, hmK, hwK, hcK, hw, hs]; try simp only [go_sem]) | refine And.intro (by omega) ?_ | refine And.intro rfl ?_ | refine ev_ctl rfl rfl ?_ | refine evr_nil ?_ | refine evw_nil (by kernel_rfl) ?_ | (simp (disch := omega) only [takeAll, Nat.min_eq_left, Nat.min_eq_right, if_pos, if_neg, getD_map, wrapI64, modIn, fdivE, tmodE, tdivE, decT, decF, beqT, beqF, bneT, bneF, Int.toNat_natCast]; try simp only [go_sem]) | (refine ev_condTb rfl ?_ ?_; · (simp <;> omega)) | (refine ev_condFb rfl ?_ ?_; · (simp <;> omega)) | ((first | refine ev_region ?_ | refine evr_go rfl ?_ | refine evw_go rfl ?_ | refine ev_dr0 mixed rfl (by kernel_rfl) ?_ | refine ev_dr1 mixed rfl (by kernel_rfl) ?_ | refine ev_dr2 mixed rfl (by kernel_rfl) ?_); simp only [go_sem]))
          refine ev_next 3 (hJ _ (⟨q + 1, hlt⟩) (by first | omega | (dsimp only; omega) | (simp; omega))) rfl (by simp) ?_ (by first | rfl | (simp only [go_sem]; done)) (by first | rfl | (simp only [go_sem]; done) | (simp only [hg, hs, Int.natCast_add]; (try simp only [go_sem]); first | done | rfl)) ?_
          · (first | rfl | (simp only [go_sem]; done) | (simp only [go_sem]; simp only [hg, hs, Int.natCast_add]; done) | (simp only [hg, hs, Int.natCast_add]; done) | (simp only [go_sem]; simp [hg, hs, Int.natCast_add]; done) | (simp [hg, hs, Int.natCast_add]; done))
          · (simp only [go_sem]; (repeat' (refine And.intro ?_ ?_)) <;> first | exact trivial | with_reducible rfl | (simp only [hg, hs, Int.natCast_add]; done) | (simp only [hg, hs, Int.natCast_add]; with_reducible rfl) | (simp [hg, hs, Int.natCast_add]; done) | (simp [hg, hs, Int.natCast_add]; omega) | (simp only [hg, hs, Int.natCast_add]; rfl) | skip)
    · obtain rfl : q = L.length := by omega
      rw [List.take_length]
      have hJ := hJ0
      refine zst ?_
      refine ev_freeze 8 rfl rfl ?_
      refine zst ?_
      refine ev_next 2 (hJ _ (⟨p + 1, by omega⟩) (by first | omega | (dsimp only; omega) | (simp; omega))) rfl (by simp) ?_ (by first | rfl | (simp only [go_sem]; done)) (by first | rfl | (simp only [go_sem]; done) | (simp only [e3, e4, e5]; (try simp only [go_sem]); first | done | rfl)) ?_
      · (first | rfl | (simp only [go_sem]; done) | (simp only [go_sem]; simp only [e3, e4, e5]; done) | (simp only [e3, e4, e5]; done) | (simp only [go_sem]; simp [e3, e4, e5]; done) | (simp [e3, e4, e5]; done))
      · (simp only [go_sem]; (repeat' (refine And.intro ?_ ?_)) <;> first | exact trivial | with_reducible rfl | (simp only [e3, e4, e5]; done) | (simp only [e3, e4, e5]; with_reducible rfl) | (simp [e3, e4, e5]; done) | (simp [e3, e4, e5]; omega) | (simp only [e3, e4, e5]; rfl) | skip)
end Go.Proofs.Ytcphobeommkgeaa
/- Trees: both do the same, for any trees. -/
namespace Go.Proofs.Ytcphobeommkgeaa
open Go Go.RowKit Rdn Rdn.Dp
set_option linter.unusedVariables false
set_option linter.unusedSimpArgs false
def m_agree26 : MC := .seq (.reg [⟨(some 4), none, (.m (.box 57 (.t 0)))⟩, ⟨(some 5), none, (.m (.box 57 (.t 1)))⟩, ⟨(some 8), none, (.p (.mov (.c (.bool false))))⟩])
 (.seq (.reg [⟨(some 20), none, (.p (.load true 1 (.t 4)))⟩, ⟨(some 21), none, (.p (.mov (.t 2)))⟩, ⟨(some 22), none, (.p (.mov (.t 3)))⟩, ⟨(some 23), none, (.call 29 [(.t 20), (.t 21), (.t 22)])⟩, ⟨(some 19), none, (.p (.mov (.t 23)))⟩, ⟨(some 24), none, (.p (.ext (.t 19) 0))⟩, ⟨(some 25), none, (.p (.ext (.t 19) 1))⟩, ⟨(some 9), none, (.m (.alloc 57 (.agg [.nilS])))⟩, ⟨none, none, (.m (.store 1 (.t 9) (.t 24)))⟩, ⟨(some 10), none, (.p (.mov (.t 25)))⟩])
 (.seq (.reg [⟨(some 27), none, (.p (.load true 1 (.t 4)))⟩, ⟨(some 28), none, (.p (.mov (.t 2)))⟩, ⟨(some 29), none, (.p (.mov (.t 3)))⟩, ⟨(some 30), none, (.call 62 [(.t 27), (.t 28), (.t 29)])⟩, ⟨(some 26), none, (.p (.mov (.t 30)))⟩, ⟨(some 31), none, (.p (.ext (.t 26) 0))⟩, ⟨(some 32), none, (.p (.ext (.t 26) 1))⟩, ⟨(some 11), none, (.m (.alloc 57 (.agg [.nilS])))⟩, ⟨none, none, (.m (.store 1 (.t 11) (.t 31)))⟩, ⟨(some 12), none, (.p (.mov (.t 32)))⟩])
 (.seq (.reg [⟨(some 34), none, (.p (.load true 1 (.t 4)))⟩, ⟨(some 35), none, (.p (.load true 1 (.t 5)))⟩, ⟨(some 36), none, (.call 30 [(.t 34), (.t 35)])⟩, ⟨(some 33), none, (.p (.mov (.t 36)))⟩, ⟨(some 37), none, (.p (.ext (.t 33) 0))⟩, ⟨(some 38), none, (.p (.ext (.t 33) 1))⟩, ⟨(some 39), none, (.p (.ext (.t 33) 2))⟩, ⟨(some 13), none, (.p (.mov (.t 37)))⟩, ⟨(some 14), none, (.p (.mov (.t 38)))⟩, ⟨(some 15), none, (.p (.mov (.t 39)))⟩])
 (.seq (.reg [⟨(some 41), none, (.p (.load true 1 (.t 4)))⟩, ⟨(some 42), none, (.p (.load true 1 (.t 5)))⟩, ⟨(some 43), none, (.call 63 [(.t 41), (.t 42)])⟩, ⟨(some 40), none, (.p (.mov (.t 43)))⟩, ⟨(some 44), none, (.p (.ext (.t 40) 0))⟩, ⟨(some 45), none, (.p (.ext (.t 40) 1))⟩, ⟨(some 46), none, (.p (.ext (.t 40) 2))⟩, ⟨(some 16), none, (.p (.mov (.t 44)))⟩, ⟨(some 17), none, (.p (.mov (.t 45)))⟩, ⟨(some 18), none, (.p (.mov (.t 46)))⟩])
 (.seq (.dreg [⟨(some 47), none, (.p (.mov (.t 10)))⟩, ⟨(some 48), none, (.p (.mov (.t 12)))⟩, ⟨(some 49), none, (.p (.bin 0 .eql (.t 47) (.t 48)))⟩, ⟨(some 50), none, (.p (.mov (.t 49)))⟩, ⟨(some 51), (some (50, true)), (.p (.mov (.t 15)))⟩, ⟨(some 52), (some (50, true)), (.p (.mov (.t 18)))⟩, ⟨(some 53), (some (50, true)), (.p (.bin 0 .eql (.t 51) (.t 52)))⟩, ⟨(some 54), none, (.p (.pick (.t 50) (.t 53) (.c (.bool false))))⟩, ⟨(some 55), none, (.p (.mov (.t 54)))⟩, ⟨(some 56), (some (55, true)), (.p (.mov (.t 14)))⟩, ⟨(some 57), (some (55, true)), (.p (.mov (.t 17)))⟩, ⟨(some 58), (some (55, true)), (.p (.bin 0 .eql (.t 56) (.t 57)))⟩, ⟨(some 59), none, (.p (.pick (.t 55) (.t 58) (.c (.bool false))))⟩, ⟨(some 60), none, (.p (.mov (.t 59)))⟩, ⟨(some 61), (some (60, true)), (.p (.mov (.t 13)))⟩, ⟨(some 62), (some (60, true)), (.p (.mov (.t 16)))⟩, ⟨(some 63), (some (60, true)), (.call 64 [(.t 61), (.t 62)])⟩, ⟨(some 64), none, (.p (.pick (.t 60) (.t 63) (.c (.bool false))))⟩, ⟨(some 65), none, (.p (.mov (.t 64)))⟩, ⟨(some 66), (some (65, true)), (.p (.load true 1 (.t 9)))⟩, ⟨(some 67), (some (65, true)), (.p (.load true 1 (.t 11)))⟩, ⟨(some 68), (some (65, true)), (.call 31 [(.t 66), (.t 67)])⟩, ⟨(some 69), none, (.p (.pick (.t 65) (.t 68) (.c (.bool false))))⟩, ⟨(some 70), none, (.p (.mov (.t 69)))⟩, ⟨(some 71), (some (70, true)), (.p (.load true 1 (.t 4)))⟩, ⟨(some 72), (some (70, true)), (.call 32 [(.t 71)])⟩, ⟨(some 73), (some (70, true)), (.p (.load true 1 (.t 4)))⟩, ⟨(some 74), (some (70, true)), (.call 65 [(.t 73)])⟩, ⟨(some 75), (some (70, true)), (.p (.bin 1 .eql (.t 72) (.t 74)))⟩, ⟨(some 76), none, (.p (.pick (.t 70) (.t 75) (.c (.bool false))))⟩, ⟨(some 77), none, (.p (.mov (.t 76)))⟩, ⟨(some 78), (some (77, true)), (.p (.load true 1 (.t 4)))⟩, ⟨(some 79), (some (77, true)), (.call 60 [(.t 78)])⟩, ⟨(some 80), (some (77, true)), (.p (.load true 1 (.t 4)))⟩, ⟨(some 81), (some (77, true)), (.call 66 [(.t 80)])⟩, ⟨(some 82), (some (77, true)), (.p (.bin 0 .eql (.t 79) (.t 81)))⟩, ⟨(some 83), none, (.p (.pick (.t 77) (.t 82) (.c (.bool false))))⟩, ⟨(some 8), none, (.p (.mov (.t 83)))⟩] [[], [], [0, 1], [0, 1, 2], [0, 1, 2, 3], [0, 1, 2, 3], [0, 1, 2, 3, 4, 5], [0, 1, 2, 3, 4, 5, 6], [0, 1, 2, 3, 4, 5, 6, 7], [0, 1, 2, 3, 4, 5, 6, 7, 8], [0, 1, 2, 3, 4, 5, 6, 7, 8], [0, 1, 2, 3, 4, 5, 6, 7, 8, 9, 10], [0, 1, 2, 3, 4, 5, 6, 7, 8, 9, 10, 11], [0, 1, 2, 3, 4, 5, 6, 7, 8, 9, 10, 11, 12], [0, 1, 2, 3, 4, 5, 6, 7, 8, 9, 10, 11, 12, 13], [0, 1, 2, 3, 4, 5, 6, 7, 8, 9, 10, 11, 12, 13], [0, 1, 2, 3, 4, 5, 6, 7, 8, 9, 10, 11, 12, 13, 14, 15], [0, 1, 2, 3, 4, 5, 6, 7, 8, 9, 10, 11, 12, 13, 14, 15, 16], [0, 1, 2, 3, 4, 5, 6, 7, 8, 9, 10, 11, 12, 13, 14, 15, 16, 17], [0, 1, 2, 3, 4, 5, 6, 7, 8, 9, 10, 11, 12, 13, 14, 15, 16, 17, 18], [0, 1, 2, 3, 4, 5, 6, 7, 8, 9, 10, 11, 12, 13, 14, 15, 16, 17, 18], [0, 1, 2, 3, 4, 5, 6, 7, 8, 9, 10, 11, 12, 13, 14, 15, 16, 17, 18, 19, 20], [0, 1, 2, 3, 4, 5, 6, 7, 8, 9, 10, 11, 12, 13, 14, 15, 16, 17, 18, 19, 20, 21], [0, 1, 2, 3, 4, 5, 6, 7, 8, 9, 10, 11, 12, 13, 14, 15, 16, 17, 18, 19, 20, 21, 22], [0, 1, 2, 3, 4, 5, 6, 7, 8, 9, 10, 11, 12, 13, 14, 15, 16, 17, 18, 19, 20, 21, 22, 23], [0, 1, 2, 3, 4, 5, 6, 7, 8, 9, 10, 11, 12, 13, 14, 15, 16, 17, 18, 19, 20, 21, 22, 23, 24], [0, 1, 2, 3, 4, 5, 6, 7, 8, 9, 10, 11, 12, 13, 14, 15, 16, 17, 18, 19, 20, 21, 22, 23], [0, 1, 2, 3, 4, 5, 6, 7, 8, 9, 10, 11, 12, 13, 14, 15, 16, 17, 18, 19, 20, 21, 22, 23, 24, 25, 26], [0, 1, 2, 3, 4, 5, 6, 7, 8, 9, 10, 11, 12, 13, 14, 15, 16, 17, 18, 19, 20, 21, 22, 23, 24, 25, 26, 27], [0, 1, 2, 3, 4, 5, 6, 7, 8, 9, 10, 11, 12, 13, 14, 15, 16, 17, 18, 19, 20, 21, 22, 23, 24, 25, 26, 27, 28], [0, 1, 2, 3, 4, 5, 6, 7, 8, 9, 10, 11, 12, 13, 14, 15, 16, 17, 18, 19, 20, 21, 22, 23, 24, 25, 26, 27, 28, 29], [0, 1, 2, 3, 4, 5, 6, 7, 8, 9, 10, 11, 12, 13, 14, 15, 16, 17, 18, 19, 20, 21, 22, 23, 24, 25, 26, 27, 28, 29, 30], [0, 1, 2, 3, 4, 5, 6, 7, 8, 9, 10, 11, 12, 13, 14, 15, 16, 17, 18, 19, 20, 21, 22, 23, 24, 25, 26, 27, 28, 29, 30, 31], [0, 1, 2, 3, 4, 5, 6, 7, 8, 9, 10, 11, 12, 13, 14, 15, 16, 17, 18, 19, 20, 21, 22, 23, 24, 25, 26, 27, 28, 29, 30], [0, 1, 2, 3, 4, 5, 6, 7, 8, 9, 10, 11, 12, 13, 14, 15, 16, 17, 18, 19, 20, 21, 22, 23, 24, 25, 26, 27, 28, 29, 30, 31, 32, 33], [0, 1, 2, 3, 4, 5, 6, 7, 8, 9, 10, 11, 12, 13, 14, 15, 16, 17, 18, 19, 20, 21, 22, 23, 24, 25, 26, 27, 28, 29, 30, 31, 32, 33, 34], [0, 1, 2, 3, 4, 5, 6, 7, 8, 9, 10, 11, 12, 13, 14, 15, 16, 17, 18, 19, 20, 21, 22, 23, 24, 25, 26, 27, 28, 29, 30, 31, 32, 33, 34, 35], [0, 1, 2, 3, 4, 5, 6, 7, 8, 9, 10, 11, 12, 13, 14, 15, 16, 17, 18, 19, 20, 21, 22, 23, 24, 25, 26, 27, 28, 29, 30, 31, 32, 33, 34, 35, 36]])
 (.ret))))))
theorem m_agree26_ok : compF Try.prog 27 = some (84, m_agree26, [.mov (.t 8)]) := by kernel_rfl
attribute [local irreducible] bld lev vld rootOf nI dif chl dst ch1 dres dnum
theorem upd_both (L : List (List Int)) (i d : Int) : ∃ (T : V) (e : Int) (U : List (List Int)), (T = .nilS ∧ U = [] ∨ T = .sl false 1 (U.map dsV)) ∧ Fnc Try.prog 29 [trV L, .int .i64 i, .int .u32 d] (fun x obs => x = .tup [.agg [T], .int .i64 e] ∧ obs = []) ∧ Fnc Try.prog 62 [trV L, .int .i64 i, .int .u32 d] (fun x obs => x = .tup [.agg [T], .int .i64 e] ∧ obs = []) := by
  cases h : vld L with
  | false => exact ⟨_, _, [], .inl ⟨rfl, rfl⟩, tup_bad L i d h, zup_bad L i d h⟩
  | true =>
    by_cases c : i < 0 ∨ (L[0]!.length : Int) ≤ i
    · exact ⟨_, _, [], .inl ⟨rfl, rfl⟩, tup_out L i d h c, zup_out L i d h c⟩
    · obtain ⟨h0, h1, h2, h3⟩ := vld_to h
      obtain ⟨j, rfl⟩ : ∃ j : Nat, i = j := ⟨i.toNat, by omega⟩
      have f1 := tup_ok L[0]! h1 h2 j (by omega) d
      have f2 := zup_ok L[0]! h1 h2 j (by omega) d
      rw [h3] at f1 f2
      exact ⟨_, _, _, .inr rfl, f1, f2⟩
theorem dif_both (L M : List (List Int)) : ∃ (D : V) (n e : Int) (G : List Int), (D = .nilS ∧ G = [] ∨ D = .sl false 1 (i64s G)) ∧ Fnc Try.prog 30 [trV L, trV M] (fun x obs => x = .tup [D, .int .i64 n, .int .i64 e] ∧ obs = []) ∧ Fnc Try.prog 63 [trV L, trV M] (fun x obs => x = .tup [D, .int .i64 n, .int .i64 e] ∧ obs = []) := by
  by_cases h : vld L = false ∨ vld M = false ∨ L[0]!.length ≠ M[0]!.length
  · exact ⟨_, _, _, [], .inl ⟨rfl, rfl⟩, differ_bad L M h, zdiffer_bad L M h⟩
  · have a1 : vld L = true := by cases hh : vld L with
      | true => rfl
      | false => exact absurd (.inl hh) h
    have a2 : vld M = true := by cases hh : vld M with
      | true => rfl
      | false => exact absurd (.inr (.inl hh)) h
    have a3 : M[0]!.length = L[0]!.length := by
      by_cases c : M[0]!.length = L[0]!.length
      · exact c
      · exact absurd (.inr (.inr fun e => c e.symm)) h
    obtain ⟨h0, h1, h2, h3⟩ := vld_to a1
    obtain ⟨k0, k1, k2, k3⟩ := vld_to a2
    have f1 := differ_fn L[0]! M[0]! h1 h2 a3
    have f2 := zdiffer_fn L[0]! M[0]! h1 h2 a3
    rw [h3, k3] at f1 f2
    exact ⟨_, _, _, _, .inr rfl, f1, f2⟩
set_option maxHeartbeats 8000000 in
theorem agree26_fn (A B : List (List Int)) (i d : Int) : Fnc Try.prog 27 [trV A, trV B, .int .i64 i, .int .u32 d] (fun x obs => x = .bool true ∧ obs = []) := by
  obtain ⟨T, e, U, hT, f1, f2⟩ := upd_both A i d
  obtain ⟨D, n, g, G, hD, f3, f4⟩ := dif_both A B
  have f5 := sints26_fn G G
  rw [decT rfl] at f5
  have f6 := rsameT_fn U U
  rw [decT rfl] at f6
  have f7 := tval_fn A
  have f8 := rval_fn A
  have f9 := root_fn A
  have fa := rrt_fn A
  generalize rootOf A = r at f9 fa
  generalize vld A = v at f7 f8
  rcases hT with ⟨rfl, rfl⟩ | rfl <;> rcases hD with ⟨rfl, rfl⟩ | rfl
  all_goals
    cases v
    all_goals
      refine Fnc.intro m_agree26_ok (by simp) fun W S => ?_
      unfold m_agree26
      simp only [ents, Nat.zero_add, Nat.reduceAdd]
      refine zst ?_
      (first | refine callD (f1) ?_ | refine callDw (f1) ?_); simp only [go_sem]
      refine zst ?_
      (first | refine callD (f2) ?_ | refine callDw (f2) ?_); simp only [go_sem]
      refine zst ?_
      (first | refine callD (f3) ?_ | refine callDw (f3) ?_); simp only [go_sem]
      refine zst ?_
      (first | refine callD (f4) ?_ | refine callDw (f4) ?_); simp only [go_sem]
      refine zst ?_
      (first | refine callD (f5) ?_ | refine callDw (f5) ?_); simp only [go_sem]
      refine zst ?_
      (first | refine callD (f6) ?_ | refine callDw (f6) ?_); simp only [go_sem]
      refine zst ?_
      (first | refine callD (f7) ?_ | refine callDw (f7) ?_); simp only [go_sem]
      refine zst ?_
      (first | refine callD (f8) ?_ | refine callDw (f8) ?_); simp only [go_sem]
      refine zst ?_
      (first | refine callD (f9) ?_ | refine callDw (f9) ?_); simp only [go_sem]
      refine zst ?_
      (first | refine callD (fa) ?_ | refine callDw (fa) ?_); simp only [go_sem]
      refine zst ?_
      refine ret m_agree26_ok [] ?_; (first | (simp only [go_sem]; done) | (simp only [go_sem]; ((try dsimp only); (repeat' (refine And.intro ?_ ?_)) <;> first | with_reducible rfl | (simp only [go_sem]; done) | (simp only [go_sem]; rfl) | (simp only []; (try simp only [go_sem]); first | done | rfl) | (simp only [go_sem]; simp []; done) | (simp []; done) | rfl)))
end Go.Proofs.Ytcphobeommkgeaa
/- Trees by the reference one level of which may be written. -/
namespace Go.Proofs.Ytcphobeommkgeaa
open Go Go.RowKit Rdn Rdn.Dp
set_option linter.unusedVariables false
set_option linter.unusedSimpArgs false
attribute [local irreducible] bld lev vld up
attribute [local go_sem] List.length_set
set_option maxHeartbeats 8000000 in
theorem rup_own (l : List Int) (hL : l.length ≤ 20) : Fnc Try.prog 61 [dsV l] (fun x obs => x = .own 0 0 ∧ obs = [⟨.row 54, true, 0, .arr 1 (u32s (up l))⟩]) := by
  have hul := up_len l
  refine Fnc.intro m_rup_ok (by simp) fun W S => ?_
  unfold m_rup
  simp only [ents, Nat.zero_add, Nat.reduceAdd]
  refine zst ?_
  refine ev_adopt (i := 3) (e := 54) (s := 1) rfl (by decide) ?_
  refine ev_loopK [0] (fun p : {p : Nat // p ≤ (l.length + 1) / 2} => [(3, .own 0 p.1), (4, .int .i64 (2 * (p.1 : Int)))]) (fun p => [⟨.row 54, true, p.1, .arr 1 (u32s ((up l).take p.1))⟩]) (fun p => (l.length + 1) / 2 - p.1) (⟨0, by simp⟩) 1 (by simp only [go_sem]; rfl) ?_ (by first | rfl | (simp only [go_sem]; done)) (by simp) (by first | rfl | (simp only [go_sem]; done)) (by first | rfl | (simp only [go_sem]; done)) (by first | rfl | (simp only [go_sem]; done)) ?_
  · (simp only [go_sem]; (try simp []); done)
  intro J hJ
  rintro ⟨k, hk0⟩
  by_cases hlt : 2 * k < l.length
  · have hs := up_snoc hlt
    have h2 : (2 * (k : Int)).toNat = 2 * k := by omega
    have h3 : (2 * (k : Int) + 1).toNat = 2 * k + 1 := by omega
    have h4 : 2 * (k : Int) + 2 = 2 * ((k + 1 : Nat) : Int) := by omega
    by_cases c : 2 * k + 1 = l.length
    · rw [if_pos c] at hs
      repeat (first | (simp only [h2]; try simp only [go_sem]) | refine And.intro (by omega) ?_ | refine And.intro rfl ?_ | refine ev_ctl rfl rfl ?_ | refine evr_nil ?_ | refine evw_nil (by kernel_rfl) ?_ | (simp (disch := omega) only [takeAll, Nat.min_eq_left, Nat.min_eq_right, if_pos, if_neg, getD_map, wrapI64, modIn, fdivE, tmodE, tdivE, decT, decF, beqT, beqF, bneT, bneF, Int.toNat_natCast]; try simp only [go_sem]) | (refine ev_condTb rfl ?_ ?_; · (simp <;> omega)) | (refine ev_condFb rfl ?_ ?_; · (simp <;> omega)) | ((first | refine ev_region ?_ | refine evr_go rfl ?_ | refine evw_go rfl ?_ | refine ev_dr0 mixed rfl (by kernel_rfl) ?_ | refine ev_dr1 mixed rfl (by kernel_rfl) ?_ | refine ev_dr2 mixed rfl (by kernel_rfl) ?_); simp only [go_sem]))
      refine ev_next 1 (hJ _ (⟨k + 1, by omega⟩) (by first | omega | (dsimp only; omega) | (simp; omega))) rfl (by simp) ?_ (by first | rfl | (simp only [go_sem]; done)) (by first | rfl | (simp only [go_sem]; done) | (simp only [hs, h4, List.map_append]; (try simp only [go_sem]); first | done | rfl)) ?_
      · (first | rfl | (simp only [go_sem]; done) | (simp only [go_sem]; simp only [hs, h4, List.map_append]; done) | (simp only [hs, h4, List.map_append]; done) | (simp only [go_sem]; simp [hs, h4, List.map_append]; done) | (simp [hs, h4, List.map_append]; done))
      · (simp only [go_sem]; (repeat' (refine And.intro ?_ ?_)) <;> first | exact trivial | with_reducible rfl | (simp only [hs, h4, List.map_append]; done) | (simp only [hs, h4, List.map_append]; with_reducible rfl) | (simp [hs, h4, List.map_append]; done) | (simp [hs, h4, List.map_append]; omega) | (simp only [hs, h4, List.map_append]; rfl) | skip)
    · rw [if_neg c] at hs
      repeat (first | (simp only [h2, h3]; try simp only [go_sem]) | refine And.intro (by omega) ?_ | refine And.intro rfl ?_ | refine ev_ctl rfl rfl ?_ | refine evr_nil ?_ | refine evw_nil (by kernel_rfl) ?_ | (simp (disch := omega) only [takeAll, Nat.min_eq_left, Nat.min_eq_right, if_pos, if_neg, getD_map, wrapI64, modIn, fdivE, tmodE, tdivE, decT, decF, beqT, beqF, bneT, bneF, Int.toNat_natCast]; try simp only [go_sem]) | (refine ev_condTb rfl ?_ ?_; · (simp <;> omega)) | (refine ev_condFb rfl ?_ ?_; · (simp <;> omega)) | ((first | refine ev_region ?_ | refine evr_go rfl ?_ | refine evw_go rfl ?_ | refine ev_dr0 mixed rfl (by kernel_rfl) ?_ | refine ev_dr1 mixed rfl (by kernel_rfl) ?_ | refine ev_dr2 mixed rfl (by kernel_rfl) ?_); simp only [go_sem]))
      (first | refine callD (rJoin_fn l[2 * k]! l[2 * k + 1]!) ?_ | refine callDw (rJoin_fn l[2 * k]! l[2 * k + 1]!) ?_); simp only [go_sem]
      refine zst ?_
      refine ev_next 1 (hJ _ (⟨k + 1, by omega⟩) (by first | omega | (dsimp only; omega) | (simp; omega))) rfl (by simp) ?_ (by first | rfl | (simp only [go_sem]; done)) (by first | rfl | (simp only [go_sem]; done) | (simp only [hs, h4, List.map_append]; (try simp only [go_sem]); first | done | rfl)) ?_
      · (first | rfl | (simp only [go_sem]; done) | (simp only [go_sem]; simp only [hs, h4, List.map_append]; done) | (simp only [hs, h4, List.map_append]; done) | (simp only [go_sem]; simp [hs, h4, List.map_append]; done) | (simp [hs, h4, List.map_append]; done))
      · (simp only [go_sem]; (repeat' (refine And.intro ?_ ?_)) <;> first | exact trivial | with_reducible rfl | (simp only [hs, h4, List.map_append]; done) | (simp only [hs, h4, List.map_append]; with_reducible rfl) | (simp [hs, h4, List.map_append]; done) | (simp [hs, h4, List.map_append]; omega) | (simp only [hs, h4, List.map_append]; rfl) | skip)
  · obtain rfl : k = (l.length + 1) / 2 := by omega
    have htl : (up l).take ((l.length + 1) / 2) = up l := List.take_of_length_le (by omega)
    dsimp only
    rw [htl]
    refine zst ?_
    refine ret m_rup_ok [0] ?_; (first | (simp only [go_sem]; done) | (simp only [go_sem]; ((try dsimp only); (repeat' (refine And.intro ?_ ?_)) <;> first | with_reducible rfl | (simp only [go_sem]; done) | (simp only [go_sem]; rfl) | (simp only []; (try simp only [go_sem]); first | done | rfl) | (simp only [go_sem]; simp []; done) | (simp []; done) | rfl)))
theorem blkK_eq (l : List Int) (k : Nat) (x : V) : (blk' l k).map dtV ++ [x] = ((blk' l (k + 1)).map dtV).set (k + 1) x := by
  rw [← blk_snoc, List.map_append, List.set_append_right _ _ (by rw [List.length_map, blk_len]; omega), List.length_map, blk_len, Nat.sub_self]
  rfl
theorem blkK_lt (l : List Int) {K k : Nat} (h : K ≤ k) (x : V) : ((blk' l k).map dtV).set K x ++ [dtV (lev l (k + 1))] = ((blk' l (k + 1)).map dtV).set K x := by
  rw [← blk_snoc l k, List.map_append, List.set_append_left _ _ (by rw [List.length_map, blk_len]; omega)]
  rfl
/-- The objects of a tree that is built. -/
def bO (l : List Int) (K p : Nat) : List Ob := if K ≤ p then [⟨.box false 57, true, 0, .agg [.nilS]⟩, ⟨.row 54, false, 1, .arr 1 (u32s l)⟩, ⟨.rows 53, true, p, .arr 1 (((blk' l p).map dtV).set K (.own 4 0))⟩, ⟨.box false 57, true, 0, .agg [.own 2 p]⟩, ⟨.row 54, true, 0, .arr 1 (u32s (lev l K))⟩] else [⟨.box false 57, true, 0, .agg [.nilS]⟩, ⟨.row 54, false, 1, .arr 1 (u32s l)⟩, ⟨.rows 53, true, p, .arr 1 ((blk' l p).map dtV)⟩, ⟨.box false 57, true, 0, .agg [.own 2 p]⟩]
theorem bO_ge {l : List Int} {K p : Nat} (h : K ≤ p) : bO l K p = [⟨.box false 57, true, 0, .agg [.nilS]⟩, ⟨.row 54, false, 1, .arr 1 (u32s l)⟩, ⟨.rows 53, true, p, .arr 1 (((blk' l p).map dtV).set K (.own 4 0))⟩, ⟨.box false 57, true, 0, .agg [.own 2 p]⟩, ⟨.row 54, true, 0, .arr 1 (u32s (lev l K))⟩] := if_pos h
theorem bO_lt {l : List Int} {K p : Nat} (h : ¬ K ≤ p) : bO l K p = [⟨.box false 57, true, 0, .agg [.nilS]⟩, ⟨.row 54, false, 1, .arr 1 (u32s l)⟩, ⟨.rows 53, true, p, .arr 1 ((blk' l p).map dtV)⟩, ⟨.box false 57, true, 0, .agg [.own 2 p]⟩] := if_neg h
def b0 (l : List Int) (K p : Nat) : V := if p = K then .own 4 0 else dsV (lev l p)
theorem b0_eq {l : List Int} {K p : Nat} (h : p = K) : b0 l K p = .own 4 0 := if_pos h
theorem b0_ne {l : List Int} {K p : Nat} (h : p ≠ K) : b0 l K p = dsV (lev l p) := if_neg h
set_option maxHeartbeats 16000000 in
theorem rbuildK_fn (l : List Int) (h1 : 1 ≤ l.length) (h2 : l.length ≤ 20) (K : Nat) (hK1 : 1 ≤ K) (hK : K ≤ dep l.length) : Fnc Try.prog 26 [dsV l] (fun x obs => x = .tup [.agg [.own 0 0], .int .i64 0] ∧ obs = [⟨.rows 53, true, 0, .arr 1 (((bld l).map dtV).set K (.own 1 0))⟩, ⟨.row 54, true, 0, .arr 1 (u32s (lev l K))⟩]) := by
  have hb0 := b0_ne (l := l) (K := K) (p := 0) (by omega)
  rw [lev_zero] at hb0
  refine Fnc.intro m_rbuild_ok (by simp) fun W S => ?_
  unfold m_rbuild
  simp only [ents, Nat.zero_add, Nat.reduceAdd]
  refine zst ?_
  refine ev_toRows 2 rfl ?_
  refine ev_loopK [2, 4] (fun p : {p : Nat // p ≤ dep l.length} => [(0, b0 l K p.1)]) (fun p => bO l K p.1) (fun p => dep l.length - p.1) (⟨0, by simp⟩) 4 (by simp only [go_sem]; rfl) ?_ (by first | rfl | (simp only [go_sem]; done) | (simp only [go_sem]; simp [lev_zero, blk_zero, hb0, bO_lt (show ¬ K ≤ 0 by omega)]; done)) (by simp) (by first | rfl | (simp only [go_sem]; done) | (simp only [lev_zero, blk_zero, hb0, bO_lt (show ¬ K ≤ 0 by omega)]; (try simp only [go_sem]); first | done | rfl)) (by first | rfl | (simp only [go_sem]; done)) (by first | rfl | (simp only [go_sem]; done) | (simp only [lev_zero, blk_zero, hb0, bO_lt (show ¬ K ≤ 0 by omega)]; (try simp only [go_sem]); first | done | rfl)) ?_
  · (simp only [go_sem]; (try simp [lev_zero, blk_zero, hb0, bO_lt (show ¬ K ≤ 0 by omega)]); done)
  intro J hJ
  rintro ⟨k, hk0⟩
  have hll := lev_len l k
  have hd := hl_dep h1 h2 hk0
  have hle := hl_le h1 k
  rw [← hll] at hd hle
  dsimp only
  by_cases hlt : k < dep l.length
  · have hs := blk_snoc l k
    have hbl := blk_len l k
    have h5 := dep_le l.length
    have hlv : up (lev l k) = lev l (k + 1) := lev_up l k
    by_cases c1 : k + 1 < K
    · rw [b0_ne (by omega), bO_lt (by omega)]
      refine zst ?_
      (first | refine callD (rup_fn (lev l k) (by omega)) ?_ | refine callDw (rup_fn (lev l k) (by omega)) ?_); simp only [go_sem]
      refine zst ?_
      refine ev_lowS 0 rfl ?_
      refine ev_next 4 (hJ _ (⟨k + 1, hlt⟩) (by first | omega | (dsimp only; omega) | (simp; omega))) rfl (by simp) ?_ (by first | rfl | (simp only [go_sem]; done) | (simp only [b0_ne (show k + 1 ≠ K by omega), bO_lt (show ¬ K ≤ k + 1 by omega), hlv, hs]; (try simp only [go_sem]); first | done | rfl)) (by first | rfl | (simp only [go_sem]; done) | (simp only [b0_ne (show k + 1 ≠ K by omega), bO_lt (show ¬ K ≤ k + 1 by omega), hlv, hs]; (try simp only [go_sem]); first | done | rfl)) ?_
      · (first | rfl | (simp only [go_sem]; done) | (simp only [go_sem]; simp only [b0_ne (show k + 1 ≠ K by omega), bO_lt (show ¬ K ≤ k + 1 by omega), hlv, hs]; done) | (simp only [b0_ne (show k + 1 ≠ K by omega), bO_lt (show ¬ K ≤ k + 1 by omega), hlv, hs]; done) | (simp only [go_sem]; simp [b0_ne (show k + 1 ≠ K by omega), bO_lt (show ¬ K ≤ k + 1 by omega), hlv, hs]; done) | (simp [b0_ne (show k + 1 ≠ K by omega), bO_lt (show ¬ K ≤ k + 1 by omega), hlv, hs]; done))
      · (simp only [go_sem]; (repeat' (refine And.intro ?_ ?_)) <;> first | exact trivial | with_reducible rfl | (simp only [b0_ne (show k + 1 ≠ K by omega), bO_lt (show ¬ K ≤ k + 1 by omega), hlv, hs]; done) | (simp only [b0_ne (show k + 1 ≠ K by omega), bO_lt (show ¬ K ≤ k + 1 by omega), hlv, hs]; with_reducible rfl) | (simp [b0_ne (show k + 1 ≠ K by omega), bO_lt (show ¬ K ≤ k + 1 by omega), hlv, hs]; done) | (simp [b0_ne (show k + 1 ≠ K by omega), bO_lt (show ¬ K ≤ k + 1 by omega), hlv, hs]; omega) | (simp only [b0_ne (show k + 1 ≠ K by omega), bO_lt (show ¬ K ≤ k + 1 by omega), hlv, hs]; rfl) | skip)
    by_cases c2 : k + 1 = K
    · subst c2
      rw [b0_ne (by omega), bO_lt (by omega)]
      have hse := blkK_eq l k (.own 4 0)
      refine zst ?_
      (first | refine callX (rup_own (lev l k) (by omega)) ?_ | refine callXw (rup_own (lev l k) (by omega)) ?_); refine zev ?_
      repeat (first | refine ev_seq ?_ | refine ev_block ?_ | refine ev_skip ?_ | refine ev_inBlock ?_ | refine evr_nil ?_ | refine evw_nil (by kernel_rfl) ?_ | refine ev_exit rfl ?_ | refine ev_round ?_ | refine ev_condT rfl ?_ | refine ev_condF rfl ?_ | refine ev_condTb rfl (by first | exact decT (by omega) | exact beqT (by omega) | exact bneT (by omega) | exact notT (decF (by omega)) | exact notT (beqF (by omega))) ?_ | refine ev_condFb rfl (by first | exact decF (by omega) | exact beqF (by omega) | exact bneF (by omega) | exact notF (decT (by omega)) | exact notF (beqT (by omega))) ?_)
      refine ev_reg ?_
      refine ev_all (fu := [(), (), ()]) ?_; simp only [go_sem]
      refine evr_buildR rfl rfl (by simp only [go_sem]) ?_
      simp only [go_sem]
      refine zst ?_
      refine ev_next 5 (hJ _ (⟨k + 1, hlt⟩) (by first | omega | (dsimp only; omega) | (simp; omega))) rfl (by simp) ?_ (by first | rfl | (simp only [go_sem]; done) | (simp only [b0_eq (show k + 1 = k + 1 from rfl), bO_ge (show k + 1 ≤ k + 1 from Nat.le_refl _), hlv, hse]; (try simp only [go_sem]); first | done | rfl)) (by first | rfl | (simp only [go_sem]; done) | (simp only [b0_eq (show k + 1 = k + 1 from rfl), bO_ge (show k + 1 ≤ k + 1 from Nat.le_refl _), hlv, hse]; (try simp only [go_sem]); first | done | rfl)) ?_
      · (first | rfl | (simp only [go_sem]; done) | (simp only [go_sem]; simp only [b0_eq (show k + 1 = k + 1 from rfl), bO_ge (show k + 1 ≤ k + 1 from Nat.le_refl _), hlv, hse]; done) | (simp only [b0_eq (show k + 1 = k + 1 from rfl), bO_ge (show k + 1 ≤ k + 1 from Nat.le_refl _), hlv, hse]; done) | (simp only [go_sem]; simp [b0_eq (show k + 1 = k + 1 from rfl), bO_ge (show k + 1 ≤ k + 1 from Nat.le_refl _), hlv, hse]; done) | (simp [b0_eq (show k + 1 = k + 1 from rfl), bO_ge (show k + 1 ≤ k + 1 from Nat.le_refl _), hlv, hse]; done))
      · (simp only [go_sem]; (repeat' (refine And.intro ?_ ?_)) <;> first | exact trivial | with_reducible rfl | (simp only [b0_eq (show k + 1 = k + 1 from rfl), bO_ge (show k + 1 ≤ k + 1 from Nat.le_refl _), hlv, hse]; done) | (simp only [b0_eq (show k + 1 = k + 1 from rfl), bO_ge (show k + 1 ≤ k + 1 from Nat.le_refl _), hlv, hse]; with_reducible rfl) | (simp [b0_eq (show k + 1 = k + 1 from rfl), bO_ge (show k + 1 ≤ k + 1 from Nat.le_refl _), hlv, hse]; done) | (simp [b0_eq (show k + 1 = k + 1 from rfl), bO_ge (show k + 1 ≤ k + 1 from Nat.le_refl _), hlv, hse]; omega) | (simp only [b0_eq (show k + 1 = k + 1 from rfl), bO_ge (show k + 1 ≤ k + 1 from Nat.le_refl _), hlv, hse]; rfl) | skip)
    rw [bO_ge (by omega)]
    have hse := blkK_lt l (show K ≤ k by omega) (.own 4 0)
    by_cases c3 : k = K
    · subst c3
      rw [b0_eq rfl]
      refine zst ?_
      (first | refine callD (rup_fn (lev l k) (by omega)) ?_ | refine callDw (rup_fn (lev l k) (by omega)) ?_); simp only [go_sem]
      refine zst ?_
      refine ev_lowS 0 rfl ?_
      refine ev_next 5 (hJ _ (⟨k + 1, hlt⟩) (by first | omega | (dsimp only; omega) | (simp; omega))) rfl (by simp) ?_ (by first | rfl | (simp only [go_sem]; done) | (simp only [b0_ne (show k + 1 ≠ k by omega), bO_ge (show k ≤ k + 1 by omega), hlv, hse]; (try simp only [go_sem]); first | done | rfl)) (by first | rfl | (simp only [go_sem]; done) | (simp only [b0_ne (show k + 1 ≠ k by omega), bO_ge (show k ≤ k + 1 by omega), hlv, hse]; (try simp only [go_sem]); first | done | rfl)) ?_
      · (first | rfl | (simp only [go_sem]; done) | (simp only [go_sem]; simp only [b0_ne (show k + 1 ≠ k by omega), bO_ge (show k ≤ k + 1 by omega), hlv, hse]; done) | (simp only [b0_ne (show k + 1 ≠ k by omega), bO_ge (show k ≤ k + 1 by omega), hlv, hse]; done) | (simp only [go_sem]; simp [b0_ne (show k + 1 ≠ k by omega), bO_ge (show k ≤ k + 1 by omega), hlv, hse]; done) | (simp [b0_ne (show k + 1 ≠ k by omega), bO_ge (show k ≤ k + 1 by omega), hlv, hse]; done))
      · (simp only [go_sem]; (repeat' (refine And.intro ?_ ?_)) <;> first | exact trivial | with_reducible rfl | (simp only [b0_ne (show k + 1 ≠ k by omega), bO_ge (show k ≤ k + 1 by omega), hlv, hse]; done) | (simp only [b0_ne (show k + 1 ≠ k by omega), bO_ge (show k ≤ k + 1 by omega), hlv, hse]; with_reducible rfl) | (simp [b0_ne (show k + 1 ≠ k by omega), bO_ge (show k ≤ k + 1 by omega), hlv, hse]; done) | (simp [b0_ne (show k + 1 ≠ k by omega), bO_ge (show k ≤ k + 1 by omega), hlv, hse]; omega) | (simp only [b0_ne (show k + 1 ≠ k by omega), bO_ge (show k ≤ k + 1 by omega), hlv, hse]; rfl) | skip)
    · rw [b0_ne c3]
      refine zst ?_
      (first | refine callD (rup_fn (lev l k) (by omega)) ?_ | refine callDw (rup_fn (lev l k) (by omega)) ?_); simp only [go_sem]
      refine zst ?_
      refine ev_lowS 0 rfl ?_
      refine ev_next 5 (hJ _ (⟨k + 1, hlt⟩) (by first | omega | (dsimp only; omega) | (simp; omega))) rfl (by simp) ?_ (by first | rfl | (simp only [go_sem]; done) | (simp only [b0_ne (show k + 1 ≠ K by omega), bO_ge (show K ≤ k + 1 by omega), hlv, hse]; (try simp only [go_sem]); first | done | rfl)) (by first | rfl | (simp only [go_sem]; done) | (simp only [b0_ne (show k + 1 ≠ K by omega), bO_ge (show K ≤ k + 1 by omega), hlv, hse]; (try simp only [go_sem]); first | done | rfl)) ?_
      · (first | rfl | (simp only [go_sem]; done) | (simp only [go_sem]; simp only [b0_ne (show k + 1 ≠ K by omega), bO_ge (show K ≤ k + 1 by omega), hlv, hse]; done) | (simp only [b0_ne (show k + 1 ≠ K by omega), bO_ge (show K ≤ k + 1 by omega), hlv, hse]; done) | (simp only [go_sem]; simp [b0_ne (show k + 1 ≠ K by omega), bO_ge (show K ≤ k + 1 by omega), hlv, hse]; done) | (simp [b0_ne (show k + 1 ≠ K by omega), bO_ge (show K ≤ k + 1 by omega), hlv, hse]; done))
      · (simp only [go_sem]; (repeat' (refine And.intro ?_ ?_)) <;> first | exact trivial | with_reducible rfl | (simp only [b0_ne (show k + 1 ≠ K by omega), bO_ge (show K ≤ k + 1 by omega), hlv, hse]; done) | (simp only [b0_ne (show k + 1 ≠ K by omega), bO_ge (show K ≤ k + 1 by omega), hlv, hse]; with_reducible rfl) | (simp [b0_ne (show k + 1 ≠ K by omega), bO_ge (show K ≤ k + 1 by omega), hlv, hse]; done) | (simp [b0_ne (show k + 1 ≠ K by omega), bO_ge (show K ≤ k + 1 by omega), hlv, hse]; omega) | (simp only [b0_ne (show k + 1 ≠ K by omega), bO_ge (show K ≤ k + 1 by omega), hlv, hse]; rfl) | skip)
  · obtain rfl : k = dep l.length := by omega
    rw [bO_ge hK, bld_blk]
    by_cases c3 : dep l.length = K
    · subst c3
      rw [b0_eq rfl]
      refine zst ?_
      refine retN m_rbuild_ok [2, 4] ?_; simp only [go_sem]
      exact V.oksW_set (V.oksW_pure _ _ _ (pures_lo _ _)) _ (by simp only [go_sem])
    · rw [b0_ne c3]
      refine zst ?_
      refine retN m_rbuild_ok [2, 4] ?_; simp only [go_sem]
      exact V.oksW_set (V.oksW_pure _ _ _ (pures_lo _ _)) _ (by simp only [go_sem])
theorem blkK_one (l : List Int) (x : V) : [x] = ((blk' l 0).map dtV).set 0 x := rfl
set_option maxHeartbeats 16000000 in
theorem rbuild0_fn (l : List Int) (h1 : 1 ≤ l.length) (h2 : l.length ≤ 20) : Fnc Try.prog 26 [dsV l] (fun x obs => x = .tup [.agg [.own 0 0], .int .i64 0] ∧ obs = [⟨.rows 53, true, 0, .arr 1 (((bld l).map dtV).set 0 (.own 1 0))⟩, ⟨.row 54, true, 0, .arr 1 (u32s (lev l 0))⟩]) := by
  have hb1 := blkK_one l (.own 1 1)
  refine Fnc.intro m_rbuild_ok (by simp) fun W S => ?_
  unfold m_rbuild
  simp only [ents, Nat.zero_add, Nat.reduceAdd]
  repeat (first | refine ev_seq ?_ | refine ev_block ?_ | refine ev_skip ?_ | refine ev_inBlock ?_ | refine evr_nil ?_ | refine evw_nil (by kernel_rfl) ?_ | refine ev_exit rfl ?_ | refine ev_round ?_ | refine ev_condT rfl ?_ | refine ev_condF rfl ?_ | refine ev_condTb rfl (by first | exact decT (by omega) | exact beqT (by omega) | exact bneT (by omega) | exact notT (decF (by omega)) | exact notT (beqF (by omega))) ?_ | refine ev_condFb rfl (by first | exact decF (by omega) | exact beqF (by omega) | exact bneF (by omega) | exact notF (decT (by omega)) | exact notF (beqT (by omega))) ?_)
  refine ev_region ?_
  simp only [go_sem]
  repeat (first | refine ev_seq ?_ | refine ev_block ?_ | refine ev_skip ?_ | refine ev_inBlock ?_ | refine evr_nil ?_ | refine evw_nil (by kernel_rfl) ?_ | refine ev_exit rfl ?_ | refine ev_round ?_ | refine ev_condT rfl ?_ | refine ev_condF rfl ?_ | refine ev_condTb rfl (by first | exact decT (by omega) | exact beqT (by omega) | exact bneT (by omega) | exact notT (decF (by omega)) | exact notT (beqF (by omega))) ?_ | refine ev_condFb rfl (by first | exact decF (by omega) | exact beqF (by omega) | exact bneF (by omega) | exact notF (decT (by omega)) | exact notF (beqT (by omega))) ?_)
  refine ev_region ?_
  refine zev ?_
  repeat (first | refine ev_seq ?_ | refine ev_block ?_ | refine ev_skip ?_ | refine ev_inBlock ?_ | refine evr_nil ?_ | refine evw_nil (by kernel_rfl) ?_ | refine ev_exit rfl ?_ | refine ev_round ?_ | refine ev_condT rfl ?_ | refine ev_condF rfl ?_ | refine ev_condTb rfl (by first | exact decT (by omega) | exact beqT (by omega) | exact bneT (by omega) | exact notT (decF (by omega)) | exact notT (beqF (by omega))) ?_ | refine ev_condFb rfl (by first | exact decF (by omega) | exact beqF (by omega) | exact bneF (by omega) | exact notF (decT (by omega)) | exact notF (beqT (by omega))) ?_)
  refine ev_reg ?_
  refine ev_all (fu := [(), (), ()]) ?_; refine zev ?_
  refine evr_buildR rfl rfl (by simp only [go_sem]) ?_
  simp only [go_sem]
  refine zst ?_
  refine ev_loopK [2, 4] (fun p : {p : Nat // p ≤ dep l.length} => [(0, dsV (lev l p.1))]) (fun p => [⟨.box false 57, true, 0, .agg [.nilS]⟩, ⟨.row 54, true, 1, .arr 1 (u32s l)⟩, ⟨.rows 53, true, p.1, .arr 1 (((blk' l p.1).map dtV).set 0 (.own 1 1))⟩, ⟨.box false 57, true, 0, .agg [.own 2 p.1]⟩]) (fun p => dep l.length - p.1) (⟨0, by simp⟩) 4 (by simp only [go_sem]; rfl) ?_ (by first | rfl | (simp only [go_sem]; done) | (simp only [go_sem]; simp [lev_zero, hb1]; done)) (by simp) (by first | rfl | (simp only [go_sem]; done)) (by first | rfl | (simp only [go_sem]; done)) (by first | rfl | (simp only [go_sem]; done) | (simp only [lev_zero, hb1]; (try simp only [go_sem]); first | done | rfl)) ?_
  · (simp only [go_sem]; (try simp [lev_zero, hb1]); done)
  intro J hJ
  rintro ⟨k, hk0⟩
  have hll := lev_len l k
  have hd := hl_dep h1 h2 hk0
  have hle := hl_le h1 k
  rw [← hll] at hd hle
  by_cases hlt : k < dep l.length
  · have hbl := blk_len l k
    have h5 := dep_le l.length
    have hlv : up (lev l k) = lev l (k + 1) := lev_up l k
    have hse := blkK_lt l (show 0 ≤ k by omega) (.own 1 1)
    refine zst ?_
    (first | refine callD (rup_fn (lev l k) (by omega)) ?_ | refine callDw (rup_fn (lev l k) (by omega)) ?_); simp only [go_sem]
    refine zst ?_
    refine ev_lowS 0 rfl ?_
    refine ev_next 4 (hJ _ (⟨k + 1, hlt⟩) (by first | omega | (dsimp only; omega) | (simp; omega))) rfl (by simp) ?_ (by first | rfl | (simp only [go_sem]; done)) (by first | rfl | (simp only [go_sem]; done) | (simp only [hlv, hse]; (try simp only [go_sem]); first | done | rfl)) ?_
    · (first | rfl | (simp only [go_sem]; done) | (simp only [go_sem]; simp only [hlv, hse]; done) | (simp only [hlv, hse]; done) | (simp only [go_sem]; simp [hlv, hse]; done) | (simp [hlv, hse]; done))
    · (simp only [go_sem]; (repeat' (refine And.intro ?_ ?_)) <;> first | exact trivial | with_reducible rfl | (simp only [hlv, hse]; done) | (simp only [hlv, hse]; with_reducible rfl) | (simp [hlv, hse]; done) | (simp [hlv, hse]; omega) | (simp only [hlv, hse]; rfl) | skip)
  · obtain rfl : k = dep l.length := by omega
    have hz : lev l 0 = l := lev_zero l
    dsimp only
    rw [bld_blk, hz]
    refine zst ?_
    refine retN m_rbuild_ok [2, 1] ?_; simp only [go_sem]
    exact V.oksW_set (V.oksW_pure _ _ _ (pures_lo _ _)) _ (by simp only [go_sem])
theorem rbuildJ_fn (l : List Int) (h1 : 1 ≤ l.length) (h2 : l.length ≤ 20) (K : Nat) (hK : K ≤ dep l.length) : Fnc Try.prog 26 [dsV l] (fun x obs => x = .tup [.agg [.own 0 0], .int .i64 0] ∧ obs = [⟨.rows 53, true, 0, .arr 1 (((bld l).map dtV).set K (.own 1 0))⟩, ⟨.row 54, true, 0, .arr 1 (u32s (lev l K))⟩]) := by
  by_cases c : K = 0
  · subst c; exact rbuild0_fn l h1 h2
  · exact rbuildK_fn l h1 h2 K (by omega) hK
end Go.Proofs.Ytcphobeommkgeaa
/- The law TreeMade. -/
namespace Go.Proofs.Ytcphobeommkgeaa
open Go Go.RowKit Rdn Rdn.Dp
set_option linter.unusedVariables false
set_option linter.unusedSimpArgs false
def m_tmd : MC := .seq (.reg [⟨(some 10), none, (.p (.mov (.c (.bool false))))⟩])
 (.seq (.seq (.reg [⟨(some 18), none, (.p (.mov (.t 0)))⟩, ⟨(some 19), none, (.p (.len (.t 18)))⟩, ⟨(some 20), none, (.p (.bin 0 .lss (.t 19) (.c (.int .i64 1))))⟩, ⟨(some 21), none, (.p (.mov (.t 20)))⟩, ⟨(some 22), (some (21, false)), (.p (.mov (.t 0)))⟩, ⟨(some 23), (some (21, false)), (.p (.len (.t 22)))⟩, ⟨(some 24), (some (21, false)), (.p (.bin 0 .gtr (.t 23) (.c (.int .i64 20))))⟩, ⟨(some 25), none, (.p (.pick (.t 21) (.c (.bool true)) (.t 24)))⟩, ⟨(some 26), none, (.p (.mov (.t 25)))⟩, ⟨(some 27), (some (26, false)), (.p (.mov (.t 1)))⟩, ⟨(some 28), (some (26, false)), (.p (.len (.t 27)))⟩, ⟨(some 29), (some (26, false)), (.p (.bin 0 .gtr (.t 28) (.c (.int .i64 40))))⟩, ⟨(some 30), none, (.p (.pick (.t 26) (.c (.bool true)) (.t 29)))⟩])
 (.cond (.t 30) (.seq (.reg [⟨(some 31), none, (.call 25 [])⟩, ⟨(some 10), none, (.p (.mov (.t 31)))⟩])
 (.ret)) (.skip)))
 (.seq (.reg [⟨(some 32), none, (.m (.buildS 54 1 (.int .u32 0) 0 []))⟩, ⟨(some 33), none, (.p (.mov (.t 0)))⟩, ⟨(some 34), none, (.m (.app 54 1 4 (.t 32) (.t 33)))⟩, ⟨(some 11), none, (.p (.mov (.t 34)))⟩])
 (.seq (.seq (.reg [⟨(some 12), none, (.p (.mov (.c (.int .i64 0))))⟩])
 (.block 0 (.loop (.seq (.seq (.reg [⟨(some 35), none, (.p (.mov (.t 12)))⟩, ⟨(some 36), none, (.p (.mov (.t 1)))⟩, ⟨(some 37), none, (.p (.len (.t 36)))⟩, ⟨(some 38), none, (.p (.bin 0 .lss (.t 35) (.t 37)))⟩])
 (.cond (.t 38) (.skip) (.exit 0)))
 (.seq (.block 1 (.dreg [⟨(some 41), none, (.p (.mov (.t 11)))⟩, ⟨(some 42), none, (.p (.mov (.t 1)))⟩, ⟨(some 43), none, (.p (.mov (.t 12)))⟩, ⟨(some 44), none, (.p (.idxA 1 (.t 42) (.t 43)))⟩, ⟨(some 45), none, (.p (.load false 1 (.t 44)))⟩, ⟨(some 46), none, (.p (.conv .i64 (.t 45)))⟩, ⟨(some 47), none, (.p (.mov (.t 11)))⟩, ⟨(some 48), none, (.p (.len (.t 47)))⟩, ⟨(some 49), none, (.p (.bin 0 .rem (.t 46) (.t 48)))⟩, ⟨(some 50), none, (.p (.idxA 1 (.t 41) (.t 49)))⟩, ⟨(some 51), none, (.p (.load false 1 (.t 50)))⟩, ⟨(some 52), none, (.p (.mov (.t 1)))⟩, ⟨(some 53), none, (.p (.mov (.t 12)))⟩, ⟨(some 54), none, (.p (.idxA 1 (.t 52) (.t 53)))⟩, ⟨(some 55), none, (.p (.load false 1 (.t 54)))⟩, ⟨(some 56), none, (.p (.conv .u32 (.t 55)))⟩, ⟨(some 57), none, (.p (.bin 0 .add (.t 56) (.c (.int .u32 1))))⟩, ⟨(some 58), none, (.p (.bin 0 .xor (.t 51) (.t 57)))⟩, ⟨(some 59), none, (.p (.idxA 1 (.t 41) (.t 49)))⟩, ⟨none, none, (.m (.store 1 (.t 59) (.t 58)))⟩] [[], [], [], [1, 2], [1, 2, 3], [1, 2, 3, 4], [], [6], [1, 2, 3, 4, 5, 6, 7], [0, 1, 2, 3, 4, 5, 6, 7, 8], [0, 1, 2, 3, 4, 5, 6, 7, 8, 9], [], [], [11, 12], [11, 12, 13], [11, 12, 13, 14], [11, 12, 13, 14, 15], [0, 1, 2, 3, 4, 5, 6, 7, 8, 9, 10, 11, 12, 13, 14, 15, 16], [0, 1, 2, 3, 4, 5, 6, 7, 8, 9, 10, 11, 12, 13, 14, 15, 16, 17], [0, 1, 2, 3, 4, 5, 6, 7, 8, 9, 10, 11, 12, 13, 14, 15, 16, 17, 18]]))
 (.reg [⟨(some 39), none, (.p (.mov (.t 12)))⟩, ⟨(some 40), none, (.p (.bin 0 .add (.t 39) (.c (.int .i64 1))))⟩, ⟨(some 12), none, (.p (.mov (.t 40)))⟩]))))))
 (.seq (.reg [⟨(some 61), none, (.p (.mov (.t 0)))⟩, ⟨(some 62), none, (.call 26 [(.t 61)])⟩, ⟨(some 60), none, (.p (.mov (.t 62)))⟩, ⟨(some 63), none, (.p (.ext (.t 60) 0))⟩, ⟨(some 64), none, (.p (.ext (.t 60) 1))⟩, ⟨(some 13), none, (.m (.alloc 57 (.agg [.nilS])))⟩, ⟨none, none, (.m (.store 1 (.t 13) (.t 63)))⟩, ⟨(some 14), none, (.p (.mov (.t 64)))⟩])
 (.seq (.reg [⟨(some 66), none, (.p (.mov (.t 11)))⟩, ⟨(some 67), none, (.call 26 [(.t 66)])⟩, ⟨(some 65), none, (.p (.mov (.t 67)))⟩, ⟨(some 68), none, (.p (.ext (.t 65) 0))⟩, ⟨(some 69), none, (.p (.ext (.t 65) 1))⟩, ⟨(some 15), none, (.m (.alloc 57 (.agg [.nilS])))⟩, ⟨none, none, (.m (.store 1 (.t 15) (.t 68)))⟩, ⟨(some 16), none, (.p (.mov (.t 69)))⟩])
 (.seq (.seq (.dreg [⟨(some 70), none, (.p (.load true 1 (.t 13)))⟩, ⟨(some 71), none, (.p (.load true 1 (.t 15)))⟩, ⟨(some 72), none, (.p (.mov (.t 2)))⟩, ⟨(some 73), none, (.p (.mov (.t 0)))⟩, ⟨(some 74), none, (.p (.len (.t 73)))⟩, ⟨(some 75), none, (.p (.bin 0 .add (.t 74) (.c (.int .i64 2))))⟩, ⟨(some 76), none, (.call 20 [(.t 72), (.t 75)])⟩, ⟨(some 77), none, (.p (.bin 0 .sub (.t 76) (.c (.int .i64 1))))⟩, ⟨(some 78), none, (.p (.mov (.t 3)))⟩, ⟨(some 79), none, (.call 27 [(.t 70), (.t 71), (.t 77), (.t 78)])⟩, ⟨(some 80), none, (.p (.un .not (.t 79)))⟩] [[], [], [], [], [3], [3, 4], [2, 3, 4, 5], [2, 3, 4, 5, 6], [], [0, 1, 2, 3, 4, 5, 6, 7, 8], [0, 1, 2, 3, 4, 5, 6, 7, 8, 9]])
 (.cond (.t 80) (.seq (.reg [⟨(some 10), none, (.p (.mov (.c (.bool false))))⟩])
 (.ret)) (.skip)))
 (.seq (.seq (.reg [⟨(some 81), none, (.p (.mov (.t 4)))⟩, ⟨(some 82), none, (.p (.bin 0 .rem (.t 81) (.c (.int .u8 4))))⟩, ⟨(some 83), none, (.p (.bin 0 .eql (.t 82) (.c (.int .u8 3))))⟩])
 (.cond (.t 83) (.seq (.reg [⟨(some 84), none, (.p (.mov (.t 4)))⟩, ⟨(some 85), none, (.p (.bin 0 .quo (.t 84) (.c (.int .u8 4))))⟩, ⟨(some 86), none, (.p (.conv .i64 (.t 85)))⟩, ⟨(some 87), none, (.p (.fieldA 0 0 (.t 15)))⟩, ⟨(some 88), none, (.p (.load false 1 (.t 87)))⟩, ⟨(some 89), none, (.p (.len (.t 88)))⟩, ⟨(some 90), none, (.p (.bin 0 .rem (.t 86) (.t 89)))⟩, ⟨(some 17), none, (.p (.mov (.t 90)))⟩])
 (.reg [⟨(some 91), none, (.p (.fieldA 0 0 (.t 15)))⟩, ⟨(some 92), none, (.p (.load false 1 (.t 91)))⟩, ⟨(some 93), none, (.p (.mov (.t 17)))⟩, ⟨(some 94), none, (.p (.idxA 1 (.t 92) (.t 93)))⟩, ⟨(some 95), none, (.p (.load false 1 (.t 94)))⟩, ⟨(some 96), none, (.p (.idxA 1 (.t 95) (.c (.int .i64 0))))⟩, ⟨(some 97), none, (.p (.load false 1 (.t 96)))⟩, ⟨(some 98), none, (.p (.bin 0 .add (.t 97) (.c (.int .u32 1))))⟩, ⟨(some 99), none, (.p (.idxA 1 (.t 95) (.c (.int .i64 0))))⟩, ⟨none, none, (.m (.store 1 (.t 99) (.t 98)))⟩])) (.skip)))
 (.seq (.reg [⟨(some 100), none, (.p (.load true 1 (.t 15)))⟩, ⟨(some 101), none, (.p (.load true 1 (.t 13)))⟩, ⟨(some 102), none, (.p (.mov (.t 3)))⟩, ⟨(some 103), none, (.call 27 [(.t 100), (.t 101), (.c (.int .i64 0)), (.t 102)])⟩, ⟨(some 104), none, (.p (.mov (.t 103)))⟩, ⟨(some 105), (some (104, true)), (.p (.load true 1 (.t 13)))⟩, ⟨(some 106), (some (104, true)), (.p (.load true 1 (.t 15)))⟩, ⟨(some 107), (some (104, true)), (.p (.mov (.t 3)))⟩, ⟨(some 108), (some (104, true)), (.call 27 [(.t 105), (.t 106), (.c (.int .i64 0)), (.t 107)])⟩, ⟨(some 109), none, (.p (.pick (.t 104) (.t 108) (.c (.bool false))))⟩, ⟨(some 110), none, (.p (.mov (.t 109)))⟩, ⟨(some 111), (some (110, true)), (.call 25 [])⟩, ⟨(some 112), none, (.p (.pick (.t 110) (.t 111) (.c (.bool false))))⟩, ⟨(some 10), none, (.p (.mov (.t 112)))⟩])
 (.ret)))))))))
theorem m_tmd_ok : compF Try.prog 5 = some (113, m_tmd, [.mov (.t 10)]) := by kernel_rfl
theorem tr_deep {σ : AS} {r1 g1 q gq K e1 e3 : Nat} {B : List (List Int)} {m : List Int} (h1 : σ.ob[r1]? = some ⟨.rows e1, true, g1, .arr 1 ((B.map dtV).set K (.own q gq))⟩) (h3 : σ.ob[q]? = some ⟨.row e3, true, gq, .arr 1 (u32s m)⟩) :
    dp3Ok σ (.agg [.own r1 g1]) ∧ in3 [r1, q] σ (.agg [.own r1 g1]) ∧ dp3 σ (.agg [.own r1 g1]) = trV (B.set K m) := by
  refine ⟨fun z hz => ?_, fun z hz => ?_, ?_⟩
  · obtain rfl := List.mem_singleton.1 hz
    simp only [dp2Ok, rowW, h1]
    exact ⟨trivial, dp1Ok_set (f := V.int .u32) h3⟩
  · obtain rfl := List.mem_singleton.1 hz
    simp only [in2, rowW, h1]
    refine ⟨by simp, fun y hy => ?_⟩
    rcases List.mem_or_eq_of_mem_set hy with hy | rfl
    · obtain ⟨a, _, rfl⟩ := List.mem_map.1 hy
      trivial
    · show q ∈ [r1, q]
      simp
  · simp only [List.map_cons, List.map_nil, dp3, dp2, rowW, h1]
    have := dp1_set (σ := σ) (f := V.int .u32) (l := B) (r := K) h3
    rw [this]
theorem tr_pure (σ : AS) (A : List (List Int)) : dp3Ok σ (trV A) ∧ in3 [] σ (trV A) ∧ dp3 σ (trV A) = trV A := by
  refine ⟨fun z hz => ?_, fun z hz => ?_, ?_⟩
  · obtain rfl := List.mem_singleton.1 hz
    exact rfl
  · obtain rfl := List.mem_singleton.1 hz
    trivial
  · simp only [dp3, List.map_cons, List.map_nil, dp2, V.low, lows_lo]
theorem four_all {p : V → Prop} {a b c d : V} (h1 : p a) (h2 : p b) (h3 : p c) (h4 : p d) : ∀ y ∈ [a, b, c, d], p y := fun y hy => by
  simp only [List.mem_cons, List.not_mem_nil, or_false] at hy
  rcases hy with rfl | rfl | rfl | rfl
  · exact h1
  · exact h2
  · exact h3
  · exact h4
theorem in3_trV (ids : List Nat) (σ : AS) (A : List (List Int)) : in3 ids σ (trV A) := fun z hz => by
  obtain rfl := List.mem_singleton.1 hz
  trivial
theorem ag_eq1 {σ : AS} {b : V} {B : List (List Int)} (h : dp3 σ b = trV B) (A : List (List Int)) (i d : Int) : [trV A, b, .int .i64 i, .int .u32 d].map (dp3 σ) = [trV A, trV B, .int .i64 i, .int .u32 d] := by
  simp only [List.map_cons, List.map_nil, h, (tr_pure σ A).2.2]
  rfl
theorem ag_eq2 {σ : AS} {b : V} {B : List (List Int)} (h : dp3 σ b = trV B) (A : List (List Int)) (i d : Int) : [b, trV A, .int .i64 i, .int .u32 d].map (dp3 σ) = [trV B, trV A, .int .i64 i, .int .u32 d] := by
  simp only [List.map_cons, List.map_nil, h, (tr_pure σ A).2.2]
  rfl
attribute [local irreducible] bld lev vld up
attribute [local go_sem] List.length_set
set_option maxHeartbeats 32000000 in
theorem tmd_fn (l cs : List Int) (ix d sp : Int) : Fnc Try.prog 5 [.sl false 1 (u32s l), .sl false 1 (u8s cs), .int .i64 ix, .int .u32 d, .int .u8 sp] (fun x obs => x = .bool true) := by
  refine Fnc.wf fun hw => ?_
  simp only [V.wfs, V.wf, wfs_map, List.length_map] at hw
  obtain ⟨⟨hle, hlm⟩, ⟨hce, hcm⟩, hix, hd, hsp, _⟩ := hw
  have hsp := inK_u8' hsp
  have f0 := awake26_fn
  by_cases c1 : l.length < 1
  · skip
    refine Fnc.intro m_tmd_ok (by simp) fun W S => ?_
    unfold m_tmd
    simp only [ents, Nat.zero_add, Nat.reduceAdd]
    refine zst ?_
    (first | refine callD (f0) ?_ | refine callDw (f0) ?_); simp only [go_sem]
    refine zst ?_
    refine ret m_tmd_ok [] ?_; (first | (simp only [go_sem]; done) | (simp only [go_sem]; ((try dsimp only); (repeat' (refine And.intro ?_ ?_)) <;> first | with_reducible rfl | (simp only [go_sem]; done) | (simp only [go_sem]; rfl) | (simp only []; (try simp only [go_sem]); first | done | rfl) | (simp only [go_sem]; simp []; done) | (simp []; done) | rfl)))
  by_cases c2 : l.length > 20
  · skip
    refine Fnc.intro m_tmd_ok (by simp) fun W S => ?_
    unfold m_tmd
    simp only [ents, Nat.zero_add, Nat.reduceAdd]
    refine zst ?_
    (first | refine callD (f0) ?_ | refine callDw (f0) ?_); simp only [go_sem]
    refine zst ?_
    refine ret m_tmd_ok [] ?_; (first | (simp only [go_sem]; done) | (simp only [go_sem]; ((try dsimp only); (repeat' (refine And.intro ?_ ?_)) <;> first | with_reducible rfl | (simp only [go_sem]; done) | (simp only [go_sem]; rfl) | (simp only []; (try simp only [go_sem]); first | done | rfl) | (simp only [go_sem]; simp []; done) | (simp []; done) | rfl)))
  by_cases c3 : cs.length > 40
  · skip
    refine Fnc.intro m_tmd_ok (by simp) fun W S => ?_
    unfold m_tmd
    simp only [ents, Nat.zero_add, Nat.reduceAdd]
    refine zst ?_
    (first | refine callD (f0) ?_ | refine callDw (f0) ?_); simp only [go_sem]
    refine zst ?_
    refine ret m_tmd_ok [] ?_; (first | (simp only [go_sem]; done) | (simp only [go_sem]; ((try dsimp only); (repeat' (refine And.intro ?_ ?_)) <;> first | with_reducible rfl | (simp only [go_sem]; done) | (simp only [go_sem]; rfl) | (simp only []; (try simp only [go_sem]); first | done | rfl) | (simp only [go_sem]; simp []; done) | (simp []; done) | rfl)))
  have h1 : 1 ≤ l.length := by omega
  have h2 : l.length ≤ 20 := by omega
  refine Fnc.intro m_tmd_ok (by simp) fun W S => ?_
  unfold m_tmd
  simp only [ents, Nat.zero_add, Nat.reduceAdd]
  refine zst ?_
  refine ev_loopK [0, 1, 2, 3, 4, 11] (fun p : {p : Nat × List Int // p.1 ≤ cs.length ∧ p.2.length = l.length} => [(12, .int .i64 p.1.1)]) (fun p => [⟨.row 54, true, 1, .arr 1 (u32s p.1.2)⟩]) (fun p => cs.length - p.1.1) (⟨(0, l), by simp⟩) 1 (by simp only [go_sem]; rfl) ?_ (by first | rfl | (simp only [go_sem]; done)) (by simp) (by first | rfl | (simp only [go_sem]; done)) (by first | rfl | (simp only [go_sem]; done)) (by first | rfl | (simp only [go_sem]; done)) ?_
  · (simp only [go_sem]; (try simp []); done)
  intro J hJ
  rintro ⟨⟨k, M⟩, hk, hM⟩
  dsimp only at hk hM ⊢
  by_cases hlt : k < cs.length
  · have hc := inK_u8' (hce _ (mem_at hlt))
    obtain ⟨j, hj⟩ : ∃ j : Nat, cs[k]! % (M.length : Int) = j := ⟨(cs[k]! % (M.length : Int)).toNat, by have := Int.emod_nonneg cs[k]! (b := (M.length : Int)) (by omega); omega⟩
    have hjl : j < M.length := by
      have := Int.emod_lt_of_pos cs[k]! (b := (M.length : Int)) (by omega)
      omega
    repeat (first | (simp only [hj]; try simp only [go_sem]) | refine And.intro (by omega) ?_ | refine And.intro rfl ?_ | refine ev_ctl rfl rfl ?_ | refine evr_nil ?_ | refine evw_nil (by kernel_rfl) ?_ | (simp (disch := omega) only [takeAll, Nat.min_eq_left, Nat.min_eq_right, if_pos, if_neg, getD_map, wrapI64, modIn, fdivE, tmodE, tdivE, decT, decF, beqT, beqF, bneT, bneF, Int.toNat_natCast]; try simp only [go_sem]) | (refine ev_condTb rfl ?_ ?_; · (simp <;> omega)) | (refine ev_condFb rfl ?_ ?_; · (simp <;> omega)) | ((first | refine ev_region ?_ | refine evr_go rfl ?_ | refine evw_go rfl ?_ | refine ev_dr0 mixed rfl (by kernel_rfl) ?_ | refine ev_dr1 mixed rfl (by kernel_rfl) ?_ | refine ev_dr2 mixed rfl (by kernel_rfl) ?_); simp only [go_sem]))
    refine ev_next 1 (hJ _ (⟨(k + 1, M.set j (bxor .u32 M[j]! (cs[k]! + 1))), hlt, by rw [List.length_set]; exact hM⟩) (by first | omega | (dsimp only; omega) | (simp; omega))) rfl (by simp) ?_ (by first | rfl | (simp only [go_sem]; done)) (by first | rfl | (simp only [go_sem]; done) | (simp only [List.map_set]; (try simp only [go_sem]); first | done | rfl)) ?_
    · (first | rfl | (simp only [go_sem]; done) | (simp only [go_sem]; simp only [List.map_set]; done) | (simp only [List.map_set]; done) | (simp only [go_sem]; simp [List.map_set]; done) | (simp [List.map_set]; done))
    · (simp only [go_sem]; (repeat' (refine And.intro ?_ ?_)) <;> first | exact trivial | with_reducible rfl | (simp only [List.map_set]; done) | (simp only [List.map_set]; with_reducible rfl) | (simp [List.map_set]; done) | (simp [List.map_set]; omega) | (simp only [List.map_set]; rfl) | skip)
  obtain rfl : k = cs.length := by omega
  have fA := rbuild_fn l h1 h2
  have g1 := mmod_fn ix (l.length + 2) (by omega)
  have g2 := Int.emod_nonneg ix (b := (l.length : Int) + 2) (by omega)
  have g3 := Int.emod_lt_of_pos ix (b := (l.length : Int) + 2) (by omega)
  repeat (first | refine ev_seq ?_ | refine ev_block ?_ | refine ev_skip ?_ | refine ev_inBlock ?_ | refine evr_nil ?_ | refine evw_nil (by kernel_rfl) ?_ | refine ev_exit rfl ?_ | refine ev_round ?_ | refine ev_condT rfl ?_ | refine ev_condF rfl ?_ | refine ev_condTb rfl (by first | exact decT (by omega) | exact beqT (by omega) | exact bneT (by omega) | exact notT (decF (by omega)) | exact notT (beqF (by omega))) ?_ | refine ev_condFb rfl (by first | exact decF (by omega) | exact beqF (by omega) | exact bneF (by omega) | exact notF (decT (by omega)) | exact notF (beqT (by omega))) ?_)
  refine ev_freeze 11 rfl rfl ?_
  by_cases c4 : sp % 4 = 3
  rotate_left
  · have fB := rbuild_fn M (by omega) (by omega)
    refine zst ?_
    (first | refine callD (fA) ?_ | refine callDw (fA) ?_); simp only [go_sem]
    refine zst ?_
    (first | refine callD (fB) ?_ | refine callDw (fB) ?_); simp only [go_sem]
    refine zst ?_
    (first | refine callD (g1) ?_ | refine callDw (g1) ?_); simp only [go_sem]
    refine zst ?_
    (first | refine callD (agree26_fn (bld l) (bld M) (ix % ((l.length : Int) + 2) - 1) d) ?_ | refine callDw (agree26_fn (bld l) (bld M) (ix % ((l.length : Int) + 2) - 1) d) ?_); simp only [go_sem]
    refine zst ?_
    (first | refine callD (agree26_fn (bld M) (bld l) 0 d) ?_ | refine callDw (agree26_fn (bld M) (bld l) 0 d) ?_); simp only [go_sem]
    refine zst ?_
    (first | refine callD (agree26_fn (bld l) (bld M) 0 d) ?_ | refine callDw (agree26_fn (bld l) (bld M) 0 d) ?_); simp only [go_sem]
    refine zst ?_
    (first | refine callD (f0) ?_ | refine callDw (f0) ?_); simp only [go_sem]
    refine zst ?_
    refine ret m_tmd_ok [] ?_; (first | (simp only [go_sem]; done) | (simp only [go_sem]; ((try dsimp only); (repeat' (refine And.intro ?_ ?_)) <;> first | with_reducible rfl | (simp only [go_sem]; done) | (simp only [go_sem]; rfl) | (simp only []; (try simp only [go_sem]); first | done | rfl) | (simp only [go_sem]; simp []; done) | (simp []; done) | rfl)))
  have hbl := bld_len M
  rw [hM] at hbl
  have h5 := dep_le l.length
  obtain ⟨K, hK⟩ : ∃ K : Nat, (sp / 4) % ((bld M).length : Int) = K := ⟨((sp / 4) % ((bld M).length : Int)).toNat, by have := Int.emod_nonneg (sp / 4) (b := ((bld M).length : Int)) (by omega); omega⟩
  have hKl : K < (bld M).length := by have := Int.emod_lt_of_pos (sp / 4) (b := ((bld M).length : Int)) (by omega); omega
  have fB := rbuildJ_fn M (by omega) (by omega) K (by rw [hM]; omega)
  refine zst ?_
  (first | refine callD (fA) ?_ | refine callDw (fA) ?_); simp only [go_sem]
  refine zst ?_
  (first | refine callX (fB) ?_ | refine callXw (fB) ?_); simp only [go_sem]
  refine zst ?_
  (first | refine callD (g1) ?_ | refine callDw (g1) ?_); simp only [go_sem]
  refine zst ?_
  have hself : (bld M).set K (lev M K) = bld M := by
    rw [← bld_at M (k := K) (by rw [hM]; omega), getElem!_pos (bld M) K hKl]
    exact List.set_getElem_self hKl
  have hlK := lev_len M K
  have hlp := hl_pos (n := M.length) (k := K) (by omega)
  have hget : (((bld M).map dtV).set K (.own 3 0)).getD K V.junk = .own 3 0 := by simp [List.getD_eq_getElem?_getD, hKl]
  refine callNw [2, 3] (agree26_fn (bld l) (bld M) (ix % ((l.length : Int) + 2) - 1) d) ⟨rfl, four_all (tr_pure _ _).1 (tr_deep (K := K) (B := bld M) (m := lev M K) rfl rfl).1 rfl rfl, four_all (in3_trV _ _ _) (tr_deep (K := K) (B := bld M) (m := lev M K) rfl rfl).2.1 trivial trivial, ag_eq1 ((tr_deep (K := K) (B := bld M) (m := lev M K) rfl rfl).2.2.trans (by rw [hself])) _ _ _, rfl, rfl, ?_⟩
  simp only [go_sem]
  repeat (first | (simp only [hK, hget]; try simp only [go_sem]) | refine And.intro (by omega) ?_ | refine And.intro rfl ?_ | refine ev_ctl rfl rfl ?_ | refine evr_nil ?_ | refine evw_nil (by kernel_rfl) ?_ | (simp (disch := omega) only [takeAll, Nat.min_eq_left, Nat.min_eq_right, if_pos, if_neg, getD_map, wrapI64, modIn, fdivE, tmodE, tdivE, decT, decF, beqT, beqF, bneT, bneF, Int.toNat_natCast]; try simp only [go_sem]) | (refine ev_condTb rfl ?_ ?_; · (simp <;> omega)) | (refine ev_condFb rfl ?_ ?_; · (simp <;> omega)) | ((first | refine ev_region ?_ | refine evr_go rfl ?_ | refine evw_go rfl ?_ | refine ev_dr0 mixed rfl (by kernel_rfl) ?_ | refine ev_dr1 mixed rfl (by kernel_rfl) ?_ | refine ev_dr2 mixed rfl (by kernel_rfl) ?_); simp only [go_sem]))
  obtain ⟨m', hm'⟩ : ∃ m', (lev M K).set 0 (((lev M K)[0]! + 1) % 4294967296) = m' := ⟨_, rfl⟩
  rw [hm']
  refine callN (agree26_fn ((bld M).set K m') (bld l) 0 d) ⟨rfl, four_all (tr_deep (K := K) (B := bld M) (m := m') rfl rfl).1 (tr_pure _ _).1 rfl rfl, ag_eq2 (tr_deep (K := K) (B := bld M) (m := m') rfl rfl).2.2 _ _ _, rfl, rfl, ?_⟩
  simp only [go_sem]
  refine zst ?_
  refine callN (agree26_fn (bld l) ((bld M).set K m') 0 d) ⟨rfl, four_all (tr_pure _ _).1 (tr_deep (K := K) (B := bld M) (m := m') rfl rfl).1 rfl rfl, ag_eq1 (tr_deep (K := K) (B := bld M) (m := m') rfl rfl).2.2 _ _ _, rfl, rfl, ?_⟩
  simp only [go_sem]
  refine zst ?_
  (first | refine callD (f0) ?_ | refine callDw (f0) ?_); simp only [go_sem]
  refine zst ?_
  refine ret m_tmd_ok [] ?_; (first | (simp only [go_sem]; done) | (simp only [go_sem]; ((try dsimp only); (repeat' (refine And.intro ?_ ?_)) <;> first | with_reducible rfl | (simp only [go_sem]; done) | (simp only [go_sem]; rfl) | (simp only []; (try simp only [go_sem]); first | done | rfl) | (simp only [go_sem]; simp []; done) | (simp []; done) | rfl)))
theorem tmd_law {a0 : List Int} {v0 : Value} {a1 : List Int} {v1 : Value} {a2 : Int} {v2 : Value} {a3 : Int} {v3 : Value} {a4 : Int} {v4 : Value} (W : World) (e0 : (Sh.slice (Sh.int .u32)).rd (old W) W a0 [v0]) (e1 : (Sh.slice (Sh.int .u8)).rd (old W) W a1 [v1]) (e2 : (Sh.int .i64).rd (old W) W a2 [v2]) (e3 : (Sh.int .u32).rd (old W) W a3 [v3]) (e4 : (Sh.int .u8).rd (old W) W a4 [v4]) :
    Calls Try.prog 5 #[v0, v1, v2, v3, v4] W fun e w' => e = .returned (.bool true) ∧ Below W.heap.size W w' :=
  Fnc.law (tmd_fn a0 a1 a2 a3 a4) (RdTs.slice enc_u32s e0 (RdTs.slice enc_u8s e1 (RdTs.int e2 (RdTs.int e3 (RdTs.int e4 RdTs.nil')))))
end Go.Proofs.Ytcphobeommkgeaa
