/- Trees: Root and the sanity check. -/
import Derived.Test.YtcphobeommkgeaaM4
import Derived.Test.YtcphobeommkgeaaZt
namespace Go.Proofs.Ytcphobeommkgeaa
open Go Go.RowKit Rdn Rdn.Dp
set_option linter.unusedVariables false
set_option linter.unusedSimpArgs false
def m_root : MC := .seq (.reg [⟨(some 1), none, (.m (.box 57 (.t 0)))⟩, ⟨(some 2), none, (.p (.mov (.c (.int .u32 0))))⟩])
 (.seq (.seq (.reg [⟨(some 3), none, (.p (.load true 1 (.t 1)))⟩, ⟨(some 4), none, (.call 32 [(.t 3)])⟩, ⟨(some 5), none, (.p (.un .not (.t 4)))⟩])
 (.cond (.t 5) (.seq (.reg [⟨(some 2), none, (.p (.mov (.c (.int .u32 0))))⟩])
 (.ret)) (.skip)))
 (.seq (.reg [⟨(some 6), none, (.p (.fieldA 0 0 (.t 1)))⟩, ⟨(some 7), none, (.p (.load false 1 (.t 6)))⟩, ⟨(some 8), none, (.p (.fieldA 0 0 (.t 1)))⟩, ⟨(some 9), none, (.p (.load false 1 (.t 8)))⟩, ⟨(some 10), none, (.p (.len (.t 9)))⟩, ⟨(some 11), none, (.p (.bin 0 .sub (.t 10) (.c (.int .i64 1))))⟩, ⟨(some 12), none, (.p (.idxA 1 (.t 7) (.t 11)))⟩, ⟨(some 13), none, (.p (.load false 1 (.t 12)))⟩, ⟨(some 14), none, (.p (.idxA 1 (.t 13) (.c (.int .i64 0))))⟩, ⟨(some 15), none, (.p (.load false 1 (.t 14)))⟩, ⟨(some 2), none, (.p (.mov (.t 15)))⟩])
 (.ret)))
theorem m_root_ok : compF Try.prog 60 = some (16, m_root, [.mov (.t 2)]) := by kernel_rfl
def m_awake26 : MC := .seq (.reg [⟨(some 0), none, (.p (.mov (.c (.bool false))))⟩])
 (.seq (.reg [⟨(some 7), none, (.m (.buildS 54 1 (.int .u32 0) 3 [(0, (.c (.int .u32 1))), (1, (.c (.int .u32 2))), (2, (.c (.int .u32 3)))]))⟩, ⟨(some 8), none, (.call 28 [(.t 7)])⟩, ⟨(some 6), none, (.p (.mov (.t 8)))⟩, ⟨(some 9), none, (.p (.ext (.t 6) 0))⟩, ⟨(some 10), none, (.p (.ext (.t 6) 1))⟩, ⟨(some 1), none, (.m (.alloc 57 (.agg [.nilS])))⟩, ⟨none, none, (.m (.store 1 (.t 1) (.t 9)))⟩, ⟨(some 2), none, (.p (.mov (.t 10)))⟩])
 (.seq (.reg [⟨(some 12), none, (.p (.load true 1 (.t 1)))⟩, ⟨(some 13), none, (.p (.load true 1 (.t 1)))⟩, ⟨(some 14), none, (.call 30 [(.t 12), (.t 13)])⟩, ⟨(some 11), none, (.p (.mov (.t 14)))⟩, ⟨(some 15), none, (.p (.ext (.t 11) 0))⟩, ⟨(some 16), none, (.p (.ext (.t 11) 1))⟩, ⟨(some 17), none, (.p (.ext (.t 11) 2))⟩, ⟨(some 3), none, (.p (.mov (.t 15)))⟩, ⟨(some 4), none, (.p (.mov (.t 16)))⟩, ⟨(some 5), none, (.p (.mov (.t 17)))⟩])
 (.seq (.dreg [⟨(some 18), none, (.p (.mov (.t 2)))⟩, ⟨(some 19), none, (.p (.bin 0 .eql (.t 18) (.c (.int .i64 0))))⟩, ⟨(some 20), none, (.p (.mov (.t 19)))⟩, ⟨(some 21), (some (20, true)), (.p (.mov (.t 5)))⟩, ⟨(some 22), (some (20, true)), (.p (.bin 0 .eql (.t 21) (.c (.int .i64 0))))⟩, ⟨(some 23), none, (.p (.pick (.t 20) (.t 22) (.c (.bool false))))⟩, ⟨(some 24), none, (.p (.mov (.t 23)))⟩, ⟨(some 25), (some (24, true)), (.p (.fieldA 0 0 (.t 1)))⟩, ⟨(some 26), (some (24, true)), (.p (.load false 1 (.t 25)))⟩, ⟨(some 27), (some (24, true)), (.p (.len (.t 26)))⟩, ⟨(some 28), (some (24, true)), (.p (.bin 0 .eql (.t 27) (.c (.int .i64 3))))⟩, ⟨(some 29), none, (.p (.pick (.t 24) (.t 28) (.c (.bool false))))⟩, ⟨(some 30), none, (.p (.mov (.t 29)))⟩, ⟨(some 31), (some (30, true)), (.p (.fieldA 0 0 (.t 1)))⟩, ⟨(some 32), (some (30, true)), (.p (.load false 1 (.t 31)))⟩, ⟨(some 33), (some (30, true)), (.p (.idxA 1 (.t 32) (.c (.int .i64 1))))⟩, ⟨(some 34), (some (30, true)), (.p (.load false 1 (.t 33)))⟩, ⟨(some 35), (some (30, true)), (.p (.len (.t 34)))⟩, ⟨(some 36), (some (30, true)), (.p (.bin 0 .eql (.t 35) (.c (.int .i64 2))))⟩, ⟨(some 37), none, (.p (.pick (.t 30) (.t 36) (.c (.bool false))))⟩, ⟨(some 38), none, (.p (.mov (.t 37)))⟩, ⟨(some 39), (some (38, true)), (.p (.fieldA 0 0 (.t 1)))⟩, ⟨(some 40), (some (38, true)), (.p (.load false 1 (.t 39)))⟩, ⟨(some 41), (some (38, true)), (.p (.idxA 1 (.t 40) (.c (.int .i64 1))))⟩, ⟨(some 42), (some (38, true)), (.p (.load false 1 (.t 41)))⟩, ⟨(some 43), (some (38, true)), (.p (.idxA 1 (.t 42) (.c (.int .i64 1))))⟩, ⟨(some 44), (some (38, true)), (.p (.load false 1 (.t 43)))⟩, ⟨(some 45), (some (38, true)), (.p (.bin 0 .eql (.t 44) (.c (.int .u32 3))))⟩, ⟨(some 46), none, (.p (.pick (.t 38) (.t 45) (.c (.bool false))))⟩, ⟨(some 47), none, (.p (.mov (.t 46)))⟩, ⟨(some 48), (some (47, true)), (.p (.load true 1 (.t 1)))⟩, ⟨(some 49), (some (47, true)), (.call 60 [(.t 48)])⟩, ⟨(some 50), (some (47, true)), (.p (.fieldA 0 0 (.t 1)))⟩, ⟨(some 51), (some (47, true)), (.p (.load false 1 (.t 50)))⟩, ⟨(some 52), (some (47, true)), (.p (.idxA 1 (.t 51) (.c (.int .i64 2))))⟩, ⟨(some 53), (some (47, true)), (.p (.load false 1 (.t 52)))⟩, ⟨(some 54), (some (47, true)), (.p (.idxA 1 (.t 53) (.c (.int .i64 0))))⟩, ⟨(some 55), (some (47, true)), (.p (.load false 1 (.t 54)))⟩, ⟨(some 56), (some (47, true)), (.p (.bin 0 .eql (.t 49) (.t 55)))⟩, ⟨(some 57), none, (.p (.pick (.t 47) (.t 56) (.c (.bool false))))⟩, ⟨(some 58), none, (.p (.mov (.t 57)))⟩, ⟨(some 59), (some (58, true)), (.p (.mov (.t 3)))⟩, ⟨(some 60), (some (58, true)), (.p (.len (.t 59)))⟩, ⟨(some 61), (some (58, true)), (.p (.bin 0 .eql (.t 60) (.c (.int .i64 0))))⟩, ⟨(some 62), none, (.p (.pick (.t 58) (.t 61) (.c (.bool false))))⟩, ⟨(some 63), none, (.p (.mov (.t 62)))⟩, ⟨(some 64), (some (63, true)), (.p (.mov (.t 4)))⟩, ⟨(some 65), (some (63, true)), (.p (.bin 0 .eql (.t 64) (.c (.int .i64 1))))⟩, ⟨(some 66), none, (.p (.pick (.t 63) (.t 65) (.c (.bool false))))⟩, ⟨(some 67), none, (.p (.mov (.t 66)))⟩, ⟨(some 68), (some (67, true)), (.p (.load true 1 (.t 1)))⟩, ⟨(some 69), (some (67, true)), (.call 32 [(.t 68)])⟩, ⟨(some 70), none, (.p (.pick (.t 67) (.t 69) (.c (.bool false))))⟩, ⟨(some 0), none, (.p (.mov (.t 70)))⟩] [[], [0], [0, 1], [0, 1, 2], [0, 1, 2, 3], [0, 1, 2, 3, 4], [0, 1, 2, 3, 4, 5], [0, 1, 2, 3, 4, 5, 6], [0, 1, 2, 3, 4, 5, 6, 7], [0, 1, 2, 3, 4, 5, 6, 7, 8], [0, 1, 2, 3, 4, 5, 6, 7, 8, 9], [0, 1, 2, 3, 4, 5, 6, 7, 8, 9, 10], [0, 1, 2, 3, 4, 5, 6, 7, 8, 9, 10, 11], [0, 1, 2, 3, 4, 5, 6, 7, 8, 9, 10, 11, 12], [0, 1, 2, 3, 4, 5, 6, 7, 8, 9, 10, 11, 12, 13], [0, 1, 2, 3, 4, 5, 6, 7, 8, 9, 10, 11, 12, 13, 14], [0, 1, 2, 3, 4, 5, 6, 7, 8, 9, 10, 11, 12, 13, 14, 15], [0, 1, 2, 3, 4, 5, 6, 7, 8, 9, 10, 11, 12, 13, 14, 15, 16], [0, 1, 2, 3, 4, 5, 6, 7, 8, 9, 10, 11, 12, 13, 14, 15, 16, 17], [0, 1, 2, 3, 4, 5, 6, 7, 8, 9, 10, 11, 12, 13, 14, 15, 16, 17, 18], [0, 1, 2, 3, 4, 5, 6, 7, 8, 9, 10, 11, 12, 13, 14, 15, 16, 17, 18, 19], [0, 1, 2, 3, 4, 5, 6, 7, 8, 9, 10, 11, 12, 13, 14, 15, 16, 17, 18, 19, 20], [0, 1, 2, 3, 4, 5, 6, 7, 8, 9, 10, 11, 12, 13, 14, 15, 16, 17, 18, 19, 20, 21], [0, 1, 2, 3, 4, 5, 6, 7, 8, 9, 10, 11, 12, 13, 14, 15, 16, 17, 18, 19, 20, 21, 22], [0, 1, 2, 3, 4, 5, 6, 7, 8, 9, 10, 11, 12, 13, 14, 15, 16, 17, 18, 19, 20, 21, 22, 23], [0, 1, 2, 3, 4, 5, 6, 7, 8, 9, 10, 11, 12, 13, 14, 15, 16, 17, 18, 19, 20, 21, 22, 23, 24], [0, 1, 2, 3, 4, 5, 6, 7, 8, 9, 10, 11, 12, 13, 14, 15, 16, 17, 18, 19, 20, 21, 22, 23, 24, 25], [0, 1, 2, 3, 4, 5, 6, 7, 8, 9, 10, 11, 12, 13, 14, 15, 16, 17, 18, 19, 20, 21, 22, 23, 24, 25, 26], [0, 1, 2, 3, 4, 5, 6, 7, 8, 9, 10, 11, 12, 13, 14, 15, 16, 17, 18, 19, 20, 21, 22, 23, 24, 25, 26, 27], [0, 1, 2, 3, 4, 5, 6, 7, 8, 9, 10, 11, 12, 13, 14, 15, 16, 17, 18, 19, 20, 21, 22, 23, 24, 25, 26, 27, 28], [0, 1, 2, 3, 4, 5, 6, 7, 8, 9, 10, 11, 12, 13, 14, 15, 16, 17, 18, 19, 20, 21, 22, 23, 24, 25, 26, 27, 28, 29], [0, 1, 2, 3, 4, 5, 6, 7, 8, 9, 10, 11, 12, 13, 14, 15, 16, 17, 18, 19, 20, 21, 22, 23, 24, 25, 26, 27, 28, 29, 30], [0, 1, 2, 3, 4, 5, 6, 7, 8, 9, 10, 11, 12, 13, 14, 15, 16, 17, 18, 19, 20, 21, 22, 23, 24, 25, 26, 27, 28, 29], [0, 1, 2, 3, 4, 5, 6, 7, 8, 9, 10, 11, 12, 13, 14, 15, 16, 17, 18, 19, 20, 21, 22, 23, 24, 25, 26, 27, 28, 29, 32], [0, 1, 2, 3, 4, 5, 6, 7, 8, 9, 10, 11, 12, 13, 14, 15, 16, 17, 18, 19, 20, 21, 22, 23, 24, 25, 26, 27, 28, 29, 32, 33], [0, 1, 2, 3, 4, 5, 6, 7, 8, 9, 10, 11, 12, 13, 14, 15, 16, 17, 18, 19, 20, 21, 22, 23, 24, 25, 26, 27, 28, 29, 32, 33, 34], [0, 1, 2, 3, 4, 5, 6, 7, 8, 9, 10, 11, 12, 13, 14, 15, 16, 17, 18, 19, 20, 21, 22, 23, 24, 25, 26, 27, 28, 29, 32, 33, 34, 35], [0, 1, 2, 3, 4, 5, 6, 7, 8, 9, 10, 11, 12, 13, 14, 15, 16, 17, 18, 19, 20, 21, 22, 23, 24, 25, 26, 27, 28, 29, 32, 33, 34, 35, 36], [0, 1, 2, 3, 4, 5, 6, 7, 8, 9, 10, 11, 12, 13, 14, 15, 16, 17, 18, 19, 20, 21, 22, 23, 24, 25, 26, 27, 28, 29, 30, 31, 32, 33, 34, 35, 36, 37], [0, 1, 2, 3, 4, 5, 6, 7, 8, 9, 10, 11, 12, 13, 14, 15, 16, 17, 18, 19, 20, 21, 22, 23, 24, 25, 26, 27, 28, 29, 30, 31, 32, 33, 34, 35, 36, 37, 38], [0, 1, 2, 3, 4, 5, 6, 7, 8, 9, 10, 11, 12, 13, 14, 15, 16, 17, 18, 19, 20, 21, 22, 23, 24, 25, 26, 27, 28, 29, 30, 31, 32, 33, 34, 35, 36, 37, 38, 39], [0, 1, 2, 3, 4, 5, 6, 7, 8, 9, 10, 11, 12, 13, 14, 15, 16, 17, 18, 19, 20, 21, 22, 23, 24, 25, 26, 27, 28, 29, 30, 31, 32, 33, 34, 35, 36, 37, 38, 39, 40], [0, 1, 2, 3, 4, 5, 6, 7, 8, 9, 10, 11, 12, 13, 14, 15, 16, 17, 18, 19, 20, 21, 22, 23, 24, 25, 26, 27, 28, 29, 30, 31, 32, 33, 34, 35, 36, 37, 38, 39, 40, 41], [0, 1, 2, 3, 4, 5, 6, 7, 8, 9, 10, 11, 12, 13, 14, 15, 16, 17, 18, 19, 20, 21, 22, 23, 24, 25, 26, 27, 28, 29, 30, 31, 32, 33, 34, 35, 36, 37, 38, 39, 40, 41, 42], [0, 1, 2, 3, 4, 5, 6, 7, 8, 9, 10, 11, 12, 13, 14, 15, 16, 17, 18, 19, 20, 21, 22, 23, 24, 25, 26, 27, 28, 29, 30, 31, 32, 33, 34, 35, 36, 37, 38, 39, 40, 41, 42, 43], [0, 1, 2, 3, 4, 5, 6, 7, 8, 9, 10, 11, 12, 13, 14, 15, 16, 17, 18, 19, 20, 21, 22, 23, 24, 25, 26, 27, 28, 29, 30, 31, 32, 33, 34, 35, 36, 37, 38, 39, 40, 41, 42, 43, 44], [0, 1, 2, 3, 4, 5, 6, 7, 8, 9, 10, 11, 12, 13, 14, 15, 16, 17, 18, 19, 20, 21, 22, 23, 24, 25, 26, 27, 28, 29, 30, 31, 32, 33, 34, 35, 36, 37, 38, 39, 40, 41, 42, 43, 44, 45], [0, 1, 2, 3, 4, 5, 6, 7, 8, 9, 10, 11, 12, 13, 14, 15, 16, 17, 18, 19, 20, 21, 22, 23, 24, 25, 26, 27, 28, 29, 30, 31, 32, 33, 34, 35, 36, 37, 38, 39, 40, 41, 42, 43, 44, 45, 46], [0, 1, 2, 3, 4, 5, 6, 7, 8, 9, 10, 11, 12, 13, 14, 15, 16, 17, 18, 19, 20, 21, 22, 23, 24, 25, 26, 27, 28, 29, 30, 31, 32, 33, 34, 35, 36, 37, 38, 39, 40, 41, 42, 43, 44, 45, 46, 47], [0, 1, 2, 3, 4, 5, 6, 7, 8, 9, 10, 11, 12, 13, 14, 15, 16, 17, 18, 19, 20, 21, 22, 23, 24, 25, 26, 27, 28, 29, 30, 31, 32, 33, 34, 35, 36, 37, 38, 39, 40, 41, 42, 43, 44, 45, 46, 47, 48], [0, 1, 2, 3, 4, 5, 6, 7, 8, 9, 10, 11, 12, 13, 14, 15, 16, 17, 18, 19, 20, 21, 22, 23, 24, 25, 26, 27, 28, 29, 30, 31, 32, 33, 34, 35, 36, 37, 38, 39, 40, 41, 42, 43, 44, 45, 46, 47, 48, 49], [0, 1, 2, 3, 4, 5, 6, 7, 8, 9, 10, 11, 12, 13, 14, 15, 16, 17, 18, 19, 20, 21, 22, 23, 24, 25, 26, 27, 28, 29, 30, 31, 32, 33, 34, 35, 36, 37, 38, 39, 40, 41, 42, 43, 44, 45, 46, 47, 48, 49, 50], [0, 1, 2, 3, 4, 5, 6, 7, 8, 9, 10, 11, 12, 13, 14, 15, 16, 17, 18, 19, 20, 21, 22, 23, 24, 25, 26, 27, 28, 29, 30, 31, 32, 33, 34, 35, 36, 37, 38, 39, 40, 41, 42, 43, 44, 45, 46, 47, 48, 49, 50, 51], [0, 1, 2, 3, 4, 5, 6, 7, 8, 9, 10, 11, 12, 13, 14, 15, 16, 17, 18, 19, 20, 21, 22, 23, 24, 25, 26, 27, 28, 29, 30, 31, 32, 33, 34, 35, 36, 37, 38, 39, 40, 41, 42, 43, 44, 45, 46, 47, 48, 49, 50, 51, 52]])
 (.ret))))
theorem m_awake26_ok : compF Try.prog 25 = some (71, m_awake26, [.mov (.t 0)]) := by kernel_rfl
theorem aw26_1 : (bld [1, 2, 3])[1]! = [djoin 1 2, 3] := bld_at [1, 2, 3] (k := 1) (by decide)
theorem aw26_2 : (bld [1, 2, 3])[2]! = [djoin (djoin 1 2) 3] := bld_at [1, 2, 3] (k := 2) (by decide)
attribute [local irreducible] bld lev vld dres dnum djoin
def rootOf (L : List (List Int)) : Int := if vld L = true then (L[L.length - 1]!)[0]! else 0
theorem top_len {L : List (List Int)} (h : vld L = true) : 1 ≤ (L[L.length - 1]!).length := by
  obtain ⟨h1, h2, h3, h4⟩ := vld_to h
  rw [← h4, bld_len, Nat.add_sub_cancel, bld_at _ (Nat.le_refl _), lev_len, hl_top h2 h3]
  exact Nat.le_refl _
set_option maxHeartbeats 8000000 in
theorem root_fn (L : List (List Int)) : Fnc Try.prog 60 [trV L] (fun x obs => x = .int .u32 (rootOf L) ∧ obs = []) := by
  refine Fnc.wf fun hw => ?_
  simp only [V.wfs, V.wf, List.length_map] at hw
  have hm := hw.1.1.2
  clear hw
  have hv := tval_fn L
  by_cases c : vld L = true
  · have ht := top_len c
    have hl := (vld_to c).1
    have hr : rootOf L = (L[L.length - 1]!)[0]! := if_pos c
    have hi : ((L.length : Int) - 1).toNat = L.length - 1 := by omega
    rw [c] at hv
    refine Fnc.intro m_root_ok (by simp) fun W S => ?_
    unfold m_root
    simp only [ents, Nat.zero_add, Nat.reduceAdd]
    refine zst ?_
    (first | refine callD (hv) ?_ | refine callDw (hv) ?_); refine zev ?_
    repeat (first | (simp only [hi]; try simp only [go_sem]) | refine And.intro (by omega) ?_ | refine And.intro rfl ?_ | refine ev_ctl rfl rfl ?_ | refine evr_nil ?_ | refine evw_nil (by kernel_rfl) ?_ | (simp (disch := omega) only [takeAll, Nat.min_eq_left, Nat.min_eq_right, if_pos, if_neg, getD_map, wrapI64, modIn, fdivE, tmodE, tdivE, decT, decF, beqT, beqF, bneT, bneF, Int.toNat_natCast]; try simp only [go_sem]) | (refine ev_condTb rfl ?_ ?_; · (simp <;> omega)) | (refine ev_condFb rfl ?_ ?_; · (simp <;> omega)) | ((first | refine ev_region ?_ | refine evr_go rfl ?_ | refine evw_go rfl ?_ | refine ev_dr0 mixed rfl (by kernel_rfl) ?_ | refine ev_dr1 mixed rfl (by kernel_rfl) ?_ | refine ev_dr2 mixed rfl (by kernel_rfl) ?_); simp only [go_sem]))
    refine ret m_root_ok [] ?_; (first | (simp only [go_sem]; done) | (simp only [go_sem]; ((try dsimp only); (repeat' (refine And.intro ?_ ?_)) <;> first | with_reducible rfl | (simp only [go_sem]; done) | (simp only [go_sem]; rfl) | (simp only [go_sem, hr]; done) | (simp only [hr]; (try simp only [go_sem]); first | done | rfl) | (simp only [go_sem]; simp [hr]; done) | (simp [hr]; done) | rfl)))
  · have hr : rootOf L = 0 := if_neg c
    rw [Bool.not_eq_true] at c
    rw [c] at hv
    refine Fnc.intro m_root_ok (by simp) fun W S => ?_
    unfold m_root
    simp only [ents, Nat.zero_add, Nat.reduceAdd]
    refine zst ?_
    (first | refine callD (hv) ?_ | refine callDw (hv) ?_); simp only [go_sem]
    refine zst ?_
    refine ret m_root_ok [] ?_; (first | (simp only [go_sem]; done) | (simp only [go_sem]; ((try dsimp only); (repeat' (refine And.intro ?_ ?_)) <;> first | with_reducible rfl | (simp only [go_sem]; done) | (simp only [go_sem]; rfl) | (simp only [go_sem, hr]; done) | (simp only [hr]; (try simp only [go_sem]); first | done | rfl) | (simp only [go_sem]; simp [hr]; done) | (simp [hr]; done) | rfl)))
theorem aw26_l : (bld [1, 2, 3]).length = 3 := bld_len _
theorem aw26_v : vld (bld [1, 2, 3]) = true := vld_bld (by decide) (by decide)
theorem aw26_r : rootOf (bld [1, 2, 3]) = djoin (djoin 1 2) 3 := by unfold rootOf; rw [if_pos aw26_v, aw26_l, aw26_2]; rfl
attribute [local irreducible] rootOf
set_option maxHeartbeats 8000000 in
theorem awake26_fn : Fnc Try.prog 25 [] (fun x obs => x = .bool true ∧ obs = []) := by
  have f1 := build_fn [1, 2, 3] (by decide) (by decide)
  have f2 := differ_fn [1, 2, 3] [1, 2, 3] (by decide) (by decide) rfl
  rw [dres_self, dnum_self] at f2
  have f3 := root_fn (bld [1, 2, 3])
  rw [aw26_r] at f3
  have f4 := tval_fn (bld [1, 2, 3])
  rw [aw26_v] at f4
  have f5 := aw26_l
  have e : ∀ a : V, [a].length = 1 := fun _ => rfl
  refine Fnc.intro m_awake26_ok (by simp) fun W S => ?_
  unfold m_awake26
  simp only [ents, Nat.zero_add, Nat.reduceAdd]
  refine zst ?_
  refine evr_calmA ?_; (refine zev ?_); (first | refine callD (f1) ?_ | refine callDw (f1) ?_); simp only [go_sem, dsV]
  refine zst ?_
  (first | refine callD (f2) ?_ | refine callDw (f2) ?_); refine zev ?_
  repeat (first | (simp only [aw26_1, aw26_2, nI_nil]; try simp only [go_sem]) | refine And.intro (by omega) ?_ | refine And.intro rfl ?_ | refine ev_ctl rfl rfl ?_ | refine evr_nil ?_ | refine evw_nil (by kernel_rfl) ?_ | (simp (disch := omega) only [takeAll, Nat.min_eq_left, Nat.min_eq_right, if_pos, if_neg, getD_map, wrapI64, modIn, fdivE, tmodE, tdivE, decT, decF, beqT, beqF, bneT, bneF, Int.toNat_natCast]; try simp only [go_sem]) | (refine ev_condTb rfl ?_ ?_; · (simp <;> omega)) | (refine ev_condFb rfl ?_ ?_; · (simp <;> omega)) | ((first | refine ev_region ?_ | refine evr_go rfl ?_ | refine evw_go rfl ?_ | refine ev_dr0 mixed rfl (by kernel_rfl) ?_ | refine ev_dr1 mixed rfl (by kernel_rfl) ?_ | refine ev_dr2 mixed rfl (by kernel_rfl) ?_); simp only [go_sem]))
  (first | refine callD (f3) ?_ | refine callDw (f3) ?_); refine zev ?_
  repeat (first | (simp only [aw26_1, aw26_2, nI_nil]; try simp only [go_sem]) | refine And.intro (by omega) ?_ | refine And.intro rfl ?_ | refine ev_ctl rfl rfl ?_ | refine evr_nil ?_ | refine evw_nil (by kernel_rfl) ?_ | (simp (disch := omega) only [takeAll, Nat.min_eq_left, Nat.min_eq_right, if_pos, if_neg, getD_map, wrapI64, modIn, fdivE, tmodE, tdivE, decT, decF, beqT, beqF, bneT, bneF, Int.toNat_natCast]; try simp only [go_sem]) | (refine ev_condTb rfl ?_ ?_; · (simp <;> omega)) | (refine ev_condFb rfl ?_ ?_; · (simp <;> omega)) | ((first | refine ev_region ?_ | refine evr_go rfl ?_ | refine evw_go rfl ?_ | refine ev_dr0 mixed rfl (by kernel_rfl) ?_ | refine ev_dr1 mixed rfl (by kernel_rfl) ?_ | refine ev_dr2 mixed rfl (by kernel_rfl) ?_); simp only [go_sem]))
  (first | refine callD (f4) ?_ | refine callDw (f4) ?_); simp only [go_sem]
  refine zst ?_
  refine ret m_awake26_ok [] ?_; (first | (simp only [go_sem]; done) | (simp only [go_sem]; ((try dsimp only); (repeat' (refine And.intro ?_ ?_)) <;> first | with_reducible rfl | (simp only [go_sem]; done) | (simp only [go_sem]; rfl) | (simp only []; (try simp only [go_sem]); first | done | rfl) | (simp only [go_sem]; simp []; done) | (simp []; done) | rfl)))
end Go.Proofs.Ytcphobeommkgeaa
