/- Trees: Update, Differ. -/
import Derived.Test.YtcphobeommkgeaaM3
import Derived.Test.YtcphobeommkgeaaZt
namespace Go.Proofs.Ytcphobeommkgeaa
open Go Go.RowKit Rdn Rdn.Dp
set_option linter.unusedVariables false
set_option linter.unusedSimpArgs false
def m_tup : MC := .seq (.reg [⟨(some 3), none, (.m (.box 57 (.t 0)))⟩, ⟨(some 6), none, (.m (.alloc 57 (.agg [.nilS])))⟩, ⟨(some 7), none, (.p (.mov (.c (.int .i64 0))))⟩])
 (.seq (.seq (.reg [⟨(some 9), none, (.p (.load true 1 (.t 3)))⟩, ⟨(some 10), none, (.call 32 [(.t 9)])⟩, ⟨(some 11), none, (.p (.un .not (.t 10)))⟩])
 (.cond (.t 11) (.seq (.reg [⟨(some 12), none, (.m (.build none [.nilS] []))⟩, ⟨none, none, (.m (.store 1 (.t 6) (.t 12)))⟩, ⟨(some 7), none, (.p (.mov (.c (.int .i64 1))))⟩])
 (.ret)) (.skip)))
 (.seq (.seq (.reg [⟨(some 13), none, (.p (.mov (.t 1)))⟩, ⟨(some 14), none, (.p (.bin 0 .lss (.t 13) (.c (.int .i64 0))))⟩, ⟨(some 15), none, (.p (.mov (.t 14)))⟩, ⟨(some 16), (some (15, false)), (.p (.mov (.t 1)))⟩, ⟨(some 17), (some (15, false)), (.p (.fieldA 0 0 (.t 3)))⟩, ⟨(some 18), (some (15, false)), (.p (.load false 1 (.t 17)))⟩, ⟨(some 19), (some (15, false)), (.p (.idxA 1 (.t 18) (.c (.int .i64 0))))⟩, ⟨(some 20), (some (15, false)), (.p (.load false 1 (.t 19)))⟩, ⟨(some 21), (some (15, false)), (.p (.len (.t 20)))⟩, ⟨(some 22), (some (15, false)), (.p (.bin 0 .geq (.t 16) (.t 21)))⟩, ⟨(some 23), none, (.p (.pick (.t 15) (.c (.bool true)) (.t 22)))⟩])
 (.cond (.t 23) (.seq (.reg [⟨(some 24), none, (.m (.build none [.nilS] []))⟩, ⟨none, none, (.m (.store 1 (.t 6) (.t 24)))⟩, ⟨(some 7), none, (.p (.mov (.c (.int .i64 6))))⟩])
 (.ret)) (.skip)))
 (.seq (.reg [⟨(some 25), none, (.p (.fieldA 0 0 (.t 3)))⟩, ⟨(some 26), none, (.p (.load false 1 (.t 25)))⟩, ⟨(some 27), none, (.p (.idxA 1 (.t 26) (.c (.int .i64 0))))⟩, ⟨(some 28), none, (.p (.load false 1 (.t 27)))⟩, ⟨(some 29), none, (.call 67 [(.t 28)])⟩, ⟨(some 8), none, (.p (.mov (.t 29)))⟩])
 (.seq (.reg [⟨(some 30), none, (.p (.mov (.t 8)))⟩, ⟨(some 31), none, (.p (.mov (.t 1)))⟩, ⟨(some 32), none, (.p (.mov (.t 2)))⟩, ⟨(some 33), none, (.p (.idxA 1 (.t 30) (.t 31)))⟩, ⟨none, none, (.m (.store 1 (.t 33) (.t 32)))⟩])
 (.seq (.reg [⟨(some 34), none, (.p (.mov (.t 8)))⟩, ⟨(some 35), none, (.call 28 [(.t 34)])⟩, ⟨(some 36), none, (.p (.ext (.t 35) 0))⟩, ⟨(some 37), none, (.p (.ext (.t 35) 1))⟩, ⟨none, none, (.m (.store 1 (.t 6) (.t 36)))⟩, ⟨(some 7), none, (.p (.mov (.t 37)))⟩])
 (.ret))))))
theorem m_tup_ok : compF Try.prog 29 = some (38, m_tup, [.load true 1 (.t 6), .mov (.t 7)]) := by kernel_rfl
def m_differ : MC := .seq (.reg [⟨(some 2), none, (.m (.box 57 (.t 0)))⟩, ⟨(some 3), none, (.m (.box 57 (.t 1)))⟩, ⟨(some 4), none, (.p (.mov (.c (.nilS))))⟩, ⟨(some 5), none, (.p (.mov (.c (.int .i64 0))))⟩, ⟨(some 6), none, (.p (.mov (.c (.int .i64 0))))⟩])
 (.seq (.seq (.dreg [⟨(some 16), none, (.p (.load true 1 (.t 2)))⟩, ⟨(some 17), none, (.call 32 [(.t 16)])⟩, ⟨(some 18), none, (.p (.un .not (.t 17)))⟩, ⟨(some 19), none, (.p (.mov (.t 18)))⟩, ⟨(some 20), (some (19, false)), (.p (.load true 1 (.t 3)))⟩, ⟨(some 21), (some (19, false)), (.call 32 [(.t 20)])⟩, ⟨(some 22), (some (19, false)), (.p (.un .not (.t 21)))⟩, ⟨(some 23), none, (.p (.pick (.t 19) (.c (.bool true)) (.t 22)))⟩, ⟨(some 24), none, (.p (.mov (.t 23)))⟩, ⟨(some 25), (some (24, false)), (.p (.fieldA 0 0 (.t 2)))⟩, ⟨(some 26), (some (24, false)), (.p (.load false 1 (.t 25)))⟩, ⟨(some 27), (some (24, false)), (.p (.idxA 1 (.t 26) (.c (.int .i64 0))))⟩, ⟨(some 28), (some (24, false)), (.p (.load false 1 (.t 27)))⟩, ⟨(some 29), (some (24, false)), (.p (.len (.t 28)))⟩, ⟨(some 30), (some (24, false)), (.p (.fieldA 0 0 (.t 3)))⟩, ⟨(some 31), (some (24, false)), (.p (.load false 1 (.t 30)))⟩, ⟨(some 32), (some (24, false)), (.p (.idxA 1 (.t 31) (.c (.int .i64 0))))⟩, ⟨(some 33), (some (24, false)), (.p (.load false 1 (.t 32)))⟩, ⟨(some 34), (some (24, false)), (.p (.len (.t 33)))⟩, ⟨(some 35), (some (24, false)), (.p (.bin 0 .neq (.t 29) (.t 34)))⟩, ⟨(some 36), none, (.p (.pick (.t 24) (.c (.bool true)) (.t 35)))⟩] [[], [0], [0, 1], [0, 1, 2], [0, 1, 2, 3], [0, 1, 2, 3, 4], [0, 1, 2, 3, 4, 5], [0, 1, 2, 3, 4, 5, 6], [0, 1, 2, 3, 4, 5, 6, 7], [0, 1, 2, 3, 4, 5, 6, 7, 8], [0, 1, 2, 3, 4, 5, 6, 7, 8, 9], [0, 1, 2, 3, 4, 5, 6, 7, 8, 9, 10], [0, 1, 2, 3, 4, 5, 6, 7, 8, 9, 10, 11], [0, 1, 2, 3, 4, 5, 6, 7, 8, 9, 10, 11, 12], [0, 1, 2, 3, 4, 5, 6, 7, 8], [0, 1, 2, 3, 4, 5, 6, 7, 8, 14], [0, 1, 2, 3, 4, 5, 6, 7, 8, 14, 15], [0, 1, 2, 3, 4, 5, 6, 7, 8, 14, 15, 16], [0, 1, 2, 3, 4, 5, 6, 7, 8, 14, 15, 16, 17], [0, 1, 2, 3, 4, 5, 6, 7, 8, 9, 10, 11, 12, 13, 14, 15, 16, 17, 18], [0, 1, 2, 3, 4, 5, 6, 7, 8, 9, 10, 11, 12, 13, 14, 15, 16, 17, 18, 19]])
 (.cond (.t 36) (.seq (.reg [⟨(some 4), none, (.p (.mov (.c (.nilS))))⟩, ⟨(some 5), none, (.p (.mov (.c (.int .i64 0))))⟩, ⟨(some 6), none, (.p (.mov (.c (.int .i64 1))))⟩])
 (.ret)) (.skip)))
 (.seq (.reg [⟨(some 37), none, (.m (.buildS 3 1 (.int .i64 0) 1 [(0, (.c (.int .i64 0)))]))⟩, ⟨(some 7), none, (.p (.mov (.c (.int .i64 0))))⟩, ⟨(some 8), none, (.p (.mov (.t 37)))⟩])
 (.seq (.seq (.reg [⟨(some 38), none, (.p (.fieldA 0 0 (.t 2)))⟩, ⟨(some 39), none, (.p (.load false 1 (.t 38)))⟩, ⟨(some 40), none, (.p (.len (.t 39)))⟩, ⟨(some 41), none, (.p (.bin 0 .sub (.t 40) (.c (.int .i64 1))))⟩, ⟨(some 9), none, (.p (.mov (.t 41)))⟩])
 (.block 0 (.loop (.seq (.seq (.reg [⟨(some 42), none, (.p (.mov (.t 9)))⟩, ⟨(some 43), none, (.p (.bin 0 .geq (.t 42) (.c (.int .i64 0))))⟩])
 (.cond (.t 43) (.skip) (.exit 0)))
 (.seq (.block 1 (.seq (.reg [⟨(some 10), none, (.p (.mov (.c (.nilS))))⟩])
 (.seq (.seq (.reg [⟨(some 46), none, (.p (.mov (.t 8)))⟩, ⟨(some 47), none, (.p (.len (.t 46)))⟩, ⟨(some 48), none, (.p (.mov (.c (.int .i64 0))))⟩])
 (.block 2 (.loop (.seq (.reg [⟨(some 49), none, (.p (.bin 0 .lss (.t 48) (.t 47)))⟩])
 (.seq (.cond (.t 49) (.skip) (.exit 2))
 (.seq (.block 3 (.seq (.reg [⟨(some 50), none, (.p (.idxA 1 (.t 46) (.t 48)))⟩, ⟨(some 51), none, (.p (.load false 1 (.t 50)))⟩, ⟨(some 12), none, (.p (.mov (.t 51)))⟩])
 (.seq (.reg [⟨(some 52), none, (.p (.mov (.t 7)))⟩, ⟨(some 53), none, (.p (.bin 0 .add (.t 52) (.c (.int .i64 1))))⟩, ⟨(some 7), none, (.p (.mov (.t 53)))⟩])
 (.seq (.dreg [⟨(some 54), none, (.p (.fieldA 0 0 (.t 2)))⟩, ⟨(some 55), none, (.p (.load false 1 (.t 54)))⟩, ⟨(some 56), none, (.p (.mov (.t 9)))⟩, ⟨(some 57), none, (.p (.idxA 1 (.t 55) (.t 56)))⟩, ⟨(some 58), none, (.p (.load false 1 (.t 57)))⟩, ⟨(some 59), none, (.p (.mov (.t 12)))⟩, ⟨(some 60), none, (.p (.idxA 1 (.t 58) (.t 59)))⟩, ⟨(some 61), none, (.p (.load false 1 (.t 60)))⟩, ⟨(some 62), none, (.p (.fieldA 0 0 (.t 3)))⟩, ⟨(some 63), none, (.p (.load false 1 (.t 62)))⟩, ⟨(some 64), none, (.p (.mov (.t 9)))⟩, ⟨(some 65), none, (.p (.idxA 1 (.t 63) (.t 64)))⟩, ⟨(some 66), none, (.p (.load false 1 (.t 65)))⟩, ⟨(some 67), none, (.p (.mov (.t 12)))⟩, ⟨(some 68), none, (.p (.idxA 1 (.t 66) (.t 67)))⟩, ⟨(some 69), none, (.p (.load false 1 (.t 68)))⟩, ⟨(some 70), none, (.p (.bin 0 .neq (.t 61) (.t 69)))⟩] [[], [0], [], [0, 1, 2], [0, 1, 2, 3], [], [0, 1, 2, 3, 4, 5], [0, 1, 2, 3, 4, 5, 6], [], [8], [], [8, 9, 10], [8, 9, 10, 11], [], [8, 9, 10, 11, 12, 13], [8, 9, 10, 11, 12, 13, 14], [0, 1, 2, 3, 4, 5, 6, 7, 8, 9, 10, 11, 12, 13, 14, 15]])
 (.cond (.t 70) (.reg [⟨(some 71), none, (.p (.mov (.t 10)))⟩, ⟨(some 72), none, (.p (.mov (.t 12)))⟩, ⟨(some 73), none, (.m (.buildS 3 1 (.int .i64 0) 1 [(0, (.t 72))]))⟩, ⟨(some 74), none, (.m (.app 3 1 8 (.t 71) (.t 73)))⟩, ⟨(some 10), none, (.p (.mov (.t 74)))⟩]) (.skip))))))
 (.reg [⟨(some 75), none, (.p (.bin 0 .add (.t 48) (.c (.int .i64 1))))⟩, ⟨(some 48), none, (.p (.mov (.t 75)))⟩])))))))
 (.seq (.seq (.reg [⟨(some 76), none, (.p (.mov (.t 9)))⟩, ⟨(some 77), none, (.p (.bin 0 .eql (.t 76) (.c (.int .i64 0))))⟩])
 (.cond (.t 77) (.seq (.reg [⟨(some 78), none, (.p (.mov (.t 10)))⟩, ⟨(some 79), none, (.p (.mov (.t 7)))⟩, ⟨(some 4), none, (.p (.mov (.t 78)))⟩, ⟨(some 5), none, (.p (.mov (.t 79)))⟩, ⟨(some 6), none, (.p (.mov (.c (.int .i64 0))))⟩])
 (.ret)) (.skip)))
 (.seq (.reg [⟨(some 8), none, (.p (.mov (.c (.nilS))))⟩])
 (.seq (.reg [⟨(some 80), none, (.p (.mov (.t 10)))⟩, ⟨(some 81), none, (.p (.len (.t 80)))⟩, ⟨(some 82), none, (.p (.mov (.c (.int .i64 0))))⟩])
 (.block 4 (.loop (.seq (.reg [⟨(some 83), none, (.p (.bin 0 .lss (.t 82) (.t 81)))⟩])
 (.seq (.cond (.t 83) (.skip) (.exit 4))
 (.seq (.block 5 (.seq (.reg [⟨(some 84), none, (.p (.idxA 1 (.t 80) (.t 82)))⟩, ⟨(some 85), none, (.p (.load false 1 (.t 84)))⟩, ⟨(some 14), none, (.p (.mov (.t 85)))⟩])
 (.seq (.reg [⟨(some 86), none, (.p (.mov (.t 14)))⟩, ⟨(some 87), none, (.p (.bin 0 .mul (.c (.int .i64 2)) (.t 86)))⟩, ⟨(some 15), none, (.p (.mov (.t 87)))⟩])
 (.block 6 (.loop (.seq (.seq (.reg [⟨(some 88), none, (.p (.mov (.t 15)))⟩, ⟨(some 89), none, (.p (.mov (.t 14)))⟩, ⟨(some 90), none, (.p (.bin 0 .mul (.c (.int .i64 2)) (.t 89)))⟩, ⟨(some 91), none, (.p (.bin 0 .add (.t 90) (.c (.int .i64 1))))⟩, ⟨(some 92), none, (.p (.bin 0 .leq (.t 88) (.t 91)))⟩, ⟨(some 93), none, (.p (.mov (.t 92)))⟩, ⟨(some 94), (some (93, true)), (.p (.mov (.t 15)))⟩, ⟨(some 95), (some (93, true)), (.p (.fieldA 0 0 (.t 2)))⟩, ⟨(some 96), (some (93, true)), (.p (.load false 1 (.t 95)))⟩, ⟨(some 97), (some (93, true)), (.p (.mov (.t 9)))⟩, ⟨(some 98), (some (93, true)), (.p (.bin 0 .sub (.t 97) (.c (.int .i64 1))))⟩, ⟨(some 99), (some (93, true)), (.p (.idxA 1 (.t 96) (.t 98)))⟩, ⟨(some 100), (some (93, true)), (.p (.load false 1 (.t 99)))⟩, ⟨(some 101), (some (93, true)), (.p (.len (.t 100)))⟩, ⟨(some 102), (some (93, true)), (.p (.bin 0 .lss (.t 94) (.t 101)))⟩, ⟨(some 103), none, (.p (.pick (.t 93) (.t 102) (.c (.bool false))))⟩])
 (.cond (.t 103) (.skip) (.exit 6)))
 (.seq (.block 7 (.reg [⟨(some 106), none, (.p (.mov (.t 8)))⟩, ⟨(some 107), none, (.p (.mov (.t 15)))⟩, ⟨(some 108), none, (.m (.buildS 3 1 (.int .i64 0) 1 [(0, (.t 107))]))⟩, ⟨(some 109), none, (.m (.app 3 1 8 (.t 106) (.t 108)))⟩, ⟨(some 8), none, (.p (.mov (.t 109)))⟩]))
 (.reg [⟨(some 104), none, (.p (.mov (.t 15)))⟩, ⟨(some 105), none, (.p (.bin 0 .add (.t 104) (.c (.int .i64 1))))⟩, ⟨(some 15), none, (.p (.mov (.t 105)))⟩]))))))))
 (.reg [⟨(some 110), none, (.p (.bin 0 .add (.t 82) (.c (.int .i64 1))))⟩, ⟨(some 82), none, (.p (.mov (.t 110)))⟩]))))))))))))
 (.reg [⟨(some 44), none, (.p (.mov (.t 9)))⟩, ⟨(some 45), none, (.p (.bin 0 .sub (.t 44) (.c (.int .i64 1))))⟩, ⟨(some 9), none, (.p (.mov (.t 45)))⟩]))))))
 (.seq (.reg [⟨(some 111), none, (.p (.mov (.t 7)))⟩, ⟨(some 4), none, (.p (.mov (.c (.nilS))))⟩, ⟨(some 5), none, (.p (.mov (.t 111)))⟩, ⟨(some 6), none, (.p (.mov (.c (.int .i64 0))))⟩])
 (.ret)))))
theorem m_differ_ok : compF Try.prog 30 = some (112, m_differ, [.mov (.t 4), .mov (.t 5), .mov (.t 6)]) := by kernel_rfl
attribute [local irreducible] bld lev vld
abbrev trV (L : List (List Int)) : V := .agg [.sl false 1 (L.map dsV)]
set_option maxHeartbeats 8000000 in
theorem tup_ok (l : List Int) (h1 : 1 ≤ l.length) (h2 : l.length ≤ 20) (i : Nat) (hi : i < l.length) (d : Int) : Fnc Try.prog 29 [trV (bld l), .int .i64 i, .int .u32 d] (fun x obs => x = .tup [trV (bld (l.set i d)), .int .i64 0] ∧ obs = []) := by
  have hv := tval_fn (bld l)
  rw [vld_bld h1 h2] at hv
  have hl := bld_len l
  have hz := bld_zero l
  have hB := build_fn (l.set i d) (by rw [List.length_set]; exact h1) (by rw [List.length_set]; exact h2)
  refine Fnc.intro m_tup_ok (by simp) fun W S => ?_
  unfold m_tup
  simp only [ents, Nat.zero_add, Nat.reduceAdd]
  refine zst ?_
  (first | refine callD (hv) ?_ | refine callDw (hv) ?_); refine zev ?_
  repeat (first | (simp only [hz]; try simp only [go_sem]) | refine And.intro (by omega) ?_ | refine And.intro rfl ?_ | refine ev_ctl rfl rfl ?_ | refine evr_nil ?_ | refine evw_nil (by kernel_rfl) ?_ | (simp (disch := omega) only [takeAll, Nat.min_eq_left, Nat.min_eq_right, if_pos, if_neg, getD_map, wrapI64, modIn, fdivE, tmodE, tdivE, decT, decF, beqT, beqF, bneT, bneF, Int.toNat_natCast]; try simp only [go_sem]) | (refine ev_condTb rfl ?_ ?_; · (simp <;> omega)) | (refine ev_condFb rfl ?_ ?_; · (simp <;> omega)) | ((first | refine ev_region ?_ | refine evr_go rfl ?_ | refine evw_go rfl ?_ | refine ev_dr0 mixed rfl (by kernel_rfl) ?_ | refine ev_dr1 mixed rfl (by kernel_rfl) ?_ | refine ev_dr2 mixed rfl (by kernel_rfl) ?_); simp only [go_sem]))
  (first | refine callX (cln_own l (by omega)) ?_ | refine callXw (cln_own l (by omega)) ?_); simp only [go_sem]
  refine zst ?_
  refine evr_calmA ?_; (refine zev ?_); (first | refine callD (hB) ?_ | refine callDw (hB) ?_); simp only [go_sem]
  refine zst ?_
  refine ret m_tup_ok [] ?_; (first | (simp only [go_sem]; done) | (simp only [go_sem]; ((try dsimp only); (repeat' (refine And.intro ?_ ?_)) <;> first | with_reducible rfl | (simp only [go_sem]; done) | (simp only [go_sem]; rfl) | (simp only []; (try simp only [go_sem]); first | done | rfl) | (simp only [go_sem]; simp []; done) | (simp []; done) | rfl)))
set_option maxHeartbeats 8000000 in
theorem tup_range (l : List Int) (h1 : 1 ≤ l.length) (h2 : l.length ≤ 20) (d : Int) : Fnc Try.prog 29 [trV (bld l), .int .i64 l.length, .int .u32 d] (fun x obs => x = .tup [.agg [.nilS], .int .i64 6] ∧ obs = []) := by
  have hv := tval_fn (bld l)
  rw [vld_bld h1 h2] at hv
  have hl := bld_len l
  have hz := bld_zero l
  refine Fnc.intro m_tup_ok (by simp) fun W S => ?_
  unfold m_tup
  simp only [ents, Nat.zero_add, Nat.reduceAdd]
  refine zst ?_
  (first | refine callD (hv) ?_ | refine callDw (hv) ?_); refine zev ?_
  repeat (first | (simp only [hz]; try simp only [go_sem]) | refine And.intro (by omega) ?_ | refine And.intro rfl ?_ | refine ev_ctl rfl rfl ?_ | refine evr_nil ?_ | refine evw_nil (by kernel_rfl) ?_ | (simp (disch := omega) only [takeAll, Nat.min_eq_left, Nat.min_eq_right, if_pos, if_neg, getD_map, wrapI64, modIn, fdivE, tmodE, tdivE, decT, decF, beqT, beqF, bneT, bneF, Int.toNat_natCast]; try simp only [go_sem]) | (refine ev_condTb rfl ?_ ?_; · (simp <;> omega)) | (refine ev_condFb rfl ?_ ?_; · (simp <;> omega)) | ((first | refine ev_region ?_ | refine evr_go rfl ?_ | refine evw_go rfl ?_ | refine ev_dr0 mixed rfl (by kernel_rfl) ?_ | refine ev_dr1 mixed rfl (by kernel_rfl) ?_ | refine ev_dr2 mixed rfl (by kernel_rfl) ?_); simp only [go_sem]))
  refine ret m_tup_ok [] ?_; (first | (simp only [go_sem]; done) | (simp only [go_sem]; ((try dsimp only); (repeat' (refine And.intro ?_ ?_)) <;> first | with_reducible rfl | (simp only [go_sem]; done) | (simp only [go_sem]; rfl) | (simp only []; (try simp only [go_sem]); first | done | rfl) | (simp only [go_sem]; simp []; done) | (simp []; done) | rfl)))
/-- Indices as numbers. -/
def nI (L : List Nat) : List Int := L.map fun n : Nat => (n : Int)
theorem nI_len (L : List Nat) : (nI L).length = L.length := by simp [nI]
theorem nI_at {L : List Nat} {k : Nat} (h : k < L.length) : (nI L)[k]! = (L[k]! : Int) := by simp [nI, h]
theorem nI_app (L M : List Nat) : nI (L ++ M) = nI L ++ nI M := by simp [nI]
theorem dif_snoc {x y : List Int} {L : List Nat} {q : Nat} (h : q < L.length) : dif x y (L.take (q + 1)) = if x[L[q]!]! = y[L[q]!]! then dif x y (L.take q) else dif x y (L.take q) ++ [L[q]!] := by
  rw [take_snoc h]
  unfold dif
  rw [List.filter_append]
  by_cases c : x[L[q]!]! = y[L[q]!]!
  · rw [if_pos c, List.filter_cons_of_neg (by show ¬ (decide (_ ≠ _) = true); rw [decF (fun h => h c)]; exact Bool.false_ne_true), List.filter_nil, List.append_nil]
  · rw [if_neg c, List.filter_cons_of_pos (by show decide (_ ≠ _) = true; exact decT c), List.filter_nil]
theorem dif_nil (x y : List Int) : dif x y [] = [] := rfl
theorem chl_nil (w : Nat) : chl w [] = [] := rfl
theorem dst_zero (l m : List Int) : dst l m 0 = ([0], 0) := rfl
theorem nI_one : i64s (nI [0]) = [V.int .i64 0] := rfl
theorem nI_nil : nI [] = [] := rfl
theorem nI_snoc (L : List Nat) (x : Nat) : i64s (nI L) ++ [V.int .i64 (x : Int)] = i64s (nI (L ++ [x])) := by simp [nI]
theorem ch1_lt {w i p : Nat} : p < (ch1 w i).length ↔ p ≤ 1 ∧ 2 * i + p < w := by
  unfold ch1
  split <;> split <;> simp <;> omega
theorem ch1_at {w i p : Nat} (h : p < (ch1 w i).length) : (ch1 w i)[p]! = 2 * i + p := by
  have h' := ch1_lt.1 h
  have hp : p = 0 ∨ p = 1 := by omega
  unfold ch1
  rcases hp with rfl | rfl
  · rw [if_pos (by omega)]; rfl
  · rw [if_pos (by omega), if_pos (by omega)]; rfl
theorem ch1_le (w i : Nat) : (ch1 w i).length ≤ 2 := by unfold ch1; split <;> split <;> simp
theorem dif_le {x y : List Int} (L : List Nat) (q : Nat) : (dif x y (L.take q)).length ≤ L.length := by
  have := List.length_filter_le (fun i => decide (x[i]! ≠ y[i]!)) (L.take q)
  rw [List.length_take] at this
  unfold dif
  omega
theorem chl_snoc {w : Nat} {d : List Nat} {q : Nat} (h : q < d.length) : chl w (d.take (q + 1)) = chl w (d.take q) ++ ch1 w d[q]! := by
  rw [take_snoc h]
  unfold chl
  rw [List.flatMap_append]
  simp
theorem dst_succ (l m : List Int) (p : Nat) : dst l m (p + 1) = (chl (lev l (dep l.length - p - 1)).length (dif (lev l (dep l.length - p)) (lev m (dep l.length - p)) (dst l m p).1), (dst l m p).2 + (dst l m p).1.length) := rfl
theorem dst_small {l m : List Int} (h1 : 1 ≤ l.length) (h2 : l.length ≤ 20) : ∀ {p : Nat}, p ≤ dep l.length → (dst l m p).2 ≤ 20 * p
  | 0, _ => Nat.le_refl _
  | p + 1, hp => by
    have := dst_small h1 h2 (m := m) (p := p) (by omega)
    have := (dst_asc (m := m) h1 h2 (p := p) (by omega)).len
    have := hl_le h1 (dep l.length - p)
    rw [dst_two]; omega
theorem dif_i0 (x y : List Int) (L : List Nat) : ([] : List V) = i64s (nI (dif x y (L.take 0))) := rfl
theorem dif_l0 (x y : List Int) (L : List Nat) : 0 = (dif x y (L.take 0)).length := rfl
attribute [local irreducible] nI dif chl dst ch1 dres dnum
set_option maxHeartbeats 32000000 in
set_option maxRecDepth 100000 in
theorem differ_fn (l m : List Int) (h1 : 1 ≤ l.length) (h2 : l.length ≤ 20) (hm : m.length = l.length) : Fnc Try.prog 30 [trV (bld l), trV (bld m)] (fun x obs => x = .tup [.sl false 1 (i64s (nI (dres l m))), .int .i64 (dnum l m), .int .i64 0] ∧ obs = []) := by
  refine Fnc.low ?_
  have hv := tval_fn (bld l)
  rw [vld_bld h1 h2] at hv
  have hv' := tval_fn (bld m)
  rw [vld_bld (by omega) (by omega)] at hv'
  have hl := bld_len l
  have hz := bld_zero l
  have hl' := bld_len m
  have hz' := bld_zero m
  rw [hm] at hl'
  have h5 := dep_le l.length
  refine Fnc.intro m_differ_ok (by simp) fun W S => ?_
  unfold m_differ
  simp only [ents, Nat.zero_add, Nat.reduceAdd]
  refine zst ?_
  (first | refine callD (hv) ?_ | refine callDw (hv) ?_); simp only [go_sem]
  refine zst ?_
  (first | refine callD (hv') ?_ | refine callDw (hv') ?_); refine zev ?_
  repeat (first | (simp only [hz, hz']; try simp only [go_sem]) | refine And.intro (by omega) ?_ | refine And.intro rfl ?_ | refine ev_ctl rfl rfl ?_ | refine evr_nil ?_ | refine evw_nil (by kernel_rfl) ?_ | (simp (disch := omega) only [takeAll, Nat.min_eq_left, Nat.min_eq_right, if_pos, if_neg, getD_map, wrapI64, modIn, fdivE, tmodE, tdivE, decT, decF, beqT, beqF, bneT, bneF, Int.toNat_natCast]; try simp only [go_sem]) | (refine ev_condTb rfl ?_ ?_; · (simp <;> omega)) | (refine ev_condFb rfl ?_ ?_; · (simp <;> omega)) | ((first | refine ev_region ?_ | refine evr_go rfl ?_ | refine evw_go rfl ?_ | refine ev_dr0 mixed rfl (by kernel_rfl) ?_ | refine ev_dr1 mixed rfl (by kernel_rfl) ?_ | refine ev_dr2 mixed rfl (by kernel_rfl) ?_); simp only [go_sem]))
  refine ev_freeze 8 rfl rfl ?_
  have e0 : [V.int .i64 0] = i64s (nI (dst l m 0).1) := by rw [dst_zero]; exact nI_one.symm
  have e1 : ((dst l m 0).2 : Int) = 0 := by rw [dst_zero]; rfl
  have e2 : ((bld l).length : Int) - 1 = ((dep l.length - 0 : Nat) : Int) := by omega
  refine ev_loopK [2, 3] (fun p : {p : Nat // p ≤ dep l.length} => [(7, .int .i64 ((dst l m p.1).2 : Nat)), (8, .sl true 1 (i64s (nI (dst l m p.1).1))), (9, .int .i64 ((dep l.length - p.1 : Nat) : Int))]) (fun _ => [⟨.box false 57, true, 0, trV (bld l)⟩, ⟨.box false 57, true, 0, trV (bld m)⟩]) (fun p => dep l.length - p.1) (⟨0, by simp⟩) 2 (by simp only [go_sem]; rfl) ?_ (by first | rfl | (simp only [go_sem]; done) | (simp only [go_sem]; simp [e0, e1, e2]; done)) (by simp) (by first | rfl | (simp only [go_sem]; done)) (by first | rfl | (simp only [go_sem]; done)) (by first | rfl | (simp only [go_sem]; done) | (simp only [e0, e1, e2]; (try simp only [go_sem]); first | done | rfl)) ?_
  · (simp only [go_sem]; (try simp [e0, e1, e2]); done)
  intro J hJ
  rintro ⟨p, hp⟩
  have ha := dst_asc (m := m) h1 h2 hp
  have hL := ha.len
  have hlK := bld_at l (k := dep l.length - p) (by omega)
  have hmK := bld_at m (k := dep l.length - p) (by rw [hm]; omega)
  have hlw := lev_len l (dep l.length - p)
  have hmw := lev_len m (dep l.length - p)
  rw [hm] at hmw
  obtain ⟨K, hK⟩ : ∃ K, dep l.length - p = K := ⟨_, rfl⟩
  rw [hK] at hlK hmK hlw hmw ha hL
  have hres : p = dep l.length → dres l m = dif (lev l K) (lev m K) (dst l m p).1 ∧ (dnum l m : Int) = (dst l m p).2 + (dst l m p).1.length := fun e => by
    subst e
    obtain rfl : K = 0 := by omega
    exact ⟨dres_eq l m, by rw [dnum_eq, Int.natCast_add]⟩
  have hnx : dst l m (p + 1) = (chl (lev l (K - 1)).length (dif (lev l K) (lev m K) (dst l m p).1), (dst l m p).2 + (dst l m p).1.length) := by
    rw [← hK]; exact dst_succ l m p
  have hn : (dst l m p).2 ≤ 100 := Nat.le_trans (dst_small h1 h2 hp) (by omega)
  generalize dst l m p = r at ha hL hres hnx hn
  obtain ⟨L, n⟩ := r
  dsimp only at ha hL hres hnx hn ⊢
  rw [hK]
  have hle := hl_le h1 K
  have hLl : (nI L).length = L.length := nI_len L
  have hJ0 := hJ
  refine zst ?_
  refine ev_adopt (i := 10) (e := 3) (s := 1) rfl (by decide) ?_
  refine zst ?_
  refine ev_loopK [2, 3, 9, 46, 47] (fun q : {q : Nat // q ≤ L.length} => [(7, .int .i64 ((n : Int) + q.1)), (10, .own 2 (dif (lev l K) (lev m K) (L.take q.1)).length), (48, .int .i64 q.1)]) (fun q => [⟨.box false 57, true, 0, trV (bld l)⟩, ⟨.box false 57, true, 0, trV (bld m)⟩, ⟨.row 3, true, (dif (lev l K) (lev m K) (L.take q.1)).length, .arr 1 (i64s (nI (dif (lev l K) (lev m K) (L.take q.1))))⟩]) (fun q => L.length - q.1) (⟨0, by simp⟩) 3 (by simp only [go_sem]; rfl) ?_ (by first | rfl | (simp only [go_sem]; done) | (simp only [go_sem]; simp [dif_nil, nI_nil]; done)) (by simp) (by first | rfl | (simp only [go_sem]; done)) (by first | rfl | (simp only [go_sem]; done)) (by first | rfl | (simp only [go_sem]; done) | (simp only [dif_nil, nI_nil]; (try simp only [go_sem]); first | done | rfl)) ?_
  · (simp only [go_sem]; (try simp [dif_nil, nI_nil]); done)
  intro J hJ
  rintro ⟨q, hq⟩
  by_cases hlt : q < L.length
  · have hx := nI_at (L := L) (k := q) hlt
    have hd := dif_snoc (x := lev l K) (y := lev m K) (L := L) (q := q) hlt
    have hi := ha.2 L[q]! (mem_at hlt)
    have hdl := dif_le (x := lev l K) (y := lev m K) L q
    obtain ⟨i, hiq⟩ : ∃ i, L[q]! = i := ⟨_, rfl⟩
    rw [hiq] at hx hd hi
    by_cases c : (lev l K)[i]! = (lev m K)[i]!
    · rw [if_pos c] at hd
      repeat (first | (simp only [hx, hlK, hmK]; try simp only [go_sem]) | refine And.intro (by omega) ?_ | refine And.intro rfl ?_ | refine ev_ctl rfl rfl ?_ | refine evr_nil ?_ | refine evw_nil (by kernel_rfl) ?_ | (simp (disch := omega) only [takeAll, Nat.min_eq_left, Nat.min_eq_right, if_pos, if_neg, getD_map, wrapI64, modIn, fdivE, tmodE, tdivE, decT, decF, beqT, beqF, bneT, bneF, Int.toNat_natCast]; try simp only [go_sem]) | (refine ev_condTb rfl ?_ ?_; · (simp <;> omega)) | (refine ev_condFb rfl ?_ ?_; · (simp <;> omega)) | ((first | refine ev_region ?_ | refine evr_go rfl ?_ | refine evw_go rfl ?_ | refine ev_dr0 mixed rfl (by kernel_rfl) ?_ | refine ev_dr1 mixed rfl (by kernel_rfl) ?_ | refine ev_dr2 mixed rfl (by kernel_rfl) ?_); simp only [go_sem]))
      refine ev_next 3 (hJ _ (⟨q + 1, hlt⟩) (by first | omega | (dsimp only; omega) | (simp; omega))) rfl (by simp) ?_ (by first | rfl | (simp only [go_sem]; done)) (by first | rfl | (simp only [go_sem]; done) | (simp only [hd, Int.natCast_add]; (try simp only [go_sem]); first | done | rfl)) ?_
      · (first | rfl | (simp only [go_sem]; done) | (simp only [go_sem]; simp only [hd, Int.natCast_add]; done) | (simp only [hd, Int.natCast_add]; done) | (simp only [go_sem]; simp [hd, Int.natCast_add]; done) | (simp [hd, Int.natCast_add]; done))
      · (simp only [go_sem]; (repeat' (refine And.intro ?_ ?_)) <;> first | exact trivial | with_reducible rfl | (simp only [hd, Int.natCast_add]; done) | (simp only [hd, Int.natCast_add]; with_reducible rfl) | (simp [hd, Int.natCast_add]; done) | (simp [hd, Int.natCast_add]; omega) | (simp only [hd, Int.natCast_add]; rfl) | skip)
    · rw [if_neg c] at hd
      have hs := nI_snoc (dif (lev l K) (lev m K) (L.take q)) i
      have hnl := nI_len (dif (lev l K) (lev m K) (L.take q))
      repeat (first | (simp only [hx, hlK, hmK]; try simp only [go_sem]) | refine And.intro (by omega) ?_ | refine And.intro rfl ?_ | refine ev_ctl rfl rfl ?_ | refine evr_nil ?_ | refine evw_nil (by kernel_rfl) ?_ | (simp (disch := omega) only [takeAll, Nat.min_eq_left, Nat.min_eq_right, if_pos, if_neg, getD_map, wrapI64, modIn, fdivE, tmodE, tdivE, decT, decF, beqT, beqF, bneT, bneF, Int.toNat_natCast]; try simp only [go_sem]) | (refine ev_condTb rfl ?_ ?_; · (simp <;> omega)) | (refine ev_condFb rfl ?_ ?_; · (simp <;> omega)) | ((first | refine ev_region ?_ | refine evr_go rfl ?_ | refine evw_go rfl ?_ | refine ev_dr0 mixed rfl (by kernel_rfl) ?_ | refine ev_dr1 mixed rfl (by kernel_rfl) ?_ | refine ev_dr2 mixed rfl (by kernel_rfl) ?_); simp only [go_sem]))
      refine ev_next 3 (hJ _ (⟨q + 1, hlt⟩) (by first | omega | (dsimp only; omega) | (simp; omega))) rfl (by simp) ?_ (by first | rfl | (simp only [go_sem]; done)) (by first | rfl | (simp only [go_sem]; done) | (simp only [hd, hs, Int.natCast_add]; (try simp only [go_sem]); first | done | rfl)) ?_
      · (first | rfl | (simp only [go_sem]; done) | (simp only [go_sem]; simp only [hd, hs, Int.natCast_add]; done) | (simp only [hd, hs, Int.natCast_add]; done) | (simp only [go_sem]; simp [hd, hs, Int.natCast_add]; done) | (simp [hd, hs, Int.natCast_add]; done))
      · (simp only [go_sem]; (repeat' (refine And.intro ?_ ?_)) <;> first | exact trivial | with_reducible rfl | (simp only [hd, hs, Int.natCast_add]; done) | (simp only [hd, hs, Int.natCast_add]; with_reducible rfl) | (simp [hd, hs, Int.natCast_add]; done) | (simp [hd, hs, Int.natCast_add]; omega) | (simp only [hd, hs, Int.natCast_add]; rfl) | skip)
  · obtain rfl : q = L.length := by omega
    rw [List.take_length]
    have hJ := hJ0
    repeat (first | refine ev_seq ?_ | refine ev_block ?_ | refine ev_skip ?_ | refine ev_inBlock ?_ | refine evr_nil ?_ | refine evw_nil (by kernel_rfl) ?_ | refine ev_exit rfl ?_ | refine ev_round ?_ | refine ev_condT rfl ?_ | refine ev_condF rfl ?_ | refine ev_condTb rfl (by first | exact decT (by omega) | exact beqT (by omega) | exact bneT (by omega) | exact notT (decF (by omega)) | exact notT (beqF (by omega))) ?_ | refine ev_condFb rfl (by first | exact decF (by omega) | exact beqF (by omega) | exact bneF (by omega) | exact notF (decT (by omega)) | exact notF (beqT (by omega))) ?_)
    refine ev_freeze 10 rfl rfl ?_
    by_cases cK : K = 0
    · obtain ⟨r1, r2⟩ := hres (by omega)
      refine zst ?_
      refine ret m_differ_ok [] ?_; (first | (simp only [go_sem]; done) | (simp only [go_sem]; ((try dsimp only); (repeat' (refine And.intro ?_ ?_)) <;> first | with_reducible rfl | (simp only [go_sem]; done) | (simp only [go_sem]; rfl) | (simp only [go_sem, r1, r2]; done) | (simp only [r1, r2]; (try simp only [go_sem]); first | done | rfl) | (simp only [go_sem]; simp [r1, r2]; done) | (simp [r1, r2]; done) | rfl)))
    · have hwK := bld_at l (k := K - 1) (by omega)
      have hcK : ((K : Int) - 1).toNat = K - 1 := by omega
      have hK1 : (K : Int) - 1 = ((dep l.length - (p + 1) : Nat) : Int) := by omega
      obtain ⟨w, hw⟩ : ∃ w, (lev l (K - 1)).length = w := ⟨_, rfl⟩
      have hw20 := lev_len l (K - 1)
      have hle1 := hl_le h1 (K - 1)
      rw [hw] at hnx hw20
      have had := ha.dif (lev l K) (lev m K)
      obtain ⟨D, hD⟩ : ∃ D, dif (lev l K) (lev m K) L = D := ⟨_, rfl⟩
      rw [hD] at hnx had ⊢
      have hDl := nI_len D
      have hD20 := had.len
      have hJ1 := hJ
      refine zst ?_
      refine ev_adopt (i := 8) (e := 3) (s := 1) rfl (by decide) ?_
      refine ev_loopK [2, 3, 7, 9, 80, 81] (fun q : {q : Nat // q ≤ D.length} => [(8, .own 3 (chl w (D.take q.1)).length), (82, .int .i64 q.1)]) (fun q => [⟨.box false 57, true, 0, trV (bld l)⟩, ⟨.box false 57, true, 0, trV (bld m)⟩, ⟨.row 3, false, D.length, .arr 1 (i64s (nI D))⟩, ⟨.row 3, true, (chl w (D.take q.1)).length, .arr 1 (i64s (nI (chl w (D.take q.1))))⟩]) (fun q => D.length - q.1) (⟨0, by simp⟩) 4 (by simp only [go_sem]; rfl) ?_ (by first | rfl | (simp only [go_sem]; done) | (simp only [go_sem]; simp [chl_nil, nI_nil]; done)) (by simp) (by first | rfl | (simp only [go_sem]; done)) (by first | rfl | (simp only [go_sem]; done)) (by first | rfl | (simp only [go_sem]; done) | (simp only [chl_nil, nI_nil]; (try simp only [go_sem]); first | done | rfl)) ?_
      · (simp only [go_sem]; (try simp [chl_nil, nI_nil]); done)
      intro J hJ
      rintro ⟨q, hq⟩
      by_cases hlt : q < D.length
      · have hx := nI_at (L := D) (k := q) hlt
        have hs := chl_snoc (w := w) hlt
        have hi := had.2 D[q]! (mem_at hlt)
        obtain ⟨i, hiq⟩ : ∃ i, D[q]! = i := ⟨_, rfl⟩
        rw [hiq] at hx hs hi
        have hc2 := ch1_le w i
        have hcl := chl_len w (D.take q)
        rw [List.length_take] at hcl
        have hJ2 := hJ
        repeat (first | (simp only [hx]; try simp only [go_sem]) | refine And.intro (by omega) ?_ | refine And.intro rfl ?_ | refine ev_ctl rfl rfl ?_ | refine evr_nil ?_ | refine evw_nil (by kernel_rfl) ?_ | (simp (disch := omega) only [takeAll, Nat.min_eq_left, Nat.min_eq_right, if_pos, if_neg, getD_map, wrapI64, modIn, fdivE, tmodE, tdivE, decT, decF, beqT, beqF, bneT, bneF, Int.toNat_natCast]; try simp only [go_sem]) | (refine ev_condTb rfl ?_ ?_; · (simp <;> omega)) | (refine ev_condFb rfl ?_ ?_; · (simp <;> omega)) | ((first | refine ev_region ?_ | refine evr_go rfl ?_ | refine evw_go rfl ?_ | refine ev_dr0 mixed rfl (by kernel_rfl) ?_ | refine ev_dr1 mixed rfl (by kernel_rfl) ?_ | refine ev_dr2 mixed rfl (by kernel_rfl) ?_); simp only [go_sem]))
        have z1 : chl w (D.take q) = chl w (D.take q) ++ (ch1 w i).take 0 := by simp
        refine ev_loopK [2, 3, 7, 9, 14, 80, 81, 82] (fun e : {e : Nat // e ≤ (ch1 w i).length} => [(8, .own 3 (chl w (D.take q) ++ (ch1 w i).take e.1).length), (15, .int .i64 (2 * (i : Int) + e.1))]) (fun e => [⟨.box false 57, true, 0, trV (bld l)⟩, ⟨.box false 57, true, 0, trV (bld m)⟩, ⟨.row 3, false, D.length, .arr 1 (i64s (nI D))⟩, ⟨.row 3, true, (chl w (D.take q) ++ (ch1 w i).take e.1).length, .arr 1 (i64s (nI (chl w (D.take q) ++ (ch1 w i).take e.1)))⟩]) (fun e => (ch1 w i).length - e.1) (⟨0, by simp⟩) 4 (by simp only [go_sem]; rfl) ?_ (by first | rfl | (simp only [go_sem]; done) | (simp only [go_sem]; simp [List.append_nil, List.take_zero]; done)) (by simp) (by first | rfl | (simp only [go_sem]; done)) (by first | rfl | (simp only [go_sem]; done)) (by first | rfl | (simp only [go_sem]; done) | (simp only [List.append_nil, List.take_zero]; (try simp only [go_sem]); first | done | rfl)) ?_
        · (simp only [go_sem]; (try simp [List.append_nil, List.take_zero]); done)
        intro J hJ
        rintro ⟨e, he⟩
        have hel := ch1_lt (w := w) (i := i) (p := e)
        by_cases hlt2 : e < (ch1 w i).length
        · have hel := hel.1 hlt2
          have hat := ch1_at hlt2
          have htk := take_snoc hlt2
          rw [hat] at htk
          have hns := nI_snoc (chl w (D.take q) ++ (ch1 w i).take e) (2 * i + e)
          rw [List.append_assoc, ← htk, show ((2 * i + e : Nat) : Int) = 2 * (i : Int) + e by omega] at hns
          have hnl := nI_len (chl w (D.take q) ++ (ch1 w i).take e)
          have hgl : (chl w (D.take q) ++ (ch1 w i).take (e + 1)).length = (chl w (D.take q) ++ (ch1 w i).take e).length + 1 := by rw [htk, ← List.append_assoc, List.length_append (bs := [_])]; rfl
          have h15 : 2 * (i : Int) + (e : Int) + 1 = 2 * (i : Int) + ((e + 1 : Nat) : Int) := by omega
          have hnl2 : (chl w (D.take q) ++ (ch1 w i).take e).length ≤ 100 := by rw [List.length_append, List.length_take]; omega
          repeat (first | (simp only [hcK, hwK, hw]; try simp only [go_sem]) | refine And.intro (by omega) ?_ | refine And.intro rfl ?_ | refine ev_ctl rfl rfl ?_ | refine evr_nil ?_ | refine evw_nil (by kernel_rfl) ?_ | (simp (disch := omega) only [takeAll, Nat.min_eq_left, Nat.min_eq_right, if_pos, if_neg, getD_map, wrapI64, modIn, fdivE, tmodE, tdivE, decT, decF, beqT, beqF, bneT, bneF, Int.toNat_natCast]; try simp only [go_sem]) | (refine ev_condTb rfl ?_ ?_; · (simp <;> omega)) | (refine ev_condFb rfl ?_ ?_; · (simp <;> omega)) | ((first | refine ev_region ?_ | refine evr_go rfl ?_ | refine evw_go rfl ?_ | refine ev_dr0 mixed rfl (by kernel_rfl) ?_ | refine ev_dr1 mixed rfl (by kernel_rfl) ?_ | refine ev_dr2 mixed rfl (by kernel_rfl) ?_); simp only [go_sem]))
          refine ev_next 4 (hJ _ (⟨e + 1, hlt2⟩) (by first | omega | (dsimp only; omega) | (simp; omega))) rfl (by simp) ?_ (by first | rfl | (simp only [go_sem]; done)) (by first | rfl | (simp only [go_sem]; done) | (simp only [hns, hgl, h15, Nat.min_eq_left he]; (try simp only [go_sem]); first | done | rfl)) ?_
          · (first | rfl | (simp only [go_sem]; done) | (simp only [go_sem]; simp only [hns, hgl, h15, Nat.min_eq_left he]; done) | (simp only [hns, hgl, h15, Nat.min_eq_left he]; done) | (simp only [go_sem]; simp [hns, hgl, h15, Nat.min_eq_left he]; done) | (simp [hns, hgl, h15, Nat.min_eq_left he]; done))
          · (simp only [go_sem]; (repeat' (refine And.intro ?_ ?_)) <;> first | exact trivial | with_reducible rfl | (simp only [hns, hgl, h15, Nat.min_eq_left he]; done) | (simp only [hns, hgl, h15, Nat.min_eq_left he]; with_reducible rfl) | (simp [hns, hgl, h15, Nat.min_eq_left he]; done) | (simp [hns, hgl, h15, Nat.min_eq_left he]; omega) | (simp only [hns, hgl, h15, Nat.min_eq_left he]; rfl) | skip)
        · have hel : ¬ (e ≤ 1 ∧ 2 * i + e < w) := fun h => hlt2 (hel.2 h)
          obtain rfl : e = (ch1 w i).length := by omega
          dsimp only
          rw [List.take_length, ← hs]
          have hJ := hJ2
          by_cases e1 : (ch1 w i).length ≤ 1
          · skip
            repeat (first | (simp only [hcK, hwK, hw]; try simp only [go_sem]) | refine And.intro (by omega) ?_ | refine And.intro rfl ?_ | refine ev_ctl rfl rfl ?_ | refine evr_nil ?_ | refine evw_nil (by kernel_rfl) ?_ | (simp (disch := omega) only [takeAll, Nat.min_eq_left, Nat.min_eq_right, if_pos, if_neg, getD_map, wrapI64, modIn, fdivE, tmodE, tdivE, decT, decF, beqT, beqF, bneT, bneF, Int.toNat_natCast]; try simp only [go_sem]) | (refine ev_condTb rfl ?_ ?_; · (simp <;> omega)) | (refine ev_condFb rfl ?_ ?_; · (simp <;> omega)) | ((first | refine ev_region ?_ | refine evr_go rfl ?_ | refine evw_go rfl ?_ | refine ev_dr0 mixed rfl (by kernel_rfl) ?_ | refine ev_dr1 mixed rfl (by kernel_rfl) ?_ | refine ev_dr2 mixed rfl (by kernel_rfl) ?_); simp only [go_sem]))
            refine ev_next 4 (hJ _ (⟨q + 1, hlt⟩) (by first | omega | (dsimp only; omega) | (simp; omega))) rfl (by simp) ?_ (by first | rfl | (simp only [go_sem]; done)) (by first | rfl | (simp only [go_sem]; done)) ?_
            · (first | rfl | (simp only [go_sem]; done) | (simp only [go_sem]; simp only []; done) | (simp only []; done) | (simp only [go_sem]; simp []; done) | (simp []; done))
            · (simp only [go_sem]; (repeat' (refine And.intro ?_ ?_)) <;> first | exact trivial | with_reducible rfl | (simp only []; done) | (simp only []; with_reducible rfl) | (simp []; done) | (simp []; omega) | (simp only []; rfl) | skip)
          · skip
            repeat (first | (simp only [hcK, hwK, hw]; try simp only [go_sem]) | refine And.intro (by omega) ?_ | refine And.intro rfl ?_ | refine ev_ctl rfl rfl ?_ | refine evr_nil ?_ | refine evw_nil (by kernel_rfl) ?_ | (simp (disch := omega) only [takeAll, Nat.min_eq_left, Nat.min_eq_right, if_pos, if_neg, getD_map, wrapI64, modIn, fdivE, tmodE, tdivE, decT, decF, beqT, beqF, bneT, bneF, Int.toNat_natCast]; try simp only [go_sem]) | (refine ev_condTb rfl ?_ ?_; · (simp <;> omega)) | (refine ev_condFb rfl ?_ ?_; · (simp <;> omega)) | ((first | refine ev_region ?_ | refine evr_go rfl ?_ | refine evw_go rfl ?_ | refine ev_dr0 mixed rfl (by kernel_rfl) ?_ | refine ev_dr1 mixed rfl (by kernel_rfl) ?_ | refine ev_dr2 mixed rfl (by kernel_rfl) ?_); simp only [go_sem]))
            refine ev_next 4 (hJ _ (⟨q + 1, hlt⟩) (by first | omega | (dsimp only; omega) | (simp; omega))) rfl (by simp) ?_ (by first | rfl | (simp only [go_sem]; done)) (by first | rfl | (simp only [go_sem]; done)) ?_
            · (first | rfl | (simp only [go_sem]; done) | (simp only [go_sem]; simp only []; done) | (simp only []; done) | (simp only [go_sem]; simp []; done) | (simp []; done))
            · (simp only [go_sem]; (repeat' (refine And.intro ?_ ?_)) <;> first | exact trivial | with_reducible rfl | (simp only []; done) | (simp only []; with_reducible rfl) | (simp []; done) | (simp []; omega) | (simp only []; rfl) | skip)
      · obtain rfl : q = D.length := by omega
        rw [List.take_length]
        have hJ := hJ1
        repeat (first | refine ev_seq ?_ | refine ev_block ?_ | refine ev_skip ?_ | refine ev_inBlock ?_ | refine evr_nil ?_ | refine evw_nil (by kernel_rfl) ?_ | refine ev_exit rfl ?_ | refine ev_round ?_ | refine ev_condT rfl ?_ | refine ev_condF rfl ?_ | refine ev_condTb rfl (by first | exact decT (by omega) | exact beqT (by omega) | exact bneT (by omega) | exact notT (decF (by omega)) | exact notT (beqF (by omega))) ?_ | refine ev_condFb rfl (by first | exact decF (by omega) | exact beqF (by omega) | exact bneF (by omega) | exact notF (decT (by omega)) | exact notF (beqT (by omega))) ?_)
        refine ev_freeze 8 rfl rfl ?_
        refine zst ?_
        refine ev_next 2 (hJ _ (⟨p + 1, by omega⟩) (by first | omega | (dsimp only; omega) | (simp; omega))) rfl (by simp) ?_ (by first | rfl | (simp only [go_sem]; done)) (by first | rfl | (simp only [go_sem]; done) | (simp only [hnx, hK1, Int.natCast_add]; (try simp only [go_sem]); first | done | rfl)) ?_
        · (first | rfl | (simp only [go_sem]; done) | (simp only [go_sem]; simp only [hnx, hK1, Int.natCast_add]; done) | (simp only [hnx, hK1, Int.natCast_add]; done) | (simp only [go_sem]; simp [hnx, hK1, Int.natCast_add]; done) | (simp [hnx, hK1, Int.natCast_add]; done))
        · (simp only [go_sem]; (repeat' (refine And.intro ?_ ?_)) <;> first | exact trivial | with_reducible rfl | (simp only [hnx, hK1, Int.natCast_add]; done) | (simp only [hnx, hK1, Int.natCast_add]; with_reducible rfl) | (simp [hnx, hK1, Int.natCast_add]; done) | (simp [hnx, hK1, Int.natCast_add]; omega) | (simp only [hnx, hK1, Int.natCast_add]; rfl) | skip)
end Go.Proofs.Ytcphobeommkgeaa
