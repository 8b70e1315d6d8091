/- Journals: a note's bytes. -/
import Derived.Test.YtdjjhajkpfiagaaJ2
namespace Go.Proofs.Ytdjjhajkpfiagaa
open Go Go.RowKit Rdn Rdn.Dp
set_option linter.unusedVariables false
set_option linter.unusedSimpArgs false
def m_wchk : MC := .seq (.reg [⟨(some 1), none, (.m (.box 34 (.t 0)))⟩, ⟨(some 2), none, (.p (.mov (.c (.int .i64 0))))⟩])
 (.seq (.seq (.reg [⟨(some 3), none, (.p (.fieldA 0 0 (.t 1)))⟩, ⟨(some 4), none, (.p (.load false 1 (.t 3)))⟩, ⟨(some 5), none, (.p (.bin 0 .lss (.t 4) (.c (.int .i64 1))))⟩, ⟨(some 6), none, (.p (.mov (.t 5)))⟩, ⟨(some 7), (some (6, false)), (.p (.fieldA 0 0 (.t 1)))⟩, ⟨(some 8), (some (6, false)), (.p (.load false 1 (.t 7)))⟩, ⟨(some 9), (some (6, false)), (.p (.bin 0 .gtr (.t 8) (.c (.int .i64 6))))⟩, ⟨(some 10), none, (.p (.pick (.t 6) (.c (.bool true)) (.t 9)))⟩, ⟨(some 11), none, (.p (.mov (.t 10)))⟩, ⟨(some 12), (some (11, false)), (.p (.fieldA 2 2 (.t 1)))⟩, ⟨(some 13), (some (11, false)), (.p (.load false 1 (.t 12)))⟩, ⟨(some 14), (some (11, false)), (.p (.bin 0 .lss (.t 13) (.c (.int .i64 0))))⟩, ⟨(some 15), none, (.p (.pick (.t 11) (.c (.bool true)) (.t 14)))⟩, ⟨(some 16), none, (.p (.mov (.t 15)))⟩, ⟨(some 17), (some (16, false)), (.p (.fieldA 2 2 (.t 1)))⟩, ⟨(some 18), (some (16, false)), (.p (.load false 1 (.t 17)))⟩, ⟨(some 19), (some (16, false)), (.p (.bin 0 .gtr (.t 18) (.c (.int .i64 255))))⟩, ⟨(some 20), none, (.p (.pick (.t 16) (.c (.bool true)) (.t 19)))⟩, ⟨(some 21), none, (.p (.mov (.t 20)))⟩, ⟨(some 22), (some (21, false)), (.p (.fieldA 1 1 (.t 1)))⟩, ⟨(some 23), (some (21, false)), (.p (.load false 1 (.t 22)))⟩, ⟨(some 24), (some (21, false)), (.p (.bin 0 .lss (.t 23) (.c (.int .i64 0))))⟩, ⟨(some 25), none, (.p (.pick (.t 21) (.c (.bool true)) (.t 24)))⟩, ⟨(some 26), none, (.p (.mov (.t 25)))⟩, ⟨(some 27), (some (26, false)), (.p (.fieldA 1 1 (.t 1)))⟩, ⟨(some 28), (some (26, false)), (.p (.load false 1 (.t 27)))⟩, ⟨(some 29), (some (26, false)), (.p (.bin 0 .gtr (.t 28) (.c (.int .i64 4294967295))))⟩, ⟨(some 30), none, (.p (.pick (.t 26) (.c (.bool true)) (.t 29)))⟩])
 (.cond (.t 30) (.seq (.reg [⟨(some 2), none, (.p (.mov (.c (.int .i64 1))))⟩])
 (.ret)) (.skip)))
 (.seq (.seq (.reg [⟨(some 31), none, (.p (.fieldA 3 3 (.t 1)))⟩, ⟨(some 32), none, (.p (.load false 1 (.t 31)))⟩, ⟨(some 33), none, (.p (.len (.t 32)))⟩, ⟨(some 34), none, (.p (.bin 0 .gtr (.t 33) (.c (.int .i64 4000))))⟩])
 (.cond (.t 34) (.seq (.reg [⟨(some 2), none, (.p (.mov (.c (.int .i64 3))))⟩])
 (.ret)) (.skip)))
 (.seq (.reg [⟨(some 2), none, (.p (.mov (.c (.int .i64 0))))⟩])
 (.ret))))
theorem m_wchk_ok : compF Try.prog 19 = some (35, m_wchk, [.mov (.t 2)]) := by kernel_rfl
def m_rchk : MC := .seq (.reg [⟨(some 1), none, (.m (.box 34 (.t 0)))⟩, ⟨(some 2), none, (.p (.mov (.c (.int .i64 0))))⟩])
 (.seq (.seq (.reg [⟨(some 3), none, (.p (.fieldA 0 0 (.t 1)))⟩, ⟨(some 4), none, (.p (.load false 1 (.t 3)))⟩, ⟨(some 5), none, (.p (.bin 0 .lss (.t 4) (.c (.int .i64 1))))⟩, ⟨(some 6), none, (.p (.mov (.t 5)))⟩, ⟨(some 7), (some (6, false)), (.p (.fieldA 0 0 (.t 1)))⟩, ⟨(some 8), (some (6, false)), (.p (.load false 1 (.t 7)))⟩, ⟨(some 9), (some (6, false)), (.p (.bin 0 .gtr (.t 8) (.c (.int .i64 6))))⟩, ⟨(some 10), none, (.p (.pick (.t 6) (.c (.bool true)) (.t 9)))⟩, ⟨(some 11), none, (.p (.mov (.t 10)))⟩, ⟨(some 12), (some (11, false)), (.p (.fieldA 2 2 (.t 1)))⟩, ⟨(some 13), (some (11, false)), (.p (.load false 1 (.t 12)))⟩, ⟨(some 14), (some (11, false)), (.p (.bin 0 .lss (.t 13) (.c (.int .i64 0))))⟩, ⟨(some 15), none, (.p (.pick (.t 11) (.c (.bool true)) (.t 14)))⟩, ⟨(some 16), none, (.p (.mov (.t 15)))⟩, ⟨(some 17), (some (16, false)), (.p (.fieldA 2 2 (.t 1)))⟩, ⟨(some 18), (some (16, false)), (.p (.load false 1 (.t 17)))⟩, ⟨(some 19), (some (16, false)), (.p (.bin 0 .gtr (.t 18) (.c (.int .i64 255))))⟩, ⟨(some 20), none, (.p (.pick (.t 16) (.c (.bool true)) (.t 19)))⟩, ⟨(some 21), none, (.p (.mov (.t 20)))⟩, ⟨(some 22), (some (21, false)), (.p (.fieldA 1 1 (.t 1)))⟩, ⟨(some 23), (some (21, false)), (.p (.load false 1 (.t 22)))⟩, ⟨(some 24), (some (21, false)), (.p (.bin 0 .lss (.t 23) (.c (.int .i64 0))))⟩, ⟨(some 25), none, (.p (.pick (.t 21) (.c (.bool true)) (.t 24)))⟩, ⟨(some 26), none, (.p (.mov (.t 25)))⟩, ⟨(some 27), (some (26, false)), (.p (.fieldA 1 1 (.t 1)))⟩, ⟨(some 28), (some (26, false)), (.p (.load false 1 (.t 27)))⟩, ⟨(some 29), (some (26, false)), (.p (.bin 0 .geq (.t 28) (.c (.int .i64 4294967296))))⟩, ⟨(some 30), none, (.p (.pick (.t 26) (.c (.bool true)) (.t 29)))⟩])
 (.cond (.t 30) (.seq (.reg [⟨(some 2), none, (.p (.mov (.c (.int .i64 1))))⟩])
 (.ret)) (.skip)))
 (.seq (.seq (.reg [⟨(some 31), none, (.p (.fieldA 3 3 (.t 1)))⟩, ⟨(some 32), none, (.p (.load false 1 (.t 31)))⟩, ⟨(some 33), none, (.p (.len (.t 32)))⟩, ⟨(some 34), none, (.p (.bin 0 .gtr (.t 33) (.c (.int .i64 4000))))⟩])
 (.cond (.t 34) (.seq (.reg [⟨(some 2), none, (.p (.mov (.c (.int .i64 3))))⟩])
 (.ret)) (.skip)))
 (.seq (.reg [⟨(some 2), none, (.p (.mov (.c (.int .i64 0))))⟩])
 (.ret))))
theorem m_rchk_ok : compF Try.prog 68 = some (35, m_rchk, [.mov (.t 2)]) := by kernel_rfl
def m_wenc : MC := .seq (.reg [⟨(some 1), none, (.m (.box 34 (.t 0)))⟩, ⟨(some 2), none, (.p (.mov (.c (.nilS))))⟩, ⟨(some 3), none, (.p (.mov (.c (.int .i64 0))))⟩])
 (.seq (.seq (.reg [⟨(some 7), none, (.p (.load true 4 (.t 1)))⟩, ⟨(some 8), none, (.call 19 [(.t 7)])⟩, ⟨(some 4), none, (.p (.mov (.t 8)))⟩])
 (.seq (.reg [⟨(some 9), none, (.p (.mov (.t 4)))⟩, ⟨(some 10), none, (.p (.bin 0 .neq (.t 9) (.c (.int .i64 0))))⟩])
 (.cond (.t 10) (.seq (.reg [⟨(some 11), none, (.p (.mov (.t 4)))⟩, ⟨(some 2), none, (.p (.mov (.c (.nilS))))⟩, ⟨(some 3), none, (.p (.mov (.t 11)))⟩])
 (.ret)) (.skip))))
 (.seq (.reg [⟨(some 12), none, (.p (.fieldA 3 3 (.t 1)))⟩, ⟨(some 13), none, (.p (.load false 1 (.t 12)))⟩, ⟨(some 14), none, (.p (.len (.t 13)))⟩, ⟨(some 15), none, (.p (.bin 0 .add (.c (.int .i64 6)) (.t 14)))⟩, ⟨(some 5), none, (.p (.mov (.t 15)))⟩])
 (.seq (.dreg [⟨(some 16), none, (.p (.mov (.t 5)))⟩, ⟨(some 17), none, (.p (.conv .u8 (.t 16)))⟩, ⟨(some 18), none, (.p (.mov (.t 5)))⟩, ⟨(some 19), none, (.p (.bin 0 .shr (.t 18) (.c (.int .u64 8))))⟩, ⟨(some 20), none, (.p (.conv .u8 (.t 19)))⟩, ⟨(some 21), none, (.p (.fieldA 0 0 (.t 1)))⟩, ⟨(some 22), none, (.p (.load false 1 (.t 21)))⟩, ⟨(some 23), none, (.p (.conv .u8 (.t 22)))⟩, ⟨(some 24), none, (.p (.fieldA 2 2 (.t 1)))⟩, ⟨(some 25), none, (.p (.load false 1 (.t 24)))⟩, ⟨(some 26), none, (.p (.conv .u8 (.t 25)))⟩, ⟨(some 27), none, (.m (.buildS 5 1 (.int .u8 0) 4 [(0, (.t 17)), (1, (.t 20)), (2, (.t 23)), (3, (.t 26))]))⟩, ⟨(some 28), none, (.p (.fieldA 1 1 (.t 1)))⟩, ⟨(some 29), none, (.p (.load false 1 (.t 28)))⟩, ⟨(some 30), none, (.p (.conv .u32 (.t 29)))⟩, ⟨(some 31), none, (.call 45 [(.t 30)])⟩, ⟨(some 32), none, (.p (.fieldA 3 3 (.t 1)))⟩, ⟨(some 33), none, (.p (.load false 1 (.t 32)))⟩, ⟨(some 34), none, (.m (.buildS 29 1 (.nilS) 3 [(0, (.t 27)), (1, (.t 31)), (2, (.t 33))]))⟩, ⟨(some 35), none, (.call 44 [(.t 34)])⟩, ⟨(some 6), none, (.p (.mov (.t 35)))⟩] [[], [0], [], [2], [2, 3], [], [5], [5, 6], [], [8], [8, 9], [0, 1, 2, 3, 4, 5, 6, 7, 8, 9, 10], [], [12], [12, 13], [12, 13, 14], [], [16], [0, 1, 2, 3, 4, 5, 6, 7, 8, 9, 10, 11, 12, 13, 14, 15, 16, 17], [0, 1, 2, 3, 4, 5, 6, 7, 8, 9, 10, 11, 12, 13, 14, 15, 16, 17, 18], [0, 1, 2, 3, 4, 5, 6, 7, 8, 9, 10, 11, 12, 13, 14, 15, 16, 17, 18, 19]])
 (.seq (.reg [⟨(some 36), none, (.p (.mov (.t 6)))⟩, ⟨(some 37), none, (.p (.mov (.t 6)))⟩, ⟨(some 38), none, (.call 46 [(.c (.int .u32 2166136261)), (.t 37)])⟩, ⟨(some 39), none, (.call 45 [(.t 38)])⟩, ⟨(some 40), none, (.m (.buildS 29 1 (.nilS) 2 [(0, (.t 36)), (1, (.t 39))]))⟩, ⟨(some 41), none, (.call 44 [(.t 40)])⟩, ⟨(some 2), none, (.p (.mov (.t 41)))⟩, ⟨(some 3), none, (.p (.mov (.c (.int .i64 0))))⟩])
 (.ret)))))
theorem m_wenc_ok : compF Try.prog 16 = some (42, m_wenc, [.mov (.t 2), .mov (.t 3)]) := by kernel_rfl
def m_renc : MC := .seq (.reg [⟨(some 1), none, (.m (.box 34 (.t 0)))⟩, ⟨(some 2), none, (.p (.mov (.c (.nilS))))⟩, ⟨(some 3), none, (.p (.mov (.c (.int .i64 0))))⟩])
 (.seq (.seq (.reg [⟨(some 8), none, (.p (.load true 4 (.t 1)))⟩, ⟨(some 9), none, (.call 68 [(.t 8)])⟩, ⟨(some 4), none, (.p (.mov (.t 9)))⟩])
 (.seq (.reg [⟨(some 10), none, (.p (.mov (.t 4)))⟩, ⟨(some 11), none, (.p (.bin 0 .neq (.t 10) (.c (.int .i64 0))))⟩])
 (.cond (.t 11) (.seq (.reg [⟨(some 12), none, (.p (.mov (.t 4)))⟩, ⟨(some 2), none, (.p (.mov (.c (.nilS))))⟩, ⟨(some 3), none, (.p (.mov (.t 12)))⟩])
 (.ret)) (.skip))))
 (.seq (.reg [⟨(some 13), none, (.p (.fieldA 3 3 (.t 1)))⟩, ⟨(some 14), none, (.p (.load false 1 (.t 13)))⟩, ⟨(some 15), none, (.p (.len (.t 14)))⟩, ⟨(some 16), none, (.p (.bin 0 .add (.c (.int .i64 6)) (.t 15)))⟩, ⟨(some 5), none, (.p (.mov (.t 16)))⟩])
 (.seq (.reg [⟨(some 17), none, (.p (.mov (.t 5)))⟩, ⟨(some 18), none, (.p (.conv .u8 (.t 17)))⟩, ⟨(some 19), none, (.p (.mov (.t 5)))⟩, ⟨(some 20), none, (.p (.bin 0 .shr (.t 19) (.c (.int .u64 8))))⟩, ⟨(some 21), none, (.p (.conv .u8 (.t 20)))⟩, ⟨(some 22), none, (.p (.fieldA 0 0 (.t 1)))⟩, ⟨(some 23), none, (.p (.load false 1 (.t 22)))⟩, ⟨(some 24), none, (.p (.conv .u8 (.t 23)))⟩, ⟨(some 25), none, (.p (.fieldA 2 2 (.t 1)))⟩, ⟨(some 26), none, (.p (.load false 1 (.t 25)))⟩, ⟨(some 27), none, (.p (.conv .u8 (.t 26)))⟩, ⟨(some 28), none, (.p (.fieldA 1 1 (.t 1)))⟩, ⟨(some 29), none, (.p (.load false 1 (.t 28)))⟩, ⟨(some 30), none, (.p (.conv .u8 (.t 29)))⟩, ⟨(some 31), none, (.p (.fieldA 1 1 (.t 1)))⟩, ⟨(some 32), none, (.p (.load false 1 (.t 31)))⟩, ⟨(some 33), none, (.p (.bin 0 .shr (.t 32) (.c (.int .u64 8))))⟩, ⟨(some 34), none, (.p (.conv .u8 (.t 33)))⟩, ⟨(some 35), none, (.p (.fieldA 1 1 (.t 1)))⟩, ⟨(some 36), none, (.p (.load false 1 (.t 35)))⟩, ⟨(some 37), none, (.p (.bin 0 .shr (.t 36) (.c (.int .u64 16))))⟩, ⟨(some 38), none, (.p (.conv .u8 (.t 37)))⟩, ⟨(some 39), none, (.p (.fieldA 1 1 (.t 1)))⟩, ⟨(some 40), none, (.p (.load false 1 (.t 39)))⟩, ⟨(some 41), none, (.p (.bin 0 .shr (.t 40) (.c (.int .u64 24))))⟩, ⟨(some 42), none, (.p (.conv .u8 (.t 41)))⟩, ⟨(some 43), none, (.m (.buildS 5 1 (.int .u8 0) 8 [(0, (.t 18)), (1, (.t 21)), (2, (.t 24)), (3, (.t 27)), (4, (.t 30)), (5, (.t 34)), (6, (.t 38)), (7, (.t 42))]))⟩, ⟨(some 6), none, (.p (.mov (.t 43)))⟩])
 (.seq (.reg [⟨(some 44), none, (.p (.mov (.t 6)))⟩, ⟨(some 45), none, (.p (.fieldA 3 3 (.t 1)))⟩, ⟨(some 46), none, (.p (.load false 1 (.t 45)))⟩, ⟨(some 47), none, (.m (.app 5 1 1 (.t 44) (.t 46)))⟩, ⟨(some 6), none, (.p (.mov (.t 47)))⟩])
 (.seq (.reg [⟨(some 48), none, (.p (.mov (.t 6)))⟩, ⟨(some 49), none, (.call 74 [(.c (.int .u32 2166136261)), (.t 48)])⟩, ⟨(some 7), none, (.p (.mov (.t 49)))⟩])
 (.seq (.reg [⟨(some 50), none, (.p (.mov (.t 6)))⟩, ⟨(some 51), none, (.p (.mov (.t 7)))⟩, ⟨(some 52), none, (.p (.conv .u8 (.t 51)))⟩, ⟨(some 53), none, (.p (.mov (.t 7)))⟩, ⟨(some 54), none, (.p (.bin 0 .shr (.t 53) (.c (.int .u64 8))))⟩, ⟨(some 55), none, (.p (.conv .u8 (.t 54)))⟩, ⟨(some 56), none, (.p (.mov (.t 7)))⟩, ⟨(some 57), none, (.p (.bin 0 .shr (.t 56) (.c (.int .u64 16))))⟩, ⟨(some 58), none, (.p (.conv .u8 (.t 57)))⟩, ⟨(some 59), none, (.p (.mov (.t 7)))⟩, ⟨(some 60), none, (.p (.bin 0 .shr (.t 59) (.c (.int .u64 24))))⟩, ⟨(some 61), none, (.p (.conv .u8 (.t 60)))⟩, ⟨(some 62), none, (.m (.buildS 5 1 (.int .u8 0) 4 [(0, (.t 52)), (1, (.t 55)), (2, (.t 58)), (3, (.t 61))]))⟩, ⟨(some 63), none, (.m (.app 5 1 1 (.t 50) (.t 62)))⟩, ⟨(some 2), none, (.p (.mov (.t 63)))⟩, ⟨(some 3), none, (.p (.mov (.c (.int .i64 0))))⟩])
 (.ret)))))))
theorem m_renc_ok : compF Try.prog 64 = some (64, m_renc, [.mov (.t 2), .mov (.t 3)]) := by kernel_rfl
def chkN (n : Note) : Int := if n.kind < 1 ∨ n.kind > 6 ∨ n.state < 0 ∨ n.state > 255 ∨ n.number < 0 ∨ n.number > 4294967295 then 1 else if n.bytes.length > 4000 then 3 else 0
set_option maxHeartbeats 4000000 in
theorem wchk_fn (n : Note) : Fnc Try.prog 19 [.agg (noteL false n)] (fun x obs => x = .int .i64 (chkN n) ∧ obs = []) := by
  refine Fnc.wf fun hw => ?_
  simp only [noteL, V.wfs, V.wf, List.length_map] at hw
  have hm := hw.1.2.2.2.1.2
  clear hw
  by_cases c0 : n.kind < 1
  · rw [show chkN n = 1 by rw [chkN, if_pos (by omega)]]
    refine Fnc.intro m_wchk_ok (by simp) fun W S => ?_
    unfold m_wchk
    simp only [ents, Nat.zero_add, Nat.reduceAdd]
    repeat (first | refine And.intro (by omega) ?_ | refine And.intro rfl ?_ | refine ev_ctl rfl rfl ?_ | refine evr_nil ?_ | refine evw_nil (by kernel_rfl) ?_ | (simp (disch := omega) only [takeAll, Nat.min_eq_left, Nat.min_eq_right, if_pos, if_neg, getD_map, wrapI64, modIn, fdivE, tmodE, tdivE, decT, decF, beqT, beqF, bneT, bneF, Int.toNat_natCast]; try simp only [go_sem]) | refine ev_condTb rfl (by simp <;> omega) ?_ | refine ev_condFb rfl (by simp <;> omega) ?_ | ((first | refine ev_region ?_ | refine evr_go rfl ?_ | refine evw_go rfl ?_ | refine ev_dr0 mixed rfl (by kernel_rfl) ?_ | refine ev_dr1 mixed rfl (by kernel_rfl) ?_ | refine ev_dr2 mixed rfl (by kernel_rfl) ?_); simp only [go_sem]))
    refine ret m_wchk_ok [] ?_; (first | (simp only [go_sem]; done) | (simp only [go_sem]; ((try dsimp only); (repeat' (refine And.intro ?_ ?_)) <;> first | with_reducible rfl | (simp only [go_sem]; done) | (simp only [go_sem]; rfl) | (simp only []; (try simp only [go_sem]); first | done | rfl) | (simp only [go_sem]; simp []; done) | (simp []; done) | rfl)))
  by_cases c1 : n.kind > 6
  · rw [show chkN n = 1 by rw [chkN, if_pos (by omega)]]
    refine Fnc.intro m_wchk_ok (by simp) fun W S => ?_
    unfold m_wchk
    simp only [ents, Nat.zero_add, Nat.reduceAdd]
    repeat (first | refine And.intro (by omega) ?_ | refine And.intro rfl ?_ | refine ev_ctl rfl rfl ?_ | refine evr_nil ?_ | refine evw_nil (by kernel_rfl) ?_ | (simp (disch := omega) only [takeAll, Nat.min_eq_left, Nat.min_eq_right, if_pos, if_neg, getD_map, wrapI64, modIn, fdivE, tmodE, tdivE, decT, decF, beqT, beqF, bneT, bneF, Int.toNat_natCast]; try simp only [go_sem]) | refine ev_condTb rfl (by simp <;> omega) ?_ | refine ev_condFb rfl (by simp <;> omega) ?_ | ((first | refine ev_region ?_ | refine evr_go rfl ?_ | refine evw_go rfl ?_ | refine ev_dr0 mixed rfl (by kernel_rfl) ?_ | refine ev_dr1 mixed rfl (by kernel_rfl) ?_ | refine ev_dr2 mixed rfl (by kernel_rfl) ?_); simp only [go_sem]))
    refine ret m_wchk_ok [] ?_; (first | (simp only [go_sem]; done) | (simp only [go_sem]; ((try dsimp only); (repeat' (refine And.intro ?_ ?_)) <;> first | with_reducible rfl | (simp only [go_sem]; done) | (simp only [go_sem]; rfl) | (simp only []; (try simp only [go_sem]); first | done | rfl) | (simp only [go_sem]; simp []; done) | (simp []; done) | rfl)))
  by_cases c2 : n.state < 0
  · rw [show chkN n = 1 by rw [chkN, if_pos (by omega)]]
    refine Fnc.intro m_wchk_ok (by simp) fun W S => ?_
    unfold m_wchk
    simp only [ents, Nat.zero_add, Nat.reduceAdd]
    repeat (first | refine And.intro (by omega) ?_ | refine And.intro rfl ?_ | refine ev_ctl rfl rfl ?_ | refine evr_nil ?_ | refine evw_nil (by kernel_rfl) ?_ | (simp (disch := omega) only [takeAll, Nat.min_eq_left, Nat.min_eq_right, if_pos, if_neg, getD_map, wrapI64, modIn, fdivE, tmodE, tdivE, decT, decF, beqT, beqF, bneT, bneF, Int.toNat_natCast]; try simp only [go_sem]) | refine ev_condTb rfl (by simp <;> omega) ?_ | refine ev_condFb rfl (by simp <;> omega) ?_ | ((first | refine ev_region ?_ | refine evr_go rfl ?_ | refine evw_go rfl ?_ | refine ev_dr0 mixed rfl (by kernel_rfl) ?_ | refine ev_dr1 mixed rfl (by kernel_rfl) ?_ | refine ev_dr2 mixed rfl (by kernel_rfl) ?_); simp only [go_sem]))
    refine ret m_wchk_ok [] ?_; (first | (simp only [go_sem]; done) | (simp only [go_sem]; ((try dsimp only); (repeat' (refine And.intro ?_ ?_)) <;> first | with_reducible rfl | (simp only [go_sem]; done) | (simp only [go_sem]; rfl) | (simp only []; (try simp only [go_sem]); first | done | rfl) | (simp only [go_sem]; simp []; done) | (simp []; done) | rfl)))
  by_cases c3 : n.state > 255
  · rw [show chkN n = 1 by rw [chkN, if_pos (by omega)]]
    refine Fnc.intro m_wchk_ok (by simp) fun W S => ?_
    unfold m_wchk
    simp only [ents, Nat.zero_add, Nat.reduceAdd]
    repeat (first | refine And.intro (by omega) ?_ | refine And.intro rfl ?_ | refine ev_ctl rfl rfl ?_ | refine evr_nil ?_ | refine evw_nil (by kernel_rfl) ?_ | (simp (disch := omega) only [takeAll, Nat.min_eq_left, Nat.min_eq_right, if_pos, if_neg, getD_map, wrapI64, modIn, fdivE, tmodE, tdivE, decT, decF, beqT, beqF, bneT, bneF, Int.toNat_natCast]; try simp only [go_sem]) | refine ev_condTb rfl (by simp <;> omega) ?_ | refine ev_condFb rfl (by simp <;> omega) ?_ | ((first | refine ev_region ?_ | refine evr_go rfl ?_ | refine evw_go rfl ?_ | refine ev_dr0 mixed rfl (by kernel_rfl) ?_ | refine ev_dr1 mixed rfl (by kernel_rfl) ?_ | refine ev_dr2 mixed rfl (by kernel_rfl) ?_); simp only [go_sem]))
    refine ret m_wchk_ok [] ?_; (first | (simp only [go_sem]; done) | (simp only [go_sem]; ((try dsimp only); (repeat' (refine And.intro ?_ ?_)) <;> first | with_reducible rfl | (simp only [go_sem]; done) | (simp only [go_sem]; rfl) | (simp only []; (try simp only [go_sem]); first | done | rfl) | (simp only [go_sem]; simp []; done) | (simp []; done) | rfl)))
  by_cases c4 : n.number < 0
  · rw [show chkN n = 1 by rw [chkN, if_pos (by omega)]]
    refine Fnc.intro m_wchk_ok (by simp) fun W S => ?_
    unfold m_wchk
    simp only [ents, Nat.zero_add, Nat.reduceAdd]
    repeat (first | refine And.intro (by omega) ?_ | refine And.intro rfl ?_ | refine ev_ctl rfl rfl ?_ | refine evr_nil ?_ | refine evw_nil (by kernel_rfl) ?_ | (simp (disch := omega) only [takeAll, Nat.min_eq_left, Nat.min_eq_right, if_pos, if_neg, getD_map, wrapI64, modIn, fdivE, tmodE, tdivE, decT, decF, beqT, beqF, bneT, bneF, Int.toNat_natCast]; try simp only [go_sem]) | refine ev_condTb rfl (by simp <;> omega) ?_ | refine ev_condFb rfl (by simp <;> omega) ?_ | ((first | refine ev_region ?_ | refine evr_go rfl ?_ | refine evw_go rfl ?_ | refine ev_dr0 mixed rfl (by kernel_rfl) ?_ | refine ev_dr1 mixed rfl (by kernel_rfl) ?_ | refine ev_dr2 mixed rfl (by kernel_rfl) ?_); simp only [go_sem]))
    refine ret m_wchk_ok [] ?_; (first | (simp only [go_sem]; done) | (simp only [go_sem]; ((try dsimp only); (repeat' (refine And.intro ?_ ?_)) <;> first | with_reducible rfl | (simp only [go_sem]; done) | (simp only [go_sem]; rfl) | (simp only []; (try simp only [go_sem]); first | done | rfl) | (simp only [go_sem]; simp []; done) | (simp []; done) | rfl)))
  by_cases c5 : n.number > 4294967295
  · rw [show chkN n = 1 by rw [chkN, if_pos (by omega)]]
    refine Fnc.intro m_wchk_ok (by simp) fun W S => ?_
    unfold m_wchk
    simp only [ents, Nat.zero_add, Nat.reduceAdd]
    repeat (first | refine And.intro (by omega) ?_ | refine And.intro rfl ?_ | refine ev_ctl rfl rfl ?_ | refine evr_nil ?_ | refine evw_nil (by kernel_rfl) ?_ | (simp (disch := omega) only [takeAll, Nat.min_eq_left, Nat.min_eq_right, if_pos, if_neg, getD_map, wrapI64, modIn, fdivE, tmodE, tdivE, decT, decF, beqT, beqF, bneT, bneF, Int.toNat_natCast]; try simp only [go_sem]) | refine ev_condTb rfl (by simp <;> omega) ?_ | refine ev_condFb rfl (by simp <;> omega) ?_ | ((first | refine ev_region ?_ | refine evr_go rfl ?_ | refine evw_go rfl ?_ | refine ev_dr0 mixed rfl (by kernel_rfl) ?_ | refine ev_dr1 mixed rfl (by kernel_rfl) ?_ | refine ev_dr2 mixed rfl (by kernel_rfl) ?_); simp only [go_sem]))
    refine ret m_wchk_ok [] ?_; (first | (simp only [go_sem]; done) | (simp only [go_sem]; ((try dsimp only); (repeat' (refine And.intro ?_ ?_)) <;> first | with_reducible rfl | (simp only [go_sem]; done) | (simp only [go_sem]; rfl) | (simp only []; (try simp only [go_sem]); first | done | rfl) | (simp only [go_sem]; simp []; done) | (simp []; done) | rfl)))
  by_cases c7 : n.bytes.length > 4000
  · rw [show chkN n = 3 by rw [chkN, if_neg (by omega), if_pos c7]]
    refine Fnc.intro m_wchk_ok (by simp) fun W S => ?_
    unfold m_wchk
    simp only [ents, Nat.zero_add, Nat.reduceAdd]
    repeat (first | refine And.intro (by omega) ?_ | refine And.intro rfl ?_ | refine ev_ctl rfl rfl ?_ | refine evr_nil ?_ | refine evw_nil (by kernel_rfl) ?_ | (simp (disch := omega) only [takeAll, Nat.min_eq_left, Nat.min_eq_right, if_pos, if_neg, getD_map, wrapI64, modIn, fdivE, tmodE, tdivE, decT, decF, beqT, beqF, bneT, bneF, Int.toNat_natCast]; try simp only [go_sem]) | refine ev_condTb rfl (by simp <;> omega) ?_ | refine ev_condFb rfl (by simp <;> omega) ?_ | ((first | refine ev_region ?_ | refine evr_go rfl ?_ | refine evw_go rfl ?_ | refine ev_dr0 mixed rfl (by kernel_rfl) ?_ | refine ev_dr1 mixed rfl (by kernel_rfl) ?_ | refine ev_dr2 mixed rfl (by kernel_rfl) ?_); simp only [go_sem]))
    refine ret m_wchk_ok [] ?_; (first | (simp only [go_sem]; done) | (simp only [go_sem]; ((try dsimp only); (repeat' (refine And.intro ?_ ?_)) <;> first | with_reducible rfl | (simp only [go_sem]; done) | (simp only [go_sem]; rfl) | (simp only []; (try simp only [go_sem]); first | done | rfl) | (simp only [go_sem]; simp []; done) | (simp []; done) | rfl)))
  · rw [show chkN n = 0 by rw [chkN, if_neg (by omega), if_neg c7]]
    refine Fnc.intro m_wchk_ok (by simp) fun W S => ?_
    unfold m_wchk
    simp only [ents, Nat.zero_add, Nat.reduceAdd]
    repeat (first | refine And.intro (by omega) ?_ | refine And.intro rfl ?_ | refine ev_ctl rfl rfl ?_ | refine evr_nil ?_ | refine evw_nil (by kernel_rfl) ?_ | (simp (disch := omega) only [takeAll, Nat.min_eq_left, Nat.min_eq_right, if_pos, if_neg, getD_map, wrapI64, modIn, fdivE, tmodE, tdivE, decT, decF, beqT, beqF, bneT, bneF, Int.toNat_natCast]; try simp only [go_sem]) | refine ev_condTb rfl (by simp <;> omega) ?_ | refine ev_condFb rfl (by simp <;> omega) ?_ | ((first | refine ev_region ?_ | refine evr_go rfl ?_ | refine evw_go rfl ?_ | refine ev_dr0 mixed rfl (by kernel_rfl) ?_ | refine ev_dr1 mixed rfl (by kernel_rfl) ?_ | refine ev_dr2 mixed rfl (by kernel_rfl) ?_); simp only [go_sem]))
    refine ret m_wchk_ok [] ?_; (first | (simp only [go_sem]; done) | (simp only [go_sem]; ((try dsimp only); (repeat' (refine And.intro ?_ ?_)) <;> first | with_reducible rfl | (simp only [go_sem]; done) | (simp only [go_sem]; rfl) | (simp only []; (try simp only [go_sem]); first | done | rfl) | (simp only [go_sem]; simp []; done) | (simp []; done) | rfl)))
set_option maxHeartbeats 4000000 in
theorem rchk_fn (n : Note) : Fnc Try.prog 68 [.agg (noteL false n)] (fun x obs => x = .int .i64 (chkN n) ∧ obs = []) := by
  refine Fnc.wf fun hw => ?_
  simp only [noteL, V.wfs, V.wf, List.length_map] at hw
  have hm := hw.1.2.2.2.1.2
  clear hw
  by_cases c0 : n.kind < 1
  · rw [show chkN n = 1 by rw [chkN, if_pos (by omega)]]
    refine Fnc.intro m_rchk_ok (by simp) fun W S => ?_
    unfold m_rchk
    simp only [ents, Nat.zero_add, Nat.reduceAdd]
    repeat (first | refine And.intro (by omega) ?_ | refine And.intro rfl ?_ | refine ev_ctl rfl rfl ?_ | refine evr_nil ?_ | refine evw_nil (by kernel_rfl) ?_ | (simp (disch := omega) only [takeAll, Nat.min_eq_left, Nat.min_eq_right, if_pos, if_neg, getD_map, wrapI64, modIn, fdivE, tmodE, tdivE, decT, decF, beqT, beqF, bneT, bneF, Int.toNat_natCast]; try simp only [go_sem]) | refine ev_condTb rfl (by simp <;> omega) ?_ | refine ev_condFb rfl (by simp <;> omega) ?_ | ((first | refine ev_region ?_ | refine evr_go rfl ?_ | refine evw_go rfl ?_ | refine ev_dr0 mixed rfl (by kernel_rfl) ?_ | refine ev_dr1 mixed rfl (by kernel_rfl) ?_ | refine ev_dr2 mixed rfl (by kernel_rfl) ?_); simp only [go_sem]))
    refine ret m_rchk_ok [] ?_; (first | (simp only [go_sem]; done) | (simp only [go_sem]; ((try dsimp only); (repeat' (refine And.intro ?_ ?_)) <;> first | with_reducible rfl | (simp only [go_sem]; done) | (simp only [go_sem]; rfl) | (simp only []; (try simp only [go_sem]); first | done | rfl) | (simp only [go_sem]; simp []; done) | (simp []; done) | rfl)))
  by_cases c1 : n.kind > 6
  · rw [show chkN n = 1 by rw [chkN, if_pos (by omega)]]
    refine Fnc.intro m_rchk_ok (by simp) fun W S => ?_
    unfold m_rchk
    simp only [ents, Nat.zero_add, Nat.reduceAdd]
    repeat (first | refine And.intro (by omega) ?_ | refine And.intro rfl ?_ | refine ev_ctl rfl rfl ?_ | refine evr_nil ?_ | refine evw_nil (by kernel_rfl) ?_ | (simp (disch := omega) only [takeAll, Nat.min_eq_left, Nat.min_eq_right, if_pos, if_neg, getD_map, wrapI64, modIn, fdivE, tmodE, tdivE, decT, decF, beqT, beqF, bneT, bneF, Int.toNat_natCast]; try simp only [go_sem]) | refine ev_condTb rfl (by simp <;> omega) ?_ | refine ev_condFb rfl (by simp <;> omega) ?_ | ((first | refine ev_region ?_ | refine evr_go rfl ?_ | refine evw_go rfl ?_ | refine ev_dr0 mixed rfl (by kernel_rfl) ?_ | refine ev_dr1 mixed rfl (by kernel_rfl) ?_ | refine ev_dr2 mixed rfl (by kernel_rfl) ?_); simp only [go_sem]))
    refine ret m_rchk_ok [] ?_; (first | (simp only [go_sem]; done) | (simp only [go_sem]; ((try dsimp only); (repeat' (refine And.intro ?_ ?_)) <;> first | with_reducible rfl | (simp only [go_sem]; done) | (simp only [go_sem]; rfl) | (simp only []; (try simp only [go_sem]); first | done | rfl) | (simp only [go_sem]; simp []; done) | (simp []; done) | rfl)))
  by_cases c2 : n.state < 0
  · rw [show chkN n = 1 by rw [chkN, if_pos (by omega)]]
    refine Fnc.intro m_rchk_ok (by simp) fun W S => ?_
    unfold m_rchk
    simp only [ents, Nat.zero_add, Nat.reduceAdd]
    repeat (first | refine And.intro (by omega) ?_ | refine And.intro rfl ?_ | refine ev_ctl rfl rfl ?_ | refine evr_nil ?_ | refine evw_nil (by kernel_rfl) ?_ | (simp (disch := omega) only [takeAll, Nat.min_eq_left, Nat.min_eq_right, if_pos, if_neg, getD_map, wrapI64, modIn, fdivE, tmodE, tdivE, decT, decF, beqT, beqF, bneT, bneF, Int.toNat_natCast]; try simp only [go_sem]) | refine ev_condTb rfl (by simp <;> omega) ?_ | refine ev_condFb rfl (by simp <;> omega) ?_ | ((first | refine ev_region ?_ | refine evr_go rfl ?_ | refine evw_go rfl ?_ | refine ev_dr0 mixed rfl (by kernel_rfl) ?_ | refine ev_dr1 mixed rfl (by kernel_rfl) ?_ | refine ev_dr2 mixed rfl (by kernel_rfl) ?_); simp only [go_sem]))
    refine ret m_rchk_ok [] ?_; (first | (simp only [go_sem]; done) | (simp only [go_sem]; ((try dsimp only); (repeat' (refine And.intro ?_ ?_)) <;> first | with_reducible rfl | (simp only [go_sem]; done) | (simp only [go_sem]; rfl) | (simp only []; (try simp only [go_sem]); first | done | rfl) | (simp only [go_sem]; simp []; done) | (simp []; done) | rfl)))
  by_cases c3 : n.state > 255
  · rw [show chkN n = 1 by rw [chkN, if_pos (by omega)]]
    refine Fnc.intro m_rchk_ok (by simp) fun W S => ?_
    unfold m_rchk
    simp only [ents, Nat.zero_add, Nat.reduceAdd]
    repeat (first | refine And.intro (by omega) ?_ | refine And.intro rfl ?_ | refine ev_ctl rfl rfl ?_ | refine evr_nil ?_ | refine evw_nil (by kernel_rfl) ?_ | (simp (disch := omega) only [takeAll, Nat.min_eq_left, Nat.min_eq_right, if_pos, if_neg, getD_map, wrapI64, modIn, fdivE, tmodE, tdivE, decT, decF, beqT, beqF, bneT, bneF, Int.toNat_natCast]; try simp only [go_sem]) | refine ev_condTb rfl (by simp <;> omega) ?_ | refine ev_condFb rfl (by simp <;> omega) ?_ | ((first | refine ev_region ?_ | refine evr_go rfl ?_ | refine evw_go rfl ?_ | refine ev_dr0 mixed rfl (by kernel_rfl) ?_ | refine ev_dr1 mixed rfl (by kernel_rfl) ?_ | refine ev_dr2 mixed rfl (by kernel_rfl) ?_); simp only [go_sem]))
    refine ret m_rchk_ok [] ?_; (first | (simp only [go_sem]; done) | (simp only [go_sem]; ((try dsimp only); (repeat' (refine And.intro ?_ ?_)) <;> first | with_reducible rfl | (simp only [go_sem]; done) | (simp only [go_sem]; rfl) | (simp only []; (try simp only [go_sem]); first | done | rfl) | (simp only [go_sem]; simp []; done) | (simp []; done) | rfl)))
  by_cases c4 : n.number < 0
  · rw [show chkN n = 1 by rw [chkN, if_pos (by omega)]]
    refine Fnc.intro m_rchk_ok (by simp) fun W S => ?_
    unfold m_rchk
    simp only [ents, Nat.zero_add, Nat.reduceAdd]
    repeat (first | refine And.intro (by omega) ?_ | refine And.intro rfl ?_ | refine ev_ctl rfl rfl ?_ | refine evr_nil ?_ | refine evw_nil (by kernel_rfl) ?_ | (simp (disch := omega) only [takeAll, Nat.min_eq_left, Nat.min_eq_right, if_pos, if_neg, getD_map, wrapI64, modIn, fdivE, tmodE, tdivE, decT, decF, beqT, beqF, bneT, bneF, Int.toNat_natCast]; try simp only [go_sem]) | refine ev_condTb rfl (by simp <;> omega) ?_ | refine ev_condFb rfl (by simp <;> omega) ?_ | ((first | refine ev_region ?_ | refine evr_go rfl ?_ | refine evw_go rfl ?_ | refine ev_dr0 mixed rfl (by kernel_rfl) ?_ | refine ev_dr1 mixed rfl (by kernel_rfl) ?_ | refine ev_dr2 mixed rfl (by kernel_rfl) ?_); simp only [go_sem]))
    refine ret m_rchk_ok [] ?_; (first | (simp only [go_sem]; done) | (simp only [go_sem]; ((try dsimp only); (repeat' (refine And.intro ?_ ?_)) <;> first | with_reducible rfl | (simp only [go_sem]; done) | (simp only [go_sem]; rfl) | (simp only []; (try simp only [go_sem]); first | done | rfl) | (simp only [go_sem]; simp []; done) | (simp []; done) | rfl)))
  by_cases c5 : n.number > 4294967295
  · rw [show chkN n = 1 by rw [chkN, if_pos (by omega)]]
    refine Fnc.intro m_rchk_ok (by simp) fun W S => ?_
    unfold m_rchk
    simp only [ents, Nat.zero_add, Nat.reduceAdd]
    repeat (first | refine And.intro (by omega) ?_ | refine And.intro rfl ?_ | refine ev_ctl rfl rfl ?_ | refine evr_nil ?_ | refine evw_nil (by kernel_rfl) ?_ | (simp (disch := omega) only [takeAll, Nat.min_eq_left, Nat.min_eq_right, if_pos, if_neg, getD_map, wrapI64, modIn, fdivE, tmodE, tdivE, decT, decF, beqT, beqF, bneT, bneF, Int.toNat_natCast]; try simp only [go_sem]) | refine ev_condTb rfl (by simp <;> omega) ?_ | refine ev_condFb rfl (by simp <;> omega) ?_ | ((first | refine ev_region ?_ | refine evr_go rfl ?_ | refine evw_go rfl ?_ | refine ev_dr0 mixed rfl (by kernel_rfl) ?_ | refine ev_dr1 mixed rfl (by kernel_rfl) ?_ | refine ev_dr2 mixed rfl (by kernel_rfl) ?_); simp only [go_sem]))
    refine ret m_rchk_ok [] ?_; (first | (simp only [go_sem]; done) | (simp only [go_sem]; ((try dsimp only); (repeat' (refine And.intro ?_ ?_)) <;> first | with_reducible rfl | (simp only [go_sem]; done) | (simp only [go_sem]; rfl) | (simp only []; (try simp only [go_sem]); first | done | rfl) | (simp only [go_sem]; simp []; done) | (simp []; done) | rfl)))
  by_cases c7 : n.bytes.length > 4000
  · rw [show chkN n = 3 by rw [chkN, if_neg (by omega), if_pos c7]]
    refine Fnc.intro m_rchk_ok (by simp) fun W S => ?_
    unfold m_rchk
    simp only [ents, Nat.zero_add, Nat.reduceAdd]
    repeat (first | refine And.intro (by omega) ?_ | refine And.intro rfl ?_ | refine ev_ctl rfl rfl ?_ | refine evr_nil ?_ | refine evw_nil (by kernel_rfl) ?_ | (simp (disch := omega) only [takeAll, Nat.min_eq_left, Nat.min_eq_right, if_pos, if_neg, getD_map, wrapI64, modIn, fdivE, tmodE, tdivE, decT, decF, beqT, beqF, bneT, bneF, Int.toNat_natCast]; try simp only [go_sem]) | refine ev_condTb rfl (by simp <;> omega) ?_ | refine ev_condFb rfl (by simp <;> omega) ?_ | ((first | refine ev_region ?_ | refine evr_go rfl ?_ | refine evw_go rfl ?_ | refine ev_dr0 mixed rfl (by kernel_rfl) ?_ | refine ev_dr1 mixed rfl (by kernel_rfl) ?_ | refine ev_dr2 mixed rfl (by kernel_rfl) ?_); simp only [go_sem]))
    refine ret m_rchk_ok [] ?_; (first | (simp only [go_sem]; done) | (simp only [go_sem]; ((try dsimp only); (repeat' (refine And.intro ?_ ?_)) <;> first | with_reducible rfl | (simp only [go_sem]; done) | (simp only [go_sem]; rfl) | (simp only []; (try simp only [go_sem]); first | done | rfl) | (simp only [go_sem]; simp []; done) | (simp []; done) | rfl)))
  · rw [show chkN n = 0 by rw [chkN, if_neg (by omega), if_neg c7]]
    refine Fnc.intro m_rchk_ok (by simp) fun W S => ?_
    unfold m_rchk
    simp only [ents, Nat.zero_add, Nat.reduceAdd]
    repeat (first | refine And.intro (by omega) ?_ | refine And.intro rfl ?_ | refine ev_ctl rfl rfl ?_ | refine evr_nil ?_ | refine evw_nil (by kernel_rfl) ?_ | (simp (disch := omega) only [takeAll, Nat.min_eq_left, Nat.min_eq_right, if_pos, if_neg, getD_map, wrapI64, modIn, fdivE, tmodE, tdivE, decT, decF, beqT, beqF, bneT, bneF, Int.toNat_natCast]; try simp only [go_sem]) | refine ev_condTb rfl (by simp <;> omega) ?_ | refine ev_condFb rfl (by simp <;> omega) ?_ | ((first | refine ev_region ?_ | refine evr_go rfl ?_ | refine evw_go rfl ?_ | refine ev_dr0 mixed rfl (by kernel_rfl) ?_ | refine ev_dr1 mixed rfl (by kernel_rfl) ?_ | refine ev_dr2 mixed rfl (by kernel_rfl) ?_); simp only [go_sem]))
    refine ret m_rchk_ok [] ?_; (first | (simp only [go_sem]; done) | (simp only [go_sem]; ((try dsimp only); (repeat' (refine And.intro ?_ ?_)) <;> first | with_reducible rfl | (simp only [go_sem]; done) | (simp only [go_sem]; rfl) | (simp only []; (try simp only [go_sem]); first | done | rfl) | (simp only [go_sem]; simp []; done) | (simp []; done) | rfl)))
/-- What stands before the sum. -/
def core (n : Note) : List Int := [(6 + (n.bytes.length : Int)) % 256, (6 + (n.bytes.length : Int)) / 256, n.kind, n.state] ++ (le4 n.number ++ n.bytes)
def encB (n : Note) : List Int := core n ++ le4 (dadd 2166136261 (core n))
def sEnc (n : Note) : List Int × Int := if chkN n = 0 then (encB n, 0) else ([], chkN n)
theorem core_len (n : Note) : (core n).length = 8 + n.bytes.length := by simp [core, le4]; omega
theorem core_flat (n : Note) : [[(6 + (n.bytes.length : Int)) % 256, (6 + (n.bytes.length : Int)) / 256, n.kind, n.state], le4 n.number, n.bytes].flatten = core n := by simp [core]
theorem enc_flat (n : Note) : [core n, le4 (dadd 2166136261 (core n))].flatten = encB n := by simp [encB]
theorem encB_len (n : Note) : (encB n).length = 12 + n.bytes.length := by simp [encB, core_len, le4]; omega
theorem chkN_0 {n : Note} (h : chkN n = 0) : 1 ≤ n.kind ∧ n.kind ≤ 6 ∧ 0 ≤ n.state ∧ n.state ≤ 255 ∧ 0 ≤ n.number ∧ n.number ≤ 4294967295 ∧ n.bytes.length ≤ 4000 := by
  unfold chkN at h
  split at h
  · omega
  · split at h <;> omega
theorem core_u8s (n : Note) : u8s (core n) = .int .u8 ((6 + (n.bytes.length : Int)) % 256) :: .int .u8 ((6 + (n.bytes.length : Int)) / 256) :: .int .u8 n.kind :: .int .u8 n.state :: .int .u8 (n.number % 256) :: .int .u8 (n.number / 256 % 256) :: .int .u8 (n.number / 65536 % 256) :: .int .u8 (n.number / 16777216) :: u8s n.bytes := by simp [core, le4]
theorem encB_u8s (n : Note) : u8s (encB n) = u8s (core n) ++ [.int .u8 (dadd 2166136261 (core n) % 256), .int .u8 (dadd 2166136261 (core n) / 256 % 256), .int .u8 (dadd 2166136261 (core n) / 65536 % 256), .int .u8 (dadd 2166136261 (core n) / 16777216)] := by simp [encB, le4]
attribute [local irreducible] core le4 dadd encB
set_option maxHeartbeats 4000000 in
theorem wenc_fn (n : Note) : Fnc Try.prog 16 [.agg (noteL false n)] (fun x obs => x = .tup [.sl true 1 (u8s (sEnc n).1), .int .i64 (sEnc n).2] ∧ obs = []) := by
  have hC := wchk_fn n
  by_cases ok : chkN n = 0
  · rw [ok] at hC
    obtain ⟨h1, h2, h3, h4, h5, h6, h7⟩ := chkN_0 ok
    rw [show sEnc n = (encB n, 0) by rw [sEnc, if_pos ok]]
    have j1 := join_fn [[(6 + (n.bytes.length : Int)) % 256, (6 + (n.bytes.length : Int)) / 256, n.kind, n.state], le4 n.number, n.bytes] (by rw [core_flat, core_len]; omega)
    rw [core_flat] at j1
    have j2 := join_fn [core n, le4 (dadd 2166136261 (core n))] (by rw [enc_flat, encB_len]; omega)
    rw [enc_flat] at j2
    have s1 := dadd_lt (s := 2166136261) (by omega) (by omega) (core n)
    refine Fnc.intro m_wenc_ok (by simp) fun W S => ?_
    unfold m_wenc
    simp only [ents, Nat.zero_add, Nat.reduceAdd]
    repeat (first | refine And.intro (by omega) ?_ | refine And.intro rfl ?_ | refine ev_ctl rfl rfl ?_ | refine evr_nil ?_ | refine evw_nil (by kernel_rfl) ?_ | (simp (disch := omega) only [takeAll, Nat.min_eq_left, Nat.min_eq_right, if_pos, if_neg, getD_map, wrapI64, modIn, fdivE, tmodE, tdivE, decT, decF, beqT, beqF, bneT, bneF, Int.toNat_natCast]; try simp only [go_sem]) | refine ev_condTb rfl (by simp <;> omega) ?_ | refine ev_condFb rfl (by simp <;> omega) ?_ | ((first | refine ev_region ?_ | refine evr_go rfl ?_ | refine evw_go rfl ?_ | refine ev_dr0 mixed rfl (by kernel_rfl) ?_ | refine ev_dr1 mixed rfl (by kernel_rfl) ?_ | refine ev_dr2 mixed rfl (by kernel_rfl) ?_); simp only [go_sem]))
    (first | refine callD (hC) ?_ | refine callDw (hC) ?_); simp only [go_sem]
    repeat (first | refine And.intro (by omega) ?_ | refine And.intro rfl ?_ | refine ev_ctl rfl rfl ?_ | refine evr_nil ?_ | refine evw_nil (by kernel_rfl) ?_ | (simp (disch := omega) only [takeAll, Nat.min_eq_left, Nat.min_eq_right, if_pos, if_neg, getD_map, wrapI64, modIn, fdivE, tmodE, tdivE, decT, decF, beqT, beqF, bneT, bneF, Int.toNat_natCast]; try simp only [go_sem]) | refine ev_condTb rfl (by simp <;> omega) ?_ | refine ev_condFb rfl (by simp <;> omega) ?_ | ((first | refine ev_region ?_ | refine evr_go rfl ?_ | refine evw_go rfl ?_ | refine ev_dr0 mixed rfl (by kernel_rfl) ?_ | refine ev_dr1 mixed rfl (by kernel_rfl) ?_ | refine ev_dr2 mixed rfl (by kernel_rfl) ?_); simp only [go_sem]))
    (first | refine callD (low_fn n.number) ?_ | refine callDw (low_fn n.number) ?_); simp only [go_sem]
    repeat (first | refine And.intro (by omega) ?_ | refine And.intro rfl ?_ | refine ev_ctl rfl rfl ?_ | refine evr_nil ?_ | refine evw_nil (by kernel_rfl) ?_ | (simp (disch := omega) only [takeAll, Nat.min_eq_left, Nat.min_eq_right, if_pos, if_neg, getD_map, wrapI64, modIn, fdivE, tmodE, tdivE, decT, decF, beqT, beqF, bneT, bneF, Int.toNat_natCast]; try simp only [go_sem]) | refine ev_condTb rfl (by simp <;> omega) ?_ | refine ev_condFb rfl (by simp <;> omega) ?_ | ((first | refine ev_region ?_ | refine evr_go rfl ?_ | refine evw_go rfl ?_ | refine ev_dr0 mixed rfl (by kernel_rfl) ?_ | refine ev_dr1 mixed rfl (by kernel_rfl) ?_ | refine ev_dr2 mixed rfl (by kernel_rfl) ?_); simp only [go_sem]))
    (first | refine callD (j1) ?_ | refine callDw (j1) ?_); simp only [go_sem, bsV]
    repeat (first | refine And.intro (by omega) ?_ | refine And.intro rfl ?_ | refine ev_ctl rfl rfl ?_ | refine evr_nil ?_ | refine evw_nil (by kernel_rfl) ?_ | (simp (disch := omega) only [takeAll, Nat.min_eq_left, Nat.min_eq_right, if_pos, if_neg, getD_map, wrapI64, modIn, fdivE, tmodE, tdivE, decT, decF, beqT, beqF, bneT, bneF, Int.toNat_natCast]; try simp only [go_sem]) | refine ev_condTb rfl (by simp <;> omega) ?_ | refine ev_condFb rfl (by simp <;> omega) ?_ | ((first | refine ev_region ?_ | refine evr_go rfl ?_ | refine evw_go rfl ?_ | refine ev_dr0 mixed rfl (by kernel_rfl) ?_ | refine ev_dr1 mixed rfl (by kernel_rfl) ?_ | refine ev_dr2 mixed rfl (by kernel_rfl) ?_); simp only [go_sem]))
    (first | refine callD (add_fn 2166136261 (core n)) ?_ | refine callDw (add_fn 2166136261 (core n)) ?_); simp only [go_sem]
    repeat (first | refine And.intro (by omega) ?_ | refine And.intro rfl ?_ | refine ev_ctl rfl rfl ?_ | refine evr_nil ?_ | refine evw_nil (by kernel_rfl) ?_ | (simp (disch := omega) only [takeAll, Nat.min_eq_left, Nat.min_eq_right, if_pos, if_neg, getD_map, wrapI64, modIn, fdivE, tmodE, tdivE, decT, decF, beqT, beqF, bneT, bneF, Int.toNat_natCast]; try simp only [go_sem]) | refine ev_condTb rfl (by simp <;> omega) ?_ | refine ev_condFb rfl (by simp <;> omega) ?_ | ((first | refine ev_region ?_ | refine evr_go rfl ?_ | refine evw_go rfl ?_ | refine ev_dr0 mixed rfl (by kernel_rfl) ?_ | refine ev_dr1 mixed rfl (by kernel_rfl) ?_ | refine ev_dr2 mixed rfl (by kernel_rfl) ?_); simp only [go_sem]))
    (first | refine callD (low_fn (dadd 2166136261 (core n))) ?_ | refine callDw (low_fn (dadd 2166136261 (core n))) ?_); simp only [go_sem]
    repeat (first | refine And.intro (by omega) ?_ | refine And.intro rfl ?_ | refine ev_ctl rfl rfl ?_ | refine evr_nil ?_ | refine evw_nil (by kernel_rfl) ?_ | (simp (disch := omega) only [takeAll, Nat.min_eq_left, Nat.min_eq_right, if_pos, if_neg, getD_map, wrapI64, modIn, fdivE, tmodE, tdivE, decT, decF, beqT, beqF, bneT, bneF, Int.toNat_natCast]; try simp only [go_sem]) | refine ev_condTb rfl (by simp <;> omega) ?_ | refine ev_condFb rfl (by simp <;> omega) ?_ | ((first | refine ev_region ?_ | refine evr_go rfl ?_ | refine evw_go rfl ?_ | refine ev_dr0 mixed rfl (by kernel_rfl) ?_ | refine ev_dr1 mixed rfl (by kernel_rfl) ?_ | refine ev_dr2 mixed rfl (by kernel_rfl) ?_); simp only [go_sem]))
    (first | refine callD (j2) ?_ | refine callDw (j2) ?_); simp only [go_sem, bsV]
    repeat (first | refine And.intro (by omega) ?_ | refine And.intro rfl ?_ | refine ev_ctl rfl rfl ?_ | refine evr_nil ?_ | refine evw_nil (by kernel_rfl) ?_ | (simp (disch := omega) only [takeAll, Nat.min_eq_left, Nat.min_eq_right, if_pos, if_neg, getD_map, wrapI64, modIn, fdivE, tmodE, tdivE, decT, decF, beqT, beqF, bneT, bneF, Int.toNat_natCast]; try simp only [go_sem]) | refine ev_condTb rfl (by simp <;> omega) ?_ | refine ev_condFb rfl (by simp <;> omega) ?_ | ((first | refine ev_region ?_ | refine evr_go rfl ?_ | refine evw_go rfl ?_ | refine ev_dr0 mixed rfl (by kernel_rfl) ?_ | refine ev_dr1 mixed rfl (by kernel_rfl) ?_ | refine ev_dr2 mixed rfl (by kernel_rfl) ?_); simp only [go_sem]))
    refine ret m_wenc_ok [] ?_; (first | (simp only [go_sem]; done) | (simp only [go_sem]; ((try dsimp only); (repeat' (refine And.intro ?_ ?_)) <;> first | with_reducible rfl | (simp only [go_sem]; done) | (simp only [go_sem]; rfl) | (simp only []; (try simp only [go_sem]); first | done | rfl) | (simp only [go_sem]; simp []; done) | (simp []; done) | rfl)))
  · rw [show sEnc n = ([], chkN n) by rw [sEnc, if_neg ok]]
    refine Fnc.intro m_wenc_ok (by simp) fun W S => ?_
    unfold m_wenc
    simp only [ents, Nat.zero_add, Nat.reduceAdd]
    repeat (first | refine And.intro (by omega) ?_ | refine And.intro rfl ?_ | refine ev_ctl rfl rfl ?_ | refine evr_nil ?_ | refine evw_nil (by kernel_rfl) ?_ | (simp (disch := omega) only [takeAll, Nat.min_eq_left, Nat.min_eq_right, if_pos, if_neg, getD_map, wrapI64, modIn, fdivE, tmodE, tdivE, decT, decF, beqT, beqF, bneT, bneF, Int.toNat_natCast]; try simp only [go_sem]) | refine ev_condTb rfl (by simp <;> omega) ?_ | refine ev_condFb rfl (by simp <;> omega) ?_ | ((first | refine ev_region ?_ | refine evr_go rfl ?_ | refine evw_go rfl ?_ | refine ev_dr0 mixed rfl (by kernel_rfl) ?_ | refine ev_dr1 mixed rfl (by kernel_rfl) ?_ | refine ev_dr2 mixed rfl (by kernel_rfl) ?_); simp only [go_sem]))
    (first | refine callD (hC) ?_ | refine callDw (hC) ?_); simp only [go_sem]
    repeat (first | refine And.intro (by omega) ?_ | refine And.intro rfl ?_ | refine ev_ctl rfl rfl ?_ | refine evr_nil ?_ | refine evw_nil (by kernel_rfl) ?_ | (simp (disch := omega) only [takeAll, Nat.min_eq_left, Nat.min_eq_right, if_pos, if_neg, getD_map, wrapI64, modIn, fdivE, tmodE, tdivE, decT, decF, beqT, beqF, bneT, bneF, Int.toNat_natCast]; try simp only [go_sem]) | refine ev_condTb rfl (by simp <;> omega) ?_ | refine ev_condFb rfl (by simp <;> omega) ?_ | ((first | refine ev_region ?_ | refine evr_go rfl ?_ | refine evw_go rfl ?_ | refine ev_dr0 mixed rfl (by kernel_rfl) ?_ | refine ev_dr1 mixed rfl (by kernel_rfl) ?_ | refine ev_dr2 mixed rfl (by kernel_rfl) ?_); simp only [go_sem]))
    refine ev_nil2 2 true 1 rfl ?_
    refine ret m_wenc_ok [] ?_; (first | (simp only [go_sem]; done) | (simp only [go_sem]; ((try dsimp only); (repeat' (refine And.intro ?_ ?_)) <;> first | with_reducible rfl | (simp only [go_sem]; done) | (simp only [go_sem]; rfl) | (simp only []; (try simp only [go_sem]); first | done | rfl) | (simp only [go_sem]; simp []; done) | (simp []; done) | rfl)))
set_option maxHeartbeats 4000000 in
theorem renc_fn (n : Note) : Fnc Try.prog 64 [.agg (noteL false n)] (fun x obs => x = .tup [.sl true 1 (u8s (sEnc n).1), .int .i64 (sEnc n).2] ∧ obs = []) := by
  have hC := rchk_fn n
  by_cases ok : chkN n = 0
  · rw [ok] at hC
    obtain ⟨h1, h2, h3, h4, h5, h6, h7⟩ := chkN_0 ok
    rw [show sEnc n = (encB n, 0) by rw [sEnc, if_pos ok]]
    have s1 := dadd_lt (s := 2166136261) (by omega) (by omega) (core n)
    refine Fnc.intro m_renc_ok (by simp) fun W S => ?_
    unfold m_renc
    simp only [ents, Nat.zero_add, Nat.reduceAdd]
    repeat (first | refine And.intro (by omega) ?_ | refine And.intro rfl ?_ | refine ev_ctl rfl rfl ?_ | refine evr_nil ?_ | refine evw_nil (by kernel_rfl) ?_ | (simp (disch := omega) only [takeAll, Nat.min_eq_left, Nat.min_eq_right, if_pos, if_neg, getD_map, wrapI64, modIn, fdivE, tmodE, tdivE, decT, decF, beqT, beqF, bneT, bneF, Int.toNat_natCast]; try simp only [go_sem]) | refine ev_condTb rfl (by simp <;> omega) ?_ | refine ev_condFb rfl (by simp <;> omega) ?_ | ((first | refine ev_region ?_ | refine evr_go rfl ?_ | refine evw_go rfl ?_ | refine ev_dr0 mixed rfl (by kernel_rfl) ?_ | refine ev_dr1 mixed rfl (by kernel_rfl) ?_ | refine ev_dr2 mixed rfl (by kernel_rfl) ?_); simp only [go_sem]))
    (first | refine callD (hC) ?_ | refine callDw (hC) ?_); simp only [go_sem]
    repeat (first | refine And.intro (by omega) ?_ | refine And.intro rfl ?_ | refine ev_ctl rfl rfl ?_ | refine evr_nil ?_ | refine evw_nil (by kernel_rfl) ?_ | (simp (disch := omega) only [takeAll, Nat.min_eq_left, Nat.min_eq_right, if_pos, if_neg, getD_map, wrapI64, modIn, fdivE, tmodE, tdivE, decT, decF, beqT, beqF, bneT, bneF, Int.toNat_natCast]; try simp only [go_sem]) | refine ev_condTb rfl (by simp <;> omega) ?_ | refine ev_condFb rfl (by simp <;> omega) ?_ | ((first | refine ev_region ?_ | refine evr_go rfl ?_ | refine evw_go rfl ?_ | refine ev_dr0 mixed rfl (by kernel_rfl) ?_ | refine ev_dr1 mixed rfl (by kernel_rfl) ?_ | refine ev_dr2 mixed rfl (by kernel_rfl) ?_); simp only [go_sem]))
    (first | refine callD (rAdd_fn 2166136261 (core n)) ?_ | refine callDw (rAdd_fn 2166136261 (core n)) ?_); simp only [go_sem, core_u8s]
    repeat (first | refine And.intro (by omega) ?_ | refine And.intro rfl ?_ | refine ev_ctl rfl rfl ?_ | refine evr_nil ?_ | refine evw_nil (by kernel_rfl) ?_ | (simp (disch := omega) only [takeAll, Nat.min_eq_left, Nat.min_eq_right, if_pos, if_neg, getD_map, wrapI64, modIn, fdivE, tmodE, tdivE, decT, decF, beqT, beqF, bneT, bneF, Int.toNat_natCast]; try simp only [go_sem]) | refine ev_condTb rfl (by simp <;> omega) ?_ | refine ev_condFb rfl (by simp <;> omega) ?_ | ((first | refine ev_region ?_ | refine evr_go rfl ?_ | refine evw_go rfl ?_ | refine ev_dr0 mixed rfl (by kernel_rfl) ?_ | refine ev_dr1 mixed rfl (by kernel_rfl) ?_ | refine ev_dr2 mixed rfl (by kernel_rfl) ?_); simp only [go_sem]))
    refine ret m_renc_ok [] ?_; (first | (simp only [go_sem]; done) | (simp only [go_sem]; ((try dsimp only); (repeat' (refine And.intro ?_ ?_)) <;> first | with_reducible rfl | (simp only [go_sem]; done) | (simp only [go_sem]; rfl) | (simp only [encB_u8s, core_u8s]; (try simp only [go_sem]); first | done | rfl) | (simp only [go_sem]; simp [encB_u8s, core_u8s]; done) | (simp [encB_u8s, core_u8s]; done) | rfl)))
  · rw [show sEnc n = ([], chkN n) by rw [sEnc, if_neg ok]]
    refine Fnc.intro m_renc_ok (by simp) fun W S => ?_
    unfold m_renc
    simp only [ents, Nat.zero_add, Nat.reduceAdd]
    repeat (first | refine And.intro (by omega) ?_ | refine And.intro rfl ?_ | refine ev_ctl rfl rfl ?_ | refine evr_nil ?_ | refine evw_nil (by kernel_rfl) ?_ | (simp (disch := omega) only [takeAll, Nat.min_eq_left, Nat.min_eq_right, if_pos, if_neg, getD_map, wrapI64, modIn, fdivE, tmodE, tdivE, decT, decF, beqT, beqF, bneT, bneF, Int.toNat_natCast]; try simp only [go_sem]) | refine ev_condTb rfl (by simp <;> omega) ?_ | refine ev_condFb rfl (by simp <;> omega) ?_ | ((first | refine ev_region ?_ | refine evr_go rfl ?_ | refine evw_go rfl ?_ | refine ev_dr0 mixed rfl (by kernel_rfl) ?_ | refine ev_dr1 mixed rfl (by kernel_rfl) ?_ | refine ev_dr2 mixed rfl (by kernel_rfl) ?_); simp only [go_sem]))
    (first | refine callD (hC) ?_ | refine callDw (hC) ?_); simp only [go_sem]
    repeat (first | refine And.intro (by omega) ?_ | refine And.intro rfl ?_ | refine ev_ctl rfl rfl ?_ | refine evr_nil ?_ | refine evw_nil (by kernel_rfl) ?_ | (simp (disch := omega) only [takeAll, Nat.min_eq_left, Nat.min_eq_right, if_pos, if_neg, getD_map, wrapI64, modIn, fdivE, tmodE, tdivE, decT, decF, beqT, beqF, bneT, bneF, Int.toNat_natCast]; try simp only [go_sem]) | refine ev_condTb rfl (by simp <;> omega) ?_ | refine ev_condFb rfl (by simp <;> omega) ?_ | ((first | refine ev_region ?_ | refine evr_go rfl ?_ | refine evw_go rfl ?_ | refine ev_dr0 mixed rfl (by kernel_rfl) ?_ | refine ev_dr1 mixed rfl (by kernel_rfl) ?_ | refine ev_dr2 mixed rfl (by kernel_rfl) ?_); simp only [go_sem]))
    refine ev_nil2 2 true 1 rfl ?_
    refine ret m_renc_ok [] ?_; (first | (simp only [go_sem]; done) | (simp only [go_sem]; ((try dsimp only); (repeat' (refine And.intro ?_ ?_)) <;> first | with_reducible rfl | (simp only [go_sem]; done) | (simp only [go_sem]; rfl) | (simp only []; (try simp only [go_sem]); first | done | rfl) | (simp only [go_sem]; simp []; done) | (simp []; done) | rfl)))
theorem le4_bytes {n : Int} (h0 : 0 ≤ n) (h1 : n < 4294967296) : ∀ x ∈ le4 n, inK .u8 x := by
  intro x hx
  have hx : x = n % 256 ∨ x = n / 256 % 256 ∨ x = n / 65536 % 256 ∨ x = n / 16777216 := by
    unfold le4 at hx
    simpa using hx
  have e : inK .u8 x ↔ 0 ≤ x ∧ x ≤ 255 := by unfold inK; simp [IntKind.min, IntKind.max, IntKind.signed, IntKind.bits]
  rw [e]
  omega
theorem sEnc_bytes {n : Note} (hb : ∀ x ∈ n.bytes, inK .u8 x) : ∀ x ∈ (sEnc n).1, inK .u8 x := by
  have e : ∀ x : Int, inK .u8 x ↔ 0 ≤ x ∧ x ≤ 255 := by intro x; unfold inK; simp [IntKind.min, IntKind.max, IntKind.signed, IntKind.bits]
  unfold sEnc
  split
  · rename_i ok
    obtain ⟨h1, h2, h3, h4, h5, h6, h7⟩ := chkN_0 ok
    have s1 := dadd_lt (s := 2166136261) (by omega) (by omega) (core n)
    intro x hx
    have hx : x ∈ encB n := hx
    unfold encB at hx
    rcases List.mem_append.1 hx with hx | hx
    · unfold core at hx
      rcases List.mem_append.1 hx with hx | hx
      · rw [e]
        simp only [List.mem_cons, List.not_mem_nil, or_false] at hx
        omega
      · rcases List.mem_append.1 hx with hx | hx
        · exact le4_bytes h5 (by omega) x hx
        · exact hb x hx
    · exact le4_bytes s1.1 s1.2 x hx
  · intro x hx; cases hx
end Go.Proofs.Ytdjjhajkpfiagaa
