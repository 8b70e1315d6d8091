/- Trees: Build, Valid, Update, Root. -/
import Derived.Test.YtcphobeommkgeaaM2
import Derived.Test.YtcphobeommkgeaaZt
namespace Go.Proofs.Ytcphobeommkgeaa
open Go Go.RowKit Rdn Rdn.Dp
set_option linter.unusedVariables false
set_option linter.unusedSimpArgs false
def m_cln : MC := .seq (.reg [⟨(some 2), none, (.p (.mov (.c (.nilS))))⟩])
 (.seq (.seq (.reg [⟨(some 3), none, (.p (.mov (.t 0)))⟩, ⟨(some 4), none, (.p (.bin 2 .eql (.t 3) (.c (.nilS))))⟩])
 (.cond (.t 4) (.seq (.reg [⟨(some 2), none, (.p (.mov (.c (.nilS))))⟩])
 (.ret)) (.skip)))
 (.seq (.reg [⟨(some 5), none, (.m (.buildS 54 1 (.int .u32 0) 0 []))⟩, ⟨(some 6), none, (.p (.mov (.t 0)))⟩, ⟨(some 7), none, (.m (.app 54 1 4 (.t 5) (.t 6)))⟩, ⟨(some 2), none, (.p (.mov (.t 7)))⟩])
 (.ret)))
theorem m_cln_ok : compF Try.prog 67 = some (8, m_cln, [.mov (.t 2)]) := by kernel_rfl
def m_clo : MC := .seq (.reg [⟨(some 3), none, (.p (.mov (.c (.int .u32 0))))⟩])
 (.seq (.seq (.reg [⟨(some 4), none, (.p (.mov (.t 0)))⟩, ⟨(some 5), none, (.p (.bin 0 .mul (.c (.int .i64 2)) (.t 4)))⟩, ⟨(some 6), none, (.p (.bin 0 .add (.t 5) (.c (.int .i64 1))))⟩, ⟨(some 7), none, (.p (.load false 1 (.t 1)))⟩, ⟨(some 8), none, (.p (.len (.t 7)))⟩, ⟨(some 9), none, (.p (.bin 0 .eql (.t 6) (.t 8)))⟩])
 (.cond (.t 9) (.seq (.reg [⟨(some 10), none, (.p (.load false 1 (.t 1)))⟩, ⟨(some 11), none, (.p (.mov (.t 0)))⟩, ⟨(some 12), none, (.p (.bin 0 .mul (.c (.int .i64 2)) (.t 11)))⟩, ⟨(some 13), none, (.p (.idxA 1 (.t 10) (.t 12)))⟩, ⟨(some 14), none, (.p (.load false 1 (.t 13)))⟩, ⟨(some 3), none, (.p (.mov (.t 14)))⟩])
 (.ret)) (.skip)))
 (.seq (.dreg [⟨(some 15), none, (.p (.load false 1 (.t 1)))⟩, ⟨(some 16), none, (.p (.mov (.t 0)))⟩, ⟨(some 17), none, (.p (.bin 0 .mul (.c (.int .i64 2)) (.t 16)))⟩, ⟨(some 18), none, (.p (.idxA 1 (.t 15) (.t 17)))⟩, ⟨(some 19), none, (.p (.load false 1 (.t 18)))⟩, ⟨(some 20), none, (.p (.load false 1 (.t 1)))⟩, ⟨(some 21), none, (.p (.mov (.t 0)))⟩, ⟨(some 22), none, (.p (.bin 0 .mul (.c (.int .i64 2)) (.t 21)))⟩, ⟨(some 23), none, (.p (.bin 0 .add (.t 22) (.c (.int .i64 1))))⟩, ⟨(some 24), none, (.p (.idxA 1 (.t 20) (.t 23)))⟩, ⟨(some 25), none, (.p (.load false 1 (.t 24)))⟩, ⟨(some 26), none, (.call 70 [(.t 19), (.t 25)])⟩, ⟨(some 3), none, (.p (.mov (.t 26)))⟩] [[], [], [1], [0, 1, 2], [0, 1, 2, 3], [], [], [6], [6, 7], [5, 6, 7, 8], [5, 6, 7, 8, 9], [0, 1, 2, 3, 4, 5, 6, 7, 8, 9, 10], [0, 1, 2, 3, 4, 5, 6, 7, 8, 9, 10, 11]])
 (.ret)))
theorem m_clo_ok : compF Try.prog 69 = some (27, m_clo, [.mov (.t 3)]) := by kernel_rfl
def m_above : MC := .seq (.reg [⟨(some 4), none, (.p (.mov (.c (.nilS))))⟩])
 (.seq (.reg [⟨(some 7), none, (.p (.mov (.t 0)))⟩, ⟨(some 8), none, (.p (.bin 0 .add (.t 7) (.c (.int .i64 1))))⟩, ⟨(some 9), none, (.p (.bin 0 .quo (.t 8) (.c (.int .i64 2))))⟩, ⟨(some 10), none, (.m (.mkS 54 1 4 (.int .u32 0) (.t 9) (.t 9)))⟩, ⟨(some 5), none, (.p (.mov (.t 10)))⟩])
 (.seq (.seq (.reg [⟨(some 11), none, (.p (.mov (.t 5)))⟩, ⟨(some 12), none, (.p (.len (.t 11)))⟩, ⟨(some 13), none, (.p (.mov (.c (.int .i64 0))))⟩])
 (.block 0 (.loop (.seq (.reg [⟨(some 14), none, (.p (.bin 0 .lss (.t 13) (.t 12)))⟩])
 (.seq (.cond (.t 14) (.skip) (.exit 0))
 (.seq (.block 1 (.seq (.reg [⟨(some 15), none, (.p (.mov (.t 13)))⟩, ⟨(some 6), none, (.p (.mov (.t 15)))⟩])
 (.reg [⟨(some 16), none, (.p (.mov (.t 5)))⟩, ⟨(some 17), none, (.p (.mov (.t 6)))⟩, ⟨(some 18), none, (.p (.mov (.t 1)))⟩, ⟨(some 19), none, (.p (.mov (.t 6)))⟩, ⟨(some 20), none, (.callv (.t 18) [(.t 19)])⟩, ⟨(some 21), none, (.p (.idxA 1 (.t 16) (.t 17)))⟩, ⟨none, none, (.m (.store 1 (.t 21) (.t 20)))⟩])))
 (.reg [⟨(some 22), none, (.p (.bin 0 .add (.t 13) (.c (.int .i64 1))))⟩, ⟨(some 13), none, (.p (.mov (.t 22)))⟩])))))))
 (.seq (.reg [⟨(some 23), none, (.p (.mov (.t 5)))⟩, ⟨(some 4), none, (.p (.mov (.t 23)))⟩])
 (.ret))))
theorem m_above_ok : compF Try.prog 68 = some (24, m_above, [.mov (.t 4)]) := by kernel_rfl
def m_build : MC := .seq (.reg [⟨(some 2), none, (.m (.alloc 57 (.agg [.nilS])))⟩, ⟨(some 3), none, (.p (.mov (.c (.int .i64 0))))⟩])
 (.seq (.seq (.reg [⟨(some 7), none, (.p (.mov (.t 0)))⟩, ⟨(some 8), none, (.p (.len (.t 7)))⟩, ⟨(some 9), none, (.p (.bin 0 .eql (.t 8) (.c (.int .i64 0))))⟩, ⟨(some 10), none, (.p (.mov (.t 9)))⟩, ⟨(some 11), (some (10, false)), (.p (.mov (.t 0)))⟩, ⟨(some 12), (some (10, false)), (.p (.len (.t 11)))⟩, ⟨(some 13), (some (10, false)), (.p (.bin 0 .gtr (.t 12) (.c (.int .i64 20))))⟩, ⟨(some 14), none, (.p (.pick (.t 10) (.c (.bool true)) (.t 13)))⟩])
 (.cond (.t 14) (.seq (.reg [⟨(some 15), none, (.m (.build none [.nilS] []))⟩, ⟨none, none, (.m (.store 1 (.t 2) (.t 15)))⟩, ⟨(some 3), none, (.p (.mov (.c (.int .i64 1))))⟩])
 (.ret)) (.skip)))
 (.seq (.reg [⟨(some 16), none, (.p (.mov (.t 0)))⟩, ⟨(some 17), none, (.call 67 [(.t 16)])⟩, ⟨(some 18), none, (.m (.buildS 53 1 (.nilS) 1 [(0, (.t 17))]))⟩, ⟨(some 19), none, (.m (.build none [.nilS] [(0, (.t 18))]))⟩, ⟨(some 4), none, (.m (.alloc 57 (.agg [.nilS])))⟩, ⟨none, none, (.m (.store 1 (.t 4) (.t 19)))⟩])
 (.seq (.seq (.reg [⟨(some 20), none, (.p (.fieldA 0 0 (.t 4)))⟩, ⟨(some 21), none, (.p (.load false 1 (.t 20)))⟩, ⟨(some 22), none, (.p (.idxA 1 (.t 21) (.c (.int .i64 0))))⟩, ⟨(some 23), none, (.p (.load false 1 (.t 22)))⟩, ⟨(some 5), none, (.p (.mov (.t 23)))⟩])
 (.block 0 (.loop (.seq (.seq (.reg [⟨(some 24), none, (.p (.mov (.t 5)))⟩, ⟨(some 25), none, (.p (.len (.t 24)))⟩, ⟨(some 26), none, (.p (.bin 0 .gtr (.t 25) (.c (.int .i64 1))))⟩])
 (.cond (.t 26) (.skip) (.exit 0)))
 (.block 1 (.seq (.reg [⟨(some 27), none, (.p (.mov (.t 5)))⟩, ⟨(some 6), none, (.m (.alloc 53 (.nilS)))⟩, ⟨none, none, (.m (.store 1 (.t 6) (.t 27)))⟩])
 (.seq (.reg [⟨(some 28), none, (.p (.load false 1 (.t 6)))⟩, ⟨(some 29), none, (.p (.len (.t 28)))⟩, ⟨(some 30), none, (.p (.mkf 69 [(.t 6)]))⟩, ⟨(some 31), none, (.call 68 [(.t 29), (.t 30)])⟩, ⟨(some 5), none, (.p (.mov (.t 31)))⟩])
 (.reg [⟨(some 32), none, (.p (.fieldA 0 0 (.t 4)))⟩, ⟨(some 33), none, (.p (.load false 1 (.t 32)))⟩, ⟨(some 34), none, (.p (.mov (.t 5)))⟩, ⟨(some 35), none, (.m (.buildS 53 1 (.nilS) 1 [(0, (.t 34))]))⟩, ⟨(some 36), none, (.m (.app 53 1 24 (.t 33) (.t 35)))⟩, ⟨(some 37), none, (.p (.fieldA 0 0 (.t 4)))⟩, ⟨none, none, (.m (.store 1 (.t 37) (.t 36)))⟩]))))))))
 (.seq (.reg [⟨(some 38), none, (.p (.load true 1 (.t 4)))⟩, ⟨none, none, (.m (.store 1 (.t 2) (.t 38)))⟩, ⟨(some 3), none, (.p (.mov (.c (.int .i64 0))))⟩])
 (.ret)))))
theorem m_build_ok : compF Try.prog 28 = some (39, m_build, [.load true 1 (.t 2), .mov (.t 3)]) := by kernel_rfl
def m_eqd : MC := .seq (.reg [⟨(some 4), none, (.p (.mov (.c (.bool false))))⟩])
 (.seq (.seq (.reg [⟨(some 6), none, (.p (.mov (.t 0)))⟩, ⟨(some 7), none, (.p (.len (.t 6)))⟩, ⟨(some 8), none, (.p (.mov (.t 1)))⟩, ⟨(some 9), none, (.p (.len (.t 8)))⟩, ⟨(some 10), none, (.p (.bin 0 .neq (.t 7) (.t 9)))⟩])
 (.cond (.t 10) (.seq (.reg [⟨(some 4), none, (.p (.mov (.c (.bool false))))⟩])
 (.ret)) (.skip)))
 (.seq (.seq (.reg [⟨(some 11), none, (.p (.mov (.t 0)))⟩, ⟨(some 12), none, (.p (.len (.t 11)))⟩, ⟨(some 13), none, (.p (.mov (.c (.int .i64 0))))⟩])
 (.block 0 (.loop (.seq (.reg [⟨(some 14), none, (.p (.bin 0 .lss (.t 13) (.t 12)))⟩])
 (.seq (.cond (.t 14) (.skip) (.exit 0))
 (.seq (.block 1 (.seq (.reg [⟨(some 15), none, (.p (.mov (.t 13)))⟩, ⟨(some 5), none, (.p (.mov (.t 15)))⟩])
 (.seq (.dreg [⟨(some 16), none, (.p (.mov (.t 0)))⟩, ⟨(some 17), none, (.p (.mov (.t 5)))⟩, ⟨(some 18), none, (.p (.idxA 1 (.t 16) (.t 17)))⟩, ⟨(some 19), none, (.p (.load false 1 (.t 18)))⟩, ⟨(some 20), none, (.p (.mov (.t 1)))⟩, ⟨(some 21), none, (.p (.mov (.t 5)))⟩, ⟨(some 22), none, (.p (.idxA 1 (.t 20) (.t 21)))⟩, ⟨(some 23), none, (.p (.load false 1 (.t 22)))⟩, ⟨(some 24), none, (.p (.bin 0 .neq (.t 19) (.t 23)))⟩] [[], [], [0, 1], [0, 1, 2], [], [], [4, 5], [4, 5, 6], [0, 1, 2, 3, 4, 5, 6, 7]])
 (.cond (.t 24) (.seq (.reg [⟨(some 4), none, (.p (.mov (.c (.bool false))))⟩])
 (.ret)) (.skip)))))
 (.reg [⟨(some 25), none, (.p (.bin 0 .add (.t 13) (.c (.int .i64 1))))⟩, ⟨(some 13), none, (.p (.mov (.t 25)))⟩])))))))
 (.seq (.reg [⟨(some 4), none, (.p (.mov (.c (.bool true))))⟩])
 (.ret))))
theorem m_eqd_ok : compF Try.prog 72 = some (26, m_eqd, [.mov (.t 4)]) := by kernel_rfl
def m_eqf : MC := .seq (.reg [⟨(some 6), none, (.p (.mov (.c (.bool false))))⟩])
 (.seq (.seq (.reg [⟨(some 10), none, (.p (.mov (.t 0)))⟩, ⟨(some 11), none, (.p (.len (.t 10)))⟩, ⟨(some 12), none, (.p (.mov (.t 1)))⟩, ⟨(some 13), none, (.p (.len (.t 12)))⟩, ⟨(some 14), none, (.p (.bin 0 .neq (.t 11) (.t 13)))⟩])
 (.cond (.t 14) (.seq (.reg [⟨(some 6), none, (.p (.mov (.c (.bool false))))⟩])
 (.ret)) (.skip)))
 (.seq (.seq (.reg [⟨(some 15), none, (.p (.mov (.t 0)))⟩, ⟨(some 16), none, (.p (.len (.t 15)))⟩, ⟨(some 17), none, (.p (.mov (.c (.int .i64 0))))⟩])
 (.block 0 (.loop (.seq (.reg [⟨(some 18), none, (.p (.bin 0 .lss (.t 17) (.t 16)))⟩])
 (.seq (.cond (.t 18) (.skip) (.exit 0))
 (.seq (.block 1 (.seq (.reg [⟨(some 19), none, (.p (.mov (.t 17)))⟩, ⟨(some 20), none, (.p (.idxA 1 (.t 15) (.t 17)))⟩, ⟨(some 21), none, (.p (.load false 1 (.t 20)))⟩, ⟨(some 7), none, (.p (.mov (.t 19)))⟩, ⟨(some 8), none, (.p (.mov (.t 21)))⟩])
 (.seq (.reg [⟨(some 22), none, (.p (.mov (.t 1)))⟩, ⟨(some 23), none, (.p (.mov (.t 7)))⟩, ⟨(some 24), none, (.p (.idxA 1 (.t 22) (.t 23)))⟩, ⟨(some 25), none, (.p (.load false 1 (.t 24)))⟩, ⟨(some 9), none, (.p (.mov (.t 25)))⟩])
 (.seq (.reg [⟨(some 26), none, (.p (.mov (.t 2)))⟩, ⟨(some 27), none, (.p (.mov (.t 8)))⟩, ⟨(some 28), none, (.p (.mov (.t 9)))⟩, ⟨(some 29), none, (.callv (.t 26) [(.t 27), (.t 28)])⟩, ⟨(some 30), none, (.p (.un .not (.t 29)))⟩])
 (.cond (.t 30) (.seq (.reg [⟨(some 6), none, (.p (.mov (.c (.bool false))))⟩])
 (.ret)) (.skip))))))
 (.reg [⟨(some 31), none, (.p (.bin 0 .add (.t 17) (.c (.int .i64 1))))⟩, ⟨(some 17), none, (.p (.mov (.t 31)))⟩])))))))
 (.seq (.reg [⟨(some 6), none, (.p (.mov (.c (.bool true))))⟩])
 (.ret))))
theorem m_eqf_ok : compF Try.prog 71 = some (32, m_eqf, [.mov (.t 6)]) := by kernel_rfl
def m_tval : MC := .seq (.reg [⟨(some 1), none, (.m (.box 57 (.t 0)))⟩, ⟨(some 2), none, (.p (.mov (.c (.bool false))))⟩])
 (.seq (.seq (.reg [⟨(some 5), none, (.p (.fieldA 0 0 (.t 1)))⟩, ⟨(some 6), none, (.p (.load false 1 (.t 5)))⟩, ⟨(some 7), none, (.p (.len (.t 6)))⟩, ⟨(some 8), none, (.p (.bin 0 .eql (.t 7) (.c (.int .i64 0))))⟩])
 (.cond (.t 8) (.seq (.reg [⟨(some 2), none, (.p (.mov (.c (.bool false))))⟩])
 (.ret)) (.skip)))
 (.seq (.reg [⟨(some 10), none, (.p (.fieldA 0 0 (.t 1)))⟩, ⟨(some 11), none, (.p (.load false 1 (.t 10)))⟩, ⟨(some 12), none, (.p (.idxA 1 (.t 11) (.c (.int .i64 0))))⟩, ⟨(some 13), none, (.p (.load false 1 (.t 12)))⟩, ⟨(some 14), none, (.call 28 [(.t 13)])⟩, ⟨(some 9), none, (.p (.mov (.t 14)))⟩, ⟨(some 15), none, (.p (.ext (.t 9) 0))⟩, ⟨(some 16), none, (.p (.ext (.t 9) 1))⟩, ⟨(some 3), none, (.m (.alloc 57 (.agg [.nilS])))⟩, ⟨none, none, (.m (.store 1 (.t 3) (.t 15)))⟩, ⟨(some 4), none, (.p (.mov (.t 16)))⟩])
 (.seq (.reg [⟨(some 17), none, (.p (.mov (.t 4)))⟩, ⟨(some 18), none, (.p (.bin 0 .eql (.t 17) (.c (.int .i64 0))))⟩, ⟨(some 19), none, (.p (.mov (.t 18)))⟩, ⟨(some 20), (some (19, true)), (.p (.fieldA 0 0 (.t 3)))⟩, ⟨(some 21), (some (19, true)), (.p (.load false 1 (.t 20)))⟩, ⟨(some 22), (some (19, true)), (.p (.fieldA 0 0 (.t 1)))⟩, ⟨(some 23), (some (19, true)), (.p (.load false 1 (.t 22)))⟩, ⟨(some 24), (some (19, true)), (.call 71 [(.t 21), (.t 23), (.c (.fn 72))])⟩, ⟨(some 25), none, (.p (.pick (.t 19) (.t 24) (.c (.bool false))))⟩, ⟨(some 2), none, (.p (.mov (.t 25)))⟩])
 (.ret))))
theorem m_tval_ok : compF Try.prog 32 = some (26, m_tval, [.mov (.t 2)]) := by kernel_rfl
abbrev dsV (w : List Int) : V := .sl false 1 (u32s w)
abbrev dtV (w : List Int) : V := .sl true 1 (u32s w)
set_option maxHeartbeats 4000000 in
theorem cln_fn (l : List Int) (hb : l.length ≤ 1000000) : Fnc Try.prog 67 [.sl false 1 (l.map (V.int .u32))] (fun x obs => x = .sl true 1 (l.map (V.int .u32)) ∧ obs = []) := by
  refine Fnc.intro m_cln_ok (by simp) fun W S => ?_
  unfold m_cln
  simp only [ents, Nat.zero_add, Nat.reduceAdd]
  repeat (first | refine ev_seq ?_ | refine ev_block ?_ | refine ev_skip ?_ | refine ev_inBlock ?_ | refine evr_nil ?_ | refine evw_nil (by kernel_rfl) ?_ | refine ev_exit rfl ?_ | refine ev_round ?_ | refine ev_condT rfl ?_ | refine ev_condF rfl ?_ | refine ev_condTb rfl (by first | exact decT (by omega) | exact beqT (by omega) | exact bneT (by omega) | exact notT (decF (by omega)) | exact notT (beqF (by omega))) ?_ | refine ev_condFb rfl (by first | exact decF (by omega) | exact beqF (by omega) | exact bneF (by omega) | exact notF (decT (by omega)) | exact notF (beqT (by omega))) ?_)
  (first | refine ev_seq ?_ | refine ev_block ?_ | refine ev_skip ?_ | refine ev_inBlock ?_ | refine evr_nil ?_ | refine evw_nil (by kernel_rfl) ?_ | refine ev_exit rfl ?_ | refine ev_round ?_ | refine ev_condT rfl ?_ | refine ev_condF rfl ?_ | refine ev_condTb rfl (by first | exact decT (by omega) | exact beqT (by omega) | exact bneT (by omega) | exact notT (decF (by omega)) | exact notT (beqF (by omega))) ?_ | refine ev_condFb rfl (by first | exact decF (by omega) | exact beqF (by omega) | exact bneF (by omega) | exact notF (decT (by omega)) | exact notF (beqT (by omega))) ?_ | ((first | refine ev_region ?_ | (refine evr_skip rfl ?_; refine ev_all (fu := [(), (), (), (), (), (), (), ()]) ?_) | (refine evw_skip rfl ?_; refine evw_all (md := []) (fu := [(), (), (), (), (), (), (), ()]) ?_) | refine evr_goP ?_ | refine evr_goM ?_ | refine evw_goP ?_ | refine evw_goM ?_ | refine ev_draw (fu := [(), (), (), (), (), (), (), ()]) mixed [] 0 rfl (by kernel_rfl) ?_ | refine ev_draw (fu := [(), (), (), (), (), (), (), ()]) mixed [] 1 rfl (by kernel_rfl) ?_ | refine ev_draw (fu := [(), (), (), (), (), (), (), ()]) mixed [] 2 rfl (by kernel_rfl) ?_); refine zev ?_))
  repeat (first | refine ev_seq ?_ | refine ev_block ?_ | refine ev_skip ?_ | refine ev_inBlock ?_ | refine evr_nil ?_ | refine evw_nil (by kernel_rfl) ?_ | refine ev_exit rfl ?_ | refine ev_round ?_ | refine ev_condT rfl ?_ | refine ev_condF rfl ?_ | refine ev_condTb rfl (by first | exact decT (by omega) | exact beqT (by omega) | exact bneT (by omega) | exact notT (decF (by omega)) | exact notT (beqF (by omega))) ?_ | refine ev_condFb rfl (by first | exact decF (by omega) | exact beqF (by omega) | exact bneF (by omega) | exact notF (decT (by omega)) | exact notF (beqT (by omega))) ?_)
  refine ev_reg ?_
  refine evr_p rfl trivial ?_
  refine evr_nilq rfl rfl fun b hb0 => ?_
  cases b with
  | false =>
    simp only [aopP, X.ev, slotV, AS.put, if_true]
    refine zst ?_
    refine ret m_cln_ok [] ?_; (first | (simp only [go_sem]; done) | (simp only [go_sem]; ((try dsimp only); (repeat' (refine And.intro ?_ ?_)) <;> first | with_reducible rfl | (simp only [go_sem]; done) | (simp only [go_sem]; rfl) | (simp only []; (try simp only [go_sem]); first | done | rfl) | (simp only [go_sem]; simp []; done) | (simp []; done) | rfl)))
  | true =>
    have hl : l = [] := by
      cases l with
      | nil => rfl
      | cons a l => exact absurd (hb0 (by simp)) (by simp)
    subst hl
    simp only [aopP, X.ev, slotV, AS.put, if_true]
    repeat (first | refine ev_seq ?_ | refine ev_block ?_ | refine ev_skip ?_ | refine ev_inBlock ?_ | refine evr_nil ?_ | refine evw_nil (by kernel_rfl) ?_ | refine ev_exit rfl ?_ | refine ev_round ?_ | refine ev_condT rfl ?_ | refine ev_condF rfl ?_ | refine ev_condTb rfl (by first | exact decT (by omega) | exact beqT (by omega) | exact bneT (by omega) | exact notT (decF (by omega)) | exact notT (beqF (by omega))) ?_ | refine ev_condFb rfl (by first | exact decF (by omega) | exact beqF (by omega) | exact bneF (by omega) | exact notF (decT (by omega)) | exact notF (beqT (by omega))) ?_)
    (first | refine ev_seq ?_ | refine ev_block ?_ | refine ev_skip ?_ | refine ev_inBlock ?_ | refine evr_nil ?_ | refine evw_nil (by kernel_rfl) ?_ | refine ev_exit rfl ?_ | refine ev_round ?_ | refine ev_condT rfl ?_ | refine ev_condF rfl ?_ | refine ev_condTb rfl (by first | exact decT (by omega) | exact beqT (by omega) | exact bneT (by omega) | exact notT (decF (by omega)) | exact notT (beqF (by omega))) ?_ | refine ev_condFb rfl (by first | exact decF (by omega) | exact beqF (by omega) | exact bneF (by omega) | exact notF (decT (by omega)) | exact notF (beqT (by omega))) ?_ | ((first | refine ev_region ?_ | (refine evr_skip rfl ?_; refine ev_all (fu := [(), (), (), (), (), (), (), ()]) ?_) | (refine evw_skip rfl ?_; refine evw_all (md := []) (fu := [(), (), (), (), (), (), (), ()]) ?_) | refine evr_goP ?_ | refine evr_goM ?_ | refine evw_goP ?_ | refine evw_goM ?_ | refine ev_draw (fu := [(), (), (), (), (), (), (), ()]) mixed [] 0 rfl (by kernel_rfl) ?_ | refine ev_draw (fu := [(), (), (), (), (), (), (), ()]) mixed [] 1 rfl (by kernel_rfl) ?_ | refine ev_draw (fu := [(), (), (), (), (), (), (), ()]) mixed [] 2 rfl (by kernel_rfl) ?_); refine zev ?_))
    repeat (first | refine ev_seq ?_ | refine ev_block ?_ | refine ev_skip ?_ | refine ev_inBlock ?_ | refine evr_nil ?_ | refine evw_nil (by kernel_rfl) ?_ | refine ev_exit rfl ?_ | refine ev_round ?_ | refine ev_condT rfl ?_ | refine ev_condF rfl ?_ | refine ev_condTb rfl (by first | exact decT (by omega) | exact beqT (by omega) | exact bneT (by omega) | exact notT (decF (by omega)) | exact notT (beqF (by omega))) ?_ | refine ev_condFb rfl (by first | exact decF (by omega) | exact beqF (by omega) | exact bneF (by omega) | exact notF (decT (by omega)) | exact notF (beqT (by omega))) ?_)
    refine ev_nil2 2 true 1 rfl ?_
    refine ret m_cln_ok [] ?_; (first | (simp only [go_sem]; done) | (simp only [go_sem]; ((try dsimp only); (repeat' (refine And.intro ?_ ?_)) <;> first | with_reducible rfl | (simp only [go_sem]; done) | (simp only [go_sem]; rfl) | (simp only []; (try simp only [go_sem]); first | done | rfl) | (simp only [go_sem]; simp []; done) | (simp []; done) | rfl)))
set_option maxHeartbeats 4000000 in
theorem cln_own (l : List Int) (hb : l.length ≤ 1000000) : Fnc Try.prog 67 [.sl false 1 (l.map (V.int .u32))] (fun x obs => x = .own 0 0 ∧ obs = [⟨.row 54, true, 0, .arr 1 (l.map (V.int .u32))⟩]) := by
  refine Fnc.intro m_cln_ok (by simp) fun W S => ?_
  unfold m_cln
  simp only [ents, Nat.zero_add, Nat.reduceAdd]
  repeat (first | refine ev_seq ?_ | refine ev_block ?_ | refine ev_skip ?_ | refine ev_inBlock ?_ | refine evr_nil ?_ | refine evw_nil (by kernel_rfl) ?_ | refine ev_exit rfl ?_ | refine ev_round ?_ | refine ev_condT rfl ?_ | refine ev_condF rfl ?_ | refine ev_condTb rfl (by first | exact decT (by omega) | exact beqT (by omega) | exact bneT (by omega) | exact notT (decF (by omega)) | exact notT (beqF (by omega))) ?_ | refine ev_condFb rfl (by first | exact decF (by omega) | exact beqF (by omega) | exact bneF (by omega) | exact notF (decT (by omega)) | exact notF (beqT (by omega))) ?_)
  (first | refine ev_seq ?_ | refine ev_block ?_ | refine ev_skip ?_ | refine ev_inBlock ?_ | refine evr_nil ?_ | refine evw_nil (by kernel_rfl) ?_ | refine ev_exit rfl ?_ | refine ev_round ?_ | refine ev_condT rfl ?_ | refine ev_condF rfl ?_ | refine ev_condTb rfl (by first | exact decT (by omega) | exact beqT (by omega) | exact bneT (by omega) | exact notT (decF (by omega)) | exact notT (beqF (by omega))) ?_ | refine ev_condFb rfl (by first | exact decF (by omega) | exact beqF (by omega) | exact bneF (by omega) | exact notF (decT (by omega)) | exact notF (beqT (by omega))) ?_ | ((first | refine ev_region ?_ | (refine evr_skip rfl ?_; refine ev_all (fu := [(), (), (), (), (), (), (), ()]) ?_) | (refine evw_skip rfl ?_; refine evw_all (md := []) (fu := [(), (), (), (), (), (), (), ()]) ?_) | refine evr_goP ?_ | refine evr_goM ?_ | refine evw_goP ?_ | refine evw_goM ?_ | refine ev_draw (fu := [(), (), (), (), (), (), (), ()]) mixed [] 0 rfl (by kernel_rfl) ?_ | refine ev_draw (fu := [(), (), (), (), (), (), (), ()]) mixed [] 1 rfl (by kernel_rfl) ?_ | refine ev_draw (fu := [(), (), (), (), (), (), (), ()]) mixed [] 2 rfl (by kernel_rfl) ?_); refine zev ?_))
  repeat (first | refine ev_seq ?_ | refine ev_block ?_ | refine ev_skip ?_ | refine ev_inBlock ?_ | refine evr_nil ?_ | refine evw_nil (by kernel_rfl) ?_ | refine ev_exit rfl ?_ | refine ev_round ?_ | refine ev_condT rfl ?_ | refine ev_condF rfl ?_ | refine ev_condTb rfl (by first | exact decT (by omega) | exact beqT (by omega) | exact bneT (by omega) | exact notT (decF (by omega)) | exact notT (beqF (by omega))) ?_ | refine ev_condFb rfl (by first | exact decF (by omega) | exact beqF (by omega) | exact bneF (by omega) | exact notF (decT (by omega)) | exact notF (beqT (by omega))) ?_)
  refine ev_reg ?_
  refine evr_p rfl trivial ?_
  refine evr_nilq rfl rfl fun b hb0 => ?_
  cases b with
  | false =>
    simp only [aopP, X.ev, slotV, AS.put, if_true]
    refine zst ?_
    refine ret m_cln_ok [0] ?_; (first | (simp only [go_sem]; done) | (simp only [go_sem]; ((try dsimp only); (repeat' (refine And.intro ?_ ?_)) <;> first | with_reducible rfl | (simp only [go_sem]; done) | (simp only [go_sem]; rfl) | (simp only []; (try simp only [go_sem]); first | done | rfl) | (simp only [go_sem]; simp []; done) | (simp []; done) | rfl)))
  | true =>
    have hl : l = [] := by
      cases l with
      | nil => rfl
      | cons a l => exact absurd (hb0 (by simp)) (by simp)
    subst hl
    simp only [aopP, X.ev, slotV, AS.put, if_true]
    repeat (first | refine ev_seq ?_ | refine ev_block ?_ | refine ev_skip ?_ | refine ev_inBlock ?_ | refine evr_nil ?_ | refine evw_nil (by kernel_rfl) ?_ | refine ev_exit rfl ?_ | refine ev_round ?_ | refine ev_condT rfl ?_ | refine ev_condF rfl ?_ | refine ev_condTb rfl (by first | exact decT (by omega) | exact beqT (by omega) | exact bneT (by omega) | exact notT (decF (by omega)) | exact notT (beqF (by omega))) ?_ | refine ev_condFb rfl (by first | exact decF (by omega) | exact beqF (by omega) | exact bneF (by omega) | exact notF (decT (by omega)) | exact notF (beqT (by omega))) ?_)
    (first | refine ev_seq ?_ | refine ev_block ?_ | refine ev_skip ?_ | refine ev_inBlock ?_ | refine evr_nil ?_ | refine evw_nil (by kernel_rfl) ?_ | refine ev_exit rfl ?_ | refine ev_round ?_ | refine ev_condT rfl ?_ | refine ev_condF rfl ?_ | refine ev_condTb rfl (by first | exact decT (by omega) | exact beqT (by omega) | exact bneT (by omega) | exact notT (decF (by omega)) | exact notT (beqF (by omega))) ?_ | refine ev_condFb rfl (by first | exact decF (by omega) | exact beqF (by omega) | exact bneF (by omega) | exact notF (decT (by omega)) | exact notF (beqT (by omega))) ?_ | ((first | refine ev_region ?_ | (refine evr_skip rfl ?_; refine ev_all (fu := [(), (), (), (), (), (), (), ()]) ?_) | (refine evw_skip rfl ?_; refine evw_all (md := []) (fu := [(), (), (), (), (), (), (), ()]) ?_) | refine evr_goP ?_ | refine evr_goM ?_ | refine evw_goP ?_ | refine evw_goM ?_ | refine ev_draw (fu := [(), (), (), (), (), (), (), ()]) mixed [] 0 rfl (by kernel_rfl) ?_ | refine ev_draw (fu := [(), (), (), (), (), (), (), ()]) mixed [] 1 rfl (by kernel_rfl) ?_ | refine ev_draw (fu := [(), (), (), (), (), (), (), ()]) mixed [] 2 rfl (by kernel_rfl) ?_); refine zev ?_))
    repeat (first | refine ev_seq ?_ | refine ev_block ?_ | refine ev_skip ?_ | refine ev_inBlock ?_ | refine evr_nil ?_ | refine evw_nil (by kernel_rfl) ?_ | refine ev_exit rfl ?_ | refine ev_round ?_ | refine ev_condT rfl ?_ | refine ev_condF rfl ?_ | refine ev_condTb rfl (by first | exact decT (by omega) | exact beqT (by omega) | exact bneT (by omega) | exact notT (decF (by omega)) | exact notT (beqF (by omega))) ?_ | refine ev_condFb rfl (by first | exact decF (by omega) | exact beqF (by omega) | exact bneF (by omega) | exact notF (decT (by omega)) | exact notF (beqT (by omega))) ?_)
    refine ev_adopt (i := 2) (e := 54) (s := 1) rfl (by decide) ?_
    refine ret m_cln_ok [0] ?_; (first | (simp only [go_sem]; done) | (simp only [go_sem]; ((try dsimp only); (repeat' (refine And.intro ?_ ?_)) <;> first | with_reducible rfl | (simp only [go_sem]; done) | (simp only [go_sem]; rfl) | (simp only []; (try simp only [go_sem]); first | done | rfl) | (simp only [go_sem]; simp []; done) | (simp []; done) | rfl)))
set_option maxHeartbeats 4000000 in
theorem clo_fn (L : List Int) (i : Nat) (h : i < (L.length + 1) / 2) (hL : L.length ≤ 20) : Fnc Try.prog 69 [.int .i64 i, .rp (dsV L)] (fun x obs => x = .int .u32 (up L)[i]! ∧ obs = []) := by
  have hu := up_at h
  have h2 : (2 * (i : Int)).toNat = 2 * i := by omega
  have h3 : (2 * (i : Int) + 1).toNat = 2 * i + 1 := by omega
  by_cases c : 2 * i + 1 = L.length
  · rw [if_pos c] at hu
    refine Fnc.intro m_clo_ok (by simp) fun W S => ?_
    unfold m_clo
    simp only [ents, Nat.zero_add, Nat.reduceAdd]
    refine zst ?_
    repeat (first | (simp only [h2]; try simp only [go_sem]) | refine And.intro (by omega) ?_ | refine And.intro rfl ?_ | refine ev_ctl rfl rfl ?_ | refine evr_nil ?_ | refine evw_nil (by kernel_rfl) ?_ | (simp (disch := omega) only [takeAll, Nat.min_eq_left, Nat.min_eq_right, if_pos, if_neg, getD_map, wrapI64, modIn, fdivE, tmodE, tdivE, decT, decF, beqT, beqF, bneT, bneF, Int.toNat_natCast]; try simp only [go_sem]) | (refine ev_condTb rfl ?_ ?_; · (simp <;> omega)) | (refine ev_condFb rfl ?_ ?_; · (simp <;> omega)) | ((first | refine ev_region ?_ | refine evr_go rfl ?_ | refine evw_go rfl ?_ | refine ev_dr0 mixed rfl (by kernel_rfl) ?_ | refine ev_dr1 mixed rfl (by kernel_rfl) ?_ | refine ev_dr2 mixed rfl (by kernel_rfl) ?_); simp only [go_sem]))
    refine ret m_clo_ok [] ?_; (first | (simp only [go_sem]; done) | (simp only [go_sem]; ((try dsimp only); (repeat' (refine And.intro ?_ ?_)) <;> first | with_reducible rfl | (simp only [go_sem]; done) | (simp only [go_sem]; rfl) | (simp only [go_sem, hu]; done) | (simp only [hu]; (try simp only [go_sem]); first | done | rfl) | (simp only [go_sem]; simp [hu]; done) | (simp [hu]; done) | rfl)))
  · rw [if_neg c] at hu
    refine Fnc.intro m_clo_ok (by simp) fun W S => ?_
    unfold m_clo
    simp only [ents, Nat.zero_add, Nat.reduceAdd]
    refine zst ?_
    repeat (first | (simp only [h2, h3]; try simp only [go_sem]) | refine And.intro (by omega) ?_ | refine And.intro rfl ?_ | refine ev_ctl rfl rfl ?_ | refine evr_nil ?_ | refine evw_nil (by kernel_rfl) ?_ | (simp (disch := omega) only [takeAll, Nat.min_eq_left, Nat.min_eq_right, if_pos, if_neg, getD_map, wrapI64, modIn, fdivE, tmodE, tdivE, decT, decF, beqT, beqF, bneT, bneF, Int.toNat_natCast]; try simp only [go_sem]) | (refine ev_condTb rfl ?_ ?_; · (simp <;> omega)) | (refine ev_condFb rfl ?_ ?_; · (simp <;> omega)) | ((first | refine ev_region ?_ | refine evr_go rfl ?_ | refine evw_go rfl ?_ | refine ev_dr0 mixed rfl (by kernel_rfl) ?_ | refine ev_dr1 mixed rfl (by kernel_rfl) ?_ | refine ev_dr2 mixed rfl (by kernel_rfl) ?_); simp only [go_sem]))
    (first | refine callD (join_fn L[2 * i]! L[2 * i + 1]!) ?_ | refine callDw (join_fn L[2 * i]! L[2 * i + 1]!) ?_); simp only [go_sem]
    refine zst ?_
    refine ret m_clo_ok [] ?_; (first | (simp only [go_sem]; done) | (simp only [go_sem]; ((try dsimp only); (repeat' (refine And.intro ?_ ?_)) <;> first | with_reducible rfl | (simp only [go_sem]; done) | (simp only [go_sem]; rfl) | (simp only [go_sem, hu]; done) | (simp only [hu]; (try simp only [go_sem]); first | done | rfl) | (simp only [go_sem]; simp [hu]; done) | (simp [hu]; done) | rfl)))
def fil (L : List Int) (k : Nat) : List Int := (up L).take k ++ List.replicate ((L.length + 1) / 2 - k) 0
theorem fil_zero (L : List Int) : List.replicate ((L.length + 1) / 2) (V.int .u32 0) = u32s (fil L 0) := by simp [fil]
theorem fil_len {L : List Int} {k : Nat} (h : k ≤ (L.length + 1) / 2) : (fil L k).length = (L.length + 1) / 2 := by
  have := up_len L
  simp only [fil, List.length_append, List.length_take, List.length_replicate]
  omega
theorem fil_set {L : List Int} {k : Nat} (h : k < (L.length + 1) / 2) : (fil L k).set k (up L)[k]! = fil L (k + 1) := by
  have hl := up_len L
  obtain ⟨c, hc⟩ : ∃ c, (L.length + 1) / 2 - k = c + 1 := ⟨(L.length + 1) / 2 - k - 1, by omega⟩
  have hc' : (L.length + 1) / 2 - (k + 1) = c := by omega
  have ht : ((up L).take k).length = k := by rw [List.length_take]; omega
  unfold fil
  rw [hc, hc', List.replicate_succ, List.set_append_right _ _ (by omega), ht, Nat.sub_self, List.set_cons_zero, take_snoc (by omega), List.append_assoc]
  rfl
theorem fil_end (L : List Int) : fil L ((L.length + 1) / 2) = up L := by
  unfold fil
  rw [List.take_of_length_le (by rw [up_len]; omega), Nat.sub_self]
  simp
attribute [local irreducible] fil up
set_option maxHeartbeats 4000000 in
theorem above_fn (L : List Int) (hL : L.length ≤ 20) : Fnc Try.prog 68 [.int .i64 L.length, .clo 69 [.rp (dsV L)]] (fun x obs => x = .own 0 0 ∧ obs = [⟨.row 54, true, 0, .arr 1 (u32s (up L))⟩]) := by
  have h1 : (((L.length : Int) + 1) / 2).toNat = (L.length + 1) / 2 := by omega
  have hz := fil_zero L
  refine Fnc.intro m_above_ok (by simp) fun W S => ?_
  unfold m_above
  simp only [ents, Nat.zero_add, Nat.reduceAdd]
  refine zst ?_
  repeat (first | (simp only [h1, hz]; try simp only [go_sem]) | refine And.intro (by omega) ?_ | refine And.intro rfl ?_ | refine ev_ctl rfl rfl ?_ | refine evr_nil ?_ | refine evw_nil (by kernel_rfl) ?_ | (simp (disch := omega) only [takeAll, Nat.min_eq_left, Nat.min_eq_right, if_pos, if_neg, getD_map, wrapI64, modIn, fdivE, tmodE, tdivE, decT, decF, beqT, beqF, bneT, bneF, Int.toNat_natCast]; try simp only [go_sem]) | (refine ev_condTb rfl ?_ ?_; · (simp <;> omega)) | (refine ev_condFb rfl ?_ ?_; · (simp <;> omega)) | ((first | refine ev_region ?_ | refine evr_go rfl ?_ | refine evw_go rfl ?_ | refine ev_dr0 mixed rfl (by kernel_rfl) ?_ | refine ev_dr1 mixed rfl (by kernel_rfl) ?_ | refine ev_dr2 mixed rfl (by kernel_rfl) ?_); simp only [go_sem]))
  refine ev_loopK [1, 5, 12] (fun p : {p : Nat // p ≤ (L.length + 1) / 2} => [(13, .int .i64 p.1)]) (fun p => [⟨.row 54, true, 0, .arr 1 (u32s (fil L p.1))⟩]) (fun p => (L.length + 1) / 2 - p.1) (⟨0, by simp⟩) 1 (by simp only [go_sem]; rfl) ?_ (by first | rfl | (simp only [go_sem]; done) | (simp only [go_sem]; simp [hz]; done)) (by simp) (by first | rfl | (simp only [go_sem]; done)) (by first | rfl | (simp only [go_sem]; done)) (by first | rfl | (simp only [go_sem]; done) | (simp only [hz]; (try simp only [go_sem]); first | done | rfl)) ?_
  · (simp only [go_sem]; (try simp [hz]); done)
  intro J hJ
  rintro ⟨k, hk0⟩
  have hfl := fil_len (L := L) hk0
  by_cases hlt : k < (L.length + 1) / 2
  · have hS := fil_set (L := L) hlt
    refine zst ?_
    refine callDv (clo_fn L k hlt hL) (by kernel_rfl) rfl ?_; simp only [go_sem]
    refine zst ?_
    refine ev_next 1 (hJ _ (⟨k + 1, hlt⟩) (by first | omega | (dsimp only; omega) | (simp; omega))) rfl (by simp) ?_ (by first | rfl | (simp only [go_sem]; done)) (by first | rfl | (simp only [go_sem]; done) | (simp only [hS]; (try simp only [go_sem]); first | done | rfl)) ?_
    · (first | rfl | (simp only [go_sem]; done) | (simp only [go_sem]; simp only [hS]; done) | (simp only [hS]; done) | (simp only [go_sem]; simp [hS]; done) | (simp [hS]; done))
    · (simp only [go_sem]; (repeat' (refine And.intro ?_ ?_)) <;> first | exact trivial | with_reducible rfl | (simp only [hS]; done) | (simp only [hS]; with_reducible rfl) | (simp [hS]; done) | (simp [hS]; omega) | (simp only [hS]; rfl) | skip)
  · obtain rfl : k = (L.length + 1) / 2 := by omega
    have he := fil_end L
    rw [he]
    refine zst ?_
    refine ret m_above_ok [0] ?_; (first | (simp only [go_sem]; done) | (simp only [go_sem]; ((try dsimp only); (repeat' (refine And.intro ?_ ?_)) <;> first | with_reducible rfl | (simp only [go_sem]; done) | (simp only [go_sem]; rfl) | (simp only []; (try simp only [go_sem]); first | done | rfl) | (simp only [go_sem]; simp []; done) | (simp []; done) | rfl)))
set_option maxHeartbeats 8000000 in
theorem build_fn (l : List Int) (h1 : 1 ≤ l.length) (h2 : l.length ≤ 20) : Fnc Try.prog 28 [dsV l] (fun x obs => x = .tup [.agg [.sl false 1 ((bld l).map dsV)], .int .i64 0] ∧ obs = []) := by
  refine Fnc.low ?_
  refine Fnc.intro m_build_ok (by simp) fun W S => ?_
  unfold m_build
  simp only [ents, Nat.zero_add, Nat.reduceAdd]
  refine zst ?_
  (first | refine callD (cln_fn l (by omega)) ?_ | refine callDw (cln_fn l (by omega)) ?_); simp only [go_sem]
  refine zst ?_
  refine ev_loopK [2, 4] (fun p : {p : Nat // p ≤ dep l.length} => [(5, dtV (lev l p.1))]) (fun p => [⟨.box false 57, true, 0, .agg [.nilS]⟩, ⟨.row 53, true, p.1, .arr 1 ((blk' l p.1).map dtV)⟩, ⟨.box false 57, true, 0, .agg [.own 1 p.1]⟩]) (fun p => dep l.length - p.1) (⟨0, by simp⟩) 3 (by simp only [go_sem]; rfl) ?_ (by first | rfl | (simp only [go_sem]; done) | (simp only [go_sem]; simp [lev]; done)) (by simp) (by first | rfl | (simp only [go_sem]; done)) (by first | rfl | (simp only [go_sem]; done)) (by first | rfl | (simp only [go_sem]; done) | (simp only [lev]; (try simp only [go_sem]); first | done | rfl)) ?_
  · (simp only [go_sem]; (try simp [lev]); done)
  intro J hJ
  rintro ⟨k, hk0⟩
  have hll := lev_len l k
  have hd := hl_dep h1 h2 hk0
  have hle := hl_le h1 k
  rw [← hll] at hd hle
  by_cases hlt : k < dep l.length
  · have hs := blk_snoc l k
    have hbl := blk_len l k
    have h5 := dep_le l.length
    have hlv : up (lev l k) = lev l (k + 1) := rfl
    refine zst ?_
    refine evr_cloB 30 rfl rfl rfl ?_
    (first | refine callX (above_fn (lev l k) (by omega)) ?_ | refine callXw (above_fn (lev l k) (by omega)) ?_); refine zev ?_
    refine evr_freeze 5 rfl rfl ?_
    refine zst ?_
    refine ev_next 3 (hJ _ (⟨k + 1, hlt⟩) (by first | omega | (dsimp only; omega) | (simp; omega))) rfl (by simp) ?_ (by first | rfl | (simp only [go_sem]; done)) (by first | rfl | (simp only [go_sem]; done) | (simp only [hlv, hs]; (try simp only [go_sem]); first | done | rfl)) ?_
    · (first | rfl | (simp only [go_sem]; done) | (simp only [go_sem]; simp only [hlv, hs]; done) | (simp only [hlv, hs]; done) | (simp only [go_sem]; simp [hlv, hs]; done) | (simp [hlv, hs]; done))
    · (simp only [go_sem]; (repeat' (refine And.intro ?_ ?_)) <;> first | exact trivial | with_reducible rfl | (simp only [hlv, hs]; done) | (simp only [hlv, hs]; with_reducible rfl) | (simp [hlv, hs]; done) | (simp [hlv, hs]; omega) | (simp only [hlv, hs]; rfl) | skip)
  · obtain rfl : k = dep l.length := by omega
    refine zst ?_
    refine ret m_build_ok [] ?_; (first | (simp only [go_sem]; done) | (simp only [go_sem]; ((try dsimp only); (repeat' (refine And.intro ?_ ?_)) <;> first | with_reducible rfl | (simp only [go_sem]; done) | (simp only [go_sem]; rfl) | (simp only [go_sem, bld]; done) | (simp only [bld]; (try simp only [go_sem]); first | done | rfl) | (simp only [go_sem]; simp [bld]; done) | (simp [bld]; done) | rfl)))
set_option maxHeartbeats 8000000 in
theorem build_bad (l : List Int) (h : ¬ (1 ≤ l.length ∧ l.length ≤ 20)) : Fnc Try.prog 28 [dsV l] (fun x obs => x = .tup [.agg [.nilS], .int .i64 1] ∧ obs = []) := by
  refine Fnc.wf fun hw => ?_
  simp only [V.wfs, V.wf, wfs_map, List.length_map] at hw
  have hm := hw.1.2
  clear hw
  by_cases c : l.length = 0
  · skip
    refine Fnc.intro m_build_ok (by simp) fun W S => ?_
    unfold m_build
    simp only [ents, Nat.zero_add, Nat.reduceAdd]
    refine zst ?_
    refine ret m_build_ok [] ?_; (first | (simp only [go_sem]; done) | (simp only [go_sem]; ((try dsimp only); (repeat' (refine And.intro ?_ ?_)) <;> first | with_reducible rfl | (simp only [go_sem]; done) | (simp only [go_sem]; rfl) | (simp only []; (try simp only [go_sem]); first | done | rfl) | (simp only [go_sem]; simp []; done) | (simp []; done) | rfl)))
  · skip
    refine Fnc.intro m_build_ok (by simp) fun W S => ?_
    unfold m_build
    simp only [ents, Nat.zero_add, Nat.reduceAdd]
    refine zst ?_
    refine ret m_build_ok [] ?_; (first | (simp only [go_sem]; done) | (simp only [go_sem]; ((try dsimp only); (repeat' (refine And.intro ?_ ?_)) <;> first | with_reducible rfl | (simp only [go_sem]; done) | (simp only [go_sem]; rfl) | (simp only []; (try simp only [go_sem]); first | done | rfl) | (simp only [go_sem]; simp []; done) | (simp []; done) | rfl)))
set_option maxHeartbeats 4000000 in
theorem eqd_fn (a b : List Int) : Fnc Try.prog 72 [.sl false 1 (a.map (V.int .u32)), .sl false 1 (b.map (V.int .u32))] (fun x obs => x = .bool (decide (a = b)) ∧ obs = []) := by
  refine Fnc.wf fun hw => ?_
  simp only [V.wfs, V.wf, wfs_map, List.length_map] at hw
  have hm := hw.1.2
  have hm' := hw.2.1.2
  by_cases hl : a.length = b.length
  · skip
    refine Fnc.intro m_eqd_ok (by simp) fun W S => ?_
    unfold m_eqd
    simp only [ents, Nat.zero_add, Nat.reduceAdd]
    refine zst ?_
    refine ev_loopK [0, 1, 12] (fun p : {p : Nat // p ≤ a.length ∧ a.take p = b.take p} => [(13, .int .i64 p.1)]) (fun _ => []) (fun p => a.length - p.1) (⟨0, by simp⟩) 0 (by simp only [go_sem]; rfl) ?_ (by first | rfl | (simp only [go_sem]; done)) (by simp) (by first | rfl | (simp only [go_sem]; done)) (by first | rfl | (simp only [go_sem]; done)) (by first | rfl | (simp only [go_sem]; done)) ?_
    · (simp only [go_sem]; (try simp []); done)
    intro J hJ
    rintro ⟨k, hk0, hk1⟩
    by_cases hlt : k < a.length
    · by_cases e : a[k]! = b[k]!
      · skip
        refine zst ?_
        refine ev_next 0 (hJ _ (⟨k + 1, hlt, by rw [take_snoc hlt, take_snoc (by omega), hk1, e]⟩) (by first | omega | (dsimp only; omega) | (simp; omega))) rfl (by simp) ?_ (by first | rfl | (simp only [go_sem]; done)) (by first | rfl | (simp only [go_sem]; done) | (simp only [hlt]; (try simp only [go_sem]); first | done | rfl)) ?_
        · (first | rfl | (simp only [go_sem]; done) | (simp only [go_sem]; simp only [hlt]; done) | (simp only [hlt]; done) | (simp only [go_sem]; simp [hlt]; done) | (simp [hlt]; done))
        · (simp only [go_sem]; (repeat' (refine And.intro ?_ ?_)) <;> first | exact trivial | with_reducible rfl | (simp only [hlt]; done) | (simp only [hlt]; with_reducible rfl) | (simp [hlt]; done) | (simp [hlt]; omega) | (simp only [hlt]; rfl) | skip)
      · have hne : a ≠ b := fun h => e (at_of_eq h k)
        refine zst ?_
        refine ret m_eqd_ok [] ?_; (first | (simp only [go_sem]; done) | (simp only [go_sem]; exact ⟨rfl, rfl⟩))
    · have hab := eq_of_take (by omega) (by omega) hk1
      refine zst ?_
      refine ret m_eqd_ok [] ?_; (first | (simp only [go_sem]; done) | (simp only [go_sem]; exact ⟨rfl, rfl⟩))
  · have hne : a ≠ b := fun h => hl (by rw [h])
    refine Fnc.intro m_eqd_ok (by simp) fun W S => ?_
    unfold m_eqd
    simp only [ents, Nat.zero_add, Nat.reduceAdd]
    refine zst ?_
    refine ret m_eqd_ok [] ?_; (first | (simp only [go_sem]; done) | (simp only [go_sem]; exact ⟨rfl, rfl⟩))
set_option maxHeartbeats 8000000 in
theorem eqf_fn (a b : List (List Int)) : Fnc Try.prog 71 [.sl false 1 (a.map dsV), .sl false 1 (b.map dsV), .fn 72] (fun x obs => x = .bool (decide (a = b)) ∧ obs = []) := by
  refine Fnc.wf fun hw => ?_
  simp only [V.wfs, V.wf, List.length_map] at hw
  have hm := hw.1.2
  have hm' := hw.2.1.2
  clear hw
  by_cases hl : a.length = b.length
  · skip
    refine Fnc.intro m_eqf_ok (by simp) fun W S => ?_
    unfold m_eqf
    simp only [ents, Nat.zero_add, Nat.reduceAdd]
    refine zst ?_
    refine ev_loopK [1, 2, 15, 16] (fun p : {p : Nat // p ≤ a.length ∧ a.take p = b.take p} => [(17, .int .i64 p.1)]) (fun _ => []) (fun p => a.length - p.1) (⟨0, by simp⟩) 0 (by simp only [go_sem]; rfl) ?_ (by first | rfl | (simp only [go_sem]; done)) (by simp) (by first | rfl | (simp only [go_sem]; done)) (by first | rfl | (simp only [go_sem]; done)) (by first | rfl | (simp only [go_sem]; done)) ?_
    · (simp only [go_sem]; (try simp []); done)
    intro J hJ
    rintro ⟨k, hk0, hk1⟩
    by_cases hlt : k < a.length
    · by_cases e : a[k]! = b[k]!
      · have hd : decide (a[k]! = b[k]!) = true := decT e
        refine zst ?_
        refine callDv (eqd_fn a[k]! b[k]!) (by kernel_rfl) rfl ?_; simp only [go_sem, hd]
        refine zst ?_
        refine ev_next 0 (hJ _ (⟨k + 1, hlt, by rw [take_snoc hlt, take_snoc (by omega), hk1, e]⟩) (by first | omega | (dsimp only; omega) | (simp; omega))) rfl (by simp) ?_ (by first | rfl | (simp only [go_sem]; done)) (by first | rfl | (simp only [go_sem]; done) | (simp only [hlt]; (try simp only [go_sem]); first | done | rfl)) ?_
        · (first | rfl | (simp only [go_sem]; done) | (simp only [go_sem]; simp only [hlt]; done) | (simp only [hlt]; done) | (simp only [go_sem]; simp [hlt]; done) | (simp [hlt]; done))
        · (simp only [go_sem]; (repeat' (refine And.intro ?_ ?_)) <;> first | exact trivial | with_reducible rfl | (simp only [hlt]; done) | (simp only [hlt]; with_reducible rfl) | (simp [hlt]; done) | (simp [hlt]; omega) | (simp only [hlt]; rfl) | skip)
      · have hne : a ≠ b := fun h => e (at_of_eq h k)
        have hd : decide (a[k]! = b[k]!) = false := decF e
        have hr : decide (a = b) = false := decF hne
        refine zst ?_
        refine callDv (eqd_fn a[k]! b[k]!) (by kernel_rfl) rfl ?_; simp only [go_sem, hd]
        refine zst ?_
        refine ret m_eqf_ok [] ?_; (first | (simp only [go_sem]; done) | (simp only [go_sem]; ((try dsimp only); (repeat' (refine And.intro ?_ ?_)) <;> first | with_reducible rfl | (simp only [go_sem]; done) | (simp only [go_sem]; rfl) | (simp only [go_sem, hr]; done) | (simp only [hr]; (try simp only [go_sem]); first | done | rfl) | (simp only [go_sem]; simp [hr]; done) | (simp [hr]; done) | rfl)))
    · have hab := eq_of_take (by omega) (by omega) hk1
      have hr : decide (a = b) = true := decT hab
      refine zst ?_
      refine ret m_eqf_ok [] ?_; (first | (simp only [go_sem]; done) | (simp only [go_sem]; ((try dsimp only); (repeat' (refine And.intro ?_ ?_)) <;> first | with_reducible rfl | (simp only [go_sem]; done) | (simp only [go_sem]; rfl) | (simp only [go_sem, hr]; done) | (simp only [hr]; (try simp only [go_sem]); first | done | rfl) | (simp only [go_sem]; simp [hr]; done) | (simp [hr]; done) | rfl)))
  · have hne : a ≠ b := fun h => hl (by rw [h])
    have hr : decide (a = b) = false := decF hne
    refine Fnc.intro m_eqf_ok (by simp) fun W S => ?_
    unfold m_eqf
    simp only [ents, Nat.zero_add, Nat.reduceAdd]
    refine zst ?_
    refine ret m_eqf_ok [] ?_; (first | (simp only [go_sem]; done) | (simp only [go_sem]; ((try dsimp only); (repeat' (refine And.intro ?_ ?_)) <;> first | with_reducible rfl | (simp only [go_sem]; done) | (simp only [go_sem]; rfl) | (simp only [go_sem, hr]; done) | (simp only [hr]; (try simp only [go_sem]); first | done | rfl) | (simp only [go_sem]; simp [hr]; done) | (simp [hr]; done) | rfl)))
/-- Whether levels are those of a tree. -/
def vld (L : List (List Int)) : Bool := decide (1 ≤ L.length) && (decide (1 ≤ L[0]!.length) && (decide (L[0]!.length ≤ 20) && decide (bld L[0]! = L)))
theorem vld_bld {l : List Int} (h1 : 1 ≤ l.length) (h2 : l.length ≤ 20) : vld (bld l) = true := by
  unfold vld
  rw [bld_zero, bld_len, decT (by omega), decT h1, decT h2, decT rfl]
  rfl
theorem vld_to {L : List (List Int)} (h : vld L = true) : 1 ≤ L.length ∧ 1 ≤ L[0]!.length ∧ L[0]!.length ≤ 20 ∧ bld L[0]! = L := by
  simpa [vld, Bool.and_eq_true] using h
set_option maxHeartbeats 8000000 in
theorem tval_fn (L : List (List Int)) : Fnc Try.prog 32 [.agg [.sl false 1 (L.map dsV)]] (fun x obs => x = .bool (vld L) ∧ obs = []) := by
  refine Fnc.wf fun hw => ?_
  simp only [V.wfs, V.wf, List.length_map] at hw
  have hm := hw.1.1.2
  clear hw
  by_cases c0 : L.length = 0
  · have hr : vld L = false := by unfold vld; rw [decF (by omega)]; rfl
    refine Fnc.intro m_tval_ok (by simp) fun W S => ?_
    unfold m_tval
    simp only [ents, Nat.zero_add, Nat.reduceAdd]
    refine zst ?_
    refine ret m_tval_ok [] ?_; (first | (simp only [go_sem]; done) | (simp only [go_sem]; ((try dsimp only); (repeat' (refine And.intro ?_ ?_)) <;> first | with_reducible rfl | (simp only [go_sem]; done) | (simp only [go_sem]; rfl) | (simp only [go_sem, hr]; done) | (simp only [hr]; (try simp only [go_sem]); first | done | rfl) | (simp only [go_sem]; simp [hr]; done) | (simp [hr]; done) | rfl)))
  by_cases c1 : 1 ≤ L[0]!.length ∧ L[0]!.length ≤ 20
  · have hr : vld L = decide (bld L[0]! = L) := by unfold vld; rw [decT (by omega), decT c1.1, decT c1.2]; rfl
    have hB := build_fn L[0]! c1.1 c1.2
    refine Fnc.intro m_tval_ok (by simp) fun W S => ?_
    unfold m_tval
    simp only [ents, Nat.zero_add, Nat.reduceAdd]
    refine zst ?_
    (first | refine callD (hB) ?_ | refine callDw (hB) ?_); simp only [go_sem]
    refine zst ?_
    (first | refine callD (eqf_fn (bld L[0]!) L) ?_ | refine callDw (eqf_fn (bld L[0]!) L) ?_); simp only [go_sem]
    refine zst ?_
    refine ret m_tval_ok [] ?_; (first | (simp only [go_sem]; done) | (simp only [go_sem]; ((try dsimp only); (repeat' (refine And.intro ?_ ?_)) <;> first | with_reducible rfl | (simp only [go_sem]; done) | (simp only [go_sem]; rfl) | (simp only [go_sem, hr]; done) | (simp only [hr]; (try simp only [go_sem]); first | done | rfl) | (simp only [go_sem]; simp [hr]; done) | (simp [hr]; done) | rfl)))
  · have hr : vld L = false := by
      unfold vld
      by_cases c2 : 1 ≤ L[0]!.length
      · rw [decT (by omega), decT c2, decF (fun h => c1 ⟨c2, h⟩)]; rfl
      · rw [decT (by omega), decF c2]; rfl
    have hB := build_bad L[0]! c1
    refine Fnc.intro m_tval_ok (by simp) fun W S => ?_
    unfold m_tval
    simp only [ents, Nat.zero_add, Nat.reduceAdd]
    refine zst ?_
    (first | refine callD (hB) ?_ | refine callDw (hB) ?_); simp only [go_sem]
    refine zst ?_
    refine ret m_tval_ok [] ?_; (first | (simp only [go_sem]; done) | (simp only [go_sem]; ((try dsimp only); (repeat' (refine And.intro ?_ ?_)) <;> first | with_reducible rfl | (simp only [go_sem]; done) | (simp only [go_sem]; rfl) | (simp only [go_sem, hr]; done) | (simp only [hr]; (try simp only [go_sem]); first | done | rfl) | (simp only [go_sem]; simp [hr]; done) | (simp [hr]; done) | rfl)))
end Go.Proofs.Ytcphobeommkgeaa
