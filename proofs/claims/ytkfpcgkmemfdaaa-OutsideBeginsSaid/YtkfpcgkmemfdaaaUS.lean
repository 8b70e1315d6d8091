/- UG1, UG2, UG3, UK5, UK7, in one text. -/
import Derived.Test.YtkfpcgkmemfdaaaDz
import Derived.Test.YtkfpcgkmemfdaaaZt
import Derived.Test.YtkfpcgkmemfdaaaDw
import Derived.Test.YtkfpcgkmemfdaaaDd
import Derived.Test.YtkfpcgkmemfdaaaUK
/- Outputs of sockets: copies, sends. -/
namespace Go.Proofs.Ytkfpcgkmemfdaaa
open Go Go.RowKit Rdn Rdn.Dp
set_option linter.unusedVariables false
set_option linter.unusedSimpArgs false
def m_clcanon : MC := .seq (.reg [⟨(some 2), none, (.p (.mov (.c (.nilS))))⟩])
 (.seq (.seq (.reg [⟨(some 3), none, (.p (.mov (.t 0)))⟩, ⟨(some 4), none, (.p (.bin 2 .eql (.t 3) (.c (.nilS))))⟩])
 (.cond (.t 4) (.seq (.reg [⟨(some 2), none, (.p (.mov (.c (.nilS))))⟩])
 (.ret)) (.skip)))
 (.seq (.reg [⟨(some 5), none, (.m (.buildS 47 4 (.agg [.int .u8 0, .int .u16 0, .int .i64 0, .int .i64 0]) 0 []))⟩, ⟨(some 6), none, (.p (.mov (.t 0)))⟩, ⟨(some 7), none, (.m (.app 47 4 24 (.t 5) (.t 6)))⟩, ⟨(some 2), none, (.p (.mov (.t 7)))⟩])
 (.ret)))
theorem m_clcanon_ok : compF Try.prog 87 = some (8, m_clcanon, [.mov (.t 2)]) := by kernel_rfl
def m_samecanon : MC := .seq (.reg [⟨(some 4), none, (.p (.mov (.c (.bool false))))⟩])
 (.seq (.seq (.reg [⟨(some 6), none, (.p (.mov (.t 0)))⟩, ⟨(some 7), none, (.p (.len (.t 6)))⟩, ⟨(some 8), none, (.p (.mov (.t 1)))⟩, ⟨(some 9), none, (.p (.len (.t 8)))⟩, ⟨(some 10), none, (.p (.bin 0 .neq (.t 7) (.t 9)))⟩])
 (.cond (.t 10) (.seq (.reg [⟨(some 4), none, (.p (.mov (.c (.bool false))))⟩])
 (.ret)) (.skip)))
 (.seq (.seq (.reg [⟨(some 11), none, (.p (.mov (.t 0)))⟩, ⟨(some 12), none, (.p (.len (.t 11)))⟩, ⟨(some 13), none, (.p (.mov (.c (.int .i64 0))))⟩])
 (.block 0 (.loop (.seq (.reg [⟨(some 14), none, (.p (.bin 0 .lss (.t 13) (.t 12)))⟩])
 (.seq (.cond (.t 14) (.skip) (.exit 0))
 (.seq (.block 1 (.seq (.reg [⟨(some 15), none, (.p (.mov (.t 13)))⟩, ⟨(some 5), none, (.p (.mov (.t 15)))⟩])
 (.seq (.dreg [⟨(some 16), none, (.p (.mov (.t 0)))⟩, ⟨(some 17), none, (.p (.mov (.t 5)))⟩, ⟨(some 18), none, (.p (.idxA 4 (.t 16) (.t 17)))⟩, ⟨(some 19), none, (.p (.load true 4 (.t 18)))⟩, ⟨(some 20), none, (.p (.mov (.t 1)))⟩, ⟨(some 21), none, (.p (.mov (.t 5)))⟩, ⟨(some 22), none, (.p (.idxA 4 (.t 20) (.t 21)))⟩, ⟨(some 23), none, (.p (.load true 4 (.t 22)))⟩, ⟨(some 24), none, (.p (.eqs true [(some .u8), (some .u16), (some .i64), (some .i64)] (.t 19) (.t 23)))⟩] [[], [], [0, 1], [0, 1, 2], [], [], [4, 5], [4, 5, 6], [0, 1, 2, 3, 4, 5, 6, 7]])
 (.cond (.t 24) (.seq (.reg [⟨(some 4), none, (.p (.mov (.c (.bool false))))⟩])
 (.ret)) (.skip)))))
 (.reg [⟨(some 25), none, (.p (.bin 0 .add (.t 13) (.c (.int .i64 1))))⟩, ⟨(some 13), none, (.p (.mov (.t 25)))⟩])))))))
 (.seq (.reg [⟨(some 4), none, (.p (.mov (.c (.bool true))))⟩])
 (.ret))))
theorem m_samecanon_ok : compF Try.prog 52 = some (26, m_samecanon, [.mov (.t 4)]) := by kernel_rfl
def m_socpy : MC := .seq (.reg [⟨(some 2), none, (.p (.mov (.c (.nilS))))⟩])
 (.seq (.reg [⟨(some 3), none, (.p (.mov (.c (.nilS))))⟩])
 (.seq (.seq (.reg [⟨(some 6), none, (.p (.mov (.t 0)))⟩, ⟨(some 7), none, (.p (.len (.t 6)))⟩, ⟨(some 8), none, (.p (.mov (.c (.int .i64 0))))⟩])
 (.block 0 (.loop (.seq (.reg [⟨(some 9), none, (.p (.bin 0 .lss (.t 8) (.t 7)))⟩])
 (.seq (.cond (.t 9) (.skip) (.exit 0))
 (.seq (.block 1 (.seq (.reg [⟨(some 10), none, (.p (.idxA 3 (.t 6) (.t 8)))⟩, ⟨(some 11), none, (.p (.load true 3 (.t 10)))⟩, ⟨(some 5), none, (.m (.alloc 55 (.agg [.int .i64 0, .int .i64 0, .nilS])))⟩, ⟨none, none, (.m (.store 3 (.t 5) (.t 11)))⟩])
 (.seq (.reg [⟨(some 12), none, (.p (.fieldA 2 2 (.t 5)))⟩, ⟨(some 13), none, (.p (.load false 1 (.t 12)))⟩, ⟨(some 14), none, (.call 87 [(.t 13)])⟩, ⟨(some 15), none, (.p (.fieldA 2 2 (.t 5)))⟩, ⟨none, none, (.m (.store 1 (.t 15) (.t 14)))⟩])
 (.reg [⟨(some 16), none, (.p (.mov (.t 3)))⟩, ⟨(some 17), none, (.p (.load true 3 (.t 5)))⟩, ⟨(some 18), none, (.m (.buildS 55 3 (.agg [.int .i64 0, .int .i64 0, .nilS]) 1 [(0, (.t 17))]))⟩, ⟨(some 19), none, (.m (.app 55 3 40 (.t 16) (.t 18)))⟩, ⟨(some 3), none, (.p (.mov (.t 19)))⟩]))))
 (.reg [⟨(some 20), none, (.p (.bin 0 .add (.t 8) (.c (.int .i64 1))))⟩, ⟨(some 8), none, (.p (.mov (.t 20)))⟩])))))))
 (.seq (.reg [⟨(some 21), none, (.p (.mov (.t 3)))⟩, ⟨(some 2), none, (.p (.mov (.t 21)))⟩])
 (.ret))))
theorem m_socpy_ok : compF Try.prog 66 = some (22, m_socpy, [.mov (.t 2)]) := by kernel_rfl
def m_srcpy : MC := .seq (.reg [⟨(some 2), none, (.p (.mov (.c (.nilS))))⟩])
 (.seq (.reg [⟨(some 3), none, (.p (.mov (.c (.nilS))))⟩])
 (.seq (.seq (.reg [⟨(some 6), none, (.p (.mov (.t 0)))⟩, ⟨(some 7), none, (.p (.len (.t 6)))⟩, ⟨(some 8), none, (.p (.mov (.c (.int .i64 0))))⟩])
 (.block 0 (.loop (.seq (.reg [⟨(some 9), none, (.p (.bin 0 .lss (.t 8) (.t 7)))⟩])
 (.seq (.cond (.t 9) (.skip) (.exit 0))
 (.seq (.block 1 (.seq (.reg [⟨(some 10), none, (.p (.idxA 3 (.t 6) (.t 8)))⟩, ⟨(some 11), none, (.p (.load true 3 (.t 10)))⟩, ⟨(some 5), none, (.m (.alloc 55 (.agg [.int .i64 0, .int .i64 0, .nilS])))⟩, ⟨none, none, (.m (.store 3 (.t 5) (.t 11)))⟩])
 (.seq (.reg [⟨(some 12), none, (.p (.fieldA 2 2 (.t 5)))⟩, ⟨(some 13), none, (.p (.load false 1 (.t 12)))⟩, ⟨(some 14), none, (.m (.app 47 4 24 (.c (.nilS)) (.t 13)))⟩, ⟨(some 15), none, (.p (.fieldA 2 2 (.t 5)))⟩, ⟨none, none, (.m (.store 1 (.t 15) (.t 14)))⟩])
 (.reg [⟨(some 16), none, (.p (.mov (.t 3)))⟩, ⟨(some 17), none, (.p (.load true 3 (.t 5)))⟩, ⟨(some 18), none, (.m (.buildS 55 3 (.agg [.int .i64 0, .int .i64 0, .nilS]) 1 [(0, (.t 17))]))⟩, ⟨(some 19), none, (.m (.app 55 3 40 (.t 16) (.t 18)))⟩, ⟨(some 3), none, (.p (.mov (.t 19)))⟩]))))
 (.reg [⟨(some 20), none, (.p (.bin 0 .add (.t 8) (.c (.int .i64 1))))⟩, ⟨(some 8), none, (.p (.mov (.t 20)))⟩])))))))
 (.seq (.reg [⟨(some 21), none, (.p (.mov (.t 3)))⟩, ⟨(some 2), none, (.p (.mov (.t 21)))⟩])
 (.ret))))
theorem m_srcpy_ok : compF Try.prog 101 = some (22, m_srcpy, [.mov (.t 2)]) := by kernel_rfl
def m_wsend : MC := .seq (.reg [⟨(some 6), none, (.p (.mov (.c (.nilS))))⟩, ⟨(some 7), none, (.p (.mov (.c (.int .i64 0))))⟩, ⟨(some 8), none, (.p (.mov (.c (.bool false))))⟩])
 (.seq (.reg [⟨(some 10), none, (.p (.mov (.t 0)))⟩, ⟨(some 11), none, (.call 66 [(.t 10)])⟩, ⟨(some 9), none, (.p (.mov (.t 11)))⟩])
 (.seq (.seq (.reg [⟨(some 12), none, (.p (.mov (.t 1)))⟩, ⟨(some 13), none, (.p (.bin 0 .lss (.t 12) (.c (.int .i64 0))))⟩, ⟨(some 14), none, (.p (.mov (.t 13)))⟩, ⟨(some 15), (some (14, false)), (.p (.mov (.t 1)))⟩, ⟨(some 16), (some (14, false)), (.p (.bin 0 .geq (.t 15) (.c (.int .i64 2))))⟩, ⟨(some 17), none, (.p (.pick (.t 14) (.c (.bool true)) (.t 16)))⟩, ⟨(some 18), none, (.p (.mov (.t 17)))⟩, ⟨(some 19), (some (18, false)), (.p (.mov (.t 0)))⟩, ⟨(some 20), (some (18, false)), (.p (.len (.t 19)))⟩, ⟨(some 21), (some (18, false)), (.p (.bin 0 .geq (.t 20) (.c (.int .i64 200))))⟩, ⟨(some 22), none, (.p (.pick (.t 18) (.c (.bool true)) (.t 21)))⟩, ⟨(some 23), none, (.p (.mov (.t 22)))⟩, ⟨(some 24), (some (23, false)), (.p (.mov (.t 2)))⟩, ⟨(some 25), (some (23, false)), (.p (.len (.t 24)))⟩, ⟨(some 26), (some (23, false)), (.p (.bin 0 .gtr (.t 25) (.c (.int .i64 16))))⟩, ⟨(some 27), none, (.p (.pick (.t 23) (.c (.bool true)) (.t 26)))⟩])
 (.cond (.t 27) (.seq (.reg [⟨(some 28), none, (.p (.mov (.t 9)))⟩, ⟨(some 6), none, (.p (.mov (.t 28)))⟩, ⟨(some 7), none, (.p (.mov (.c (.int .i64 0))))⟩, ⟨(some 8), none, (.p (.mov (.c (.bool false))))⟩])
 (.ret)) (.skip)))
 (.seq (.reg [⟨(some 29), none, (.p (.mov (.t 9)))⟩, ⟨(some 30), none, (.p (.mov (.t 0)))⟩, ⟨(some 31), none, (.p (.len (.t 30)))⟩, ⟨(some 32), none, (.p (.mov (.t 1)))⟩, ⟨(some 33), none, (.p (.mov (.t 2)))⟩, ⟨(some 34), none, (.call 87 [(.t 33)])⟩, ⟨(some 35), none, (.m (.build none [.int .i64 0, .int .i64 0, .nilS] [(0, (.t 31)), (1, (.t 32)), (2, (.t 34))]))⟩, ⟨(some 36), none, (.m (.buildS 55 3 (.agg [.int .i64 0, .int .i64 0, .nilS]) 1 [(0, (.t 35))]))⟩, ⟨(some 37), none, (.m (.app 55 3 40 (.t 29) (.t 36)))⟩, ⟨(some 38), none, (.p (.mov (.t 2)))⟩, ⟨(some 39), none, (.p (.len (.t 38)))⟩, ⟨(some 6), none, (.p (.mov (.t 37)))⟩, ⟨(some 7), none, (.p (.mov (.t 39)))⟩, ⟨(some 8), none, (.p (.mov (.c (.bool true))))⟩])
 (.ret))))
theorem m_wsend_ok : compF Try.prog 46 = some (40, m_wsend, [.mov (.t 6), .mov (.t 7), .mov (.t 8)]) := by kernel_rfl
def m_rsend : MC := .seq (.reg [⟨(some 6), none, (.p (.mov (.c (.nilS))))⟩, ⟨(some 7), none, (.p (.mov (.c (.int .i64 0))))⟩, ⟨(some 8), none, (.p (.mov (.c (.bool false))))⟩])
 (.seq (.reg [⟨(some 10), none, (.p (.mov (.t 0)))⟩, ⟨(some 11), none, (.call 101 [(.t 10)])⟩, ⟨(some 9), none, (.p (.mov (.t 11)))⟩])
 (.seq (.seq (.reg [⟨(some 12), none, (.p (.mov (.t 1)))⟩, ⟨(some 13), none, (.p (.bin 0 .lss (.t 12) (.c (.int .i64 0))))⟩, ⟨(some 14), none, (.p (.mov (.t 13)))⟩, ⟨(some 15), (some (14, false)), (.p (.mov (.t 1)))⟩, ⟨(some 16), (some (14, false)), (.p (.bin 0 .geq (.t 15) (.c (.int .i64 2))))⟩, ⟨(some 17), none, (.p (.pick (.t 14) (.c (.bool true)) (.t 16)))⟩, ⟨(some 18), none, (.p (.mov (.t 17)))⟩, ⟨(some 19), (some (18, false)), (.p (.mov (.t 0)))⟩, ⟨(some 20), (some (18, false)), (.p (.len (.t 19)))⟩, ⟨(some 21), (some (18, false)), (.p (.bin 0 .geq (.t 20) (.c (.int .i64 200))))⟩, ⟨(some 22), none, (.p (.pick (.t 18) (.c (.bool true)) (.t 21)))⟩, ⟨(some 23), none, (.p (.mov (.t 22)))⟩, ⟨(some 24), (some (23, false)), (.p (.mov (.t 2)))⟩, ⟨(some 25), (some (23, false)), (.p (.len (.t 24)))⟩, ⟨(some 26), (some (23, false)), (.p (.bin 0 .gtr (.t 25) (.c (.int .i64 16))))⟩, ⟨(some 27), none, (.p (.pick (.t 23) (.c (.bool true)) (.t 26)))⟩])
 (.cond (.t 27) (.seq (.reg [⟨(some 28), none, (.p (.mov (.t 9)))⟩, ⟨(some 6), none, (.p (.mov (.t 28)))⟩, ⟨(some 7), none, (.p (.mov (.c (.int .i64 0))))⟩, ⟨(some 8), none, (.p (.mov (.c (.bool false))))⟩])
 (.ret)) (.skip)))
 (.seq (.reg [⟨(some 29), none, (.p (.mov (.t 9)))⟩, ⟨(some 30), none, (.p (.mov (.t 0)))⟩, ⟨(some 31), none, (.p (.len (.t 30)))⟩, ⟨(some 32), none, (.p (.mov (.t 1)))⟩, ⟨(some 33), none, (.p (.mov (.t 2)))⟩, ⟨(some 34), none, (.m (.app 47 4 24 (.c (.nilS)) (.t 33)))⟩, ⟨(some 35), none, (.m (.build none [.int .i64 0, .int .i64 0, .nilS] [(0, (.t 31)), (1, (.t 32)), (2, (.t 34))]))⟩, ⟨(some 36), none, (.m (.buildS 55 3 (.agg [.int .i64 0, .int .i64 0, .nilS]) 1 [(0, (.t 35))]))⟩, ⟨(some 37), none, (.m (.app 55 3 40 (.t 29) (.t 36)))⟩, ⟨(some 38), none, (.p (.mov (.t 2)))⟩, ⟨(some 39), none, (.p (.len (.t 38)))⟩, ⟨(some 6), none, (.p (.mov (.t 37)))⟩, ⟨(some 7), none, (.p (.mov (.t 39)))⟩, ⟨(some 8), none, (.p (.mov (.c (.bool true))))⟩])
 (.ret))))
theorem m_rsend_ok : compF Try.prog 77 = some (40, m_rsend, [.mov (.t 6), .mov (.t 7), .mov (.t 8)]) := by kernel_rfl
set_option maxHeartbeats 4000000 in
theorem clcanon_fn (l : List Canon) (hb : l.length ≤ 1000000000) : Fnc Try.prog 87 [.sl false 4 (l.map canonV)] (fun x obs => x = .sl true 4 (l.map canonV) ∧ obs = []) := by
  refine Fnc.intro m_clcanon_ok (by simp) fun W S => ?_
  unfold m_clcanon
  simp only [ents, Nat.zero_add, Nat.reduceAdd]
  repeat (first | refine ev_seq ?_ | refine ev_block ?_ | refine ev_skip ?_ | refine ev_inBlock ?_ | refine evr_nil ?_ | refine evw_nil (by kernel_rfl) ?_ | refine ev_exit rfl ?_ | refine ev_round ?_ | refine ev_condT rfl ?_ | refine ev_condF rfl ?_ | refine ev_condTb rfl (by first | exact decT (by omega) | exact beqT (by omega) | exact bneT (by omega) | exact notT (decF (by omega)) | exact notT (beqF (by omega))) ?_ | refine ev_condFb rfl (by first | exact decF (by omega) | exact beqF (by omega) | exact bneF (by omega) | exact notF (decT (by omega)) | exact notF (beqT (by omega))) ?_)
  (first | refine ev_seq ?_ | refine ev_block ?_ | refine ev_skip ?_ | refine ev_inBlock ?_ | refine evr_nil ?_ | refine evw_nil (by kernel_rfl) ?_ | refine ev_exit rfl ?_ | refine ev_round ?_ | refine ev_condT rfl ?_ | refine ev_condF rfl ?_ | refine ev_condTb rfl (by first | exact decT (by omega) | exact beqT (by omega) | exact bneT (by omega) | exact notT (decF (by omega)) | exact notT (beqF (by omega))) ?_ | refine ev_condFb rfl (by first | exact decF (by omega) | exact beqF (by omega) | exact bneF (by omega) | exact notF (decT (by omega)) | exact notF (beqT (by omega))) ?_ | ((first | refine ev_region ?_ | (refine evr_skip rfl ?_; refine ev_all (fu := [(), (), (), (), (), (), (), ()]) ?_) | (refine evw_skip rfl ?_; refine evw_all (md := []) (fu := [(), (), (), (), (), (), (), ()]) ?_) | refine evr_goP ?_ | refine evr_goM ?_ | refine evw_goP ?_ | refine evw_goM ?_ | refine ev_draw (fu := [(), (), (), (), (), (), (), ()]) mixed [] 0 rfl (by kernel_rfl) ?_ | refine ev_draw (fu := [(), (), (), (), (), (), (), ()]) mixed [] 1 rfl (by kernel_rfl) ?_ | refine ev_draw (fu := [(), (), (), (), (), (), (), ()]) mixed [] 2 rfl (by kernel_rfl) ?_); refine zev ?_))
  repeat (first | refine ev_seq ?_ | refine ev_block ?_ | refine ev_skip ?_ | refine ev_inBlock ?_ | refine evr_nil ?_ | refine evw_nil (by kernel_rfl) ?_ | refine ev_exit rfl ?_ | refine ev_round ?_ | refine ev_condT rfl ?_ | refine ev_condF rfl ?_ | refine ev_condTb rfl (by first | exact decT (by omega) | exact beqT (by omega) | exact bneT (by omega) | exact notT (decF (by omega)) | exact notT (beqF (by omega))) ?_ | refine ev_condFb rfl (by first | exact decF (by omega) | exact beqF (by omega) | exact bneF (by omega) | exact notF (decT (by omega)) | exact notF (beqT (by omega))) ?_)
  refine ev_reg ?_
  refine evr_p rfl trivial ?_
  refine evr_nilq rfl rfl fun b hb0 => ?_
  cases b with
  | false =>
    simp only [aopP, X.ev, slotV, AS.put, if_true]
    refine zst ?_
    refine ret m_clcanon_ok [] ?_; exact zfn
  | true =>
    have hl : l = [] := by
      cases l with
      | nil => rfl
      | cons a l => exact absurd (hb0 (by simp)) (by simp)
    subst hl
    simp only [aopP, X.ev, slotV, AS.put, if_true]
    repeat (first | refine ev_seq ?_ | refine ev_block ?_ | refine ev_skip ?_ | refine ev_inBlock ?_ | refine evr_nil ?_ | refine evw_nil (by kernel_rfl) ?_ | refine ev_exit rfl ?_ | refine ev_round ?_ | refine ev_condT rfl ?_ | refine ev_condF rfl ?_ | refine ev_condTb rfl (by first | exact decT (by omega) | exact beqT (by omega) | exact bneT (by omega) | exact notT (decF (by omega)) | exact notT (beqF (by omega))) ?_ | refine ev_condFb rfl (by first | exact decF (by omega) | exact beqF (by omega) | exact bneF (by omega) | exact notF (decT (by omega)) | exact notF (beqT (by omega))) ?_)
    (first | refine ev_seq ?_ | refine ev_block ?_ | refine ev_skip ?_ | refine ev_inBlock ?_ | refine evr_nil ?_ | refine evw_nil (by kernel_rfl) ?_ | refine ev_exit rfl ?_ | refine ev_round ?_ | refine ev_condT rfl ?_ | refine ev_condF rfl ?_ | refine ev_condTb rfl (by first | exact decT (by omega) | exact beqT (by omega) | exact bneT (by omega) | exact notT (decF (by omega)) | exact notT (beqF (by omega))) ?_ | refine ev_condFb rfl (by first | exact decF (by omega) | exact beqF (by omega) | exact bneF (by omega) | exact notF (decT (by omega)) | exact notF (beqT (by omega))) ?_ | ((first | refine ev_region ?_ | (refine evr_skip rfl ?_; refine ev_all (fu := [(), (), (), (), (), (), (), ()]) ?_) | (refine evw_skip rfl ?_; refine evw_all (md := []) (fu := [(), (), (), (), (), (), (), ()]) ?_) | refine evr_goP ?_ | refine evr_goM ?_ | refine evw_goP ?_ | refine evw_goM ?_ | refine ev_draw (fu := [(), (), (), (), (), (), (), ()]) mixed [] 0 rfl (by kernel_rfl) ?_ | refine ev_draw (fu := [(), (), (), (), (), (), (), ()]) mixed [] 1 rfl (by kernel_rfl) ?_ | refine ev_draw (fu := [(), (), (), (), (), (), (), ()]) mixed [] 2 rfl (by kernel_rfl) ?_); refine zev ?_))
    repeat (first | refine ev_seq ?_ | refine ev_block ?_ | refine ev_skip ?_ | refine ev_inBlock ?_ | refine evr_nil ?_ | refine evw_nil (by kernel_rfl) ?_ | refine ev_exit rfl ?_ | refine ev_round ?_ | refine ev_condT rfl ?_ | refine ev_condF rfl ?_ | refine ev_condTb rfl (by first | exact decT (by omega) | exact beqT (by omega) | exact bneT (by omega) | exact notT (decF (by omega)) | exact notT (beqF (by omega))) ?_ | refine ev_condFb rfl (by first | exact decF (by omega) | exact beqF (by omega) | exact bneF (by omega) | exact notF (decT (by omega)) | exact notF (beqT (by omega))) ?_)
    refine ev_nil2 2 true 4 rfl ?_
    refine ret m_clcanon_ok [] ?_; exact zfn
set_option maxHeartbeats 4000000 in
theorem clcanon_own (l : List Canon) (hb : l.length ≤ 1000000000) : Fnc Try.prog 87 [.sl false 4 (l.map canonV)] (fun x obs => x = .own 0 0 ∧ obs = [⟨.row 47, true, 0, .arr 4 (l.map canonV)⟩]) := by
  refine Fnc.intro m_clcanon_ok (by simp) fun W S => ?_
  unfold m_clcanon
  simp only [ents, Nat.zero_add, Nat.reduceAdd]
  repeat (first | refine ev_seq ?_ | refine ev_block ?_ | refine ev_skip ?_ | refine ev_inBlock ?_ | refine evr_nil ?_ | refine evw_nil (by kernel_rfl) ?_ | refine ev_exit rfl ?_ | refine ev_round ?_ | refine ev_condT rfl ?_ | refine ev_condF rfl ?_ | refine ev_condTb rfl (by first | exact decT (by omega) | exact beqT (by omega) | exact bneT (by omega) | exact notT (decF (by omega)) | exact notT (beqF (by omega))) ?_ | refine ev_condFb rfl (by first | exact decF (by omega) | exact beqF (by omega) | exact bneF (by omega) | exact notF (decT (by omega)) | exact notF (beqT (by omega))) ?_)
  (first | refine ev_seq ?_ | refine ev_block ?_ | refine ev_skip ?_ | refine ev_inBlock ?_ | refine evr_nil ?_ | refine evw_nil (by kernel_rfl) ?_ | refine ev_exit rfl ?_ | refine ev_round ?_ | refine ev_condT rfl ?_ | refine ev_condF rfl ?_ | refine ev_condTb rfl (by first | exact decT (by omega) | exact beqT (by omega) | exact bneT (by omega) | exact notT (decF (by omega)) | exact notT (beqF (by omega))) ?_ | refine ev_condFb rfl (by first | exact decF (by omega) | exact beqF (by omega) | exact bneF (by omega) | exact notF (decT (by omega)) | exact notF (beqT (by omega))) ?_ | ((first | refine ev_region ?_ | (refine evr_skip rfl ?_; refine ev_all (fu := [(), (), (), (), (), (), (), ()]) ?_) | (refine evw_skip rfl ?_; refine evw_all (md := []) (fu := [(), (), (), (), (), (), (), ()]) ?_) | refine evr_goP ?_ | refine evr_goM ?_ | refine evw_goP ?_ | refine evw_goM ?_ | refine ev_draw (fu := [(), (), (), (), (), (), (), ()]) mixed [] 0 rfl (by kernel_rfl) ?_ | refine ev_draw (fu := [(), (), (), (), (), (), (), ()]) mixed [] 1 rfl (by kernel_rfl) ?_ | refine ev_draw (fu := [(), (), (), (), (), (), (), ()]) mixed [] 2 rfl (by kernel_rfl) ?_); refine zev ?_))
  repeat (first | refine ev_seq ?_ | refine ev_block ?_ | refine ev_skip ?_ | refine ev_inBlock ?_ | refine evr_nil ?_ | refine evw_nil (by kernel_rfl) ?_ | refine ev_exit rfl ?_ | refine ev_round ?_ | refine ev_condT rfl ?_ | refine ev_condF rfl ?_ | refine ev_condTb rfl (by first | exact decT (by omega) | exact beqT (by omega) | exact bneT (by omega) | exact notT (decF (by omega)) | exact notT (beqF (by omega))) ?_ | refine ev_condFb rfl (by first | exact decF (by omega) | exact beqF (by omega) | exact bneF (by omega) | exact notF (decT (by omega)) | exact notF (beqT (by omega))) ?_)
  refine ev_reg ?_
  refine evr_p rfl trivial ?_
  refine evr_nilq rfl rfl fun b hb0 => ?_
  cases b with
  | false =>
    simp only [aopP, X.ev, slotV, AS.put, if_true]
    refine zst ?_
    refine ret m_clcanon_ok [0] ?_; exact zfn
  | true =>
    have hl : l = [] := by
      cases l with
      | nil => rfl
      | cons a l => exact absurd (hb0 (by simp)) (by simp)
    subst hl
    simp only [aopP, X.ev, slotV, AS.put, if_true]
    repeat (first | refine ev_seq ?_ | refine ev_block ?_ | refine ev_skip ?_ | refine ev_inBlock ?_ | refine evr_nil ?_ | refine evw_nil (by kernel_rfl) ?_ | refine ev_exit rfl ?_ | refine ev_round ?_ | refine ev_condT rfl ?_ | refine ev_condF rfl ?_ | refine ev_condTb rfl (by first | exact decT (by omega) | exact beqT (by omega) | exact bneT (by omega) | exact notT (decF (by omega)) | exact notT (beqF (by omega))) ?_ | refine ev_condFb rfl (by first | exact decF (by omega) | exact beqF (by omega) | exact bneF (by omega) | exact notF (decT (by omega)) | exact notF (beqT (by omega))) ?_)
    (first | refine ev_seq ?_ | refine ev_block ?_ | refine ev_skip ?_ | refine ev_inBlock ?_ | refine evr_nil ?_ | refine evw_nil (by kernel_rfl) ?_ | refine ev_exit rfl ?_ | refine ev_round ?_ | refine ev_condT rfl ?_ | refine ev_condF rfl ?_ | refine ev_condTb rfl (by first | exact decT (by omega) | exact beqT (by omega) | exact bneT (by omega) | exact notT (decF (by omega)) | exact notT (beqF (by omega))) ?_ | refine ev_condFb rfl (by first | exact decF (by omega) | exact beqF (by omega) | exact bneF (by omega) | exact notF (decT (by omega)) | exact notF (beqT (by omega))) ?_ | ((first | refine ev_region ?_ | (refine evr_skip rfl ?_; refine ev_all (fu := [(), (), (), (), (), (), (), ()]) ?_) | (refine evw_skip rfl ?_; refine evw_all (md := []) (fu := [(), (), (), (), (), (), (), ()]) ?_) | refine evr_goP ?_ | refine evr_goM ?_ | refine evw_goP ?_ | refine evw_goM ?_ | refine ev_draw (fu := [(), (), (), (), (), (), (), ()]) mixed [] 0 rfl (by kernel_rfl) ?_ | refine ev_draw (fu := [(), (), (), (), (), (), (), ()]) mixed [] 1 rfl (by kernel_rfl) ?_ | refine ev_draw (fu := [(), (), (), (), (), (), (), ()]) mixed [] 2 rfl (by kernel_rfl) ?_); refine zev ?_))
    repeat (first | refine ev_seq ?_ | refine ev_block ?_ | refine ev_skip ?_ | refine ev_inBlock ?_ | refine evr_nil ?_ | refine evw_nil (by kernel_rfl) ?_ | refine ev_exit rfl ?_ | refine ev_round ?_ | refine ev_condT rfl ?_ | refine ev_condF rfl ?_ | refine ev_condTb rfl (by first | exact decT (by omega) | exact beqT (by omega) | exact bneT (by omega) | exact notT (decF (by omega)) | exact notT (beqF (by omega))) ?_ | refine ev_condFb rfl (by first | exact decF (by omega) | exact beqF (by omega) | exact bneF (by omega) | exact notF (decT (by omega)) | exact notF (beqT (by omega))) ?_)
    refine ev_adopt (i := 2) (e := 47) (s := 4) rfl (by decide) ?_
    refine ret m_clcanon_ok [0] ?_; exact zfn
set_option maxHeartbeats 4000000 in
theorem samecanon_fn (a b : List Canon) : Fnc Try.prog 52 [.sl false 4 (a.map canonV), .sl false 4 (b.map canonV)] (fun x obs => x = .bool (decide (a = b)) ∧ obs = []) := by
  refine Fnc.wf fun hw => ?_
  simp only [V.wfs, V.wf, wfs_map, List.length_map] at hw
  have hm := hw.1.2
  have hm' := hw.2.1.2
  by_cases hl : a.length = b.length
  · skip
    refine Fnc.intro m_samecanon_ok (by simp) fun W S => ?_
    unfold m_samecanon
    simp only [ents, Nat.zero_add, Nat.reduceAdd]
    refine zst ?_
    refine ev_loopK [0, 1, 12] (fun p : {p : Nat // p ≤ a.length ∧ a.take p = b.take p} => [(13, .int .i64 p.1)]) (fun _ => []) (fun p => a.length - p.1) (⟨0, by simp⟩) 0 (by simp only [go_sem]; rfl) ?_ (by first | rfl | (simp only [go_sem]; done)) (by simp) (by first | rfl | (simp only [go_sem]; done)) (by first | rfl | (simp only [go_sem]; done)) (by first | rfl | (simp only [go_sem]; done)) ?_
    · (simp only [go_sem]; (try simp []); done)
    intro J hJ
    rintro ⟨k, hk0, hk1⟩
    by_cases hlt : k < a.length
    · by_cases e : a[k]! = b[k]!
      · skip
        refine zst ?_
        refine ev_next 0 (hJ _ (⟨k + 1, hlt, by rw [take_snoc hlt, take_snoc (by omega), hk1, e]⟩) (by first | omega | (dsimp only; omega) | (simp; omega))) rfl (by simp) ?_ (by first | rfl | (simp only [go_sem]; done)) (by first | rfl | (simp only [go_sem]; done) | (simp only [hlt]; (try simp only [go_sem]); first | done | rfl)) ?_
        · exact zna hlt
        · exact znb hlt
      · have hne : a ≠ b := fun h => e (at_of_eq h k)
        refine zst ?_
        refine ret m_samecanon_ok [] ?_; (first | (simp only [go_sem]; done) | (simp only [go_sem]; exact ⟨rfl, rfl⟩))
    · have hab := eq_of_take (by omega) (by omega) hk1
      refine zst ?_
      refine ret m_samecanon_ok [] ?_; (first | (simp only [go_sem]; done) | (simp only [go_sem]; exact ⟨rfl, rfl⟩))
  · have hne : a ≠ b := fun h => hl (by rw [h])
    refine Fnc.intro m_samecanon_ok (by simp) fun W S => ?_
    unfold m_samecanon
    simp only [ents, Nat.zero_add, Nat.reduceAdd]
    refine zst ?_
    refine ret m_samecanon_ok [] ?_; (first | (simp only [go_sem]; done) | (simp only [go_sem]; exact ⟨rfl, rfl⟩))
theorem getD_out (t : Bool) (l : List Output) (k : Nat) (h : k < l.length) : (l.map (outputV t)).getD k .junk = outputV t (l[k]!) := getD_map _ _ _ h
/-- Outputs whose data are short. -/
def shortO (m : Nat) (l : List Output) : Prop := ∀ o ∈ l, o.data.length ≤ m
set_option maxHeartbeats 4000000 in
theorem socpy_fn (l : List Output) (hb : l.length ≤ 1000000000) (hd : shortO 1000000000 l) : Fnc Try.prog 66 [.sl false 3 (l.map (outputV false))] (fun x obs => x = .own 0 0 ∧ obs = [⟨.row 55, true, 0, .arr 3 (l.map (outputV true))⟩]) := by
  refine Fnc.intro m_socpy_ok (by simp) fun W S => ?_
  unfold m_socpy
  simp only [ents, Nat.zero_add, Nat.reduceAdd]
  refine zst ?_
  refine ev_adopt (i := 3) (e := 55) (s := 3) rfl (by decide) ?_
  refine ev_loopK [6, 7] (fun p : {p : Nat // p ≤ l.length} => [(3, .own 0 p.1), (8, .int .i64 p.1)]) (fun p => [⟨.row 55, true, p.1, .arr 3 ((l.take p.1).map (outputV true))⟩]) (fun p => l.length - p.1) (⟨0, by simp⟩) 1 (by simp only [go_sem]; rfl) ?_ (by first | rfl | (simp only [go_sem]; done)) (by simp) (by first | rfl | (simp only [go_sem]; done)) (by first | rfl | (simp only [go_sem]; done)) (by first | rfl | (simp only [go_sem]; done)) ?_
  · (simp only [go_sem]; (try simp []); done)
  intro J hJ
  rintro ⟨k, hk0⟩
  by_cases hlt : k < l.length
  · have hdk : l[k]!.data.length ≤ 1000000000 := hd _ (mem_at hlt)
    have htl : (l.take k).length = k := by simp; omega
    refine zst ?_
    (first | refine callD (clcanon_fn l[k]!.data hdk) ?_ | refine callDw (clcanon_fn l[k]!.data hdk) ?_); simp only [go_sem]
    refine zst ?_
    refine ev_next 1 (hJ _ (⟨k + 1, hlt⟩) (by first | omega | (dsimp only; omega) | (simp; omega))) rfl (by simp) ?_ (by first | rfl | (simp only [go_sem]; done)) (by first | rfl | (simp only [go_sem]; done) | (simp only [take_snoc hlt]; (try simp only [go_sem]); first | done | rfl)) ?_
    · (first | rfl | (simp only [go_sem]; done) | (simp only [go_sem]; simp only [take_snoc hlt]; done) | (simp only [take_snoc hlt]; done) | (simp only [go_sem]; simp [take_snoc hlt]; done) | (simp [take_snoc hlt]; done))
    · (simp only [go_sem]; (repeat' (refine And.intro ?_ ?_)) <;> first | exact trivial | with_reducible rfl | (simp only [take_snoc hlt]; done) | (simp only [take_snoc hlt]; with_reducible rfl) | (simp [take_snoc hlt]; done) | (simp [take_snoc hlt]; omega) | (simp only [take_snoc hlt]; rfl) | skip)
  · obtain rfl : k = l.length := by omega
    refine zst ?_
    refine ret m_socpy_ok [0] ?_; (first | (simp only [go_sem]; done) | (simp only [go_sem]; ((try dsimp only); (repeat' (refine And.intro ?_ ?_)) <;> first | with_reducible rfl | (simp only [go_sem]; done) | (simp only [go_sem]; rfl) | (simp only [go_sem, List.take_length]; done) | (simp only [List.take_length]; (try simp only [go_sem]); first | done | rfl) | (simp only [go_sem]; simp [List.take_length]; done) | (simp [List.take_length]; done) | rfl)))
set_option maxHeartbeats 4000000 in
theorem srcpy_fn (l : List Output) (hb : l.length ≤ 1000000000) (hd : shortO 1000000000 l) : Fnc Try.prog 101 [.sl false 3 (l.map (outputV false))] (fun x obs => x = .own 0 0 ∧ obs = [⟨.row 55, true, 0, .arr 3 (l.map (outputV true))⟩]) := by
  refine Fnc.intro m_srcpy_ok (by simp) fun W S => ?_
  unfold m_srcpy
  simp only [ents, Nat.zero_add, Nat.reduceAdd]
  refine zst ?_
  refine ev_adopt (i := 3) (e := 55) (s := 3) rfl (by decide) ?_
  refine ev_loopK [6, 7] (fun p : {p : Nat // p ≤ l.length} => [(3, .own 0 p.1), (8, .int .i64 p.1)]) (fun p => [⟨.row 55, true, p.1, .arr 3 ((l.take p.1).map (outputV true))⟩]) (fun p => l.length - p.1) (⟨0, by simp⟩) 1 (by simp only [go_sem]; rfl) ?_ (by first | rfl | (simp only [go_sem]; done)) (by simp) (by first | rfl | (simp only [go_sem]; done)) (by first | rfl | (simp only [go_sem]; done)) (by first | rfl | (simp only [go_sem]; done)) ?_
  · (simp only [go_sem]; (try simp []); done)
  intro J hJ
  rintro ⟨k, hk0⟩
  by_cases hlt : k < l.length
  · have hdk : l[k]!.data.length ≤ 1000000000 := hd _ (mem_at hlt)
    have htl : (l.take k).length = k := by simp; omega
    refine zst ?_
    refine ev_next 1 (hJ _ (⟨k + 1, hlt⟩) (by first | omega | (dsimp only; omega) | (simp; omega))) rfl (by simp) ?_ (by first | rfl | (simp only [go_sem]; done)) (by first | rfl | (simp only [go_sem]; done) | (simp only [take_snoc hlt]; (try simp only [go_sem]); first | done | rfl)) ?_
    · (first | rfl | (simp only [go_sem]; done) | (simp only [go_sem]; simp only [take_snoc hlt]; done) | (simp only [take_snoc hlt]; done) | (simp only [go_sem]; simp [take_snoc hlt]; done) | (simp [take_snoc hlt]; done))
    · (simp only [go_sem]; (repeat' (refine And.intro ?_ ?_)) <;> first | exact trivial | with_reducible rfl | (simp only [take_snoc hlt]; done) | (simp only [take_snoc hlt]; with_reducible rfl) | (simp [take_snoc hlt]; done) | (simp [take_snoc hlt]; omega) | (simp only [take_snoc hlt]; rfl) | skip)
  · obtain rfl : k = l.length := by omega
    refine zst ?_
    refine ret m_srcpy_ok [0] ?_; (first | (simp only [go_sem]; done) | (simp only [go_sem]; ((try dsimp only); (repeat' (refine And.intro ?_ ?_)) <;> first | with_reducible rfl | (simp only [go_sem]; done) | (simp only [go_sem]; rfl) | (simp only [go_sem, List.take_length]; done) | (simp only [List.take_length]; (try simp only [go_sem]); first | done | rfl) | (simp only [go_sem]; simp [List.take_length]; done) | (simp [List.take_length]; done) | rfl)))
/-- A send: the outputs, how many cells, whether it was done. -/
def sSend (l : List Output) (s : Int) (d : List Canon) : List Output × Int × Bool :=
  if s < 0 ∨ s ≥ 2 ∨ l.length ≥ 200 ∨ d.length > 16 then (l, 0, false) else (l ++ [⟨l.length, s, d⟩], d.length, true)
set_option maxHeartbeats 4000000 in
theorem wsend_fn (l : List Output) (s : Int) (d : List Canon) (hb : l.length ≤ 1000000000) (hd : shortO 1000000000 l) (hdd : d.length ≤ 1000000000) : Fnc Try.prog 46 [.sl false 3 (l.map (outputV false)), .int .i64 s, .sl false 4 (d.map canonV)] (fun x obs => x = .tup [.sl false 3 ((sSend l s d).1.map (outputV false)), .int .i64 (sSend l s d).2.1, .bool (sSend l s d).2.2] ∧ obs = []) := by
  refine Fnc.low ?_
  by_cases c1 : s < 0
  · have e : sSend l s d = (l, 0, false) := by rw [sSend, if_pos (.inl c1)]
    rw [e]
    refine Fnc.intro m_wsend_ok (by simp) fun W S => ?_
    unfold m_wsend
    simp only [ents, Nat.zero_add, Nat.reduceAdd]
    refine zst ?_
    (first | refine callX (socpy_fn l hb hd) ?_ | refine callXw (socpy_fn l hb hd) ?_); simp only [go_sem]
    refine zst ?_
    refine ret m_wsend_ok [] ?_; exact zfn
  by_cases c2 : s ≥ 2
  · have e : sSend l s d = (l, 0, false) := by rw [sSend, if_pos (.inr (.inl c2))]
    rw [e]
    refine Fnc.intro m_wsend_ok (by simp) fun W S => ?_
    unfold m_wsend
    simp only [ents, Nat.zero_add, Nat.reduceAdd]
    refine zst ?_
    (first | refine callX (socpy_fn l hb hd) ?_ | refine callXw (socpy_fn l hb hd) ?_); simp only [go_sem]
    refine zst ?_
    refine ret m_wsend_ok [] ?_; exact zfn
  by_cases c3 : l.length ≥ 200
  · have e : sSend l s d = (l, 0, false) := by rw [sSend, if_pos (.inr (.inr (.inl c3)))]
    rw [e]
    refine Fnc.intro m_wsend_ok (by simp) fun W S => ?_
    unfold m_wsend
    simp only [ents, Nat.zero_add, Nat.reduceAdd]
    refine zst ?_
    (first | refine callX (socpy_fn l hb hd) ?_ | refine callXw (socpy_fn l hb hd) ?_); simp only [go_sem]
    refine zst ?_
    refine ret m_wsend_ok [] ?_; exact zfn
  by_cases c4 : d.length > 16
  · have e : sSend l s d = (l, 0, false) := by rw [sSend, if_pos (.inr (.inr (.inr c4)))]
    rw [e]
    refine Fnc.intro m_wsend_ok (by simp) fun W S => ?_
    unfold m_wsend
    simp only [ents, Nat.zero_add, Nat.reduceAdd]
    refine zst ?_
    (first | refine callX (socpy_fn l hb hd) ?_ | refine callXw (socpy_fn l hb hd) ?_); simp only [go_sem]
    refine zst ?_
    refine ret m_wsend_ok [] ?_; exact zfn
  · have e : sSend l s d = (l ++ [⟨l.length, s, d⟩], (d.length : Int), true) := by rw [sSend, if_neg (by omega)]
    rw [e]
    refine Fnc.intro m_wsend_ok (by simp) fun W S => ?_
    unfold m_wsend
    simp only [ents, Nat.zero_add, Nat.reduceAdd]
    refine zst ?_
    (first | refine callX (socpy_fn l hb hd) ?_ | refine callXw (socpy_fn l hb hd) ?_); simp only [go_sem]
    refine zst ?_
    (first | refine callD (clcanon_fn d hdd) ?_ | refine callDw (clcanon_fn d hdd) ?_); simp only [go_sem]
    refine zst ?_
    refine ret m_wsend_ok [] ?_; exact zfn
set_option maxHeartbeats 4000000 in
theorem rsend_fn (l : List Output) (s : Int) (d : List Canon) (hb : l.length ≤ 1000000000) (hd : shortO 1000000000 l) (hdd : d.length ≤ 1000000000) : Fnc Try.prog 77 [.sl false 3 (l.map (outputV false)), .int .i64 s, .sl false 4 (d.map canonV)] (fun x obs => x = .tup [.sl false 3 ((sSend l s d).1.map (outputV false)), .int .i64 (sSend l s d).2.1, .bool (sSend l s d).2.2] ∧ obs = []) := by
  refine Fnc.low ?_
  by_cases c1 : s < 0
  · have e : sSend l s d = (l, 0, false) := by rw [sSend, if_pos (.inl c1)]
    rw [e]
    refine Fnc.intro m_rsend_ok (by simp) fun W S => ?_
    unfold m_rsend
    simp only [ents, Nat.zero_add, Nat.reduceAdd]
    refine zst ?_
    (first | refine callX (srcpy_fn l hb hd) ?_ | refine callXw (srcpy_fn l hb hd) ?_); simp only [go_sem]
    refine zst ?_
    refine ret m_rsend_ok [] ?_; exact zfn
  by_cases c2 : s ≥ 2
  · have e : sSend l s d = (l, 0, false) := by rw [sSend, if_pos (.inr (.inl c2))]
    rw [e]
    refine Fnc.intro m_rsend_ok (by simp) fun W S => ?_
    unfold m_rsend
    simp only [ents, Nat.zero_add, Nat.reduceAdd]
    refine zst ?_
    (first | refine callX (srcpy_fn l hb hd) ?_ | refine callXw (srcpy_fn l hb hd) ?_); simp only [go_sem]
    refine zst ?_
    refine ret m_rsend_ok [] ?_; exact zfn
  by_cases c3 : l.length ≥ 200
  · have e : sSend l s d = (l, 0, false) := by rw [sSend, if_pos (.inr (.inr (.inl c3)))]
    rw [e]
    refine Fnc.intro m_rsend_ok (by simp) fun W S => ?_
    unfold m_rsend
    simp only [ents, Nat.zero_add, Nat.reduceAdd]
    refine zst ?_
    (first | refine callX (srcpy_fn l hb hd) ?_ | refine callXw (srcpy_fn l hb hd) ?_); simp only [go_sem]
    refine zst ?_
    refine ret m_rsend_ok [] ?_; exact zfn
  by_cases c4 : d.length > 16
  · have e : sSend l s d = (l, 0, false) := by rw [sSend, if_pos (.inr (.inr (.inr c4)))]
    rw [e]
    refine Fnc.intro m_rsend_ok (by simp) fun W S => ?_
    unfold m_rsend
    simp only [ents, Nat.zero_add, Nat.reduceAdd]
    refine zst ?_
    (first | refine callX (srcpy_fn l hb hd) ?_ | refine callXw (srcpy_fn l hb hd) ?_); simp only [go_sem]
    refine zst ?_
    refine ret m_rsend_ok [] ?_; exact zfn
  · have e : sSend l s d = (l ++ [⟨l.length, s, d⟩], (d.length : Int), true) := by rw [sSend, if_neg (by omega)]
    rw [e]
    refine Fnc.intro m_rsend_ok (by simp) fun W S => ?_
    unfold m_rsend
    simp only [ents, Nat.zero_add, Nat.reduceAdd]
    refine zst ?_
    (first | refine callX (srcpy_fn l hb hd) ?_ | refine callXw (srcpy_fn l hb hd) ?_); simp only [go_sem]
    refine zst ?_
    refine ret m_rsend_ok [] ?_; exact zfn
end Go.Proofs.Ytkfpcgkmemfdaaa
/- Outputs of sockets: order, streams, equality. -/
namespace Go.Proofs.Ytkfpcgkmemfdaaa
open Go Go.RowKit Rdn Rdn.Dp
set_option linter.unusedVariables false
set_option linter.unusedSimpArgs false
def m_wordered : MC := .seq (.reg [⟨(some 2), none, (.p (.mov (.c (.bool false))))⟩])
 (.seq (.seq (.reg [⟨(some 5), none, (.p (.mov (.t 0)))⟩, ⟨(some 6), none, (.p (.len (.t 5)))⟩, ⟨(some 7), none, (.p (.mov (.c (.int .i64 0))))⟩])
 (.block 0 (.loop (.seq (.reg [⟨(some 8), none, (.p (.bin 0 .lss (.t 7) (.t 6)))⟩])
 (.seq (.cond (.t 8) (.skip) (.exit 0))
 (.seq (.block 1 (.seq (.reg [⟨(some 9), none, (.p (.mov (.t 7)))⟩, ⟨(some 10), none, (.p (.idxA 3 (.t 5) (.t 7)))⟩, ⟨(some 11), none, (.p (.load true 3 (.t 10)))⟩, ⟨(some 4), none, (.m (.alloc 55 (.agg [.int .i64 0, .int .i64 0, .nilS])))⟩, ⟨(some 3), none, (.p (.mov (.t 9)))⟩, ⟨none, none, (.m (.store 3 (.t 4) (.t 11)))⟩])
 (.seq (.reg [⟨(some 12), none, (.p (.fieldA 0 0 (.t 4)))⟩, ⟨(some 13), none, (.p (.load false 1 (.t 12)))⟩, ⟨(some 14), none, (.p (.mov (.t 3)))⟩, ⟨(some 15), none, (.p (.bin 0 .neq (.t 13) (.t 14)))⟩, ⟨(some 16), none, (.p (.mov (.t 15)))⟩, ⟨(some 17), (some (16, false)), (.p (.fieldA 1 1 (.t 4)))⟩, ⟨(some 18), (some (16, false)), (.p (.load false 1 (.t 17)))⟩, ⟨(some 19), (some (16, false)), (.p (.bin 0 .lss (.t 18) (.c (.int .i64 0))))⟩, ⟨(some 20), none, (.p (.pick (.t 16) (.c (.bool true)) (.t 19)))⟩, ⟨(some 21), none, (.p (.mov (.t 20)))⟩, ⟨(some 22), (some (21, false)), (.p (.fieldA 1 1 (.t 4)))⟩, ⟨(some 23), (some (21, false)), (.p (.load false 1 (.t 22)))⟩, ⟨(some 24), (some (21, false)), (.p (.bin 0 .geq (.t 23) (.c (.int .i64 2))))⟩, ⟨(some 25), none, (.p (.pick (.t 21) (.c (.bool true)) (.t 24)))⟩, ⟨(some 26), none, (.p (.mov (.t 25)))⟩, ⟨(some 27), (some (26, false)), (.p (.fieldA 2 2 (.t 4)))⟩, ⟨(some 28), (some (26, false)), (.p (.load false 1 (.t 27)))⟩, ⟨(some 29), (some (26, false)), (.p (.len (.t 28)))⟩, ⟨(some 30), (some (26, false)), (.p (.bin 0 .gtr (.t 29) (.c (.int .i64 16))))⟩, ⟨(some 31), none, (.p (.pick (.t 26) (.c (.bool true)) (.t 30)))⟩])
 (.cond (.t 31) (.seq (.reg [⟨(some 2), none, (.p (.mov (.c (.bool false))))⟩])
 (.ret)) (.skip)))))
 (.reg [⟨(some 32), none, (.p (.bin 0 .add (.t 7) (.c (.int .i64 1))))⟩, ⟨(some 7), none, (.p (.mov (.t 32)))⟩])))))))
 (.seq (.reg [⟨(some 2), none, (.p (.mov (.c (.bool true))))⟩])
 (.ret)))
theorem m_wordered_ok : compF Try.prog 62 = some (33, m_wordered, [.mov (.t 2)]) := by kernel_rfl
def m_rordered : MC := .seq (.reg [⟨(some 2), none, (.p (.mov (.c (.bool false))))⟩])
 (.seq (.seq (.reg [⟨(some 5), none, (.p (.mov (.t 0)))⟩, ⟨(some 6), none, (.p (.len (.t 5)))⟩, ⟨(some 7), none, (.p (.mov (.c (.int .i64 0))))⟩])
 (.block 0 (.loop (.seq (.reg [⟨(some 8), none, (.p (.bin 0 .lss (.t 7) (.t 6)))⟩])
 (.seq (.cond (.t 8) (.skip) (.exit 0))
 (.seq (.block 1 (.seq (.reg [⟨(some 9), none, (.p (.mov (.t 7)))⟩, ⟨(some 10), none, (.p (.idxA 3 (.t 5) (.t 7)))⟩, ⟨(some 11), none, (.p (.load true 3 (.t 10)))⟩, ⟨(some 4), none, (.m (.alloc 55 (.agg [.int .i64 0, .int .i64 0, .nilS])))⟩, ⟨(some 3), none, (.p (.mov (.t 9)))⟩, ⟨none, none, (.m (.store 3 (.t 4) (.t 11)))⟩])
 (.seq (.reg [⟨(some 12), none, (.p (.fieldA 0 0 (.t 4)))⟩, ⟨(some 13), none, (.p (.load false 1 (.t 12)))⟩, ⟨(some 14), none, (.p (.mov (.t 3)))⟩, ⟨(some 15), none, (.p (.bin 0 .neq (.t 13) (.t 14)))⟩, ⟨(some 16), none, (.p (.mov (.t 15)))⟩, ⟨(some 17), (some (16, false)), (.p (.fieldA 1 1 (.t 4)))⟩, ⟨(some 18), (some (16, false)), (.p (.load false 1 (.t 17)))⟩, ⟨(some 19), (some (16, false)), (.p (.bin 0 .lss (.t 18) (.c (.int .i64 0))))⟩, ⟨(some 20), none, (.p (.pick (.t 16) (.c (.bool true)) (.t 19)))⟩, ⟨(some 21), none, (.p (.mov (.t 20)))⟩, ⟨(some 22), (some (21, false)), (.p (.fieldA 1 1 (.t 4)))⟩, ⟨(some 23), (some (21, false)), (.p (.load false 1 (.t 22)))⟩, ⟨(some 24), (some (21, false)), (.p (.bin 0 .geq (.t 23) (.c (.int .i64 2))))⟩, ⟨(some 25), none, (.p (.pick (.t 21) (.c (.bool true)) (.t 24)))⟩, ⟨(some 26), none, (.p (.mov (.t 25)))⟩, ⟨(some 27), (some (26, false)), (.p (.fieldA 2 2 (.t 4)))⟩, ⟨(some 28), (some (26, false)), (.p (.load false 1 (.t 27)))⟩, ⟨(some 29), (some (26, false)), (.p (.len (.t 28)))⟩, ⟨(some 30), (some (26, false)), (.p (.bin 0 .gtr (.t 29) (.c (.int .i64 16))))⟩, ⟨(some 31), none, (.p (.pick (.t 26) (.c (.bool true)) (.t 30)))⟩])
 (.cond (.t 31) (.seq (.reg [⟨(some 2), none, (.p (.mov (.c (.bool false))))⟩])
 (.ret)) (.skip)))))
 (.reg [⟨(some 32), none, (.p (.bin 0 .add (.t 7) (.c (.int .i64 1))))⟩, ⟨(some 7), none, (.p (.mov (.t 32)))⟩])))))))
 (.seq (.reg [⟨(some 2), none, (.p (.mov (.c (.bool true))))⟩])
 (.ret)))
theorem m_rordered_ok : compF Try.prog 50 = some (33, m_rordered, [.mov (.t 2)]) := by kernel_rfl
/-- An output that stands at its place. -/
def okOut (j : Nat) (o : Output) : Prop := o.seq = j ∧ 0 ≤ o.socket ∧ o.socket < 2 ∧ o.data.length ≤ 16
def ordered (l : List Output) : Prop := ∀ j, j < l.length → okOut j l[j]!
noncomputable def ordB (l : List Output) : Bool := @decide (ordered l) (Classical.propDecidable _)
theorem ordB_T {l : List Output} (h : ordered l) : ordB l = true := by unfold ordB; exact @decide_eq_true _ (Classical.propDecidable _) h
theorem ordB_F {l : List Output} (h : ¬ ordered l) : ordB l = false := by unfold ordB; exact @decide_eq_false _ (Classical.propDecidable _) h
set_option maxHeartbeats 4000000 in
theorem wordered_fn (l : List Output) : Fnc Try.prog 62 [.sl false 3 (l.map (outputV false))] (fun x obs => x = .bool (ordB l) ∧ obs = []) := by
  refine Fnc.wf fun hw => ?_
  simp only [V.wfs, V.wf, List.length_map] at hw
  have hm := hw.1.2
  clear hw
  refine Fnc.intro m_wordered_ok (by simp) fun W S => ?_
  unfold m_wordered
  simp only [ents, Nat.zero_add, Nat.reduceAdd]
  refine zst ?_
  refine ev_loopK [5, 6] (fun p : {p : Nat // p ≤ l.length ∧ ∀ j, j < p → okOut j l[j]!} => [(7, .int .i64 p.1)]) (fun _ => []) (fun p => l.length - p.1) (⟨0, by simp⟩) 0 (by simp only [go_sem]; rfl) ?_ (by first | rfl | (simp only [go_sem]; done)) (by simp) (by first | rfl | (simp only [go_sem]; done)) (by first | rfl | (simp only [go_sem]; done)) (by first | rfl | (simp only [go_sem]; done)) ?_
  · (simp only [go_sem]; (try simp []); done)
  intro J hJ
  rintro ⟨k, hk0, hk1⟩
  by_cases hlt : k < l.length
  · by_cases c1 : l[k]!.seq = k
    · by_cases c2 : l[k]!.socket < 0
      · have hF := ordB_F (l := l) fun h => by have := (h k hlt).2.1; omega
        rw [hF]
        refine zst ?_
        refine ret m_wordered_ok [] ?_; exact zfn
      by_cases c3 : l[k]!.socket ≥ 2
      · have hF := ordB_F (l := l) fun h => by have := (h k hlt).2.2.1; omega
        rw [hF]
        refine zst ?_
        refine ret m_wordered_ok [] ?_; exact zfn
      by_cases c4 : l[k]!.data.length > 16
      · have hF := ordB_F (l := l) fun h => by have := (h k hlt).2.2.2; omega
        rw [hF]
        refine zst ?_
        refine ret m_wordered_ok [] ?_; exact zfn
      · have okS : ∀ j, j < k + 1 → okOut j l[j]! := fun j hj => by
          by_cases e : j = k
          · subst e; exact ⟨c1, by omega, by omega, by omega⟩
          · exact hk1 j (by omega)
        refine zst ?_
        refine ev_next 0 (hJ _ (⟨k + 1, hlt, okS⟩) (by first | omega | (dsimp only; omega) | (simp; omega))) rfl (by simp) ?_ (by first | rfl | (simp only [go_sem]; done)) (by first | rfl | (simp only [go_sem]; done) | (simp only [hlt]; (try simp only [go_sem]); first | done | rfl)) ?_
        · exact zna hlt
        · exact znb hlt
    · have hF := ordB_F (l := l) fun h => c1 (h k hlt).1
      rw [hF]
      refine zst ?_
      refine ret m_wordered_ok [] ?_; exact zfn
  · obtain rfl : k = l.length := by omega
    have hT := ordB_T (l := l) fun j hj => hk1 j hj
    rw [hT]
    refine zst ?_
    refine ret m_wordered_ok [] ?_; exact zfn
set_option maxHeartbeats 4000000 in
theorem rordered_fn (l : List Output) : Fnc Try.prog 50 [.sl false 3 (l.map (outputV false))] (fun x obs => x = .bool (ordB l) ∧ obs = []) := by
  refine Fnc.wf fun hw => ?_
  simp only [V.wfs, V.wf, List.length_map] at hw
  have hm := hw.1.2
  clear hw
  refine Fnc.intro m_rordered_ok (by simp) fun W S => ?_
  unfold m_rordered
  simp only [ents, Nat.zero_add, Nat.reduceAdd]
  refine zst ?_
  refine ev_loopK [5, 6] (fun p : {p : Nat // p ≤ l.length ∧ ∀ j, j < p → okOut j l[j]!} => [(7, .int .i64 p.1)]) (fun _ => []) (fun p => l.length - p.1) (⟨0, by simp⟩) 0 (by simp only [go_sem]; rfl) ?_ (by first | rfl | (simp only [go_sem]; done)) (by simp) (by first | rfl | (simp only [go_sem]; done)) (by first | rfl | (simp only [go_sem]; done)) (by first | rfl | (simp only [go_sem]; done)) ?_
  · (simp only [go_sem]; (try simp []); done)
  intro J hJ
  rintro ⟨k, hk0, hk1⟩
  by_cases hlt : k < l.length
  · by_cases c1 : l[k]!.seq = k
    · by_cases c2 : l[k]!.socket < 0
      · have hF := ordB_F (l := l) fun h => by have := (h k hlt).2.1; omega
        rw [hF]
        refine zst ?_
        refine ret m_rordered_ok [] ?_; exact zfn
      by_cases c3 : l[k]!.socket ≥ 2
      · have hF := ordB_F (l := l) fun h => by have := (h k hlt).2.2.1; omega
        rw [hF]
        refine zst ?_
        refine ret m_rordered_ok [] ?_; exact zfn
      by_cases c4 : l[k]!.data.length > 16
      · have hF := ordB_F (l := l) fun h => by have := (h k hlt).2.2.2; omega
        rw [hF]
        refine zst ?_
        refine ret m_rordered_ok [] ?_; exact zfn
      · have okS : ∀ j, j < k + 1 → okOut j l[j]! := fun j hj => by
          by_cases e : j = k
          · subst e; exact ⟨c1, by omega, by omega, by omega⟩
          · exact hk1 j (by omega)
        refine zst ?_
        refine ev_next 0 (hJ _ (⟨k + 1, hlt, okS⟩) (by first | omega | (dsimp only; omega) | (simp; omega))) rfl (by simp) ?_ (by first | rfl | (simp only [go_sem]; done)) (by first | rfl | (simp only [go_sem]; done) | (simp only [hlt]; (try simp only [go_sem]); first | done | rfl)) ?_
        · exact zna hlt
        · exact znb hlt
    · have hF := ordB_F (l := l) fun h => c1 (h k hlt).1
      rw [hF]
      refine zst ?_
      refine ret m_rordered_ok [] ?_; exact zfn
  · obtain rfl : k = l.length := by omega
    have hT := ordB_T (l := l) fun j hj => hk1 j hj
    rw [hT]
    refine zst ?_
    refine ret m_rordered_ok [] ?_; exact zfn
end Go.Proofs.Ytkfpcgkmemfdaaa
/- Outputs of sockets: equality. -/
namespace Go.Proofs.Ytkfpcgkmemfdaaa
open Go Go.RowKit Rdn Rdn.Dp
set_option linter.unusedVariables false
set_option linter.unusedSimpArgs false
def m_rsameo : MC := .seq (.reg [⟨(some 4), none, (.p (.mov (.c (.bool false))))⟩])
 (.seq (.seq (.reg [⟨(some 6), none, (.p (.mov (.t 0)))⟩, ⟨(some 7), none, (.p (.len (.t 6)))⟩, ⟨(some 8), none, (.p (.mov (.t 1)))⟩, ⟨(some 9), none, (.p (.len (.t 8)))⟩, ⟨(some 10), none, (.p (.bin 0 .neq (.t 7) (.t 9)))⟩])
 (.cond (.t 10) (.seq (.reg [⟨(some 4), none, (.p (.mov (.c (.bool false))))⟩])
 (.ret)) (.skip)))
 (.seq (.seq (.reg [⟨(some 11), none, (.p (.mov (.t 0)))⟩, ⟨(some 12), none, (.p (.len (.t 11)))⟩, ⟨(some 13), none, (.p (.mov (.c (.int .i64 0))))⟩])
 (.block 0 (.loop (.seq (.reg [⟨(some 14), none, (.p (.bin 0 .lss (.t 13) (.t 12)))⟩])
 (.seq (.cond (.t 14) (.skip) (.exit 0))
 (.seq (.block 1 (.seq (.reg [⟨(some 15), none, (.p (.mov (.t 13)))⟩, ⟨(some 5), none, (.p (.mov (.t 15)))⟩])
 (.seq (.dreg [⟨(some 16), none, (.p (.mov (.t 0)))⟩, ⟨(some 17), none, (.p (.mov (.t 5)))⟩, ⟨(some 18), none, (.p (.idxA 3 (.t 16) (.t 17)))⟩, ⟨(some 19), none, (.p (.fieldA 0 0 (.t 18)))⟩, ⟨(some 20), none, (.p (.load false 1 (.t 19)))⟩, ⟨(some 21), none, (.p (.mov (.t 1)))⟩, ⟨(some 22), none, (.p (.mov (.t 5)))⟩, ⟨(some 23), none, (.p (.idxA 3 (.t 21) (.t 22)))⟩, ⟨(some 24), none, (.p (.fieldA 0 0 (.t 23)))⟩, ⟨(some 25), none, (.p (.load false 1 (.t 24)))⟩, ⟨(some 26), none, (.p (.bin 0 .neq (.t 20) (.t 25)))⟩, ⟨(some 27), none, (.p (.mov (.t 26)))⟩, ⟨(some 28), (some (27, false)), (.p (.mov (.t 0)))⟩, ⟨(some 29), (some (27, false)), (.p (.mov (.t 5)))⟩, ⟨(some 30), (some (27, false)), (.p (.idxA 3 (.t 28) (.t 29)))⟩, ⟨(some 31), (some (27, false)), (.p (.fieldA 1 1 (.t 30)))⟩, ⟨(some 32), (some (27, false)), (.p (.load false 1 (.t 31)))⟩, ⟨(some 33), (some (27, false)), (.p (.mov (.t 1)))⟩, ⟨(some 34), (some (27, false)), (.p (.mov (.t 5)))⟩, ⟨(some 35), (some (27, false)), (.p (.idxA 3 (.t 33) (.t 34)))⟩, ⟨(some 36), (some (27, false)), (.p (.fieldA 1 1 (.t 35)))⟩, ⟨(some 37), (some (27, false)), (.p (.load false 1 (.t 36)))⟩, ⟨(some 38), (some (27, false)), (.p (.bin 0 .neq (.t 32) (.t 37)))⟩, ⟨(some 39), none, (.p (.pick (.t 27) (.c (.bool true)) (.t 38)))⟩, ⟨(some 40), none, (.p (.mov (.t 39)))⟩, ⟨(some 41), (some (40, false)), (.p (.mov (.t 0)))⟩, ⟨(some 42), (some (40, false)), (.p (.mov (.t 5)))⟩, ⟨(some 43), (some (40, false)), (.p (.idxA 3 (.t 41) (.t 42)))⟩, ⟨(some 44), (some (40, false)), (.p (.fieldA 2 2 (.t 43)))⟩, ⟨(some 45), (some (40, false)), (.p (.load false 1 (.t 44)))⟩, ⟨(some 46), (some (40, false)), (.p (.mov (.t 1)))⟩, ⟨(some 47), (some (40, false)), (.p (.mov (.t 5)))⟩, ⟨(some 48), (some (40, false)), (.p (.idxA 3 (.t 46) (.t 47)))⟩, ⟨(some 49), (some (40, false)), (.p (.fieldA 2 2 (.t 48)))⟩, ⟨(some 50), (some (40, false)), (.p (.load false 1 (.t 49)))⟩, ⟨(some 51), (some (40, false)), (.call 52 [(.t 45), (.t 50)])⟩, ⟨(some 52), (some (40, false)), (.p (.un .not (.t 51)))⟩, ⟨(some 53), none, (.p (.pick (.t 40) (.c (.bool true)) (.t 52)))⟩] [[], [], [0, 1], [0, 1, 2], [0, 1, 2, 3], [], [], [5, 6], [5, 6, 7], [5, 6, 7, 8], [0, 1, 2, 3, 4, 5, 6, 7, 8, 9], [0, 1, 2, 3, 4, 5, 6, 7, 8, 9, 10], [0, 1, 2, 3, 4, 5, 6, 7, 8, 9, 10, 11], [0, 1, 2, 3, 4, 5, 6, 7, 8, 9, 10, 11], [0, 1, 2, 3, 4, 5, 6, 7, 8, 9, 10, 11, 12, 13], [0, 1, 2, 3, 4, 5, 6, 7, 8, 9, 10, 11, 12, 13, 14], [0, 1, 2, 3, 4, 5, 6, 7, 8, 9, 10, 11, 12, 13, 14, 15], [0, 1, 2, 3, 4, 5, 6, 7, 8, 9, 10, 11], [0, 1, 2, 3, 4, 5, 6, 7, 8, 9, 10, 11], [0, 1, 2, 3, 4, 5, 6, 7, 8, 9, 10, 11, 17, 18], [0, 1, 2, 3, 4, 5, 6, 7, 8, 9, 10, 11, 17, 18, 19], [0, 1, 2, 3, 4, 5, 6, 7, 8, 9, 10, 11, 17, 18, 19, 20], [0, 1, 2, 3, 4, 5, 6, 7, 8, 9, 10, 11, 12, 13, 14, 15, 16, 17, 18, 19, 20, 21], [0, 1, 2, 3, 4, 5, 6, 7, 8, 9, 10, 11, 12, 13, 14, 15, 16, 17, 18, 19, 20, 21, 22], [0, 1, 2, 3, 4, 5, 6, 7, 8, 9, 10, 11, 12, 13, 14, 15, 16, 17, 18, 19, 20, 21, 22, 23], [0, 1, 2, 3, 4, 5, 6, 7, 8, 9, 10, 11, 12, 13, 14, 15, 16, 17, 18, 19, 20, 21, 22, 23, 24], [0, 1, 2, 3, 4, 5, 6, 7, 8, 9, 10, 11, 12, 13, 14, 15, 16, 17, 18, 19, 20, 21, 22, 23, 24], [0, 1, 2, 3, 4, 5, 6, 7, 8, 9, 10, 11, 12, 13, 14, 15, 16, 17, 18, 19, 20, 21, 22, 23, 24, 25, 26], [0, 1, 2, 3, 4, 5, 6, 7, 8, 9, 10, 11, 12, 13, 14, 15, 16, 17, 18, 19, 20, 21, 22, 23, 24, 25, 26, 27], [0, 1, 2, 3, 4, 5, 6, 7, 8, 9, 10, 11, 12, 13, 14, 15, 16, 17, 18, 19, 20, 21, 22, 23, 24, 25, 26, 27, 28], [0, 1, 2, 3, 4, 5, 6, 7, 8, 9, 10, 11, 12, 13, 14, 15, 16, 17, 18, 19, 20, 21, 22, 23, 24], [0, 1, 2, 3, 4, 5, 6, 7, 8, 9, 10, 11, 12, 13, 14, 15, 16, 17, 18, 19, 20, 21, 22, 23, 24], [0, 1, 2, 3, 4, 5, 6, 7, 8, 9, 10, 11, 12, 13, 14, 15, 16, 17, 18, 19, 20, 21, 22, 23, 24, 30, 31], [0, 1, 2, 3, 4, 5, 6, 7, 8, 9, 10, 11, 12, 13, 14, 15, 16, 17, 18, 19, 20, 21, 22, 23, 24, 30, 31, 32], [0, 1, 2, 3, 4, 5, 6, 7, 8, 9, 10, 11, 12, 13, 14, 15, 16, 17, 18, 19, 20, 21, 22, 23, 24, 30, 31, 32, 33], [0, 1, 2, 3, 4, 5, 6, 7, 8, 9, 10, 11, 12, 13, 14, 15, 16, 17, 18, 19, 20, 21, 22, 23, 24, 25, 26, 27, 28, 29, 30, 31, 32, 33, 34], [0, 1, 2, 3, 4, 5, 6, 7, 8, 9, 10, 11, 12, 13, 14, 15, 16, 17, 18, 19, 20, 21, 22, 23, 24, 25, 26, 27, 28, 29, 30, 31, 32, 33, 34, 35], [0, 1, 2, 3, 4, 5, 6, 7, 8, 9, 10, 11, 12, 13, 14, 15, 16, 17, 18, 19, 20, 21, 22, 23, 24, 25, 26, 27, 28, 29, 30, 31, 32, 33, 34, 35, 36]])
 (.cond (.t 53) (.seq (.reg [⟨(some 4), none, (.p (.mov (.c (.bool false))))⟩])
 (.ret)) (.skip)))))
 (.reg [⟨(some 54), none, (.p (.bin 0 .add (.t 13) (.c (.int .i64 1))))⟩, ⟨(some 13), none, (.p (.mov (.t 54)))⟩])))))))
 (.seq (.reg [⟨(some 4), none, (.p (.mov (.c (.bool true))))⟩])
 (.ret))))
theorem m_rsameo_ok : compF Try.prog 30 = some (55, m_rsameo, [.mov (.t 4)]) := by kernel_rfl
/-- Whether two things are equal. -/
noncomputable def eqB {α : Type} (a b : α) : Bool := @decide (a = b) (Classical.propDecidable _)
theorem eqB_T {α : Type} {a b : α} (h : a = b) : eqB a b = true := by unfold eqB; exact @decide_eq_true _ (Classical.propDecidable _) h
theorem eqB_F {α : Type} {a b : α} (h : a ≠ b) : eqB a b = false := by unfold eqB; exact @decide_eq_false _ (Classical.propDecidable _) h
theorem out_ext {a b : Output} (h1 : a.seq = b.seq) (h2 : a.socket = b.socket) (h3 : a.data = b.data) : a = b := by
  obtain ⟨a1, a2, a3⟩ := a
  obtain ⟨b1, b2, b3⟩ := b
  simp only at h1 h2 h3
  rw [h1, h2, h3]
set_option maxHeartbeats 4000000 in
theorem rsameo_fn (a b : List Output) : Fnc Try.prog 30 [.sl false 3 (a.map (outputV false)), .sl false 3 (b.map (outputV false))] (fun x obs => x = .bool (eqB a b) ∧ obs = []) := by
  refine Fnc.wf fun hw => ?_
  simp only [V.wfs, V.wf, List.length_map] at hw
  have hm := hw.1.2
  have hm' := hw.2.1.2
  clear hw
  by_cases hl : a.length = b.length
  · skip
    refine Fnc.intro m_rsameo_ok (by simp) fun W S => ?_
    unfold m_rsameo
    simp only [ents, Nat.zero_add, Nat.reduceAdd]
    refine zst ?_
    refine ev_loopK [0, 1, 12] (fun p : {p : Nat // p ≤ a.length ∧ a.take p = b.take p} => [(13, .int .i64 p.1)]) (fun _ => []) (fun p => a.length - p.1) (⟨0, by simp⟩) 0 (by simp only [go_sem]; rfl) ?_ (by first | rfl | (simp only [go_sem]; done)) (by simp) (by first | rfl | (simp only [go_sem]; done)) (by first | rfl | (simp only [go_sem]; done)) (by first | rfl | (simp only [go_sem]; done)) ?_
    · (simp only [go_sem]; (try simp []); done)
    intro J hJ
    rintro ⟨k, hk0, hk1⟩
    by_cases hlt : k < a.length
    · by_cases c1 : a[k]!.seq = b[k]!.seq
      · by_cases c2 : a[k]!.socket = b[k]!.socket
        · by_cases c3 : a[k]!.data = b[k]!.data
          · skip
            refine zst ?_
            (first | refine callD (samecanon_fn a[k]!.data b[k]!.data) ?_ | refine callDw (samecanon_fn a[k]!.data b[k]!.data) ?_); simp only [go_sem]
            refine zst ?_
            refine ev_next 0 (hJ _ (⟨k + 1, hlt, by rw [take_snoc hlt, take_snoc (by omega), hk1, out_ext c1 c2 c3]⟩) (by first | omega | (dsimp only; omega) | (simp; omega))) rfl (by simp) ?_ (by first | rfl | (simp only [go_sem]; done)) (by first | rfl | (simp only [go_sem]; done) | (simp only [hlt]; (try simp only [go_sem]); first | done | rfl)) ?_
            · exact zna hlt
            · exact znb hlt
          · have hne : a ≠ b := fun h => c3 (by rw [h])
            rw [eqB_F hne]
            refine zst ?_
            (first | refine callD (samecanon_fn a[k]!.data b[k]!.data) ?_ | refine callDw (samecanon_fn a[k]!.data b[k]!.data) ?_); simp only [go_sem]
            refine zst ?_
            refine ret m_rsameo_ok [] ?_; exact zfn
        · have hne : a ≠ b := fun h => c2 (by rw [h])
          rw [eqB_F hne]
          refine zst ?_
          refine ret m_rsameo_ok [] ?_; exact zfn
      · have hne : a ≠ b := fun h => c1 (by rw [h])
        rw [eqB_F hne]
        refine zst ?_
        refine ret m_rsameo_ok [] ?_; exact zfn
    · have hab := eq_of_take (by omega) (by omega) hk1
      rw [eqB_T hab]
      refine zst ?_
      refine ret m_rsameo_ok [] ?_; exact zfn
  · have hne : a ≠ b := fun h => hl (by rw [h])
    rw [eqB_F hne]
    refine Fnc.intro m_rsameo_ok (by simp) fun W S => ?_
    unfold m_rsameo
    simp only [ents, Nat.zero_add, Nat.reduceAdd]
    refine zst ?_
    refine ret m_rsameo_ok [] ?_; exact zfn
end Go.Proofs.Ytkfpcgkmemfdaaa
/- Sockets: what is received. -/
namespace Go.Proofs.Ytkfpcgkmemfdaaa
open Go Go.RowKit Rdn Rdn.Dp
set_option linter.unusedVariables false
set_option linter.unusedSimpArgs false
def m_clw : MC := .seq (.reg [⟨(some 2), none, (.p (.mov (.c (.nilS))))⟩])
 (.seq (.seq (.reg [⟨(some 3), none, (.p (.mov (.t 0)))⟩, ⟨(some 4), none, (.p (.bin 2 .eql (.t 3) (.c (.nilS))))⟩])
 (.cond (.t 4) (.seq (.reg [⟨(some 2), none, (.p (.mov (.c (.nilS))))⟩])
 (.ret)) (.skip)))
 (.seq (.reg [⟨(some 5), none, (.m (.buildS 45 1 (.int .u16 0) 0 []))⟩, ⟨(some 6), none, (.p (.mov (.t 0)))⟩, ⟨(some 7), none, (.m (.app 45 1 2 (.t 5) (.t 6)))⟩, ⟨(some 2), none, (.p (.mov (.t 7)))⟩])
 (.ret)))
theorem m_clw_ok : compF Try.prog 64 = some (8, m_clw, [.mov (.t 2)]) := by kernel_rfl
def m_recv : MC := .seq (.reg [⟨(some 6), none, (.p (.mov (.c (.nilS))))⟩, ⟨(some 7), none, (.p (.mov (.c (.nilS))))⟩, ⟨(some 8), none, (.p (.mov (.c (.bool false))))⟩])
 (.seq (.reg [⟨(some 9), none, (.p (.mov (.c (.nilS))))⟩])
 (.seq (.seq (.reg [⟨(some 15), none, (.p (.mov (.t 0)))⟩, ⟨(some 16), none, (.p (.len (.t 15)))⟩, ⟨(some 17), none, (.p (.mov (.c (.int .i64 0))))⟩])
 (.block 0 (.loop (.seq (.reg [⟨(some 18), none, (.p (.bin 0 .lss (.t 17) (.t 16)))⟩])
 (.seq (.cond (.t 18) (.skip) (.exit 0))
 (.seq (.block 1 (.seq (.reg [⟨(some 19), none, (.p (.idxA 1 (.t 15) (.t 17)))⟩, ⟨(some 20), none, (.p (.load false 1 (.t 19)))⟩, ⟨(some 11), none, (.p (.mov (.t 20)))⟩])
 (.reg [⟨(some 21), none, (.p (.mov (.t 9)))⟩, ⟨(some 22), none, (.p (.mov (.t 11)))⟩, ⟨(some 23), none, (.call 64 [(.t 22)])⟩, ⟨(some 24), none, (.m (.buildS 23 1 (.nilS) 1 [(0, (.t 23))]))⟩, ⟨(some 25), none, (.m (.app 23 1 24 (.t 21) (.t 24)))⟩, ⟨(some 9), none, (.p (.mov (.t 25)))⟩])))
 (.reg [⟨(some 26), none, (.p (.bin 0 .add (.t 17) (.c (.int .i64 1))))⟩, ⟨(some 17), none, (.p (.mov (.t 26)))⟩])))))))
 (.seq (.seq (.reg [⟨(some 27), none, (.p (.mov (.t 1)))⟩, ⟨(some 28), none, (.p (.bin 0 .lss (.t 27) (.c (.int .i64 0))))⟩, ⟨(some 29), none, (.p (.mov (.t 28)))⟩, ⟨(some 30), (some (29, false)), (.p (.mov (.t 1)))⟩, ⟨(some 31), (some (29, false)), (.p (.mov (.t 0)))⟩, ⟨(some 32), (some (29, false)), (.p (.len (.t 31)))⟩, ⟨(some 33), (some (29, false)), (.p (.bin 0 .geq (.t 30) (.t 32)))⟩, ⟨(some 34), none, (.p (.pick (.t 29) (.c (.bool true)) (.t 33)))⟩, ⟨(some 35), none, (.p (.mov (.t 34)))⟩, ⟨(some 36), (some (35, false)), (.p (.mov (.t 2)))⟩, ⟨(some 37), (some (35, false)), (.p (.bin 0 .lss (.t 36) (.c (.int .i64 0))))⟩, ⟨(some 38), none, (.p (.pick (.t 35) (.c (.bool true)) (.t 37)))⟩])
 (.cond (.t 38) (.seq (.reg [⟨(some 39), none, (.p (.mov (.t 9)))⟩, ⟨(some 6), none, (.p (.mov (.t 39)))⟩, ⟨(some 7), none, (.p (.mov (.c (.nilS))))⟩, ⟨(some 8), none, (.p (.mov (.c (.bool false))))⟩])
 (.ret)) (.skip)))
 (.seq (.reg [⟨(some 40), none, (.p (.mov (.t 2)))⟩, ⟨(some 41), none, (.p (.mov (.t 0)))⟩, ⟨(some 42), none, (.p (.mov (.t 1)))⟩, ⟨(some 43), none, (.p (.idxA 1 (.t 41) (.t 42)))⟩, ⟨(some 44), none, (.p (.load false 1 (.t 43)))⟩, ⟨(some 45), none, (.p (.len (.t 44)))⟩, ⟨(some 46), none, (.p (.mn (.t 40) (.t 45)))⟩, ⟨(some 2), none, (.p (.mov (.t 46)))⟩])
 (.seq (.reg [⟨(some 12), none, (.p (.mov (.c (.nilS))))⟩])
 (.seq (.seq (.reg [⟨(some 47), none, (.p (.mov (.t 0)))⟩, ⟨(some 48), none, (.p (.mov (.t 1)))⟩, ⟨(some 49), none, (.p (.idxA 1 (.t 47) (.t 48)))⟩, ⟨(some 50), none, (.p (.load false 1 (.t 49)))⟩, ⟨(some 51), none, (.p (.mov (.t 2)))⟩, ⟨(some 52), none, (.m (.sl 1 (.t 50) none (some (.t 51)) none))⟩, ⟨(some 53), none, (.p (.len (.t 52)))⟩, ⟨(some 54), none, (.p (.mov (.c (.int .i64 0))))⟩])
 (.block 2 (.loop (.seq (.reg [⟨(some 55), none, (.p (.bin 0 .lss (.t 54) (.t 53)))⟩])
 (.seq (.cond (.t 55) (.skip) (.exit 2))
 (.seq (.block 3 (.seq (.reg [⟨(some 56), none, (.p (.idxA 1 (.t 52) (.t 54)))⟩, ⟨(some 57), none, (.p (.load false 1 (.t 56)))⟩, ⟨(some 14), none, (.p (.mov (.t 57)))⟩])
 (.reg [⟨(some 58), none, (.p (.mov (.t 12)))⟩, ⟨(some 59), none, (.p (.mov (.t 14)))⟩, ⟨(some 60), none, (.m (.build none [.int .u8 0, .int .u16 0, .int .i64 0, .int .i64 0] [(0, (.c (.int .u8 0))), (1, (.t 59))]))⟩, ⟨(some 61), none, (.m (.buildS 47 4 (.agg [.int .u8 0, .int .u16 0, .int .i64 0, .int .i64 0]) 1 [(0, (.t 60))]))⟩, ⟨(some 62), none, (.m (.app 47 4 24 (.t 58) (.t 61)))⟩, ⟨(some 12), none, (.p (.mov (.t 62)))⟩])))
 (.reg [⟨(some 63), none, (.p (.bin 0 .add (.t 54) (.c (.int .i64 1))))⟩, ⟨(some 54), none, (.p (.mov (.t 63)))⟩])))))))
 (.seq (.reg [⟨(some 64), none, (.p (.mov (.t 9)))⟩, ⟨(some 65), none, (.p (.mov (.t 1)))⟩, ⟨(some 66), none, (.p (.mov (.t 9)))⟩, ⟨(some 67), none, (.p (.mov (.t 1)))⟩, ⟨(some 68), none, (.p (.idxA 1 (.t 66) (.t 67)))⟩, ⟨(some 69), none, (.p (.load false 1 (.t 68)))⟩, ⟨(some 70), none, (.p (.mov (.t 2)))⟩, ⟨(some 71), none, (.m (.sl 1 (.t 69) (some (.t 70)) none none))⟩, ⟨(some 72), none, (.p (.idxA 1 (.t 64) (.t 65)))⟩, ⟨none, none, (.m (.store 1 (.t 72) (.t 71)))⟩])
 (.seq (.reg [⟨(some 73), none, (.p (.mov (.t 9)))⟩, ⟨(some 74), none, (.p (.mov (.t 12)))⟩, ⟨(some 6), none, (.p (.mov (.t 73)))⟩, ⟨(some 7), none, (.p (.mov (.t 74)))⟩, ⟨(some 8), none, (.p (.mov (.c (.bool true))))⟩])
 (.ret)))))))))
theorem m_recv_ok : compF Try.prog 47 = some (75, m_recv, [.mov (.t 6), .mov (.t 7), .mov (.t 8)]) := by kernel_rfl
def m_samew : MC := .seq (.reg [⟨(some 4), none, (.p (.mov (.c (.bool false))))⟩])
 (.seq (.seq (.reg [⟨(some 6), none, (.p (.mov (.t 0)))⟩, ⟨(some 7), none, (.p (.len (.t 6)))⟩, ⟨(some 8), none, (.p (.mov (.t 1)))⟩, ⟨(some 9), none, (.p (.len (.t 8)))⟩, ⟨(some 10), none, (.p (.bin 0 .neq (.t 7) (.t 9)))⟩])
 (.cond (.t 10) (.seq (.reg [⟨(some 4), none, (.p (.mov (.c (.bool false))))⟩])
 (.ret)) (.skip)))
 (.seq (.seq (.reg [⟨(some 11), none, (.p (.mov (.t 0)))⟩, ⟨(some 12), none, (.p (.len (.t 11)))⟩, ⟨(some 13), none, (.p (.mov (.c (.int .i64 0))))⟩])
 (.block 0 (.loop (.seq (.reg [⟨(some 14), none, (.p (.bin 0 .lss (.t 13) (.t 12)))⟩])
 (.seq (.cond (.t 14) (.skip) (.exit 0))
 (.seq (.block 1 (.seq (.reg [⟨(some 15), none, (.p (.mov (.t 13)))⟩, ⟨(some 5), none, (.p (.mov (.t 15)))⟩])
 (.seq (.dreg [⟨(some 16), none, (.p (.mov (.t 0)))⟩, ⟨(some 17), none, (.p (.mov (.t 5)))⟩, ⟨(some 18), none, (.p (.idxA 1 (.t 16) (.t 17)))⟩, ⟨(some 19), none, (.p (.load false 1 (.t 18)))⟩, ⟨(some 20), none, (.p (.mov (.t 1)))⟩, ⟨(some 21), none, (.p (.mov (.t 5)))⟩, ⟨(some 22), none, (.p (.idxA 1 (.t 20) (.t 21)))⟩, ⟨(some 23), none, (.p (.load false 1 (.t 22)))⟩, ⟨(some 24), none, (.p (.bin 0 .neq (.t 19) (.t 23)))⟩] [[], [], [0, 1], [0, 1, 2], [], [], [4, 5], [4, 5, 6], [0, 1, 2, 3, 4, 5, 6, 7]])
 (.cond (.t 24) (.seq (.reg [⟨(some 4), none, (.p (.mov (.c (.bool false))))⟩])
 (.ret)) (.skip)))))
 (.reg [⟨(some 25), none, (.p (.bin 0 .add (.t 13) (.c (.int .i64 1))))⟩, ⟨(some 13), none, (.p (.mov (.t 25)))⟩])))))))
 (.seq (.reg [⟨(some 4), none, (.p (.mov (.c (.bool true))))⟩])
 (.ret))))
theorem m_samew_ok : compF Try.prog 28 = some (26, m_samew, [.mov (.t 4)]) := by kernel_rfl
set_option maxHeartbeats 4000000 in
theorem clw_fn (l : List Int) (hb : l.length ≤ 1000000000) : Fnc Try.prog 64 [.sl false 1 (l.map (V.int .u16))] (fun x obs => x = .sl true 1 (l.map (V.int .u16)) ∧ obs = []) := by
  refine Fnc.intro m_clw_ok (by simp) fun W S => ?_
  unfold m_clw
  simp only [ents, Nat.zero_add, Nat.reduceAdd]
  repeat (first | refine ev_seq ?_ | refine ev_block ?_ | refine ev_skip ?_ | refine ev_inBlock ?_ | refine evr_nil ?_ | refine evw_nil (by kernel_rfl) ?_ | refine ev_exit rfl ?_ | refine ev_round ?_ | refine ev_condT rfl ?_ | refine ev_condF rfl ?_ | refine ev_condTb rfl (by first | exact decT (by omega) | exact beqT (by omega) | exact bneT (by omega) | exact notT (decF (by omega)) | exact notT (beqF (by omega))) ?_ | refine ev_condFb rfl (by first | exact decF (by omega) | exact beqF (by omega) | exact bneF (by omega) | exact notF (decT (by omega)) | exact notF (beqT (by omega))) ?_)
  (first | refine ev_seq ?_ | refine ev_block ?_ | refine ev_skip ?_ | refine ev_inBlock ?_ | refine evr_nil ?_ | refine evw_nil (by kernel_rfl) ?_ | refine ev_exit rfl ?_ | refine ev_round ?_ | refine ev_condT rfl ?_ | refine ev_condF rfl ?_ | refine ev_condTb rfl (by first | exact decT (by omega) | exact beqT (by omega) | exact bneT (by omega) | exact notT (decF (by omega)) | exact notT (beqF (by omega))) ?_ | refine ev_condFb rfl (by first | exact decF (by omega) | exact beqF (by omega) | exact bneF (by omega) | exact notF (decT (by omega)) | exact notF (beqT (by omega))) ?_ | ((first | refine ev_region ?_ | (refine evr_skip rfl ?_; refine ev_all (fu := [(), (), (), (), (), (), (), ()]) ?_) | (refine evw_skip rfl ?_; refine evw_all (md := []) (fu := [(), (), (), (), (), (), (), ()]) ?_) | refine evr_goP ?_ | refine evr_goM ?_ | refine evw_goP ?_ | refine evw_goM ?_ | refine ev_draw (fu := [(), (), (), (), (), (), (), ()]) mixed [] 0 rfl (by kernel_rfl) ?_ | refine ev_draw (fu := [(), (), (), (), (), (), (), ()]) mixed [] 1 rfl (by kernel_rfl) ?_ | refine ev_draw (fu := [(), (), (), (), (), (), (), ()]) mixed [] 2 rfl (by kernel_rfl) ?_); refine zev ?_))
  repeat (first | refine ev_seq ?_ | refine ev_block ?_ | refine ev_skip ?_ | refine ev_inBlock ?_ | refine evr_nil ?_ | refine evw_nil (by kernel_rfl) ?_ | refine ev_exit rfl ?_ | refine ev_round ?_ | refine ev_condT rfl ?_ | refine ev_condF rfl ?_ | refine ev_condTb rfl (by first | exact decT (by omega) | exact beqT (by omega) | exact bneT (by omega) | exact notT (decF (by omega)) | exact notT (beqF (by omega))) ?_ | refine ev_condFb rfl (by first | exact decF (by omega) | exact beqF (by omega) | exact bneF (by omega) | exact notF (decT (by omega)) | exact notF (beqT (by omega))) ?_)
  refine ev_reg ?_
  refine evr_p rfl trivial ?_
  refine evr_nilq rfl rfl fun b hb0 => ?_
  cases b with
  | false =>
    simp only [aopP, X.ev, slotV, AS.put, if_true]
    refine zst ?_
    refine ret m_clw_ok [] ?_; exact zfn
  | true =>
    have hl : l = [] := by
      cases l with
      | nil => rfl
      | cons a l => exact absurd (hb0 (by simp)) (by simp)
    subst hl
    simp only [aopP, X.ev, slotV, AS.put, if_true]
    repeat (first | refine ev_seq ?_ | refine ev_block ?_ | refine ev_skip ?_ | refine ev_inBlock ?_ | refine evr_nil ?_ | refine evw_nil (by kernel_rfl) ?_ | refine ev_exit rfl ?_ | refine ev_round ?_ | refine ev_condT rfl ?_ | refine ev_condF rfl ?_ | refine ev_condTb rfl (by first | exact decT (by omega) | exact beqT (by omega) | exact bneT (by omega) | exact notT (decF (by omega)) | exact notT (beqF (by omega))) ?_ | refine ev_condFb rfl (by first | exact decF (by omega) | exact beqF (by omega) | exact bneF (by omega) | exact notF (decT (by omega)) | exact notF (beqT (by omega))) ?_)
    (first | refine ev_seq ?_ | refine ev_block ?_ | refine ev_skip ?_ | refine ev_inBlock ?_ | refine evr_nil ?_ | refine evw_nil (by kernel_rfl) ?_ | refine ev_exit rfl ?_ | refine ev_round ?_ | refine ev_condT rfl ?_ | refine ev_condF rfl ?_ | refine ev_condTb rfl (by first | exact decT (by omega) | exact beqT (by omega) | exact bneT (by omega) | exact notT (decF (by omega)) | exact notT (beqF (by omega))) ?_ | refine ev_condFb rfl (by first | exact decF (by omega) | exact beqF (by omega) | exact bneF (by omega) | exact notF (decT (by omega)) | exact notF (beqT (by omega))) ?_ | ((first | refine ev_region ?_ | (refine evr_skip rfl ?_; refine ev_all (fu := [(), (), (), (), (), (), (), ()]) ?_) | (refine evw_skip rfl ?_; refine evw_all (md := []) (fu := [(), (), (), (), (), (), (), ()]) ?_) | refine evr_goP ?_ | refine evr_goM ?_ | refine evw_goP ?_ | refine evw_goM ?_ | refine ev_draw (fu := [(), (), (), (), (), (), (), ()]) mixed [] 0 rfl (by kernel_rfl) ?_ | refine ev_draw (fu := [(), (), (), (), (), (), (), ()]) mixed [] 1 rfl (by kernel_rfl) ?_ | refine ev_draw (fu := [(), (), (), (), (), (), (), ()]) mixed [] 2 rfl (by kernel_rfl) ?_); refine zev ?_))
    repeat (first | refine ev_seq ?_ | refine ev_block ?_ | refine ev_skip ?_ | refine ev_inBlock ?_ | refine evr_nil ?_ | refine evw_nil (by kernel_rfl) ?_ | refine ev_exit rfl ?_ | refine ev_round ?_ | refine ev_condT rfl ?_ | refine ev_condF rfl ?_ | refine ev_condTb rfl (by first | exact decT (by omega) | exact beqT (by omega) | exact bneT (by omega) | exact notT (decF (by omega)) | exact notT (beqF (by omega))) ?_ | refine ev_condFb rfl (by first | exact decF (by omega) | exact beqF (by omega) | exact bneF (by omega) | exact notF (decT (by omega)) | exact notF (beqT (by omega))) ?_)
    refine ev_nil2 2 true 1 rfl ?_
    refine ret m_clw_ok [] ?_; exact zfn
set_option maxHeartbeats 4000000 in
theorem clw_own (l : List Int) (hb : l.length ≤ 1000000000) : Fnc Try.prog 64 [.sl false 1 (l.map (V.int .u16))] (fun x obs => x = .own 0 0 ∧ obs = [⟨.row 45, true, 0, .arr 1 (l.map (V.int .u16))⟩]) := by
  refine Fnc.intro m_clw_ok (by simp) fun W S => ?_
  unfold m_clw
  simp only [ents, Nat.zero_add, Nat.reduceAdd]
  repeat (first | refine ev_seq ?_ | refine ev_block ?_ | refine ev_skip ?_ | refine ev_inBlock ?_ | refine evr_nil ?_ | refine evw_nil (by kernel_rfl) ?_ | refine ev_exit rfl ?_ | refine ev_round ?_ | refine ev_condT rfl ?_ | refine ev_condF rfl ?_ | refine ev_condTb rfl (by first | exact decT (by omega) | exact beqT (by omega) | exact bneT (by omega) | exact notT (decF (by omega)) | exact notT (beqF (by omega))) ?_ | refine ev_condFb rfl (by first | exact decF (by omega) | exact beqF (by omega) | exact bneF (by omega) | exact notF (decT (by omega)) | exact notF (beqT (by omega))) ?_)
  (first | refine ev_seq ?_ | refine ev_block ?_ | refine ev_skip ?_ | refine ev_inBlock ?_ | refine evr_nil ?_ | refine evw_nil (by kernel_rfl) ?_ | refine ev_exit rfl ?_ | refine ev_round ?_ | refine ev_condT rfl ?_ | refine ev_condF rfl ?_ | refine ev_condTb rfl (by first | exact decT (by omega) | exact beqT (by omega) | exact bneT (by omega) | exact notT (decF (by omega)) | exact notT (beqF (by omega))) ?_ | refine ev_condFb rfl (by first | exact decF (by omega) | exact beqF (by omega) | exact bneF (by omega) | exact notF (decT (by omega)) | exact notF (beqT (by omega))) ?_ | ((first | refine ev_region ?_ | (refine evr_skip rfl ?_; refine ev_all (fu := [(), (), (), (), (), (), (), ()]) ?_) | (refine evw_skip rfl ?_; refine evw_all (md := []) (fu := [(), (), (), (), (), (), (), ()]) ?_) | refine evr_goP ?_ | refine evr_goM ?_ | refine evw_goP ?_ | refine evw_goM ?_ | refine ev_draw (fu := [(), (), (), (), (), (), (), ()]) mixed [] 0 rfl (by kernel_rfl) ?_ | refine ev_draw (fu := [(), (), (), (), (), (), (), ()]) mixed [] 1 rfl (by kernel_rfl) ?_ | refine ev_draw (fu := [(), (), (), (), (), (), (), ()]) mixed [] 2 rfl (by kernel_rfl) ?_); refine zev ?_))
  repeat (first | refine ev_seq ?_ | refine ev_block ?_ | refine ev_skip ?_ | refine ev_inBlock ?_ | refine evr_nil ?_ | refine evw_nil (by kernel_rfl) ?_ | refine ev_exit rfl ?_ | refine ev_round ?_ | refine ev_condT rfl ?_ | refine ev_condF rfl ?_ | refine ev_condTb rfl (by first | exact decT (by omega) | exact beqT (by omega) | exact bneT (by omega) | exact notT (decF (by omega)) | exact notT (beqF (by omega))) ?_ | refine ev_condFb rfl (by first | exact decF (by omega) | exact beqF (by omega) | exact bneF (by omega) | exact notF (decT (by omega)) | exact notF (beqT (by omega))) ?_)
  refine ev_reg ?_
  refine evr_p rfl trivial ?_
  refine evr_nilq rfl rfl fun b hb0 => ?_
  cases b with
  | false =>
    simp only [aopP, X.ev, slotV, AS.put, if_true]
    refine zst ?_
    refine ret m_clw_ok [0] ?_; exact zfn
  | true =>
    have hl : l = [] := by
      cases l with
      | nil => rfl
      | cons a l => exact absurd (hb0 (by simp)) (by simp)
    subst hl
    simp only [aopP, X.ev, slotV, AS.put, if_true]
    repeat (first | refine ev_seq ?_ | refine ev_block ?_ | refine ev_skip ?_ | refine ev_inBlock ?_ | refine evr_nil ?_ | refine evw_nil (by kernel_rfl) ?_ | refine ev_exit rfl ?_ | refine ev_round ?_ | refine ev_condT rfl ?_ | refine ev_condF rfl ?_ | refine ev_condTb rfl (by first | exact decT (by omega) | exact beqT (by omega) | exact bneT (by omega) | exact notT (decF (by omega)) | exact notT (beqF (by omega))) ?_ | refine ev_condFb rfl (by first | exact decF (by omega) | exact beqF (by omega) | exact bneF (by omega) | exact notF (decT (by omega)) | exact notF (beqT (by omega))) ?_)
    (first | refine ev_seq ?_ | refine ev_block ?_ | refine ev_skip ?_ | refine ev_inBlock ?_ | refine evr_nil ?_ | refine evw_nil (by kernel_rfl) ?_ | refine ev_exit rfl ?_ | refine ev_round ?_ | refine ev_condT rfl ?_ | refine ev_condF rfl ?_ | refine ev_condTb rfl (by first | exact decT (by omega) | exact beqT (by omega) | exact bneT (by omega) | exact notT (decF (by omega)) | exact notT (beqF (by omega))) ?_ | refine ev_condFb rfl (by first | exact decF (by omega) | exact beqF (by omega) | exact bneF (by omega) | exact notF (decT (by omega)) | exact notF (beqT (by omega))) ?_ | ((first | refine ev_region ?_ | (refine evr_skip rfl ?_; refine ev_all (fu := [(), (), (), (), (), (), (), ()]) ?_) | (refine evw_skip rfl ?_; refine evw_all (md := []) (fu := [(), (), (), (), (), (), (), ()]) ?_) | refine evr_goP ?_ | refine evr_goM ?_ | refine evw_goP ?_ | refine evw_goM ?_ | refine ev_draw (fu := [(), (), (), (), (), (), (), ()]) mixed [] 0 rfl (by kernel_rfl) ?_ | refine ev_draw (fu := [(), (), (), (), (), (), (), ()]) mixed [] 1 rfl (by kernel_rfl) ?_ | refine ev_draw (fu := [(), (), (), (), (), (), (), ()]) mixed [] 2 rfl (by kernel_rfl) ?_); refine zev ?_))
    repeat (first | refine ev_seq ?_ | refine ev_block ?_ | refine ev_skip ?_ | refine ev_inBlock ?_ | refine evr_nil ?_ | refine evw_nil (by kernel_rfl) ?_ | refine ev_exit rfl ?_ | refine ev_round ?_ | refine ev_condT rfl ?_ | refine ev_condF rfl ?_ | refine ev_condTb rfl (by first | exact decT (by omega) | exact beqT (by omega) | exact bneT (by omega) | exact notT (decF (by omega)) | exact notT (beqF (by omega))) ?_ | refine ev_condFb rfl (by first | exact decF (by omega) | exact beqF (by omega) | exact bneF (by omega) | exact notF (decT (by omega)) | exact notF (beqT (by omega))) ?_)
    refine ev_adopt (i := 2) (e := 45) (s := 1) rfl (by decide) ?_
    refine ret m_clw_ok [0] ?_; exact zfn
theorem take_mapW (k : IntKind) (l : List Int) (n : Nat) : (l.map (V.int k)).take n = (l.take n).map (V.int k) := by rw [List.map_take]
theorem drop_mapW (k : IntKind) (l : List Int) (n : Nat) : (l.map (V.int k)).drop n = (l.drop n).map (V.int k) := by rw [List.map_drop]
attribute [local go_sem] take_mapW drop_mapW List.take_length
set_option maxHeartbeats 8000000 in
theorem recv_fn (w0 w1 : List Int) (N M : Nat) (h0 : w0.length ≤ 64) (h1 : w1.length ≤ 64) (hM : M = min N w0.length) (hN : N ≤ 1000) : Fnc Try.prog 47 [.sl false 1 [wsV w0, wsV w1], .int .i64 0, .int .i64 N] (fun x obs => x = .tup [.sl false 1 [wsV (w0.drop M), wsV w1], .sl false 4 ((numC (w0.take M)).map canonV), .bool true] ∧ obs = []) := by
  refine Fnc.low ?_
  have hmin : (if (w0.length : Int) < (N : Int) then (w0.length : Int) else (N : Int)) = (M : Int) := by split <;> omega
  have hMl : M ≤ w0.length := by omega
  obtain ⟨X, hXe⟩ : ∃ X, List.take M w0 = X := ⟨_, rfl⟩
  have hX : X.length = M := by rw [← hXe, List.length_take]; omega
  refine Fnc.intro m_recv_ok (by simp) fun W S => ?_
  unfold m_recv
  simp only [ents, Nat.zero_add, Nat.reduceAdd]
  refine zst ?_
  refine ev_unroll 3 ?_
  refine zst ?_
  (first | refine callD (clw_fn w0 (by omega)) ?_ | refine callDw (clw_fn w0 (by omega)) ?_); simp only [go_sem]
  refine zst ?_
  (first | refine callD (clw_fn w1 (by omega)) ?_ | refine callDw (clw_fn w1 (by omega)) ?_); refine zev ?_
  repeat (first | (simp only [hmin, Int.toNat_natCast, hXe]; try simp only [go_sem]) | refine And.intro (by omega) ?_ | refine And.intro rfl ?_ | refine ev_ctl rfl rfl ?_ | refine evr_nil ?_ | refine evw_nil (by kernel_rfl) ?_ | (simp (disch := omega) only [takeAll, Nat.min_eq_left, Nat.min_eq_right, if_pos, if_neg, getD_map, wrapI64, modIn, fdivE, tmodE, tdivE, decT, decF, beqT, beqF, bneT, bneF, Int.toNat_natCast]; try simp only [go_sem]) | (refine ev_condTb rfl ?_ ?_; · (simp <;> omega)) | (refine ev_condFb rfl ?_ ?_; · (simp <;> omega)) | ((first | refine ev_region ?_ | refine evr_go rfl ?_ | refine evw_go rfl ?_ | refine ev_dr0 mixed rfl (by kernel_rfl) ?_ | refine ev_dr1 mixed rfl (by kernel_rfl) ?_ | refine ev_dr2 mixed rfl (by kernel_rfl) ?_); simp only [go_sem]))
  refine ev_adopt (i := 12) (e := 47) (s := 4) rfl (by decide) ?_
  refine ev_loopK [1, 2, 9, 52, 53] (fun p : {p : Nat // p ≤ X.length} => [(12, .own 3 p.1), (54, .int .i64 p.1)]) (fun p => [⟨.row 23, true, 0, .arr 1 [.sl true 1 (u16s w0)]⟩, ⟨.row 23, true, 1, .arr 1 [.sl true 1 (u16s w0), .sl true 1 (u16s w1)]⟩, ⟨.row 23, true, 0, .arr 1 [.sl true 1 (u16s w1)]⟩, ⟨.row 47, true, p.1, .arr 4 ((numC (X.take p.1)).map canonV)⟩]) (fun p => X.length - p.1) (⟨0, by simp⟩) 4 (by simp only [go_sem]; rfl) ?_ (by first | rfl | (simp only [go_sem]; done) | (simp only [go_sem]; simp [numC_zero]; done)) (by simp) (by first | rfl | (simp only [go_sem]; done)) (by first | rfl | (simp only [go_sem]; done)) (by first | rfl | (simp only [go_sem]; done) | (simp only [numC_zero]; (try simp only [go_sem]); first | done | rfl)) ?_
  · (simp only [go_sem]; (try simp [numC_zero]); done)
  intro J hJ
  rintro ⟨k, hk0⟩
  by_cases hlt : k < X.length
  · have hl := numC_len (X.take k)
    have hl2 : (X.take k).length = k := by rw [List.length_take]; omega
    have hs := numC_snoc hlt
    refine zst ?_
    refine ev_next 4 (hJ _ (⟨k + 1, hlt⟩) (by first | omega | (dsimp only; omega) | (simp; omega))) rfl (by simp) ?_ (by first | rfl | (simp only [go_sem]; done)) (by first | rfl | (simp only [go_sem]; done) | (simp only [hs]; (try simp only [go_sem]); first | done | rfl)) ?_
    · exact zna hs
    · exact znb hs
  obtain rfl : k = X.length := by omega
  repeat (first | (simp only [Int.toNat_natCast]; try simp only [go_sem]) | refine And.intro (by omega) ?_ | refine And.intro rfl ?_ | refine ev_ctl rfl rfl ?_ | refine evr_nil ?_ | refine evw_nil (by kernel_rfl) ?_ | (simp (disch := omega) only [takeAll, Nat.min_eq_left, Nat.min_eq_right, if_pos, if_neg, getD_map, wrapI64, modIn, fdivE, tmodE, tdivE, decT, decF, beqT, beqF, bneT, bneF, Int.toNat_natCast]; try simp only [go_sem]) | (refine ev_condTb rfl ?_ ?_; · (simp <;> omega)) | (refine ev_condFb rfl ?_ ?_; · (simp <;> omega)) | ((first | refine ev_region ?_ | refine evr_go rfl ?_ | refine evw_go rfl ?_ | refine ev_dr0 mixed rfl (by kernel_rfl) ?_ | refine ev_dr1 mixed rfl (by kernel_rfl) ?_ | refine ev_dr2 mixed rfl (by kernel_rfl) ?_); simp only [go_sem]))
  refine ret m_recv_ok [] ?_; exact zfn
set_option maxHeartbeats 4000000 in
theorem samew_fn (a : List Int) (hm : a.length ≤ 140737488355328) : Fnc Try.prog 28 [wsV a, wsV a] (fun x obs => x = .bool true ∧ obs = []) := by
  refine Fnc.intro m_samew_ok (by simp) fun W S => ?_
  unfold m_samew
  simp only [ents, Nat.zero_add, Nat.reduceAdd]
  refine zst ?_
  refine ev_loopK [0, 1, 12] (fun p : {p : Nat // p ≤ a.length} => [(13, .int .i64 p.1)]) (fun _ => []) (fun p => a.length - p.1) (⟨0, by simp⟩) 0 (by simp only [go_sem]; rfl) ?_ (by first | rfl | (simp only [go_sem]; done)) (by simp) (by first | rfl | (simp only [go_sem]; done)) (by first | rfl | (simp only [go_sem]; done)) (by first | rfl | (simp only [go_sem]; done)) ?_
  · (simp only [go_sem]; (try simp []); done)
  intro J hJ
  rintro ⟨k, hk0⟩
  by_cases hlt : k < a.length
  · skip
    refine zst ?_
    refine ev_next 0 (hJ _ (⟨k + 1, hlt⟩) (by first | omega | (dsimp only; omega) | (simp; omega))) rfl (by simp) ?_ (by first | rfl | (simp only [go_sem]; done)) (by first | rfl | (simp only [go_sem]; done) | (simp only [hlt]; (try simp only [go_sem]); first | done | rfl)) ?_
    · exact zna hlt
    · exact znb hlt
  · obtain rfl : k = a.length := by omega
    refine zst ?_
    refine ret m_samew_ok [] ?_; exact zfn
end Go.Proofs.Ytkfpcgkmemfdaaa
/- Sockets: what is received, of any inputs. -/
namespace Go.Proofs.Ytkfpcgkmemfdaaa
open Go Go.RowKit Rdn Rdn.Dp
set_option linter.unusedVariables false
set_option linter.unusedSimpArgs false
def m_rrecv : MC := .seq (.reg [⟨(some 6), none, (.p (.mov (.c (.nilS))))⟩, ⟨(some 7), none, (.p (.mov (.c (.nilS))))⟩, ⟨(some 8), none, (.p (.mov (.c (.bool false))))⟩])
 (.seq (.reg [⟨(some 14), none, (.p (.mov (.t 0)))⟩, ⟨(some 15), none, (.call 27 [(.t 14)])⟩, ⟨(some 9), none, (.p (.mov (.t 15)))⟩])
 (.seq (.seq (.reg [⟨(some 16), none, (.p (.mov (.t 1)))⟩, ⟨(some 17), none, (.p (.bin 0 .lss (.t 16) (.c (.int .i64 0))))⟩, ⟨(some 18), none, (.p (.mov (.t 17)))⟩, ⟨(some 19), (some (18, false)), (.p (.mov (.t 1)))⟩, ⟨(some 20), (some (18, false)), (.p (.mov (.t 0)))⟩, ⟨(some 21), (some (18, false)), (.p (.len (.t 20)))⟩, ⟨(some 22), (some (18, false)), (.p (.bin 0 .geq (.t 19) (.t 21)))⟩, ⟨(some 23), none, (.p (.pick (.t 18) (.c (.bool true)) (.t 22)))⟩, ⟨(some 24), none, (.p (.mov (.t 23)))⟩, ⟨(some 25), (some (24, false)), (.p (.mov (.t 2)))⟩, ⟨(some 26), (some (24, false)), (.p (.bin 0 .lss (.t 25) (.c (.int .i64 0))))⟩, ⟨(some 27), none, (.p (.pick (.t 24) (.c (.bool true)) (.t 26)))⟩])
 (.cond (.t 27) (.seq (.reg [⟨(some 28), none, (.p (.mov (.t 9)))⟩, ⟨(some 6), none, (.p (.mov (.t 28)))⟩, ⟨(some 7), none, (.p (.mov (.c (.nilS))))⟩, ⟨(some 8), none, (.p (.mov (.c (.bool false))))⟩])
 (.ret)) (.skip)))
 (.seq (.reg [⟨(some 29), none, (.p (.mov (.t 2)))⟩, ⟨(some 30), none, (.p (.mov (.t 0)))⟩, ⟨(some 31), none, (.p (.mov (.t 1)))⟩, ⟨(some 32), none, (.p (.idxA 1 (.t 30) (.t 31)))⟩, ⟨(some 33), none, (.p (.load false 1 (.t 32)))⟩, ⟨(some 34), none, (.p (.len (.t 33)))⟩, ⟨(some 35), none, (.p (.mn (.t 29) (.t 34)))⟩, ⟨(some 10), none, (.p (.mov (.t 35)))⟩])
 (.seq (.reg [⟨(some 11), none, (.p (.mov (.c (.nilS))))⟩])
 (.seq (.seq (.reg [⟨(some 36), none, (.p (.mov (.t 0)))⟩, ⟨(some 37), none, (.p (.mov (.t 1)))⟩, ⟨(some 38), none, (.p (.idxA 1 (.t 36) (.t 37)))⟩, ⟨(some 39), none, (.p (.load false 1 (.t 38)))⟩, ⟨(some 40), none, (.p (.mov (.t 10)))⟩, ⟨(some 41), none, (.m (.sl 1 (.t 39) none (some (.t 40)) none))⟩, ⟨(some 42), none, (.p (.len (.t 41)))⟩, ⟨(some 43), none, (.p (.mov (.c (.int .i64 0))))⟩])
 (.block 0 (.loop (.seq (.reg [⟨(some 44), none, (.p (.bin 0 .lss (.t 43) (.t 42)))⟩])
 (.seq (.cond (.t 44) (.skip) (.exit 0))
 (.seq (.block 1 (.seq (.reg [⟨(some 45), none, (.p (.idxA 1 (.t 41) (.t 43)))⟩, ⟨(some 46), none, (.p (.load false 1 (.t 45)))⟩, ⟨(some 13), none, (.p (.mov (.t 46)))⟩])
 (.reg [⟨(some 47), none, (.p (.mov (.t 11)))⟩, ⟨(some 48), none, (.p (.mov (.t 13)))⟩, ⟨(some 49), none, (.m (.build none [.int .u8 0, .int .u16 0, .int .i64 0, .int .i64 0] [(1, (.t 48))]))⟩, ⟨(some 50), none, (.m (.buildS 47 4 (.agg [.int .u8 0, .int .u16 0, .int .i64 0, .int .i64 0]) 1 [(0, (.t 49))]))⟩, ⟨(some 51), none, (.m (.app 47 4 24 (.t 47) (.t 50)))⟩, ⟨(some 11), none, (.p (.mov (.t 51)))⟩])))
 (.reg [⟨(some 52), none, (.p (.bin 0 .add (.t 43) (.c (.int .i64 1))))⟩, ⟨(some 43), none, (.p (.mov (.t 52)))⟩])))))))
 (.seq (.reg [⟨(some 53), none, (.p (.mov (.t 9)))⟩, ⟨(some 54), none, (.p (.mov (.t 1)))⟩, ⟨(some 55), none, (.p (.mov (.t 9)))⟩, ⟨(some 56), none, (.p (.mov (.t 1)))⟩, ⟨(some 57), none, (.p (.idxA 1 (.t 55) (.t 56)))⟩, ⟨(some 58), none, (.p (.load false 1 (.t 57)))⟩, ⟨(some 59), none, (.p (.mov (.t 10)))⟩, ⟨(some 60), none, (.m (.sl 1 (.t 58) (some (.t 59)) none none))⟩, ⟨(some 61), none, (.p (.idxA 1 (.t 53) (.t 54)))⟩, ⟨none, none, (.m (.store 1 (.t 61) (.t 60)))⟩])
 (.seq (.reg [⟨(some 62), none, (.p (.mov (.t 9)))⟩, ⟨(some 63), none, (.p (.mov (.t 11)))⟩, ⟨(some 6), none, (.p (.mov (.t 62)))⟩, ⟨(some 7), none, (.p (.mov (.t 63)))⟩, ⟨(some 8), none, (.p (.mov (.c (.bool true))))⟩])
 (.ret))))))))
theorem m_rrecv_ok : compF Try.prog 78 = some (64, m_rrecv, [.mov (.t 6), .mov (.t 7), .mov (.t 8)]) := by kernel_rfl
def sRecv (wss : List (List Int)) (s n : Int) : List (List Int) × List Canon × Bool :=
  if s < 0 ∨ s ≥ wss.length ∨ n < 0 then (wss, [], false)
  else (wss.set s.toNat ((wss[s.toNat]!).drop (min n.toNat (wss[s.toNat]!).length)), numC ((wss[s.toNat]!).take (min n.toNat (wss[s.toNat]!).length)), true)
theorem set_slW {α : Type} (t : Bool) (s : Nat) (f : α → V) (l : List (List α)) (i : Nat) (d : List α) : (l.map (slV' t s f)).set i (V.sl t s (d.map f)) = (l.set i d).map (slV' t s f) := by rw [List.map_set]
attribute [local go_sem] take_mapW drop_mapW List.take_length set_slW
set_option maxHeartbeats 8000000 in
theorem copyinG_fn (wss : List (List Int)) (hl : wss.length ≤ 1000) (hw : ∀ w ∈ wss, w.length ≤ 100000) : Fnc Try.prog 27 [.sl false 1 (wss.map (slV' false 1 (V.int .u16)))] (fun x obs => x = .own 0 0 ∧ obs = [⟨.row 23, true, 0, .arr 1 (wss.map (slV' true 1 (V.int .u16)))⟩]) := by
  refine Fnc.intro m_copyin_ok (by simp) fun W S => ?_
  unfold m_copyin
  simp only [ents, Nat.zero_add, Nat.reduceAdd]
  refine zst ?_
  refine ev_adopt (i := 3) (e := 23) (s := 1) rfl (by decide) ?_
  refine ev_loopK [6, 7] (fun p : {p : Nat // p ≤ wss.length} => [(3, .own 0 p.1), (8, .int .i64 p.1)]) (fun p => [⟨.row 23, true, p.1, .arr 1 ((wss.take p.1).map (slV' true 1 (V.int .u16)))⟩]) (fun p => wss.length - p.1) (⟨0, by simp⟩) 1 (by simp only [go_sem]; rfl) ?_ (by first | rfl | (simp only [go_sem]; done)) (by simp) (by first | rfl | (simp only [go_sem]; done)) (by first | rfl | (simp only [go_sem]; done)) (by first | rfl | (simp only [go_sem]; done)) ?_
  · (simp only [go_sem]; (try simp []); done)
  intro J hJ
  rintro ⟨k, hk0⟩
  by_cases hlt : k < wss.length
  · have h1 := hw _ (mem_at hlt)
    have htl : (wss.take k).length = k := by rw [List.length_take]; omega
    have hs := take_snoc hlt
    refine zst ?_
    refine ev_next 1 (hJ _ (⟨k + 1, hlt⟩) (by first | omega | (dsimp only; omega) | (simp; omega))) rfl (by simp) ?_ (by first | rfl | (simp only [go_sem]; done)) (by first | rfl | (simp only [go_sem]; done) | (simp only [hs]; (try simp only [go_sem]); first | done | rfl)) ?_
    · exact zna hs
    · exact znb hs
  · obtain rfl : k = wss.length := by omega
    refine zst ?_
    refine ret m_copyin_ok [0] ?_; (first | (simp only [go_sem]; done) | (simp only [go_sem]; ((try dsimp only); (repeat' (refine And.intro ?_ ?_)) <;> first | with_reducible rfl | (simp only [go_sem]; done) | (simp only [go_sem]; rfl) | (simp only [go_sem, List.take_length]; done) | (simp only [List.take_length]; (try simp only [go_sem]); first | done | rfl) | (simp only [go_sem]; simp [List.take_length]; done) | (simp [List.take_length]; done) | rfl)))
set_option maxHeartbeats 8000000 in
theorem recvG_fn (wss : List (List Int)) (s n : Int) (hl : wss.length ≤ 1000) (hw : ∀ w ∈ wss, w.length ≤ 100000) : Fnc Try.prog 47 [.sl false 1 (wss.map (slV' false 1 (V.int .u16))), .int .i64 s, .int .i64 n] (fun x obs => x = .tup [.sl false 1 ((sRecv wss s n).1.map (slV' false 1 (V.int .u16))), .sl false 4 ((sRecv wss s n).2.1.map canonV), .bool (sRecv wss s n).2.2] ∧ obs = []) := by
  refine Fnc.low ?_
  have fail : (s < 0 ∨ s ≥ wss.length ∨ n < 0) → sRecv wss s n = (wss, [], false) := fun h => by rw [sRecv, if_pos h]
  by_cases c1 : s < 0
  · rw [fail (.inl c1)]
    refine Fnc.intro m_recv_ok (by simp) fun W S => ?_
    unfold m_recv
    simp only [ents, Nat.zero_add, Nat.reduceAdd]
    refine zst ?_
    refine ev_adopt (i := 9) (e := 23) (s := 1) rfl (by decide) ?_
    refine ev_loopK [0, 1, 2, 15, 16] (fun p : {p : Nat // p ≤ wss.length} => [(9, .own 0 p.1), (17, .int .i64 p.1)]) (fun p => [⟨.row 23, true, p.1, .arr 1 ((wss.take p.1).map (slV' true 1 (V.int .u16)))⟩]) (fun p => wss.length - p.1) (⟨0, by simp⟩) 1 (by simp only [go_sem]; rfl) ?_ (by first | rfl | (simp only [go_sem]; done)) (by simp) (by first | rfl | (simp only [go_sem]; done)) (by first | rfl | (simp only [go_sem]; done)) (by first | rfl | (simp only [go_sem]; done)) ?_
    · (simp only [go_sem]; (try simp []); done)
    intro J hJ
    rintro ⟨k, hk0⟩
    by_cases hlt : k < wss.length
    · have h1 := hw _ (mem_at hlt)
      have htl : (wss.take k).length = k := by rw [List.length_take]; omega
      have hs := take_snoc hlt
      refine zst ?_
      (first | refine callD (clw_fn wss[k]! (by omega)) ?_ | refine callDw (clw_fn wss[k]! (by omega)) ?_); simp only [go_sem]
      refine zst ?_
      refine ev_next 1 (hJ _ (⟨k + 1, hlt⟩) (by first | omega | (dsimp only; omega) | (simp; omega))) rfl (by simp) ?_ (by first | rfl | (simp only [go_sem]; done)) (by first | rfl | (simp only [go_sem]; done) | (simp only [hs]; (try simp only [go_sem]); first | done | rfl)) ?_
      · exact zna hs
      · exact znb hs
    obtain rfl : k = wss.length := by omega
    refine zst ?_
    refine ev_nil2 7 false 4 rfl ?_
    refine ret m_recv_ok [] ?_; (first | (simp only [go_sem]; done) | (simp only [go_sem]; ((try dsimp only); (repeat' (refine And.intro ?_ ?_)) <;> first | with_reducible rfl | (simp only [go_sem]; done) | (simp only [go_sem]; rfl) | (simp only [go_sem, List.take_length]; done) | (simp only [List.take_length]; (try simp only [go_sem]); first | done | rfl) | (simp only [go_sem]; simp [List.take_length]; done) | (simp [List.take_length]; done) | rfl)))
  by_cases c2 : s ≥ wss.length
  · rw [fail (.inr (.inl c2))]
    refine Fnc.intro m_recv_ok (by simp) fun W S => ?_
    unfold m_recv
    simp only [ents, Nat.zero_add, Nat.reduceAdd]
    refine zst ?_
    refine ev_adopt (i := 9) (e := 23) (s := 1) rfl (by decide) ?_
    refine ev_loopK [0, 1, 2, 15, 16] (fun p : {p : Nat // p ≤ wss.length} => [(9, .own 0 p.1), (17, .int .i64 p.1)]) (fun p => [⟨.row 23, true, p.1, .arr 1 ((wss.take p.1).map (slV' true 1 (V.int .u16)))⟩]) (fun p => wss.length - p.1) (⟨0, by simp⟩) 1 (by simp only [go_sem]; rfl) ?_ (by first | rfl | (simp only [go_sem]; done)) (by simp) (by first | rfl | (simp only [go_sem]; done)) (by first | rfl | (simp only [go_sem]; done)) (by first | rfl | (simp only [go_sem]; done)) ?_
    · (simp only [go_sem]; (try simp []); done)
    intro J hJ
    rintro ⟨k, hk0⟩
    by_cases hlt : k < wss.length
    · have h1 := hw _ (mem_at hlt)
      have htl : (wss.take k).length = k := by rw [List.length_take]; omega
      have hs := take_snoc hlt
      refine zst ?_
      (first | refine callD (clw_fn wss[k]! (by omega)) ?_ | refine callDw (clw_fn wss[k]! (by omega)) ?_); simp only [go_sem]
      refine zst ?_
      refine ev_next 1 (hJ _ (⟨k + 1, hlt⟩) (by first | omega | (dsimp only; omega) | (simp; omega))) rfl (by simp) ?_ (by first | rfl | (simp only [go_sem]; done)) (by first | rfl | (simp only [go_sem]; done) | (simp only [hs]; (try simp only [go_sem]); first | done | rfl)) ?_
      · exact zna hs
      · exact znb hs
    obtain rfl : k = wss.length := by omega
    refine zst ?_
    refine ev_nil2 7 false 4 rfl ?_
    refine ret m_recv_ok [] ?_; (first | (simp only [go_sem]; done) | (simp only [go_sem]; ((try dsimp only); (repeat' (refine And.intro ?_ ?_)) <;> first | with_reducible rfl | (simp only [go_sem]; done) | (simp only [go_sem]; rfl) | (simp only [go_sem, List.take_length]; done) | (simp only [List.take_length]; (try simp only [go_sem]); first | done | rfl) | (simp only [go_sem]; simp [List.take_length]; done) | (simp [List.take_length]; done) | rfl)))
  by_cases c3 : n < 0
  · rw [fail (.inr (.inr c3))]
    refine Fnc.intro m_recv_ok (by simp) fun W S => ?_
    unfold m_recv
    simp only [ents, Nat.zero_add, Nat.reduceAdd]
    refine zst ?_
    refine ev_adopt (i := 9) (e := 23) (s := 1) rfl (by decide) ?_
    refine ev_loopK [0, 1, 2, 15, 16] (fun p : {p : Nat // p ≤ wss.length} => [(9, .own 0 p.1), (17, .int .i64 p.1)]) (fun p => [⟨.row 23, true, p.1, .arr 1 ((wss.take p.1).map (slV' true 1 (V.int .u16)))⟩]) (fun p => wss.length - p.1) (⟨0, by simp⟩) 1 (by simp only [go_sem]; rfl) ?_ (by first | rfl | (simp only [go_sem]; done)) (by simp) (by first | rfl | (simp only [go_sem]; done)) (by first | rfl | (simp only [go_sem]; done)) (by first | rfl | (simp only [go_sem]; done)) ?_
    · (simp only [go_sem]; (try simp []); done)
    intro J hJ
    rintro ⟨k, hk0⟩
    by_cases hlt : k < wss.length
    · have h1 := hw _ (mem_at hlt)
      have htl : (wss.take k).length = k := by rw [List.length_take]; omega
      have hs := take_snoc hlt
      refine zst ?_
      (first | refine callD (clw_fn wss[k]! (by omega)) ?_ | refine callDw (clw_fn wss[k]! (by omega)) ?_); simp only [go_sem]
      refine zst ?_
      refine ev_next 1 (hJ _ (⟨k + 1, hlt⟩) (by first | omega | (dsimp only; omega) | (simp; omega))) rfl (by simp) ?_ (by first | rfl | (simp only [go_sem]; done)) (by first | rfl | (simp only [go_sem]; done) | (simp only [hs]; (try simp only [go_sem]); first | done | rfl)) ?_
      · exact zna hs
      · exact znb hs
    obtain rfl : k = wss.length := by omega
    refine zst ?_
    refine ev_nil2 7 false 4 rfl ?_
    refine ret m_recv_ok [] ?_; (first | (simp only [go_sem]; done) | (simp only [go_sem]; ((try dsimp only); (repeat' (refine And.intro ?_ ?_)) <;> first | with_reducible rfl | (simp only [go_sem]; done) | (simp only [go_sem]; rfl) | (simp only [go_sem, List.take_length]; done) | (simp only [List.take_length]; (try simp only [go_sem]); first | done | rfl) | (simp only [go_sem]; simp [List.take_length]; done) | (simp [List.take_length]; done) | rfl)))
  obtain ⟨S0, rfl⟩ := Int.eq_ofNat_of_zero_le (show 0 ≤ s by omega)
  have hS0 : S0 < wss.length := by omega
  obtain ⟨w, hwe⟩ : ∃ w, wss[S0]! = w := ⟨_, rfl⟩
  have hwl : w.length ≤ 100000 := by rw [← hwe]; exact hw _ (mem_at hS0)
  obtain ⟨M, hM⟩ : ∃ M, M = min n.toNat w.length := ⟨_, rfl⟩
  have hmin : (if (w.length : Int) < n then (w.length : Int) else n) = (M : Int) := by split <;> omega
  have e : sRecv wss S0 n = (wss.set S0 (w.drop M), numC (w.take M), true) := by
    rw [sRecv, if_neg (by omega), Int.toNat_natCast, hwe, ← hM]
  rw [e]
  obtain ⟨X, hXe⟩ : ∃ X, List.take M w = X := ⟨_, rfl⟩
  have hX : X.length = M := by rw [← hXe, List.length_take]; omega
  have hg : (wss.map (slV' true 1 (V.int .u16))).getD S0 .junk = V.sl true 1 (w.map (V.int .u16)) := by rw [getD_map _ _ _ hS0, hwe]
  rw [hXe]
  refine Fnc.intro m_recv_ok (by simp) fun W S => ?_
  unfold m_recv
  simp only [ents, Nat.zero_add, Nat.reduceAdd]
  refine zst ?_
  refine ev_adopt (i := 9) (e := 23) (s := 1) rfl (by decide) ?_
  refine ev_loopK [0, 1, 2, 15, 16] (fun p : {p : Nat // p ≤ wss.length} => [(9, .own 0 p.1), (17, .int .i64 p.1)]) (fun p => [⟨.row 23, true, p.1, .arr 1 ((wss.take p.1).map (slV' true 1 (V.int .u16)))⟩]) (fun p => wss.length - p.1) (⟨0, by simp⟩) 1 (by simp only [go_sem]; rfl) ?_ (by first | rfl | (simp only [go_sem]; done)) (by simp) (by first | rfl | (simp only [go_sem]; done)) (by first | rfl | (simp only [go_sem]; done)) (by first | rfl | (simp only [go_sem]; done)) ?_
  · (simp only [go_sem]; (try simp []); done)
  intro J hJ
  rintro ⟨k, hk0⟩
  by_cases hlt : k < wss.length
  · have h1 := hw _ (mem_at hlt)
    have htl : (wss.take k).length = k := by rw [List.length_take]; omega
    have hs := take_snoc hlt
    refine zst ?_
    (first | refine callD (clw_fn wss[k]! (by omega)) ?_ | refine callDw (clw_fn wss[k]! (by omega)) ?_); simp only [go_sem]
    refine zst ?_
    refine ev_next 1 (hJ _ (⟨k + 1, hlt⟩) (by first | omega | (dsimp only; omega) | (simp; omega))) rfl (by simp) ?_ (by first | rfl | (simp only [go_sem]; done)) (by first | rfl | (simp only [go_sem]; done) | (simp only [hs]; (try simp only [go_sem]); first | done | rfl)) ?_
    · exact zna hs
    · exact znb hs
  obtain rfl : k = wss.length := by omega
  rw [List.take_length]
  repeat (first | (simp only [hwe, hmin, Int.toNat_natCast, hXe]; try simp only [go_sem]) | refine And.intro (by omega) ?_ | refine And.intro rfl ?_ | refine ev_ctl rfl rfl ?_ | refine evr_nil ?_ | refine evw_nil (by kernel_rfl) ?_ | (simp (disch := omega) only [takeAll, Nat.min_eq_left, Nat.min_eq_right, if_pos, if_neg, getD_map, wrapI64, modIn, fdivE, tmodE, tdivE, decT, decF, beqT, beqF, bneT, bneF, Int.toNat_natCast]; try simp only [go_sem]) | (refine ev_condTb rfl ?_ ?_; · (simp <;> omega)) | (refine ev_condFb rfl ?_ ?_; · (simp <;> omega)) | ((first | refine ev_region ?_ | refine evr_go rfl ?_ | refine evw_go rfl ?_ | refine ev_dr0 mixed rfl (by kernel_rfl) ?_ | refine ev_dr1 mixed rfl (by kernel_rfl) ?_ | refine ev_dr2 mixed rfl (by kernel_rfl) ?_); simp only [go_sem]))
  refine ev_adopt (i := 12) (e := 47) (s := 4) rfl (by decide) ?_
  refine ev_loopK [1, 2, 9, 52, 53] (fun p : {p : Nat // p ≤ X.length} => [(12, .own 1 p.1), (54, .int .i64 p.1)]) (fun p => [⟨.row 23, true, wss.length, .arr 1 (wss.map (slV' true 1 (V.int .u16)))⟩, ⟨.row 47, true, p.1, .arr 4 ((numC (X.take p.1)).map canonV)⟩]) (fun p => X.length - p.1) (⟨0, by simp⟩) 2 (by simp only [go_sem]; rfl) ?_ (by first | rfl | (simp only [go_sem]; done) | (simp only [go_sem]; simp [numC_zero]; done)) (by simp) (by first | rfl | (simp only [go_sem]; done)) (by first | rfl | (simp only [go_sem]; done)) (by first | rfl | (simp only [go_sem]; done) | (simp only [numC_zero]; (try simp only [go_sem]); first | done | rfl)) ?_
  · (simp only [go_sem]; (try simp [numC_zero]); done)
  intro J hJ
  rintro ⟨k, hk0⟩
  by_cases hlt : k < X.length
  · have hl2 := numC_len (X.take k)
    have hl3 : (X.take k).length = k := by rw [List.length_take]; omega
    have hs := numC_snoc hlt
    refine zst ?_
    refine ev_next 2 (hJ _ (⟨k + 1, hlt⟩) (by first | omega | (dsimp only; omega) | (simp; omega))) rfl (by simp) ?_ (by first | rfl | (simp only [go_sem]; done)) (by first | rfl | (simp only [go_sem]; done) | (simp only [hs]; (try simp only [go_sem]); first | done | rfl)) ?_
    · exact zna hs
    · exact znb hs
  obtain rfl : k = X.length := by omega
  repeat (first | (simp only [Int.toNat_natCast, hg]; try simp only [go_sem]) | refine And.intro (by omega) ?_ | refine And.intro rfl ?_ | refine ev_ctl rfl rfl ?_ | refine evr_nil ?_ | refine evw_nil (by kernel_rfl) ?_ | (simp (disch := omega) only [takeAll, Nat.min_eq_left, Nat.min_eq_right, if_pos, if_neg, getD_map, wrapI64, modIn, fdivE, tmodE, tdivE, decT, decF, beqT, beqF, bneT, bneF, Int.toNat_natCast]; try simp only [go_sem]) | (refine ev_condTb rfl ?_ ?_; · (simp <;> omega)) | (refine ev_condFb rfl ?_ ?_; · (simp <;> omega)) | ((first | refine ev_region ?_ | refine evr_go rfl ?_ | refine evw_go rfl ?_ | refine ev_dr0 mixed rfl (by kernel_rfl) ?_ | refine ev_dr1 mixed rfl (by kernel_rfl) ?_ | refine ev_dr2 mixed rfl (by kernel_rfl) ?_); simp only [go_sem]))
  refine ret m_recv_ok [] ?_; exact zfn
set_option maxHeartbeats 8000000 in
theorem rrecvG_fn (wss : List (List Int)) (s n : Int) (hl : wss.length ≤ 1000) (hw : ∀ w ∈ wss, w.length ≤ 100000) : Fnc Try.prog 78 [.sl false 1 (wss.map (slV' false 1 (V.int .u16))), .int .i64 s, .int .i64 n] (fun x obs => x = .tup [.sl false 1 ((sRecv wss s n).1.map (slV' false 1 (V.int .u16))), .sl false 4 ((sRecv wss s n).2.1.map canonV), .bool (sRecv wss s n).2.2] ∧ obs = []) := by
  refine Fnc.low ?_
  have fail : (s < 0 ∨ s ≥ wss.length ∨ n < 0) → sRecv wss s n = (wss, [], false) := fun h => by rw [sRecv, if_pos h]
  by_cases c1 : s < 0
  · rw [fail (.inl c1)]
    refine Fnc.intro m_rrecv_ok (by simp) fun W S => ?_
    unfold m_rrecv
    simp only [ents, Nat.zero_add, Nat.reduceAdd]
    refine zst ?_
    (first | refine callX (copyinG_fn wss hl hw) ?_ | refine callXw (copyinG_fn wss hl hw) ?_); simp only [go_sem]
    refine zst ?_
    refine ev_nil2 7 false 4 rfl ?_
    refine ret m_rrecv_ok [] ?_; (first | (simp only [go_sem]; done) | (simp only [go_sem]; ((try dsimp only); (repeat' (refine And.intro ?_ ?_)) <;> first | with_reducible rfl | (simp only [go_sem]; done) | (simp only [go_sem]; rfl) | (simp only [go_sem, List.take_length]; done) | (simp only [List.take_length]; (try simp only [go_sem]); first | done | rfl) | (simp only [go_sem]; simp [List.take_length]; done) | (simp [List.take_length]; done) | rfl)))
  by_cases c2 : s ≥ wss.length
  · rw [fail (.inr (.inl c2))]
    refine Fnc.intro m_rrecv_ok (by simp) fun W S => ?_
    unfold m_rrecv
    simp only [ents, Nat.zero_add, Nat.reduceAdd]
    refine zst ?_
    (first | refine callX (copyinG_fn wss hl hw) ?_ | refine callXw (copyinG_fn wss hl hw) ?_); simp only [go_sem]
    refine zst ?_
    refine ev_nil2 7 false 4 rfl ?_
    refine ret m_rrecv_ok [] ?_; (first | (simp only [go_sem]; done) | (simp only [go_sem]; ((try dsimp only); (repeat' (refine And.intro ?_ ?_)) <;> first | with_reducible rfl | (simp only [go_sem]; done) | (simp only [go_sem]; rfl) | (simp only [go_sem, List.take_length]; done) | (simp only [List.take_length]; (try simp only [go_sem]); first | done | rfl) | (simp only [go_sem]; simp [List.take_length]; done) | (simp [List.take_length]; done) | rfl)))
  by_cases c3 : n < 0
  · rw [fail (.inr (.inr c3))]
    refine Fnc.intro m_rrecv_ok (by simp) fun W S => ?_
    unfold m_rrecv
    simp only [ents, Nat.zero_add, Nat.reduceAdd]
    refine zst ?_
    (first | refine callX (copyinG_fn wss hl hw) ?_ | refine callXw (copyinG_fn wss hl hw) ?_); simp only [go_sem]
    refine zst ?_
    refine ev_nil2 7 false 4 rfl ?_
    refine ret m_rrecv_ok [] ?_; (first | (simp only [go_sem]; done) | (simp only [go_sem]; ((try dsimp only); (repeat' (refine And.intro ?_ ?_)) <;> first | with_reducible rfl | (simp only [go_sem]; done) | (simp only [go_sem]; rfl) | (simp only [go_sem, List.take_length]; done) | (simp only [List.take_length]; (try simp only [go_sem]); first | done | rfl) | (simp only [go_sem]; simp [List.take_length]; done) | (simp [List.take_length]; done) | rfl)))
  obtain ⟨S0, rfl⟩ := Int.eq_ofNat_of_zero_le (show 0 ≤ s by omega)
  have hS0 : S0 < wss.length := by omega
  obtain ⟨w, hwe⟩ : ∃ w, wss[S0]! = w := ⟨_, rfl⟩
  have hwl : w.length ≤ 100000 := by rw [← hwe]; exact hw _ (mem_at hS0)
  obtain ⟨M, hM⟩ : ∃ M, M = min n.toNat w.length := ⟨_, rfl⟩
  have hmin : (if (w.length : Int) < n then (w.length : Int) else n) = (M : Int) := by split <;> omega
  have e : sRecv wss S0 n = (wss.set S0 (w.drop M), numC (w.take M), true) := by
    rw [sRecv, if_neg (by omega), Int.toNat_natCast, hwe, ← hM]
  rw [e]
  obtain ⟨X, hXe⟩ : ∃ X, List.take M w = X := ⟨_, rfl⟩
  have hX : X.length = M := by rw [← hXe, List.length_take]; omega
  have hg : (wss.map (slV' true 1 (V.int .u16))).getD S0 .junk = V.sl true 1 (w.map (V.int .u16)) := by rw [getD_map _ _ _ hS0, hwe]
  rw [hXe]
  refine Fnc.intro m_rrecv_ok (by simp) fun W S => ?_
  unfold m_rrecv
  simp only [ents, Nat.zero_add, Nat.reduceAdd]
  refine zst ?_
  (first | refine callX (copyinG_fn wss hl hw) ?_ | refine callXw (copyinG_fn wss hl hw) ?_); simp only [go_sem]
  refine zst ?_
  repeat (first | (simp only [hwe, hmin, Int.toNat_natCast, hXe]; try simp only [go_sem]) | refine And.intro (by omega) ?_ | refine And.intro rfl ?_ | refine ev_ctl rfl rfl ?_ | refine evr_nil ?_ | refine evw_nil (by kernel_rfl) ?_ | (simp (disch := omega) only [takeAll, Nat.min_eq_left, Nat.min_eq_right, if_pos, if_neg, getD_map, wrapI64, modIn, fdivE, tmodE, tdivE, decT, decF, beqT, beqF, bneT, bneF, Int.toNat_natCast]; try simp only [go_sem]) | (refine ev_condTb rfl ?_ ?_; · (simp <;> omega)) | (refine ev_condFb rfl ?_ ?_; · (simp <;> omega)) | ((first | refine ev_region ?_ | refine evr_go rfl ?_ | refine evw_go rfl ?_ | refine ev_dr0 mixed rfl (by kernel_rfl) ?_ | refine ev_dr1 mixed rfl (by kernel_rfl) ?_ | refine ev_dr2 mixed rfl (by kernel_rfl) ?_); simp only [go_sem]))
  refine ev_adopt (i := 11) (e := 47) (s := 4) rfl (by decide) ?_
  refine ev_loopK [1, 9, 10, 41, 42] (fun p : {p : Nat // p ≤ X.length} => [(11, .own 1 p.1), (43, .int .i64 p.1)]) (fun p => [⟨.row 23, true, 0, .arr 1 (wss.map (slV' true 1 (V.int .u16)))⟩, ⟨.row 47, true, p.1, .arr 4 ((numC (X.take p.1)).map canonV)⟩]) (fun p => X.length - p.1) (⟨0, by simp⟩) 2 (by simp only [go_sem]; rfl) ?_ (by first | rfl | (simp only [go_sem]; done) | (simp only [go_sem]; simp [numC_zero]; done)) (by simp) (by first | rfl | (simp only [go_sem]; done)) (by first | rfl | (simp only [go_sem]; done)) (by first | rfl | (simp only [go_sem]; done) | (simp only [numC_zero]; (try simp only [go_sem]); first | done | rfl)) ?_
  · (simp only [go_sem]; (try simp [numC_zero]); done)
  intro J hJ
  rintro ⟨k, hk0⟩
  by_cases hlt : k < X.length
  · have hl2 := numC_len (X.take k)
    have hl3 : (X.take k).length = k := by rw [List.length_take]; omega
    have hs := numC_snoc hlt
    refine zst ?_
    refine ev_next 2 (hJ _ (⟨k + 1, hlt⟩) (by first | omega | (dsimp only; omega) | (simp; omega))) rfl (by simp) ?_ (by first | rfl | (simp only [go_sem]; done)) (by first | rfl | (simp only [go_sem]; done) | (simp only [hs]; (try simp only [go_sem]); first | done | rfl)) ?_
    · exact zna hs
    · exact znb hs
  obtain rfl : k = X.length := by omega
  repeat (first | (simp only [Int.toNat_natCast, hg]; try simp only [go_sem]) | refine And.intro (by omega) ?_ | refine And.intro rfl ?_ | refine ev_ctl rfl rfl ?_ | refine evr_nil ?_ | refine evw_nil (by kernel_rfl) ?_ | (simp (disch := omega) only [takeAll, Nat.min_eq_left, Nat.min_eq_right, if_pos, if_neg, getD_map, wrapI64, modIn, fdivE, tmodE, tdivE, decT, decF, beqT, beqF, bneT, bneF, Int.toNat_natCast]; try simp only [go_sem]) | (refine ev_condTb rfl ?_ ?_; · (simp <;> omega)) | (refine ev_condFb rfl ?_ ?_; · (simp <;> omega)) | ((first | refine ev_region ?_ | refine evr_go rfl ?_ | refine evw_go rfl ?_ | refine ev_dr0 mixed rfl (by kernel_rfl) ?_ | refine ev_dr1 mixed rfl (by kernel_rfl) ?_ | refine ev_dr2 mixed rfl (by kernel_rfl) ?_); simp only [go_sem]))
  refine ret m_rrecv_ok [] ?_; exact zfn
end Go.Proofs.Ytkfpcgkmemfdaaa
