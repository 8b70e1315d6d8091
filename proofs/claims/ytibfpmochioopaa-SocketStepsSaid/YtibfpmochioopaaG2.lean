/- Outputs of sockets: order, streams, equality. -/
import Derived.Test.YtibfpmochioopaaG1
namespace Go.Proofs.Ytibfpmochioopaa
open Go Go.RowKit Rdn Rdn.Dp
set_option linter.unusedVariables false
set_option linter.unusedSimpArgs false
def m_wstream : MC := .seq (.reg [⟨(some 4), none, (.p (.mov (.c (.nilS))))⟩])
 (.seq (.reg [⟨(some 5), none, (.p (.mov (.c (.nilS))))⟩])
 (.seq (.seq (.reg [⟨(some 8), none, (.p (.mov (.t 0)))⟩, ⟨(some 9), none, (.p (.len (.t 8)))⟩, ⟨(some 10), none, (.p (.mov (.c (.int .i64 0))))⟩])
 (.block 0 (.loop (.seq (.reg [⟨(some 11), none, (.p (.bin 0 .lss (.t 10) (.t 9)))⟩])
 (.seq (.cond (.t 11) (.skip) (.exit 0))
 (.seq (.block 1 (.seq (.reg [⟨(some 12), none, (.p (.idxA 3 (.t 8) (.t 10)))⟩, ⟨(some 13), none, (.p (.load true 3 (.t 12)))⟩, ⟨(some 7), none, (.m (.alloc 28 (.agg [.int .i64 0, .int .i64 0, .nilS])))⟩, ⟨none, none, (.m (.store 3 (.t 7) (.t 13)))⟩])
 (.seq (.reg [⟨(some 14), none, (.p (.fieldA 1 1 (.t 7)))⟩, ⟨(some 15), none, (.p (.load false 1 (.t 14)))⟩, ⟨(some 16), none, (.p (.mov (.t 1)))⟩, ⟨(some 17), none, (.p (.bin 0 .eql (.t 15) (.t 16)))⟩])
 (.cond (.t 17) (.reg [⟨(some 18), none, (.p (.mov (.t 5)))⟩, ⟨(some 19), none, (.p (.fieldA 2 2 (.t 7)))⟩, ⟨(some 20), none, (.p (.load false 1 (.t 19)))⟩, ⟨(some 21), none, (.m (.app 59 4 24 (.t 18) (.t 20)))⟩, ⟨(some 5), none, (.p (.mov (.t 21)))⟩]) (.skip)))))
 (.reg [⟨(some 22), none, (.p (.bin 0 .add (.t 10) (.c (.int .i64 1))))⟩, ⟨(some 10), none, (.p (.mov (.t 22)))⟩])))))))
 (.seq (.reg [⟨(some 23), none, (.p (.mov (.t 5)))⟩, ⟨(some 4), none, (.p (.mov (.t 23)))⟩])
 (.ret))))
theorem m_wstream_ok : compF Try.prog 15 = some (24, m_wstream, [.mov (.t 4)]) := by kernel_rfl
def m_rstream : MC := .seq (.reg [⟨(some 4), none, (.p (.mov (.c (.nilS))))⟩])
 (.seq (.reg [⟨(some 5), none, (.p (.mov (.c (.nilS))))⟩])
 (.seq (.seq (.reg [⟨(some 8), none, (.p (.mov (.t 0)))⟩, ⟨(some 9), none, (.p (.len (.t 8)))⟩, ⟨(some 10), none, (.p (.mov (.c (.int .i64 0))))⟩])
 (.block 0 (.loop (.seq (.reg [⟨(some 11), none, (.p (.bin 0 .lss (.t 10) (.t 9)))⟩])
 (.seq (.cond (.t 11) (.skip) (.exit 0))
 (.seq (.block 1 (.seq (.reg [⟨(some 12), none, (.p (.idxA 3 (.t 8) (.t 10)))⟩, ⟨(some 13), none, (.p (.load true 3 (.t 12)))⟩, ⟨(some 7), none, (.m (.alloc 28 (.agg [.int .i64 0, .int .i64 0, .nilS])))⟩, ⟨none, none, (.m (.store 3 (.t 7) (.t 13)))⟩])
 (.seq (.reg [⟨(some 14), none, (.p (.fieldA 1 1 (.t 7)))⟩, ⟨(some 15), none, (.p (.load false 1 (.t 14)))⟩, ⟨(some 16), none, (.p (.mov (.t 1)))⟩, ⟨(some 17), none, (.p (.bin 0 .eql (.t 15) (.t 16)))⟩])
 (.cond (.t 17) (.reg [⟨(some 18), none, (.p (.mov (.t 5)))⟩, ⟨(some 19), none, (.p (.fieldA 2 2 (.t 7)))⟩, ⟨(some 20), none, (.p (.load false 1 (.t 19)))⟩, ⟨(some 21), none, (.m (.app 59 4 24 (.t 18) (.t 20)))⟩, ⟨(some 5), none, (.p (.mov (.t 21)))⟩]) (.skip)))))
 (.reg [⟨(some 22), none, (.p (.bin 0 .add (.t 10) (.c (.int .i64 1))))⟩, ⟨(some 10), none, (.p (.mov (.t 22)))⟩])))))))
 (.seq (.reg [⟨(some 23), none, (.p (.mov (.t 5)))⟩, ⟨(some 4), none, (.p (.mov (.t 23)))⟩])
 (.ret))))
theorem m_rstream_ok : compF Try.prog 16 = some (24, m_rstream, [.mov (.t 4)]) := by kernel_rfl
def m_wordered : MC := .seq (.reg [⟨(some 2), none, (.p (.mov (.c (.bool false))))⟩])
 (.seq (.seq (.reg [⟨(some 5), none, (.p (.mov (.t 0)))⟩, ⟨(some 6), none, (.p (.len (.t 5)))⟩, ⟨(some 7), none, (.p (.mov (.c (.int .i64 0))))⟩])
 (.block 0 (.loop (.seq (.reg [⟨(some 8), none, (.p (.bin 0 .lss (.t 7) (.t 6)))⟩])
 (.seq (.cond (.t 8) (.skip) (.exit 0))
 (.seq (.block 1 (.seq (.reg [⟨(some 9), none, (.p (.mov (.t 7)))⟩, ⟨(some 10), none, (.p (.idxA 3 (.t 5) (.t 7)))⟩, ⟨(some 11), none, (.p (.load true 3 (.t 10)))⟩, ⟨(some 4), none, (.m (.alloc 28 (.agg [.int .i64 0, .int .i64 0, .nilS])))⟩, ⟨(some 3), none, (.p (.mov (.t 9)))⟩, ⟨none, none, (.m (.store 3 (.t 4) (.t 11)))⟩])
 (.seq (.reg [⟨(some 12), none, (.p (.fieldA 0 0 (.t 4)))⟩, ⟨(some 13), none, (.p (.load false 1 (.t 12)))⟩, ⟨(some 14), none, (.p (.mov (.t 3)))⟩, ⟨(some 15), none, (.p (.bin 0 .neq (.t 13) (.t 14)))⟩, ⟨(some 16), none, (.p (.mov (.t 15)))⟩, ⟨(some 17), (some (16, false)), (.p (.fieldA 1 1 (.t 4)))⟩, ⟨(some 18), (some (16, false)), (.p (.load false 1 (.t 17)))⟩, ⟨(some 19), (some (16, false)), (.p (.bin 0 .lss (.t 18) (.c (.int .i64 0))))⟩, ⟨(some 20), none, (.p (.pick (.t 16) (.c (.bool true)) (.t 19)))⟩, ⟨(some 21), none, (.p (.mov (.t 20)))⟩, ⟨(some 22), (some (21, false)), (.p (.fieldA 1 1 (.t 4)))⟩, ⟨(some 23), (some (21, false)), (.p (.load false 1 (.t 22)))⟩, ⟨(some 24), (some (21, false)), (.p (.bin 0 .geq (.t 23) (.c (.int .i64 2))))⟩, ⟨(some 25), none, (.p (.pick (.t 21) (.c (.bool true)) (.t 24)))⟩, ⟨(some 26), none, (.p (.mov (.t 25)))⟩, ⟨(some 27), (some (26, false)), (.p (.fieldA 2 2 (.t 4)))⟩, ⟨(some 28), (some (26, false)), (.p (.load false 1 (.t 27)))⟩, ⟨(some 29), (some (26, false)), (.p (.len (.t 28)))⟩, ⟨(some 30), (some (26, false)), (.p (.bin 0 .gtr (.t 29) (.c (.int .i64 16))))⟩, ⟨(some 31), none, (.p (.pick (.t 26) (.c (.bool true)) (.t 30)))⟩])
 (.cond (.t 31) (.seq (.reg [⟨(some 2), none, (.p (.mov (.c (.bool false))))⟩])
 (.ret)) (.skip)))))
 (.reg [⟨(some 32), none, (.p (.bin 0 .add (.t 7) (.c (.int .i64 1))))⟩, ⟨(some 7), none, (.p (.mov (.t 32)))⟩])))))))
 (.seq (.reg [⟨(some 2), none, (.p (.mov (.c (.bool true))))⟩])
 (.ret)))
theorem m_wordered_ok : compF Try.prog 17 = some (33, m_wordered, [.mov (.t 2)]) := by kernel_rfl
def m_rordered : MC := .seq (.reg [⟨(some 2), none, (.p (.mov (.c (.bool false))))⟩])
 (.seq (.seq (.reg [⟨(some 5), none, (.p (.mov (.t 0)))⟩, ⟨(some 6), none, (.p (.len (.t 5)))⟩, ⟨(some 7), none, (.p (.mov (.c (.int .i64 0))))⟩])
 (.block 0 (.loop (.seq (.reg [⟨(some 8), none, (.p (.bin 0 .lss (.t 7) (.t 6)))⟩])
 (.seq (.cond (.t 8) (.skip) (.exit 0))
 (.seq (.block 1 (.seq (.reg [⟨(some 9), none, (.p (.mov (.t 7)))⟩, ⟨(some 10), none, (.p (.idxA 3 (.t 5) (.t 7)))⟩, ⟨(some 11), none, (.p (.load true 3 (.t 10)))⟩, ⟨(some 4), none, (.m (.alloc 28 (.agg [.int .i64 0, .int .i64 0, .nilS])))⟩, ⟨(some 3), none, (.p (.mov (.t 9)))⟩, ⟨none, none, (.m (.store 3 (.t 4) (.t 11)))⟩])
 (.seq (.reg [⟨(some 12), none, (.p (.fieldA 0 0 (.t 4)))⟩, ⟨(some 13), none, (.p (.load false 1 (.t 12)))⟩, ⟨(some 14), none, (.p (.mov (.t 3)))⟩, ⟨(some 15), none, (.p (.bin 0 .neq (.t 13) (.t 14)))⟩, ⟨(some 16), none, (.p (.mov (.t 15)))⟩, ⟨(some 17), (some (16, false)), (.p (.fieldA 1 1 (.t 4)))⟩, ⟨(some 18), (some (16, false)), (.p (.load false 1 (.t 17)))⟩, ⟨(some 19), (some (16, false)), (.p (.bin 0 .lss (.t 18) (.c (.int .i64 0))))⟩, ⟨(some 20), none, (.p (.pick (.t 16) (.c (.bool true)) (.t 19)))⟩, ⟨(some 21), none, (.p (.mov (.t 20)))⟩, ⟨(some 22), (some (21, false)), (.p (.fieldA 1 1 (.t 4)))⟩, ⟨(some 23), (some (21, false)), (.p (.load false 1 (.t 22)))⟩, ⟨(some 24), (some (21, false)), (.p (.bin 0 .geq (.t 23) (.c (.int .i64 2))))⟩, ⟨(some 25), none, (.p (.pick (.t 21) (.c (.bool true)) (.t 24)))⟩, ⟨(some 26), none, (.p (.mov (.t 25)))⟩, ⟨(some 27), (some (26, false)), (.p (.fieldA 2 2 (.t 4)))⟩, ⟨(some 28), (some (26, false)), (.p (.load false 1 (.t 27)))⟩, ⟨(some 29), (some (26, false)), (.p (.len (.t 28)))⟩, ⟨(some 30), (some (26, false)), (.p (.bin 0 .gtr (.t 29) (.c (.int .i64 16))))⟩, ⟨(some 31), none, (.p (.pick (.t 26) (.c (.bool true)) (.t 30)))⟩])
 (.cond (.t 31) (.seq (.reg [⟨(some 2), none, (.p (.mov (.c (.bool false))))⟩])
 (.ret)) (.skip)))))
 (.reg [⟨(some 32), none, (.p (.bin 0 .add (.t 7) (.c (.int .i64 1))))⟩, ⟨(some 7), none, (.p (.mov (.t 32)))⟩])))))))
 (.seq (.reg [⟨(some 2), none, (.p (.mov (.c (.bool true))))⟩])
 (.ret)))
theorem m_rordered_ok : compF Try.prog 18 = some (33, m_rordered, [.mov (.t 2)]) := by kernel_rfl
/-- An output that stands at its place. -/
def okO (j : Nat) (o : Output) : Prop := o.seq = j ∧ 0 ≤ o.socket ∧ o.socket < 2 ∧ o.data.length ≤ 16
def ordered (l : List Output) : Prop := ∀ j, j < l.length → okO j l[j]!
noncomputable def ordB (l : List Output) : Bool := @decide (ordered l) (Classical.propDecidable _)
theorem ordB_T {l : List Output} (h : ordered l) : ordB l = true := by unfold ordB; exact @decide_eq_true _ (Classical.propDecidable _) h
theorem ordB_F {l : List Output} (h : ¬ ordered l) : ordB l = false := by unfold ordB; exact @decide_eq_false _ (Classical.propDecidable _) h
set_option maxHeartbeats 4000000 in
theorem wordered_fn (l : List Output) : Fnc Try.prog 17 [.sl false 3 (l.map (outputV false))] (fun x obs => x = .bool (ordB l) ∧ obs = []) := by
  refine Fnc.wf fun hw => ?_
  simp only [V.wfs, V.wf, List.length_map] at hw
  have hm := hw.1.2
  clear hw
  refine Fnc.intro m_wordered_ok (by simp) fun W S => ?_
  unfold m_wordered
  simp only [ents, Nat.zero_add, Nat.reduceAdd]
  repeat (first | refine And.intro (by omega) ?_ | refine And.intro rfl ?_ | refine ev_ctl rfl rfl ?_ | refine evr_nil ?_ | refine evw_nil (by kernel_rfl) ?_ | (simp (disch := omega) only [takeAll, Nat.min_eq_left, Nat.min_eq_right, if_pos, if_neg, getD_map, wrapI64, modIn, fdivE, tmodE, tdivE, decT, decF, beqT, beqF, bneT, bneF, Int.toNat_natCast]; try simp only [go_sem]) | (refine ev_condTb rfl ?_ ?_; · (simp <;> omega)) | (refine ev_condFb rfl ?_ ?_; · (simp <;> omega)) | ((first | refine ev_region ?_ | refine evr_go rfl ?_ | refine evw_go rfl ?_ | refine ev_dr0 mixed rfl (by kernel_rfl) ?_ | refine ev_dr1 mixed rfl (by kernel_rfl) ?_ | refine ev_dr2 mixed rfl (by kernel_rfl) ?_); simp only [go_sem]))
  refine ev_loopK [5, 6] (fun p : {p : Nat // p ≤ l.length ∧ ∀ j, j < p → okO j l[j]!} => [(7, .int .i64 p.1)]) (fun _ => []) (fun p => l.length - p.1) (⟨0, by simp⟩) 0 (by simp only [go_sem]; rfl) ?_ (by first | rfl | (simp only [go_sem]; done)) (by simp) (by first | rfl | (simp only [go_sem]; done)) (by first | rfl | (simp only [go_sem]; done)) (by first | rfl | (simp only [go_sem]; done)) ?_
  · (simp only [go_sem]; (try simp []); done)
  intro J hJ
  rintro ⟨k, hk0, hk1⟩
  by_cases hlt : k < l.length
  · by_cases c1 : l[k]!.seq = k
    · by_cases c2 : l[k]!.socket < 0
      · have hF := ordB_F (l := l) fun h => by have := (h k hlt).2.1; omega
        rw [hF]
        repeat (first | refine And.intro (by omega) ?_ | refine And.intro rfl ?_ | refine ev_ctl rfl rfl ?_ | refine evr_nil ?_ | refine evw_nil (by kernel_rfl) ?_ | (simp (disch := omega) only [takeAll, Nat.min_eq_left, Nat.min_eq_right, if_pos, if_neg, getD_map, wrapI64, modIn, fdivE, tmodE, tdivE, decT, decF, beqT, beqF, bneT, bneF, Int.toNat_natCast]; try simp only [go_sem]) | (refine ev_condTb rfl ?_ ?_; · (simp <;> omega)) | (refine ev_condFb rfl ?_ ?_; · (simp <;> omega)) | ((first | refine ev_region ?_ | refine evr_go rfl ?_ | refine evw_go rfl ?_ | refine ev_dr0 mixed rfl (by kernel_rfl) ?_ | refine ev_dr1 mixed rfl (by kernel_rfl) ?_ | refine ev_dr2 mixed rfl (by kernel_rfl) ?_); simp only [go_sem]))
        refine ret m_wordered_ok [] ?_; (first | (simp only [go_sem]; done) | (simp only [go_sem]; ((try dsimp only); (repeat' (refine And.intro ?_ ?_)) <;> first | with_reducible rfl | (simp only [go_sem]; done) | (simp only [go_sem]; rfl) | (simp only []; (try simp only [go_sem]); first | done | rfl) | (simp only [go_sem]; simp []; done) | (simp []; done) | rfl)))
      by_cases c3 : l[k]!.socket ≥ 2
      · have hF := ordB_F (l := l) fun h => by have := (h k hlt).2.2.1; omega
        rw [hF]
        repeat (first | refine And.intro (by omega) ?_ | refine And.intro rfl ?_ | refine ev_ctl rfl rfl ?_ | refine evr_nil ?_ | refine evw_nil (by kernel_rfl) ?_ | (simp (disch := omega) only [takeAll, Nat.min_eq_left, Nat.min_eq_right, if_pos, if_neg, getD_map, wrapI64, modIn, fdivE, tmodE, tdivE, decT, decF, beqT, beqF, bneT, bneF, Int.toNat_natCast]; try simp only [go_sem]) | (refine ev_condTb rfl ?_ ?_; · (simp <;> omega)) | (refine ev_condFb rfl ?_ ?_; · (simp <;> omega)) | ((first | refine ev_region ?_ | refine evr_go rfl ?_ | refine evw_go rfl ?_ | refine ev_dr0 mixed rfl (by kernel_rfl) ?_ | refine ev_dr1 mixed rfl (by kernel_rfl) ?_ | refine ev_dr2 mixed rfl (by kernel_rfl) ?_); simp only [go_sem]))
        refine ret m_wordered_ok [] ?_; (first | (simp only [go_sem]; done) | (simp only [go_sem]; ((try dsimp only); (repeat' (refine And.intro ?_ ?_)) <;> first | with_reducible rfl | (simp only [go_sem]; done) | (simp only [go_sem]; rfl) | (simp only []; (try simp only [go_sem]); first | done | rfl) | (simp only [go_sem]; simp []; done) | (simp []; done) | rfl)))
      by_cases c4 : l[k]!.data.length > 16
      · have hF := ordB_F (l := l) fun h => by have := (h k hlt).2.2.2; omega
        rw [hF]
        repeat (first | refine And.intro (by omega) ?_ | refine And.intro rfl ?_ | refine ev_ctl rfl rfl ?_ | refine evr_nil ?_ | refine evw_nil (by kernel_rfl) ?_ | (simp (disch := omega) only [takeAll, Nat.min_eq_left, Nat.min_eq_right, if_pos, if_neg, getD_map, wrapI64, modIn, fdivE, tmodE, tdivE, decT, decF, beqT, beqF, bneT, bneF, Int.toNat_natCast]; try simp only [go_sem]) | (refine ev_condTb rfl ?_ ?_; · (simp <;> omega)) | (refine ev_condFb rfl ?_ ?_; · (simp <;> omega)) | ((first | refine ev_region ?_ | refine evr_go rfl ?_ | refine evw_go rfl ?_ | refine ev_dr0 mixed rfl (by kernel_rfl) ?_ | refine ev_dr1 mixed rfl (by kernel_rfl) ?_ | refine ev_dr2 mixed rfl (by kernel_rfl) ?_); simp only [go_sem]))
        refine ret m_wordered_ok [] ?_; (first | (simp only [go_sem]; done) | (simp only [go_sem]; ((try dsimp only); (repeat' (refine And.intro ?_ ?_)) <;> first | with_reducible rfl | (simp only [go_sem]; done) | (simp only [go_sem]; rfl) | (simp only []; (try simp only [go_sem]); first | done | rfl) | (simp only [go_sem]; simp []; done) | (simp []; done) | rfl)))
      · have okS : ∀ j, j < k + 1 → okO j l[j]! := fun j hj => by
          by_cases e : j = k
          · subst e; exact ⟨c1, by omega, by omega, by omega⟩
          · exact hk1 j (by omega)
        repeat (first | refine And.intro (by omega) ?_ | refine And.intro rfl ?_ | refine ev_ctl rfl rfl ?_ | refine evr_nil ?_ | refine evw_nil (by kernel_rfl) ?_ | (simp (disch := omega) only [takeAll, Nat.min_eq_left, Nat.min_eq_right, if_pos, if_neg, getD_map, wrapI64, modIn, fdivE, tmodE, tdivE, decT, decF, beqT, beqF, bneT, bneF, Int.toNat_natCast]; try simp only [go_sem]) | (refine ev_condTb rfl ?_ ?_; · (simp <;> omega)) | (refine ev_condFb rfl ?_ ?_; · (simp <;> omega)) | ((first | refine ev_region ?_ | refine evr_go rfl ?_ | refine evw_go rfl ?_ | refine ev_dr0 mixed rfl (by kernel_rfl) ?_ | refine ev_dr1 mixed rfl (by kernel_rfl) ?_ | refine ev_dr2 mixed rfl (by kernel_rfl) ?_); simp only [go_sem]))
        refine ev_next 0 (hJ _ (⟨k + 1, hlt, okS⟩) (by first | omega | (dsimp only; omega) | (simp; omega))) rfl (by simp) ?_ (by first | rfl | (simp only [go_sem]; done)) (by first | rfl | (simp only [go_sem]; done)) ?_
        · (first | rfl | (simp only [go_sem]; done) | (simp only [go_sem]; simp only [hlt]; done) | (simp only [go_sem]; simp [hlt]; done) | (simp [hlt]; done))
        · (simp only [go_sem]; (repeat' (refine And.intro ?_ ?_)) <;> first | exact trivial | with_reducible rfl | (simp only [hlt]; done) | (simp only [hlt]; with_reducible rfl) | (simp [hlt]; done) | (simp [hlt]; omega) | (simp only [hlt]; rfl) | skip)
    · have hF := ordB_F (l := l) fun h => c1 (h k hlt).1
      rw [hF]
      repeat (first | refine And.intro (by omega) ?_ | refine And.intro rfl ?_ | refine ev_ctl rfl rfl ?_ | refine evr_nil ?_ | refine evw_nil (by kernel_rfl) ?_ | (simp (disch := omega) only [takeAll, Nat.min_eq_left, Nat.min_eq_right, if_pos, if_neg, getD_map, wrapI64, modIn, fdivE, tmodE, tdivE, decT, decF, beqT, beqF, bneT, bneF, Int.toNat_natCast]; try simp only [go_sem]) | (refine ev_condTb rfl ?_ ?_; · (simp <;> omega)) | (refine ev_condFb rfl ?_ ?_; · (simp <;> omega)) | ((first | refine ev_region ?_ | refine evr_go rfl ?_ | refine evw_go rfl ?_ | refine ev_dr0 mixed rfl (by kernel_rfl) ?_ | refine ev_dr1 mixed rfl (by kernel_rfl) ?_ | refine ev_dr2 mixed rfl (by kernel_rfl) ?_); simp only [go_sem]))
      refine ret m_wordered_ok [] ?_; (first | (simp only [go_sem]; done) | (simp only [go_sem]; ((try dsimp only); (repeat' (refine And.intro ?_ ?_)) <;> first | with_reducible rfl | (simp only [go_sem]; done) | (simp only [go_sem]; rfl) | (simp only []; (try simp only [go_sem]); first | done | rfl) | (simp only [go_sem]; simp []; done) | (simp []; done) | rfl)))
  · obtain rfl : k = l.length := by omega
    have hT := ordB_T (l := l) fun j hj => hk1 j hj
    rw [hT]
    repeat (first | refine And.intro (by omega) ?_ | refine And.intro rfl ?_ | refine ev_ctl rfl rfl ?_ | refine evr_nil ?_ | refine evw_nil (by kernel_rfl) ?_ | (simp (disch := omega) only [takeAll, Nat.min_eq_left, Nat.min_eq_right, if_pos, if_neg, getD_map, wrapI64, modIn, fdivE, tmodE, tdivE, decT, decF, beqT, beqF, bneT, bneF, Int.toNat_natCast]; try simp only [go_sem]) | (refine ev_condTb rfl ?_ ?_; · (simp <;> omega)) | (refine ev_condFb rfl ?_ ?_; · (simp <;> omega)) | ((first | refine ev_region ?_ | refine evr_go rfl ?_ | refine evw_go rfl ?_ | refine ev_dr0 mixed rfl (by kernel_rfl) ?_ | refine ev_dr1 mixed rfl (by kernel_rfl) ?_ | refine ev_dr2 mixed rfl (by kernel_rfl) ?_); simp only [go_sem]))
    refine ret m_wordered_ok [] ?_; (first | (simp only [go_sem]; done) | (simp only [go_sem]; ((try dsimp only); (repeat' (refine And.intro ?_ ?_)) <;> first | with_reducible rfl | (simp only [go_sem]; done) | (simp only [go_sem]; rfl) | (simp only []; (try simp only [go_sem]); first | done | rfl) | (simp only [go_sem]; simp []; done) | (simp []; done) | rfl)))
set_option maxHeartbeats 4000000 in
theorem rordered_fn (l : List Output) : Fnc Try.prog 18 [.sl false 3 (l.map (outputV false))] (fun x obs => x = .bool (ordB l) ∧ obs = []) := by
  refine Fnc.wf fun hw => ?_
  simp only [V.wfs, V.wf, List.length_map] at hw
  have hm := hw.1.2
  clear hw
  refine Fnc.intro m_rordered_ok (by simp) fun W S => ?_
  unfold m_rordered
  simp only [ents, Nat.zero_add, Nat.reduceAdd]
  repeat (first | refine And.intro (by omega) ?_ | refine And.intro rfl ?_ | refine ev_ctl rfl rfl ?_ | refine evr_nil ?_ | refine evw_nil (by kernel_rfl) ?_ | (simp (disch := omega) only [takeAll, Nat.min_eq_left, Nat.min_eq_right, if_pos, if_neg, getD_map, wrapI64, modIn, fdivE, tmodE, tdivE, decT, decF, beqT, beqF, bneT, bneF, Int.toNat_natCast]; try simp only [go_sem]) | (refine ev_condTb rfl ?_ ?_; · (simp <;> omega)) | (refine ev_condFb rfl ?_ ?_; · (simp <;> omega)) | ((first | refine ev_region ?_ | refine evr_go rfl ?_ | refine evw_go rfl ?_ | refine ev_dr0 mixed rfl (by kernel_rfl) ?_ | refine ev_dr1 mixed rfl (by kernel_rfl) ?_ | refine ev_dr2 mixed rfl (by kernel_rfl) ?_); simp only [go_sem]))
  refine ev_loopK [5, 6] (fun p : {p : Nat // p ≤ l.length ∧ ∀ j, j < p → okO j l[j]!} => [(7, .int .i64 p.1)]) (fun _ => []) (fun p => l.length - p.1) (⟨0, by simp⟩) 0 (by simp only [go_sem]; rfl) ?_ (by first | rfl | (simp only [go_sem]; done)) (by simp) (by first | rfl | (simp only [go_sem]; done)) (by first | rfl | (simp only [go_sem]; done)) (by first | rfl | (simp only [go_sem]; done)) ?_
  · (simp only [go_sem]; (try simp []); done)
  intro J hJ
  rintro ⟨k, hk0, hk1⟩
  by_cases hlt : k < l.length
  · by_cases c1 : l[k]!.seq = k
    · by_cases c2 : l[k]!.socket < 0
      · have hF := ordB_F (l := l) fun h => by have := (h k hlt).2.1; omega
        rw [hF]
        repeat (first | refine And.intro (by omega) ?_ | refine And.intro rfl ?_ | refine ev_ctl rfl rfl ?_ | refine evr_nil ?_ | refine evw_nil (by kernel_rfl) ?_ | (simp (disch := omega) only [takeAll, Nat.min_eq_left, Nat.min_eq_right, if_pos, if_neg, getD_map, wrapI64, modIn, fdivE, tmodE, tdivE, decT, decF, beqT, beqF, bneT, bneF, Int.toNat_natCast]; try simp only [go_sem]) | (refine ev_condTb rfl ?_ ?_; · (simp <;> omega)) | (refine ev_condFb rfl ?_ ?_; · (simp <;> omega)) | ((first | refine ev_region ?_ | refine evr_go rfl ?_ | refine evw_go rfl ?_ | refine ev_dr0 mixed rfl (by kernel_rfl) ?_ | refine ev_dr1 mixed rfl (by kernel_rfl) ?_ | refine ev_dr2 mixed rfl (by kernel_rfl) ?_); simp only [go_sem]))
        refine ret m_rordered_ok [] ?_; (first | (simp only [go_sem]; done) | (simp only [go_sem]; ((try dsimp only); (repeat' (refine And.intro ?_ ?_)) <;> first | with_reducible rfl | (simp only [go_sem]; done) | (simp only [go_sem]; rfl) | (simp only []; (try simp only [go_sem]); first | done | rfl) | (simp only [go_sem]; simp []; done) | (simp []; done) | rfl)))
      by_cases c3 : l[k]!.socket ≥ 2
      · have hF := ordB_F (l := l) fun h => by have := (h k hlt).2.2.1; omega
        rw [hF]
        repeat (first | refine And.intro (by omega) ?_ | refine And.intro rfl ?_ | refine ev_ctl rfl rfl ?_ | refine evr_nil ?_ | refine evw_nil (by kernel_rfl) ?_ | (simp (disch := omega) only [takeAll, Nat.min_eq_left, Nat.min_eq_right, if_pos, if_neg, getD_map, wrapI64, modIn, fdivE, tmodE, tdivE, decT, decF, beqT, beqF, bneT, bneF, Int.toNat_natCast]; try simp only [go_sem]) | (refine ev_condTb rfl ?_ ?_; · (simp <;> omega)) | (refine ev_condFb rfl ?_ ?_; · (simp <;> omega)) | ((first | refine ev_region ?_ | refine evr_go rfl ?_ | refine evw_go rfl ?_ | refine ev_dr0 mixed rfl (by kernel_rfl) ?_ | refine ev_dr1 mixed rfl (by kernel_rfl) ?_ | refine ev_dr2 mixed rfl (by kernel_rfl) ?_); simp only [go_sem]))
        refine ret m_rordered_ok [] ?_; (first | (simp only [go_sem]; done) | (simp only [go_sem]; ((try dsimp only); (repeat' (refine And.intro ?_ ?_)) <;> first | with_reducible rfl | (simp only [go_sem]; done) | (simp only [go_sem]; rfl) | (simp only []; (try simp only [go_sem]); first | done | rfl) | (simp only [go_sem]; simp []; done) | (simp []; done) | rfl)))
      by_cases c4 : l[k]!.data.length > 16
      · have hF := ordB_F (l := l) fun h => by have := (h k hlt).2.2.2; omega
        rw [hF]
        repeat (first | refine And.intro (by omega) ?_ | refine And.intro rfl ?_ | refine ev_ctl rfl rfl ?_ | refine evr_nil ?_ | refine evw_nil (by kernel_rfl) ?_ | (simp (disch := omega) only [takeAll, Nat.min_eq_left, Nat.min_eq_right, if_pos, if_neg, getD_map, wrapI64, modIn, fdivE, tmodE, tdivE, decT, decF, beqT, beqF, bneT, bneF, Int.toNat_natCast]; try simp only [go_sem]) | (refine ev_condTb rfl ?_ ?_; · (simp <;> omega)) | (refine ev_condFb rfl ?_ ?_; · (simp <;> omega)) | ((first | refine ev_region ?_ | refine evr_go rfl ?_ | refine evw_go rfl ?_ | refine ev_dr0 mixed rfl (by kernel_rfl) ?_ | refine ev_dr1 mixed rfl (by kernel_rfl) ?_ | refine ev_dr2 mixed rfl (by kernel_rfl) ?_); simp only [go_sem]))
        refine ret m_rordered_ok [] ?_; (first | (simp only [go_sem]; done) | (simp only [go_sem]; ((try dsimp only); (repeat' (refine And.intro ?_ ?_)) <;> first | with_reducible rfl | (simp only [go_sem]; done) | (simp only [go_sem]; rfl) | (simp only []; (try simp only [go_sem]); first | done | rfl) | (simp only [go_sem]; simp []; done) | (simp []; done) | rfl)))
      · have okS : ∀ j, j < k + 1 → okO j l[j]! := fun j hj => by
          by_cases e : j = k
          · subst e; exact ⟨c1, by omega, by omega, by omega⟩
          · exact hk1 j (by omega)
        repeat (first | refine And.intro (by omega) ?_ | refine And.intro rfl ?_ | refine ev_ctl rfl rfl ?_ | refine evr_nil ?_ | refine evw_nil (by kernel_rfl) ?_ | (simp (disch := omega) only [takeAll, Nat.min_eq_left, Nat.min_eq_right, if_pos, if_neg, getD_map, wrapI64, modIn, fdivE, tmodE, tdivE, decT, decF, beqT, beqF, bneT, bneF, Int.toNat_natCast]; try simp only [go_sem]) | (refine ev_condTb rfl ?_ ?_; · (simp <;> omega)) | (refine ev_condFb rfl ?_ ?_; · (simp <;> omega)) | ((first | refine ev_region ?_ | refine evr_go rfl ?_ | refine evw_go rfl ?_ | refine ev_dr0 mixed rfl (by kernel_rfl) ?_ | refine ev_dr1 mixed rfl (by kernel_rfl) ?_ | refine ev_dr2 mixed rfl (by kernel_rfl) ?_); simp only [go_sem]))
        refine ev_next 0 (hJ _ (⟨k + 1, hlt, okS⟩) (by first | omega | (dsimp only; omega) | (simp; omega))) rfl (by simp) ?_ (by first | rfl | (simp only [go_sem]; done)) (by first | rfl | (simp only [go_sem]; done)) ?_
        · (first | rfl | (simp only [go_sem]; done) | (simp only [go_sem]; simp only [hlt]; done) | (simp only [go_sem]; simp [hlt]; done) | (simp [hlt]; done))
        · (simp only [go_sem]; (repeat' (refine And.intro ?_ ?_)) <;> first | exact trivial | with_reducible rfl | (simp only [hlt]; done) | (simp only [hlt]; with_reducible rfl) | (simp [hlt]; done) | (simp [hlt]; omega) | (simp only [hlt]; rfl) | skip)
    · have hF := ordB_F (l := l) fun h => c1 (h k hlt).1
      rw [hF]
      repeat (first | refine And.intro (by omega) ?_ | refine And.intro rfl ?_ | refine ev_ctl rfl rfl ?_ | refine evr_nil ?_ | refine evw_nil (by kernel_rfl) ?_ | (simp (disch := omega) only [takeAll, Nat.min_eq_left, Nat.min_eq_right, if_pos, if_neg, getD_map, wrapI64, modIn, fdivE, tmodE, tdivE, decT, decF, beqT, beqF, bneT, bneF, Int.toNat_natCast]; try simp only [go_sem]) | (refine ev_condTb rfl ?_ ?_; · (simp <;> omega)) | (refine ev_condFb rfl ?_ ?_; · (simp <;> omega)) | ((first | refine ev_region ?_ | refine evr_go rfl ?_ | refine evw_go rfl ?_ | refine ev_dr0 mixed rfl (by kernel_rfl) ?_ | refine ev_dr1 mixed rfl (by kernel_rfl) ?_ | refine ev_dr2 mixed rfl (by kernel_rfl) ?_); simp only [go_sem]))
      refine ret m_rordered_ok [] ?_; (first | (simp only [go_sem]; done) | (simp only [go_sem]; ((try dsimp only); (repeat' (refine And.intro ?_ ?_)) <;> first | with_reducible rfl | (simp only [go_sem]; done) | (simp only [go_sem]; rfl) | (simp only []; (try simp only [go_sem]); first | done | rfl) | (simp only [go_sem]; simp []; done) | (simp []; done) | rfl)))
  · obtain rfl : k = l.length := by omega
    have hT := ordB_T (l := l) fun j hj => hk1 j hj
    rw [hT]
    repeat (first | refine And.intro (by omega) ?_ | refine And.intro rfl ?_ | refine ev_ctl rfl rfl ?_ | refine evr_nil ?_ | refine evw_nil (by kernel_rfl) ?_ | (simp (disch := omega) only [takeAll, Nat.min_eq_left, Nat.min_eq_right, if_pos, if_neg, getD_map, wrapI64, modIn, fdivE, tmodE, tdivE, decT, decF, beqT, beqF, bneT, bneF, Int.toNat_natCast]; try simp only [go_sem]) | (refine ev_condTb rfl ?_ ?_; · (simp <;> omega)) | (refine ev_condFb rfl ?_ ?_; · (simp <;> omega)) | ((first | refine ev_region ?_ | refine evr_go rfl ?_ | refine evw_go rfl ?_ | refine ev_dr0 mixed rfl (by kernel_rfl) ?_ | refine ev_dr1 mixed rfl (by kernel_rfl) ?_ | refine ev_dr2 mixed rfl (by kernel_rfl) ?_); simp only [go_sem]))
    refine ret m_rordered_ok [] ?_; (first | (simp only [go_sem]; done) | (simp only [go_sem]; ((try dsimp only); (repeat' (refine And.intro ?_ ?_)) <;> first | with_reducible rfl | (simp only [go_sem]; done) | (simp only [go_sem]; rfl) | (simp only []; (try simp only [go_sem]); first | done | rfl) | (simp only [go_sem]; simp []; done) | (simp []; done) | rfl)))
/-- What has left through a socket. -/
def strm (l : List Output) (s : Int) : List Canon := (l.filter fun o => o.socket == s).flatMap (·.data)
theorem strm_snoc (l : List Output) (o : Output) (s : Int) : strm (l ++ [o]) s = if o.socket = s then strm l s ++ o.data else strm l s := by
  unfold strm
  rw [List.filter_append, List.flatMap_append]
  by_cases h : o.socket = s
  · simp [h]
  · simp [h]
theorem strm_len {m : Nat} : ∀ {l : List Output}, shortO m l → ∀ s, (strm l s).length ≤ l.length * m
  | [], _, s => by simp [strm]
  | o :: l, h, s => by
    have ih := strm_len (l := l) (fun x hx => h x (by simp [hx])) s
    have ho := h o (by simp)
    have e : strm (o :: l) s = if o.socket = s then o.data ++ strm l s else strm l s := by
      unfold strm
      by_cases hs : o.socket = s <;> simp [hs]
    rw [e, List.length_cons, Nat.add_mul]
    split
    · rw [List.length_append]; omega
    · omega
theorem shortO.take {m : Nat} {l : List Output} (h : shortO m l) (k : Nat) : shortO m (l.take k) := fun o ho => h o (List.mem_of_mem_take ho)
set_option maxHeartbeats 4000000 in
theorem wstream_fn (l : List Output) (s : Int) (hb : l.length ≤ 100000) (hd : shortO 10000 l) : Fnc Try.prog 15 [.sl false 3 (l.map (outputV false)), .int .i64 s] (fun x obs => x = .sl false 4 ((strm l s).map canonV) ∧ obs = []) := by
  refine Fnc.low ?_
  refine Fnc.intro m_wstream_ok (by simp) fun W S => ?_
  unfold m_wstream
  simp only [ents, Nat.zero_add, Nat.reduceAdd]
  repeat (first | refine And.intro (by omega) ?_ | refine And.intro rfl ?_ | refine ev_ctl rfl rfl ?_ | refine evr_nil ?_ | refine evw_nil (by kernel_rfl) ?_ | (simp (disch := omega) only [takeAll, Nat.min_eq_left, Nat.min_eq_right, if_pos, if_neg, getD_map, wrapI64, modIn, fdivE, tmodE, tdivE, decT, decF, beqT, beqF, bneT, bneF, Int.toNat_natCast]; try simp only [go_sem]) | (refine ev_condTb rfl ?_ ?_; · (simp <;> omega)) | (refine ev_condFb rfl ?_ ?_; · (simp <;> omega)) | ((first | refine ev_region ?_ | refine evr_go rfl ?_ | refine evw_go rfl ?_ | refine ev_dr0 mixed rfl (by kernel_rfl) ?_ | refine ev_dr1 mixed rfl (by kernel_rfl) ?_ | refine ev_dr2 mixed rfl (by kernel_rfl) ?_); simp only [go_sem]))
  refine ev_adopt (i := 5) (e := 59) (s := 4) rfl (by decide) ?_
  refine ev_loopK [1, 8, 9] (fun p : {p : Nat × Nat // p.1 ≤ l.length} => [(5, .own 0 p.1.2), (10, .int .i64 p.1.1)]) (fun p => [⟨.row 59, true, p.1.2, .arr 4 ((strm (l.take p.1.1) s).map canonV)⟩]) (fun p => l.length - p.1.1) (⟨(0, 0), by simp⟩) 1 (by simp only [go_sem]; rfl) ?_ (by first | rfl | (simp only [go_sem]; done)) (by simp) (by first | rfl | (simp only [go_sem]; done)) (by first | rfl | (simp only [go_sem]; done)) (by first | rfl | (simp only [go_sem]; done)) ?_
  · (simp only [go_sem]; (try simp [strm]); done)
  intro J hJ
  rintro ⟨⟨k, g⟩, hk0⟩
  by_cases hlt : k < l.length
  · have hdk : l[k]!.data.length ≤ 10000 := hd _ (mem_at hlt)
    have htl : (l.take k).length = k := by simp; omega
    have hsl := strm_len (hd.take k) s
    rw [htl] at hsl
    have hsn := strm_snoc (l.take k) l[k]! s
    by_cases c : l[k]!.socket = s
    · rw [if_pos c] at hsn
      repeat (first | refine And.intro (by omega) ?_ | refine And.intro rfl ?_ | refine ev_ctl rfl rfl ?_ | refine evr_nil ?_ | refine evw_nil (by kernel_rfl) ?_ | (simp (disch := omega) only [takeAll, Nat.min_eq_left, Nat.min_eq_right, if_pos, if_neg, getD_map, wrapI64, modIn, fdivE, tmodE, tdivE, decT, decF, beqT, beqF, bneT, bneF, Int.toNat_natCast]; try simp only [go_sem]) | (refine ev_condTb rfl ?_ ?_; · (simp <;> omega)) | (refine ev_condFb rfl ?_ ?_; · (simp <;> omega)) | ((first | refine ev_region ?_ | refine evr_go rfl ?_ | refine evw_go rfl ?_ | refine ev_dr0 mixed rfl (by kernel_rfl) ?_ | refine ev_dr1 mixed rfl (by kernel_rfl) ?_ | refine ev_dr2 mixed rfl (by kernel_rfl) ?_); simp only [go_sem]))
      refine ev_next 1 (hJ _ (⟨(k + 1, g + 1), hlt⟩) (by first | omega | (dsimp only; omega) | (simp; omega))) rfl (by simp) ?_ (by first | rfl | (simp only [go_sem]; done)) (by first | rfl | (simp only [go_sem]; done)) ?_
      · (first | rfl | (simp only [go_sem]; done) | (simp only [go_sem]; simp only [take_snoc hlt, hsn]; done) | (simp only [go_sem]; simp [take_snoc hlt, hsn]; done) | (simp [take_snoc hlt, hsn]; done))
      · (simp only [go_sem]; (repeat' (refine And.intro ?_ ?_)) <;> first | exact trivial | with_reducible rfl | (simp only [take_snoc hlt, hsn]; done) | (simp only [take_snoc hlt, hsn]; with_reducible rfl) | (simp [take_snoc hlt, hsn]; done) | (simp [take_snoc hlt, hsn]; omega) | (simp only [take_snoc hlt, hsn]; rfl) | skip)
    · rw [if_neg c] at hsn
      repeat (first | refine And.intro (by omega) ?_ | refine And.intro rfl ?_ | refine ev_ctl rfl rfl ?_ | refine evr_nil ?_ | refine evw_nil (by kernel_rfl) ?_ | (simp (disch := omega) only [takeAll, Nat.min_eq_left, Nat.min_eq_right, if_pos, if_neg, getD_map, wrapI64, modIn, fdivE, tmodE, tdivE, decT, decF, beqT, beqF, bneT, bneF, Int.toNat_natCast]; try simp only [go_sem]) | (refine ev_condTb rfl ?_ ?_; · (simp <;> omega)) | (refine ev_condFb rfl ?_ ?_; · (simp <;> omega)) | ((first | refine ev_region ?_ | refine evr_go rfl ?_ | refine evw_go rfl ?_ | refine ev_dr0 mixed rfl (by kernel_rfl) ?_ | refine ev_dr1 mixed rfl (by kernel_rfl) ?_ | refine ev_dr2 mixed rfl (by kernel_rfl) ?_); simp only [go_sem]))
      refine ev_next 1 (hJ _ (⟨(k + 1, g), hlt⟩) (by first | omega | (dsimp only; omega) | (simp; omega))) rfl (by simp) ?_ (by first | rfl | (simp only [go_sem]; done)) (by first | rfl | (simp only [go_sem]; done)) ?_
      · (first | rfl | (simp only [go_sem]; done) | (simp only [go_sem]; simp only [take_snoc hlt, hsn]; done) | (simp only [go_sem]; simp [take_snoc hlt, hsn]; done) | (simp [take_snoc hlt, hsn]; done))
      · (simp only [go_sem]; (repeat' (refine And.intro ?_ ?_)) <;> first | exact trivial | with_reducible rfl | (simp only [take_snoc hlt, hsn]; done) | (simp only [take_snoc hlt, hsn]; with_reducible rfl) | (simp [take_snoc hlt, hsn]; done) | (simp [take_snoc hlt, hsn]; omega) | (simp only [take_snoc hlt, hsn]; rfl) | skip)
  · obtain rfl : k = l.length := by omega
    repeat (first | refine And.intro (by omega) ?_ | refine And.intro rfl ?_ | refine ev_ctl rfl rfl ?_ | refine evr_nil ?_ | refine evw_nil (by kernel_rfl) ?_ | (simp (disch := omega) only [takeAll, Nat.min_eq_left, Nat.min_eq_right, if_pos, if_neg, getD_map, wrapI64, modIn, fdivE, tmodE, tdivE, decT, decF, beqT, beqF, bneT, bneF, Int.toNat_natCast]; try simp only [go_sem]) | (refine ev_condTb rfl ?_ ?_; · (simp <;> omega)) | (refine ev_condFb rfl ?_ ?_; · (simp <;> omega)) | ((first | refine ev_region ?_ | refine evr_go rfl ?_ | refine evw_go rfl ?_ | refine ev_dr0 mixed rfl (by kernel_rfl) ?_ | refine ev_dr1 mixed rfl (by kernel_rfl) ?_ | refine ev_dr2 mixed rfl (by kernel_rfl) ?_); simp only [go_sem]))
    refine ret m_wstream_ok [] ?_; (first | (simp only [go_sem]; done) | (simp only [go_sem]; ((try dsimp only); (repeat' (refine And.intro ?_ ?_)) <;> first | with_reducible rfl | (simp only [go_sem]; done) | (simp only [go_sem]; rfl) | (simp only [List.take_length]; (try simp only [go_sem]); first | done | rfl) | (simp only [go_sem]; simp [List.take_length]; done) | (simp [List.take_length]; done) | rfl)))
set_option maxHeartbeats 4000000 in
theorem rstream_fn (l : List Output) (s : Int) (hb : l.length ≤ 100000) (hd : shortO 10000 l) : Fnc Try.prog 16 [.sl false 3 (l.map (outputV false)), .int .i64 s] (fun x obs => x = .sl false 4 ((strm l s).map canonV) ∧ obs = []) := by
  refine Fnc.low ?_
  refine Fnc.intro m_rstream_ok (by simp) fun W S => ?_
  unfold m_rstream
  simp only [ents, Nat.zero_add, Nat.reduceAdd]
  repeat (first | refine And.intro (by omega) ?_ | refine And.intro rfl ?_ | refine ev_ctl rfl rfl ?_ | refine evr_nil ?_ | refine evw_nil (by kernel_rfl) ?_ | (simp (disch := omega) only [takeAll, Nat.min_eq_left, Nat.min_eq_right, if_pos, if_neg, getD_map, wrapI64, modIn, fdivE, tmodE, tdivE, decT, decF, beqT, beqF, bneT, bneF, Int.toNat_natCast]; try simp only [go_sem]) | (refine ev_condTb rfl ?_ ?_; · (simp <;> omega)) | (refine ev_condFb rfl ?_ ?_; · (simp <;> omega)) | ((first | refine ev_region ?_ | refine evr_go rfl ?_ | refine evw_go rfl ?_ | refine ev_dr0 mixed rfl (by kernel_rfl) ?_ | refine ev_dr1 mixed rfl (by kernel_rfl) ?_ | refine ev_dr2 mixed rfl (by kernel_rfl) ?_); simp only [go_sem]))
  refine ev_adopt (i := 5) (e := 59) (s := 4) rfl (by decide) ?_
  refine ev_loopK [1, 8, 9] (fun p : {p : Nat × Nat // p.1 ≤ l.length} => [(5, .own 0 p.1.2), (10, .int .i64 p.1.1)]) (fun p => [⟨.row 59, true, p.1.2, .arr 4 ((strm (l.take p.1.1) s).map canonV)⟩]) (fun p => l.length - p.1.1) (⟨(0, 0), by simp⟩) 1 (by simp only [go_sem]; rfl) ?_ (by first | rfl | (simp only [go_sem]; done)) (by simp) (by first | rfl | (simp only [go_sem]; done)) (by first | rfl | (simp only [go_sem]; done)) (by first | rfl | (simp only [go_sem]; done)) ?_
  · (simp only [go_sem]; (try simp [strm]); done)
  intro J hJ
  rintro ⟨⟨k, g⟩, hk0⟩
  by_cases hlt : k < l.length
  · have hdk : l[k]!.data.length ≤ 10000 := hd _ (mem_at hlt)
    have htl : (l.take k).length = k := by simp; omega
    have hsl := strm_len (hd.take k) s
    rw [htl] at hsl
    have hsn := strm_snoc (l.take k) l[k]! s
    by_cases c : l[k]!.socket = s
    · rw [if_pos c] at hsn
      repeat (first | refine And.intro (by omega) ?_ | refine And.intro rfl ?_ | refine ev_ctl rfl rfl ?_ | refine evr_nil ?_ | refine evw_nil (by kernel_rfl) ?_ | (simp (disch := omega) only [takeAll, Nat.min_eq_left, Nat.min_eq_right, if_pos, if_neg, getD_map, wrapI64, modIn, fdivE, tmodE, tdivE, decT, decF, beqT, beqF, bneT, bneF, Int.toNat_natCast]; try simp only [go_sem]) | (refine ev_condTb rfl ?_ ?_; · (simp <;> omega)) | (refine ev_condFb rfl ?_ ?_; · (simp <;> omega)) | ((first | refine ev_region ?_ | refine evr_go rfl ?_ | refine evw_go rfl ?_ | refine ev_dr0 mixed rfl (by kernel_rfl) ?_ | refine ev_dr1 mixed rfl (by kernel_rfl) ?_ | refine ev_dr2 mixed rfl (by kernel_rfl) ?_); simp only [go_sem]))
      refine ev_next 1 (hJ _ (⟨(k + 1, g + 1), hlt⟩) (by first | omega | (dsimp only; omega) | (simp; omega))) rfl (by simp) ?_ (by first | rfl | (simp only [go_sem]; done)) (by first | rfl | (simp only [go_sem]; done)) ?_
      · (first | rfl | (simp only [go_sem]; done) | (simp only [go_sem]; simp only [take_snoc hlt, hsn]; done) | (simp only [go_sem]; simp [take_snoc hlt, hsn]; done) | (simp [take_snoc hlt, hsn]; done))
      · (simp only [go_sem]; (repeat' (refine And.intro ?_ ?_)) <;> first | exact trivial | with_reducible rfl | (simp only [take_snoc hlt, hsn]; done) | (simp only [take_snoc hlt, hsn]; with_reducible rfl) | (simp [take_snoc hlt, hsn]; done) | (simp [take_snoc hlt, hsn]; omega) | (simp only [take_snoc hlt, hsn]; rfl) | skip)
    · rw [if_neg c] at hsn
      repeat (first | refine And.intro (by omega) ?_ | refine And.intro rfl ?_ | refine ev_ctl rfl rfl ?_ | refine evr_nil ?_ | refine evw_nil (by kernel_rfl) ?_ | (simp (disch := omega) only [takeAll, Nat.min_eq_left, Nat.min_eq_right, if_pos, if_neg, getD_map, wrapI64, modIn, fdivE, tmodE, tdivE, decT, decF, beqT, beqF, bneT, bneF, Int.toNat_natCast]; try simp only [go_sem]) | (refine ev_condTb rfl ?_ ?_; · (simp <;> omega)) | (refine ev_condFb rfl ?_ ?_; · (simp <;> omega)) | ((first | refine ev_region ?_ | refine evr_go rfl ?_ | refine evw_go rfl ?_ | refine ev_dr0 mixed rfl (by kernel_rfl) ?_ | refine ev_dr1 mixed rfl (by kernel_rfl) ?_ | refine ev_dr2 mixed rfl (by kernel_rfl) ?_); simp only [go_sem]))
      refine ev_next 1 (hJ _ (⟨(k + 1, g), hlt⟩) (by first | omega | (dsimp only; omega) | (simp; omega))) rfl (by simp) ?_ (by first | rfl | (simp only [go_sem]; done)) (by first | rfl | (simp only [go_sem]; done)) ?_
      · (first | rfl | (simp only [go_sem]; done) | (simp only [go_sem]; simp only [take_snoc hlt, hsn]; done) | (simp only [go_sem]; simp [take_snoc hlt, hsn]; done) | (simp [take_snoc hlt, hsn]; done))
      · (simp only [go_sem]; (repeat' (refine And.intro ?_ ?_)) <;> first | exact trivial | with_reducible rfl | (simp only [take_snoc hlt, hsn]; done) | (simp only [take_snoc hlt, hsn]; with_reducible rfl) | (simp [take_snoc hlt, hsn]; done) | (simp [take_snoc hlt, hsn]; omega) | (simp only [take_snoc hlt, hsn]; rfl) | skip)
  · obtain rfl : k = l.length := by omega
    repeat (first | refine And.intro (by omega) ?_ | refine And.intro rfl ?_ | refine ev_ctl rfl rfl ?_ | refine evr_nil ?_ | refine evw_nil (by kernel_rfl) ?_ | (simp (disch := omega) only [takeAll, Nat.min_eq_left, Nat.min_eq_right, if_pos, if_neg, getD_map, wrapI64, modIn, fdivE, tmodE, tdivE, decT, decF, beqT, beqF, bneT, bneF, Int.toNat_natCast]; try simp only [go_sem]) | (refine ev_condTb rfl ?_ ?_; · (simp <;> omega)) | (refine ev_condFb rfl ?_ ?_; · (simp <;> omega)) | ((first | refine ev_region ?_ | refine evr_go rfl ?_ | refine evw_go rfl ?_ | refine ev_dr0 mixed rfl (by kernel_rfl) ?_ | refine ev_dr1 mixed rfl (by kernel_rfl) ?_ | refine ev_dr2 mixed rfl (by kernel_rfl) ?_); simp only [go_sem]))
    refine ret m_rstream_ok [] ?_; (first | (simp only [go_sem]; done) | (simp only [go_sem]; ((try dsimp only); (repeat' (refine And.intro ?_ ?_)) <;> first | with_reducible rfl | (simp only [go_sem]; done) | (simp only [go_sem]; rfl) | (simp only [List.take_length]; (try simp only [go_sem]); first | done | rfl) | (simp only [go_sem]; simp [List.take_length]; done) | (simp [List.take_length]; done) | rfl)))
end Go.Proofs.Ytibfpmochioopaa
