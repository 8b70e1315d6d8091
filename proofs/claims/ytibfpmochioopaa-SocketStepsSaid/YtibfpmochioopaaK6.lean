/- The law SocketWhole. -/
import Derived.Test.YtibfpmochioopaaK5
import Derived.Test.YtibfpmochioopaaF10
import Derived.Test.YtibfpmochioopaaG5
import Derived.Test.YtibfpmochioopaaDb
namespace Go.Proofs.Ytibfpmochioopaa
open Go Go.RowKit Rdn Rdn.Dp
set_option linter.unusedVariables false
set_option linter.unusedSimpArgs false
def m_socw : MC := .seq (.reg [⟨(some 2), none, (.p (.mov (.c (.bool false))))⟩])
 (.seq (.reg [⟨(some 22), none, (.p (.mov (.t 0)))⟩, ⟨(some 23), none, (.call 6 [(.t 22)])⟩, ⟨(some 3), none, (.p (.mov (.t 23)))⟩])
 (.seq (.reg [⟨(some 24), none, (.p (.mov (.t 3)))⟩, ⟨(some 25), none, (.call 19 [(.t 24)])⟩, ⟨(some 26), none, (.p (.field false 1 2 2 (.t 25)))⟩, ⟨(some 4), none, (.p (.mov (.t 26)))⟩])
 (.seq (.seq (.reg [⟨(some 27), none, (.p (.mov (.t 4)))⟩, ⟨(some 28), none, (.p (.len (.t 27)))⟩, ⟨(some 29), none, (.p (.bin 0 .eql (.t 28) (.c (.int .i64 0))))⟩])
 (.cond (.t 29) (.seq (.reg [⟨(some 2), none, (.p (.mov (.c (.bool false))))⟩])
 (.ret)) (.skip)))
 (.seq (.reg [⟨(some 30), none, (.p (.mov (.t 4)))⟩, ⟨(some 31), none, (.p (.idxA 1 (.t 30) (.c (.int .i64 0))))⟩, ⟨(some 32), none, (.p (.load false 1 (.t 31)))⟩, ⟨(some 33), none, (.m (.app 57 1 2 (.c (.nilS)) (.t 32)))⟩, ⟨(some 5), none, (.p (.mov (.t 33)))⟩])
 (.seq (.reg [⟨(some 6), none, (.p (.mov (.c (.nilS))))⟩])
 (.seq (.seq (.reg [⟨(some 34), none, (.p (.mov (.c (.int .i64 0))))⟩])
 (.block 0 (.loop (.seq (.reg [⟨(some 35), none, (.p (.bin 0 .lss (.t 34) (.c (.int .i64 30))))⟩])
 (.seq (.cond (.t 35) (.skip) (.exit 0))
 (.seq (.block 1 (.seq (.reg [⟨(some 37), none, (.p (.mov (.t 4)))⟩, ⟨(some 38), none, (.p (.mov (.t 3)))⟩, ⟨(some 39), none, (.call 23 [(.t 38), (.c (.int .i64 4))])⟩, ⟨(some 40), none, (.call 20 [(.t 37), (.c (.int .i64 0)), (.t 39)])⟩, ⟨(some 36), none, (.p (.mov (.t 40)))⟩, ⟨(some 41), none, (.p (.ext (.t 36) 0))⟩, ⟨(some 42), none, (.p (.ext (.t 36) 1))⟩, ⟨(some 43), none, (.p (.ext (.t 36) 2))⟩, ⟨(some 7), none, (.p (.mov (.t 41)))⟩, ⟨(some 8), none, (.p (.mov (.t 42)))⟩, ⟨(some 9), none, (.p (.mov (.t 43)))⟩])
 (.seq (.seq (.reg [⟨(some 44), none, (.p (.mov (.t 9)))⟩, ⟨(some 45), none, (.p (.un .not (.t 44)))⟩, ⟨(some 46), none, (.p (.mov (.t 45)))⟩, ⟨(some 47), (some (46, false)), (.p (.mov (.t 7)))⟩, ⟨(some 48), (some (46, false)), (.p (.len (.t 47)))⟩, ⟨(some 49), (some (46, false)), (.p (.mov (.t 4)))⟩, ⟨(some 50), (some (46, false)), (.p (.len (.t 49)))⟩, ⟨(some 51), (some (46, false)), (.p (.bin 0 .neq (.t 48) (.t 50)))⟩, ⟨(some 52), none, (.p (.pick (.t 46) (.c (.bool true)) (.t 51)))⟩])
 (.cond (.t 52) (.seq (.reg [⟨(some 2), none, (.p (.mov (.c (.bool false))))⟩])
 (.ret)) (.skip)))
 (.seq (.seq (.reg [⟨(some 53), none, (.p (.mov (.t 8)))⟩, ⟨(some 54), none, (.p (.len (.t 53)))⟩, ⟨(some 55), none, (.p (.mov (.c (.int .i64 0))))⟩])
 (.block 2 (.loop (.seq (.reg [⟨(some 56), none, (.p (.bin 0 .lss (.t 55) (.t 54)))⟩])
 (.seq (.cond (.t 56) (.skip) (.exit 2))
 (.seq (.block 3 (.seq (.reg [⟨(some 57), none, (.p (.idxA 4 (.t 53) (.t 55)))⟩, ⟨(some 58), none, (.p (.load true 4 (.t 57)))⟩, ⟨(some 11), none, (.m (.alloc 59 (.agg [.int .u8 0, .int .u16 0, .int .i64 0, .int .i64 0])))⟩, ⟨none, none, (.m (.store 4 (.t 11) (.t 58)))⟩])
 (.reg [⟨(some 59), none, (.p (.mov (.t 6)))⟩, ⟨(some 60), none, (.p (.fieldA 1 1 (.t 11)))⟩, ⟨(some 61), none, (.p (.load false 1 (.t 60)))⟩, ⟨(some 62), none, (.m (.buildS 57 1 (.int .u16 0) 1 [(0, (.t 61))]))⟩, ⟨(some 63), none, (.m (.app 57 1 2 (.t 59) (.t 62)))⟩, ⟨(some 6), none, (.p (.mov (.t 63)))⟩])))
 (.reg [⟨(some 64), none, (.p (.bin 0 .add (.t 55) (.c (.int .i64 1))))⟩, ⟨(some 55), none, (.p (.mov (.t 64)))⟩])))))))
 (.reg [⟨(some 65), none, (.p (.mov (.t 7)))⟩, ⟨(some 4), none, (.p (.mov (.t 65)))⟩])))))
 (.reg [⟨(some 66), none, (.p (.bin 0 .add (.t 34) (.c (.int .i64 1))))⟩, ⟨(some 34), none, (.p (.mov (.t 66)))⟩])))))))
 (.seq (.reg [⟨(some 68), none, (.p (.mov (.t 4)))⟩, ⟨(some 69), none, (.call 20 [(.t 68), (.c (.int .i64 0)), (.c (.int .i64 100))])⟩, ⟨(some 67), none, (.p (.mov (.t 69)))⟩, ⟨(some 70), none, (.p (.ext (.t 67) 0))⟩, ⟨(some 71), none, (.p (.ext (.t 67) 1))⟩, ⟨(some 72), none, (.p (.ext (.t 67) 2))⟩, ⟨(some 12), none, (.p (.mov (.t 70)))⟩, ⟨(some 13), none, (.p (.mov (.t 71)))⟩, ⟨(some 14), none, (.p (.mov (.t 72)))⟩])
 (.seq (.seq (.reg [⟨(some 73), none, (.p (.mov (.t 14)))⟩, ⟨(some 74), none, (.p (.un .not (.t 73)))⟩, ⟨(some 75), none, (.p (.mov (.t 74)))⟩, ⟨(some 76), (some (75, false)), (.p (.mov (.t 12)))⟩, ⟨(some 77), (some (75, false)), (.p (.len (.t 76)))⟩, ⟨(some 78), (some (75, false)), (.p (.bin 0 .eql (.t 77) (.c (.int .i64 0))))⟩, ⟨(some 79), none, (.p (.pick (.t 75) (.c (.bool true)) (.t 78)))⟩, ⟨(some 80), none, (.p (.mov (.t 79)))⟩, ⟨(some 81), (some (80, false)), (.p (.mov (.t 12)))⟩, ⟨(some 82), (some (80, false)), (.p (.idxA 1 (.t 81) (.c (.int .i64 0))))⟩, ⟨(some 83), (some (80, false)), (.p (.load false 1 (.t 82)))⟩, ⟨(some 84), (some (80, false)), (.p (.len (.t 83)))⟩, ⟨(some 85), (some (80, false)), (.p (.bin 0 .neq (.t 84) (.c (.int .i64 0))))⟩, ⟨(some 86), none, (.p (.pick (.t 80) (.c (.bool true)) (.t 85)))⟩])
 (.cond (.t 86) (.seq (.reg [⟨(some 2), none, (.p (.mov (.c (.bool false))))⟩])
 (.ret)) (.skip)))
 (.seq (.seq (.reg [⟨(some 87), none, (.p (.mov (.t 13)))⟩, ⟨(some 88), none, (.p (.len (.t 87)))⟩, ⟨(some 89), none, (.p (.mov (.c (.int .i64 0))))⟩])
 (.block 4 (.loop (.seq (.reg [⟨(some 90), none, (.p (.bin 0 .lss (.t 89) (.t 88)))⟩])
 (.seq (.cond (.t 90) (.skip) (.exit 4))
 (.seq (.block 5 (.seq (.reg [⟨(some 91), none, (.p (.idxA 4 (.t 87) (.t 89)))⟩, ⟨(some 92), none, (.p (.load true 4 (.t 91)))⟩, ⟨(some 16), none, (.m (.alloc 59 (.agg [.int .u8 0, .int .u16 0, .int .i64 0, .int .i64 0])))⟩, ⟨none, none, (.m (.store 4 (.t 16) (.t 92)))⟩])
 (.reg [⟨(some 93), none, (.p (.mov (.t 6)))⟩, ⟨(some 94), none, (.p (.fieldA 1 1 (.t 16)))⟩, ⟨(some 95), none, (.p (.load false 1 (.t 94)))⟩, ⟨(some 96), none, (.m (.buildS 57 1 (.int .u16 0) 1 [(0, (.t 95))]))⟩, ⟨(some 97), none, (.m (.app 57 1 2 (.t 93) (.t 96)))⟩, ⟨(some 6), none, (.p (.mov (.t 97)))⟩])))
 (.reg [⟨(some 98), none, (.p (.bin 0 .add (.t 89) (.c (.int .i64 1))))⟩, ⟨(some 89), none, (.p (.mov (.t 98)))⟩])))))))
 (.seq (.reg [⟨(some 17), none, (.p (.mov (.c (.nilS))))⟩])
 (.seq (.reg [⟨(some 18), none, (.p (.mov (.c (.nilS))))⟩])
 (.seq (.seq (.reg [⟨(some 99), none, (.p (.mov (.t 3)))⟩, ⟨(some 100), none, (.call 23 [(.t 99), (.c (.int .i64 9))])⟩, ⟨(some 19), none, (.p (.mov (.t 100)))⟩])
 (.block 6 (.loop (.seq (.seq (.reg [⟨(some 101), none, (.p (.mov (.t 19)))⟩, ⟨(some 102), none, (.p (.bin 0 .gtr (.t 101) (.c (.int .i64 0))))⟩])
 (.cond (.t 102) (.skip) (.exit 6)))
 (.seq (.block 7 (.seq (.reg [⟨(some 105), none, (.p (.mov (.t 3)))⟩, ⟨(some 106), none, (.call 10 [(.t 105), (.c (.int .i64 4))])⟩, ⟨(some 107), none, (.p (.mov (.t 3)))⟩, ⟨(some 108), none, (.call 23 [(.t 107), (.c (.int .i64 2))])⟩, ⟨(some 20), none, (.p (.mov (.t 106)))⟩, ⟨(some 21), none, (.p (.mov (.t 108)))⟩])
 (.seq (.reg [⟨(some 110), none, (.p (.mov (.t 17)))⟩, ⟨(some 111), none, (.p (.mov (.t 21)))⟩, ⟨(some 112), none, (.p (.mov (.t 20)))⟩, ⟨(some 113), none, (.call 11 [(.t 110), (.t 111), (.t 112)])⟩, ⟨(some 109), none, (.p (.mov (.t 113)))⟩, ⟨(some 114), none, (.p (.ext (.t 109) 0))⟩, ⟨(some 115), none, (.p (.ext (.t 109) 1))⟩, ⟨(some 116), none, (.p (.ext (.t 109) 2))⟩, ⟨(some 17), none, (.p (.mov (.t 114)))⟩, ⟨(some 14), none, (.p (.mov (.t 116)))⟩])
 (.seq (.seq (.reg [⟨(some 117), none, (.p (.mov (.t 14)))⟩, ⟨(some 118), none, (.p (.un .not (.t 117)))⟩])
 (.cond (.t 118) (.seq (.reg [⟨(some 2), none, (.p (.mov (.c (.bool false))))⟩])
 (.ret)) (.skip)))
 (.seq (.reg [⟨(some 119), none, (.p (.mov (.t 21)))⟩, ⟨(some 120), none, (.p (.bin 0 .eql (.t 119) (.c (.int .i64 1))))⟩])
 (.cond (.t 120) (.reg [⟨(some 121), none, (.p (.mov (.t 18)))⟩, ⟨(some 122), none, (.p (.mov (.t 20)))⟩, ⟨(some 123), none, (.m (.app 59 4 24 (.t 121) (.t 122)))⟩, ⟨(some 18), none, (.p (.mov (.t 123)))⟩]) (.skip)))))))
 (.reg [⟨(some 103), none, (.p (.mov (.t 19)))⟩, ⟨(some 104), none, (.p (.bin 0 .sub (.t 103) (.c (.int .i64 1))))⟩, ⟨(some 19), none, (.p (.mov (.t 104)))⟩]))))))
 (.seq (.reg [⟨(some 124), none, (.p (.mov (.t 6)))⟩, ⟨(some 125), none, (.p (.mov (.t 5)))⟩, ⟨(some 126), none, (.call 22 [(.t 124), (.t 125)])⟩, ⟨(some 127), none, (.p (.mov (.t 126)))⟩, ⟨(some 128), (some (127, true)), (.p (.mov (.t 17)))⟩, ⟨(some 129), (some (127, true)), (.call 17 [(.t 128)])⟩, ⟨(some 130), none, (.p (.pick (.t 127) (.t 129) (.c (.bool false))))⟩, ⟨(some 131), none, (.p (.mov (.t 130)))⟩, ⟨(some 132), (some (131, true)), (.p (.mov (.t 17)))⟩, ⟨(some 133), (some (131, true)), (.call 15 [(.t 132), (.c (.int .i64 1))])⟩, ⟨(some 134), (some (131, true)), (.p (.mov (.t 18)))⟩, ⟨(some 135), (some (131, true)), (.call 14 [(.t 133), (.t 134)])⟩, ⟨(some 136), none, (.p (.pick (.t 131) (.t 135) (.c (.bool false))))⟩, ⟨(some 137), none, (.p (.mov (.t 136)))⟩, ⟨(some 138), (some (137, true)), (.call 5 [])⟩, ⟨(some 139), none, (.p (.pick (.t 137) (.t 138) (.c (.bool false))))⟩, ⟨(some 2), none, (.p (.mov (.t 139)))⟩])
 (.ret))))))))))))))
theorem m_socw_ok : compF Try.prog 4 = some (140, m_socw, [.mov (.t 2)]) := by kernel_rfl
theorem numC_at' {l : List Int} {k : Nat} (h : k < l.length) : (numC l)[k]! = ⟨0, l[k]!, 0, 0⟩ := numC_at h
theorem sSend_ok {L : List Output} {s : Int} {D : List Canon} (h0 : 0 ≤ s) (h1 : s < 2) (hl : L.length < 200) (hD : D.length ≤ 16) : sSend L s D = (L ++ [⟨L.length, s, D⟩], (D.length : Int), true) := by
  rw [sSend, if_neg (by omega)]
theorem ordered_snoc {L : List Output} {s : Int} {D : List Canon} (h : ordered L) (h0 : 0 ≤ s) (h1 : s < 2) (hD : D.length ≤ 16) : ordered (L ++ [⟨L.length, s, D⟩]) := by
  intro j hj
  simp only [List.length_append, List.length_cons, List.length_nil] at hj
  by_cases e : j < L.length
  · have := h j e
    rw [show (L ++ [(⟨L.length, s, D⟩ : Output)])[j]! = L[j]! by simp [List.getElem?_append_left e]]
    exact this
  · obtain rfl : j = L.length := by omega
    rw [show (L ++ [(⟨L.length, s, D⟩ : Output)])[L.length]! = ⟨L.length, s, D⟩ by simp]
    exact ⟨rfl, h0, h1, hD⟩
theorem short_snoc {m : Nat} {L : List Output} {s : Int} {D : List Canon} (h : shortO m L) (hD : D.length ≤ m) : shortO m (L ++ [⟨L.length, s, D⟩]) := by
  intro o ho
  rcases List.mem_append.1 ho with h' | h'
  · exact h o h'
  · simp at h'; subst h'; exact hD
attribute [local irreducible] dws dcs numC sSend
set_option maxHeartbeats 16000000 in
theorem socw_fn (l : List Int) : Fnc Try.prog 4 [.sl false 1 (i64s l)] (fun x obs => x = .bool true) := by
  have hO := outs_fn l 0 (by omega)
  have k1 := dws_le (l := l) (k := 0) (by omega) 5
  generalize dws l 0 5 = q1 at k1 hO
  have k2 := dws_le k1 3
  generalize dws l q1.2 3 = q2 at k2 hO
  have k3 := dws_le k2 8
  have n3 := dws_len (l := l) (k := q2.2) (n := 8) (by omega)
  generalize dws l q2.2 8 = q3 at k3 n3 hO
  have k4 := dws_le k3 4
  have n4 := dws_len (l := l) (k := q3.2) (n := 4) (by omega)
  generalize dws l q3.2 4 = q4 at k4 n4 hO
  have k5 := dws_le k4 5
  generalize dws l q4.2 5 = q5 at k5 hO
  have k6 := dws_le k5 5
  generalize dws l q5.2 5 = q6 at k6 hO
  obtain ⟨i0, p3⟩ := q3
  obtain ⟨i1, p4⟩ := q4
  obtain ⟨_, K⟩ := q6
  dsimp only at n3 n4 k6 hO
  have n3 : i0.length ≤ 8 := n3
  have n4 : i1.length ≤ 4 := n4
  refine Fnc.intro m_socw_ok (by simp) fun W S => ?_
  unfold m_socw
  simp only [ents, Nat.zero_add, Nat.reduceAdd]
  repeat (first | refine And.intro (by omega) ?_ | refine And.intro rfl ?_ | refine ev_ctl rfl rfl ?_ | refine evr_nil ?_ | refine evw_nil (by kernel_rfl) ?_ | (simp (disch := omega) only [takeAll, Nat.min_eq_left, Nat.min_eq_right, if_pos, if_neg, getD_map, wrapI64, modIn, fdivE, tmodE, tdivE, decT, decF, beqT, beqF, bneT, bneF, Int.toNat_natCast]; try simp only [go_sem]) | (refine ev_condTb rfl ?_ ?_; · (simp <;> omega)) | (refine ev_condFb rfl ?_ ?_; · (simp <;> omega)) | ((first | refine ev_region ?_ | refine evr_go rfl ?_ | refine evw_go rfl ?_ | refine ev_dr0 mixed rfl (by kernel_rfl) ?_ | refine ev_dr1 mixed rfl (by kernel_rfl) ?_ | refine ev_dr2 mixed rfl (by kernel_rfl) ?_); simp only [go_sem]))
  (first | refine callX (new_fn l) ?_ | refine callXw (new_fn l) ?_); simp only [go_sem]
  repeat (first | refine And.intro (by omega) ?_ | refine And.intro rfl ?_ | refine ev_ctl rfl rfl ?_ | refine evr_nil ?_ | refine evw_nil (by kernel_rfl) ?_ | (simp (disch := omega) only [takeAll, Nat.min_eq_left, Nat.min_eq_right, if_pos, if_neg, getD_map, wrapI64, modIn, fdivE, tmodE, tdivE, decT, decF, beqT, beqF, bneT, bneF, Int.toNat_natCast]; try simp only [go_sem]) | (refine ev_condTb rfl ?_ ?_; · (simp <;> omega)) | (refine ev_condFb rfl ?_ ?_; · (simp <;> omega)) | ((first | refine ev_region ?_ | refine evr_go rfl ?_ | refine evw_go rfl ?_ | refine ev_dr0 mixed rfl (by kernel_rfl) ?_ | refine ev_dr1 mixed rfl (by kernel_rfl) ?_ | refine ev_dr2 mixed rfl (by kernel_rfl) ?_); simp only [go_sem]))
  (first | apply st_callMD (hO) rfl | apply evw_callM (hO) rfl)
  · (simp only [go_sem]; rfl)
  · rfl
  · (first | rfl | (simp only [go_sem]; done))
  · (first | rfl | (simp only [go_sem]; done) | (simp only [go_sem]; rfl))
  · (first | rfl | (simp only [go_sem]; done))
  · (first | rfl | (simp only [go_sem]; done) | (simp only [go_sem]; rfl))
  · (first | rfl | simp [V.pureT, V.pure, V.pures, pures_lo, pures_sls])
  (first | refine ev_all (fu := [(), (), (), (), (), (), (), ()]) ?_ | refine evw_all (md := []) (fu := [(), (), (), (), (), (), (), ()]) ?_); simp only [go_sem]; repeat (first | refine And.intro (by omega) ?_ | refine And.intro rfl ?_ | (simp (disch := omega) only [takeAll, Nat.min_eq_left, Nat.min_eq_right, if_pos, if_neg, getD_map, wrapI64, modIn, fdivE, tmodE, tdivE, decT, decF, beqT, beqF, bneT, bneF, Int.toNat_natCast]; try simp only [go_sem]))
  repeat (first | refine And.intro (by omega) ?_ | refine And.intro rfl ?_ | refine ev_ctl rfl rfl ?_ | refine evr_nil ?_ | refine evw_nil (by kernel_rfl) ?_ | (simp (disch := omega) only [takeAll, Nat.min_eq_left, Nat.min_eq_right, if_pos, if_neg, getD_map, wrapI64, modIn, fdivE, tmodE, tdivE, decT, decF, beqT, beqF, bneT, bneF, Int.toNat_natCast]; try simp only [go_sem]) | (refine ev_condTb rfl ?_ ?_; · (simp <;> omega)) | (refine ev_condFb rfl ?_ ?_; · (simp <;> omega)) | ((first | refine ev_region ?_ | refine evr_go rfl ?_ | refine evw_go rfl ?_ | refine ev_dr0 mixed rfl (by kernel_rfl) ?_ | refine ev_dr1 mixed rfl (by kernel_rfl) ?_ | refine ev_dr2 mixed rfl (by kernel_rfl) ?_); simp only [go_sem]))
  refine ev_adopt (i := 6) (e := 57) (s := 1) rfl (by decide) ?_
  refine ev_loopK [3, 5] (fun p : {p : Nat × List Int × List Int × Nat × Nat // p.1 ≤ 30 ∧ p.2.1 ++ p.2.2.1 = i0 ∧ p.2.2.2.1 ≤ l.length} => [(4, .sl false 1 [wsV p.1.2.2.1, wsV i1]), (6, .own 2 p.1.2.2.2.2), (34, .int .i64 p.1.1)]) (fun p => [⟨.box false 62, true, 0, deckV l p.1.2.2.2.1⟩, ⟨.row 57, true, 0, .arr 1 (u16s i0)⟩, ⟨.row 57, true, p.1.2.2.2.2, .arr 1 (u16s p.1.2.1)⟩]) (fun p => 30 - p.1.1) (⟨(0, [], i0, K, 0), by simp, by simp, k6⟩) 3 (by simp only [go_sem]; rfl) ?_ (by first | rfl | (simp only [go_sem]; done)) (by simp) (by first | rfl | (simp only [go_sem]; done)) (by first | rfl | (simp only [go_sem]; done)) (by first | rfl | (simp only [go_sem]; done)) ?_
  · (simp only [go_sem]; (try simp []); done)
  intro J hJ
  rintro ⟨⟨t, got, rest, k, g⟩, ht, hgr, hk⟩
  dsimp only at ht hgr hk ⊢
  have hgl : got.length + rest.length = i0.length := by rw [← hgr, List.length_append]
  by_cases c1 : t < 30
  · have a1 := dnx_ge (l := l) (k := k) (n := 4) (by omega)
    have a2 := dnx_lt (l := l) (k := k) (n := 4) (by omega)
    have hk' := dkx_le hk
    have hJ1 := hJ
    repeat (first | refine And.intro (by omega) ?_ | refine And.intro rfl ?_ | refine ev_ctl rfl rfl ?_ | refine evr_nil ?_ | refine evw_nil (by kernel_rfl) ?_ | (simp (disch := omega) only [takeAll, Nat.min_eq_left, Nat.min_eq_right, if_pos, if_neg, getD_map, wrapI64, modIn, fdivE, tmodE, tdivE, decT, decF, beqT, beqF, bneT, bneF, Int.toNat_natCast]; try simp only [go_sem]) | (refine ev_condTb rfl ?_ ?_; · (simp <;> omega)) | (refine ev_condFb rfl ?_ ?_; · (simp <;> omega)) | ((first | refine ev_region ?_ | refine evr_go rfl ?_ | refine evw_go rfl ?_ | refine ev_dr0 mixed rfl (by kernel_rfl) ?_ | refine ev_dr1 mixed rfl (by kernel_rfl) ?_ | refine ev_dr2 mixed rfl (by kernel_rfl) ?_); simp only [go_sem]))
    (first | apply st_callMD (next_fn l k 4 hk (by omega)) rfl | apply evw_callM (next_fn l k 4 hk (by omega)) rfl)
    · (simp only [go_sem]; rfl)
    · rfl
    · (first | rfl | (simp only [go_sem]; done))
    · (first | rfl | (simp only [go_sem]; done) | (simp only [go_sem]; rfl))
    · (first | rfl | (simp only [go_sem]; done))
    · (first | rfl | (simp only [go_sem]; done) | (simp only [go_sem]; rfl))
    · (first | rfl | simp [V.pureT, V.pure, V.pures, pures_lo, pures_sls])
    (first | refine ev_all (fu := [(), (), (), (), (), (), (), ()]) ?_ | refine evw_all (md := []) (fu := [(), (), (), (), (), (), (), ()]) ?_); simp only [go_sem]; repeat (first | refine And.intro (by omega) ?_ | refine And.intro rfl ?_ | (simp (disch := omega) only [takeAll, Nat.min_eq_left, Nat.min_eq_right, if_pos, if_neg, getD_map, wrapI64, modIn, fdivE, tmodE, tdivE, decT, decF, beqT, beqF, bneT, bneF, Int.toNat_natCast]; try simp only [go_sem]))
    generalize dkx l k = k' at hk'
    obtain ⟨N, hN⟩ : ∃ N : Nat, dnx l k 4 = (N : Int) := ⟨(dnx l k 4).toNat, by omega⟩
    rw [hN] at a1 a2
    simp only [hN]
    have fR := recv_fn rest i1 N (min N rest.length) (by omega) (by omega) rfl (by omega)
    obtain ⟨X, hX⟩ : ∃ X, List.take (min N rest.length) rest = X := ⟨_, rfl⟩
    obtain ⟨Y, hY⟩ : ∃ Y, List.drop (min N rest.length) rest = Y := ⟨_, rfl⟩
    have hXY : X ++ Y = rest := by rw [← hX, ← hY, List.take_append_drop]
    have hXl : X.length ≤ 8 := by rw [← hX, List.length_take]; omega
    have hnl := numC_len X
    rw [hX, hY] at fR
    (first | refine callD (fR) ?_ | refine callDw (fR) ?_); simp only [go_sem]
    repeat (first | refine And.intro (by omega) ?_ | refine And.intro rfl ?_ | refine ev_ctl rfl rfl ?_ | refine evr_nil ?_ | refine evw_nil (by kernel_rfl) ?_ | (simp (disch := omega) only [takeAll, Nat.min_eq_left, Nat.min_eq_right, if_pos, if_neg, getD_map, wrapI64, modIn, fdivE, tmodE, tdivE, decT, decF, beqT, beqF, bneT, bneF, Int.toNat_natCast]; try simp only [go_sem]) | (refine ev_condTb rfl ?_ ?_; · (simp <;> omega)) | (refine ev_condFb rfl ?_ ?_; · (simp <;> omega)) | ((first | refine ev_region ?_ | refine evr_go rfl ?_ | refine evw_go rfl ?_ | refine ev_dr0 mixed rfl (by kernel_rfl) ?_ | refine ev_dr1 mixed rfl (by kernel_rfl) ?_ | refine ev_dr2 mixed rfl (by kernel_rfl) ?_); simp only [go_sem]))
    refine ev_loopK [3, 5, 7, 34, 53, 54] (fun p : {p : Nat // p ≤ X.length} => [(6, .own 2 (g + p.1)), (55, .int .i64 p.1)]) (fun p => [⟨.box false 62, true, 0, deckV l k'⟩, ⟨.row 57, true, 0, .arr 1 (u16s i0)⟩, ⟨.row 57, true, g + p.1, .arr 1 (u16s (got ++ X.take p.1))⟩]) (fun p => X.length - p.1) (⟨0, by simp⟩) 3 (by simp only [go_sem]; rfl) ?_ (by first | rfl | (simp only [go_sem]; done)) (by simp) (by first | rfl | (simp only [go_sem]; done)) (by first | rfl | (simp only [go_sem]; done)) (by first | rfl | (simp only [go_sem]; done)) ?_
    · (simp only [go_sem]; (try simp []); done)
    intro J hJ
    rintro ⟨j, hj⟩
    by_cases c2 : j < X.length
    · have ha := numC_at' c2
      have hs := take_snoc c2
      repeat (first | simp only [ha] | refine And.intro (by omega) ?_ | refine And.intro rfl ?_ | refine ev_ctl rfl rfl ?_ | refine evr_nil ?_ | refine evw_nil (by kernel_rfl) ?_ | (simp (disch := omega) only [takeAll, Nat.min_eq_left, Nat.min_eq_right, if_pos, if_neg, getD_map, wrapI64, modIn, fdivE, tmodE, tdivE, decT, decF, beqT, beqF, bneT, bneF, Int.toNat_natCast]; try simp only [go_sem]) | (refine ev_condTb rfl ?_ ?_; · (simp <;> omega)) | (refine ev_condFb rfl ?_ ?_; · (simp <;> omega)) | ((first | refine ev_region ?_ | refine evr_go rfl ?_ | refine evw_go rfl ?_ | refine ev_dr0 mixed rfl (by kernel_rfl) ?_ | refine ev_dr1 mixed rfl (by kernel_rfl) ?_ | refine ev_dr2 mixed rfl (by kernel_rfl) ?_); simp only [go_sem]))
      refine ev_next 3 (hJ _ (⟨j + 1, c2⟩) (by first | omega | (dsimp only; omega) | (simp; omega))) rfl (by simp) ?_ (by first | rfl | (simp only [go_sem]; done)) (by first | rfl | (simp only [go_sem]; done)) ?_
      · (first | rfl | (simp only [go_sem]; done) | (simp only [go_sem]; simp only [hs, List.append_assoc, Nat.add_assoc]; done) | (simp only [go_sem]; simp [hs, List.append_assoc, Nat.add_assoc]; done) | (simp [hs, List.append_assoc, Nat.add_assoc]; done))
      · (simp only [go_sem]; (repeat' (refine And.intro ?_ ?_)) <;> first | exact trivial | with_reducible rfl | (simp only [hs, List.append_assoc, Nat.add_assoc]; done) | (simp only [hs, List.append_assoc, Nat.add_assoc]; with_reducible rfl) | (simp [hs, List.append_assoc, Nat.add_assoc]; done) | (simp [hs, List.append_assoc, Nat.add_assoc]; omega) | (simp only [hs, List.append_assoc, Nat.add_assoc]; rfl) | skip)
    · obtain rfl : j = X.length := by omega
      have hJ := hJ1
      repeat (first | refine And.intro (by omega) ?_ | refine And.intro rfl ?_ | refine ev_ctl rfl rfl ?_ | refine evr_nil ?_ | refine evw_nil (by kernel_rfl) ?_ | (simp (disch := omega) only [takeAll, Nat.min_eq_left, Nat.min_eq_right, if_pos, if_neg, getD_map, wrapI64, modIn, fdivE, tmodE, tdivE, decT, decF, beqT, beqF, bneT, bneF, Int.toNat_natCast]; try simp only [go_sem]) | (refine ev_condTb rfl ?_ ?_; · (simp <;> omega)) | (refine ev_condFb rfl ?_ ?_; · (simp <;> omega)) | ((first | refine ev_region ?_ | refine evr_go rfl ?_ | refine evw_go rfl ?_ | refine ev_dr0 mixed rfl (by kernel_rfl) ?_ | refine ev_dr1 mixed rfl (by kernel_rfl) ?_ | refine ev_dr2 mixed rfl (by kernel_rfl) ?_); simp only [go_sem]))
      refine ev_next 3 (hJ _ (⟨(t + 1, got ++ X, Y, k', g + X.length), c1, by dsimp only; rw [List.append_assoc, hXY, hgr], hk'⟩) (by first | omega | (dsimp only; omega) | (simp; omega))) rfl (by simp) ?_ (by first | rfl | (simp only [go_sem]; done)) (by first | rfl | (simp only [go_sem]; done)) ?_
      · (first | rfl | (simp only [go_sem]; done) | (simp only [go_sem]; simp only [List.take_length]; done) | (simp only [go_sem]; simp [List.take_length]; done) | (simp [List.take_length]; done))
      · (simp only [go_sem]; (repeat' (refine And.intro ?_ ?_)) <;> first | exact trivial | with_reducible rfl | (simp only [List.take_length]; done) | (simp only [List.take_length]; with_reducible rfl) | (simp [List.take_length]; done) | (simp [List.take_length]; omega) | (simp only [List.take_length]; rfl) | skip)
  · obtain rfl : t = 30 := by omega
    have fR := recv_fn rest i1 100 (min 100 rest.length) (by omega) (by omega) rfl (by omega)
    rw [show min 100 rest.length = rest.length by omega, List.take_length, List.drop_length, show ((100 : Nat) : Int) = 100 from rfl] at fR
    have hnl := numC_len rest
    repeat (first | refine And.intro (by omega) ?_ | refine And.intro rfl ?_ | refine ev_ctl rfl rfl ?_ | refine evr_nil ?_ | refine evw_nil (by kernel_rfl) ?_ | (simp (disch := omega) only [takeAll, Nat.min_eq_left, Nat.min_eq_right, if_pos, if_neg, getD_map, wrapI64, modIn, fdivE, tmodE, tdivE, decT, decF, beqT, beqF, bneT, bneF, Int.toNat_natCast]; try simp only [go_sem]) | (refine ev_condTb rfl ?_ ?_; · (simp <;> omega)) | (refine ev_condFb rfl ?_ ?_; · (simp <;> omega)) | ((first | refine ev_region ?_ | refine evr_go rfl ?_ | refine evw_go rfl ?_ | refine ev_dr0 mixed rfl (by kernel_rfl) ?_ | refine ev_dr1 mixed rfl (by kernel_rfl) ?_ | refine ev_dr2 mixed rfl (by kernel_rfl) ?_); simp only [go_sem]))
    (first | refine callD (fR) ?_ | refine callDw (fR) ?_); simp only [go_sem]
    repeat (first | refine And.intro (by omega) ?_ | refine And.intro rfl ?_ | refine ev_ctl rfl rfl ?_ | refine evr_nil ?_ | refine evw_nil (by kernel_rfl) ?_ | (simp (disch := omega) only [takeAll, Nat.min_eq_left, Nat.min_eq_right, if_pos, if_neg, getD_map, wrapI64, modIn, fdivE, tmodE, tdivE, decT, decF, beqT, beqF, bneT, bneF, Int.toNat_natCast]; try simp only [go_sem]) | (refine ev_condTb rfl ?_ ?_; · (simp <;> omega)) | (refine ev_condFb rfl ?_ ?_; · (simp <;> omega)) | ((first | refine ev_region ?_ | refine evr_go rfl ?_ | refine evw_go rfl ?_ | refine ev_dr0 mixed rfl (by kernel_rfl) ?_ | refine ev_dr1 mixed rfl (by kernel_rfl) ?_ | refine ev_dr2 mixed rfl (by kernel_rfl) ?_); simp only [go_sem]))
    refine ev_loopK [3, 5, 87, 88] (fun p : {p : Nat // p ≤ rest.length} => [(6, .own 2 (g + p.1)), (89, .int .i64 p.1)]) (fun p => [⟨.box false 62, true, 0, deckV l k⟩, ⟨.row 57, true, 0, .arr 1 (u16s i0)⟩, ⟨.row 57, true, g + p.1, .arr 1 (u16s (got ++ rest.take p.1))⟩]) (fun p => rest.length - p.1) (⟨0, by simp⟩) 3 (by simp only [go_sem]; rfl) ?_ (by first | rfl | (simp only [go_sem]; done)) (by simp) (by first | rfl | (simp only [go_sem]; done)) (by first | rfl | (simp only [go_sem]; done)) (by first | rfl | (simp only [go_sem]; done)) ?_
    · (simp only [go_sem]; (try simp []); done)
    intro J hJ
    rintro ⟨j, hj⟩
    by_cases c2 : j < rest.length
    · have ha := numC_at' c2
      have hs := take_snoc c2
      repeat (first | simp only [ha] | refine And.intro (by omega) ?_ | refine And.intro rfl ?_ | refine ev_ctl rfl rfl ?_ | refine evr_nil ?_ | refine evw_nil (by kernel_rfl) ?_ | (simp (disch := omega) only [takeAll, Nat.min_eq_left, Nat.min_eq_right, if_pos, if_neg, getD_map, wrapI64, modIn, fdivE, tmodE, tdivE, decT, decF, beqT, beqF, bneT, bneF, Int.toNat_natCast]; try simp only [go_sem]) | (refine ev_condTb rfl ?_ ?_; · (simp <;> omega)) | (refine ev_condFb rfl ?_ ?_; · (simp <;> omega)) | ((first | refine ev_region ?_ | refine evr_go rfl ?_ | refine evw_go rfl ?_ | refine ev_dr0 mixed rfl (by kernel_rfl) ?_ | refine ev_dr1 mixed rfl (by kernel_rfl) ?_ | refine ev_dr2 mixed rfl (by kernel_rfl) ?_); simp only [go_sem]))
      refine ev_next 3 (hJ _ (⟨j + 1, c2⟩) (by first | omega | (dsimp only; omega) | (simp; omega))) rfl (by simp) ?_ (by first | rfl | (simp only [go_sem]; done)) (by first | rfl | (simp only [go_sem]; done)) ?_
      · (first | rfl | (simp only [go_sem]; done) | (simp only [go_sem]; simp only [hs, List.append_assoc, Nat.add_assoc]; done) | (simp only [go_sem]; simp [hs, List.append_assoc, Nat.add_assoc]; done) | (simp [hs, List.append_assoc, Nat.add_assoc]; done))
      · (simp only [go_sem]; (repeat' (refine And.intro ?_ ?_)) <;> first | exact trivial | with_reducible rfl | (simp only [hs, List.append_assoc, Nat.add_assoc]; done) | (simp only [hs, List.append_assoc, Nat.add_assoc]; with_reducible rfl) | (simp [hs, List.append_assoc, Nat.add_assoc]; done) | (simp [hs, List.append_assoc, Nat.add_assoc]; omega) | (simp only [hs, List.append_assoc, Nat.add_assoc]; rfl) | skip)
    · obtain rfl : j = rest.length := by omega
      have a1 := dnx_ge (l := l) (k := k) (n := 9) (by omega)
      have a2 := dnx_lt (l := l) (k := k) (n := 9) (by omega)
      have hk' := dkx_le hk
      have ht' : got ++ rest.take rest.length = i0 := by rw [List.take_length, hgr]
      rw [ht']
      repeat (first | refine And.intro (by omega) ?_ | refine And.intro rfl ?_ | refine ev_ctl rfl rfl ?_ | refine evr_nil ?_ | refine evw_nil (by kernel_rfl) ?_ | (simp (disch := omega) only [takeAll, Nat.min_eq_left, Nat.min_eq_right, if_pos, if_neg, getD_map, wrapI64, modIn, fdivE, tmodE, tdivE, decT, decF, beqT, beqF, bneT, bneF, Int.toNat_natCast]; try simp only [go_sem]) | (refine ev_condTb rfl ?_ ?_; · (simp <;> omega)) | (refine ev_condFb rfl ?_ ?_; · (simp <;> omega)) | ((first | refine ev_region ?_ | refine evr_go rfl ?_ | refine evw_go rfl ?_ | refine ev_dr0 mixed rfl (by kernel_rfl) ?_ | refine ev_dr1 mixed rfl (by kernel_rfl) ?_ | refine ev_dr2 mixed rfl (by kernel_rfl) ?_); simp only [go_sem]))
      (first | apply st_callMD (next_fn l k 9 hk (by omega)) rfl | apply evw_callM (next_fn l k 9 hk (by omega)) rfl)
      · (simp only [go_sem]; rfl)
      · rfl
      · (first | rfl | (simp only [go_sem]; done))
      · (first | rfl | (simp only [go_sem]; done) | (simp only [go_sem]; rfl))
      · (first | rfl | (simp only [go_sem]; done))
      · (first | rfl | (simp only [go_sem]; done) | (simp only [go_sem]; rfl))
      · (first | rfl | simp [V.pureT, V.pure, V.pures, pures_lo, pures_sls])
      (first | refine ev_all (fu := [(), (), (), (), (), (), (), ()]) ?_ | refine evw_all (md := []) (fu := [(), (), (), (), (), (), (), ()]) ?_); simp only [go_sem]; repeat (first | refine And.intro (by omega) ?_ | refine And.intro rfl ?_ | (simp (disch := omega) only [takeAll, Nat.min_eq_left, Nat.min_eq_right, if_pos, if_neg, getD_map, wrapI64, modIn, fdivE, tmodE, tdivE, decT, decF, beqT, beqF, bneT, bneF, Int.toNat_natCast]; try simp only [go_sem]))
      generalize dkx l k = k' at hk'
      obtain ⟨C, hC⟩ : ∃ C : Nat, dnx l k 9 = (C : Int) := ⟨(dnx l k 9).toNat, by omega⟩
      rw [hC] at a1 a2
      simp only [hC]
      repeat (first | refine And.intro (by omega) ?_ | refine And.intro rfl ?_ | refine ev_ctl rfl rfl ?_ | refine evr_nil ?_ | refine evw_nil (by kernel_rfl) ?_ | (simp (disch := omega) only [takeAll, Nat.min_eq_left, Nat.min_eq_right, if_pos, if_neg, getD_map, wrapI64, modIn, fdivE, tmodE, tdivE, decT, decF, beqT, beqF, bneT, bneF, Int.toNat_natCast]; try simp only [go_sem]) | (refine ev_condTb rfl ?_ ?_; · (simp <;> omega)) | (refine ev_condFb rfl ?_ ?_; · (simp <;> omega)) | ((first | refine ev_region ?_ | refine evr_go rfl ?_ | refine evw_go rfl ?_ | refine ev_dr0 mixed rfl (by kernel_rfl) ?_ | refine ev_dr1 mixed rfl (by kernel_rfl) ?_ | refine ev_dr2 mixed rfl (by kernel_rfl) ?_); simp only [go_sem]))
      refine ev_nil2 17 false 3 rfl (ev_adopt (i := 18) (e := 59) (s := 4) rfl (by decide) ?_)
      refine ev_loopK [3, 5, 6] (fun p : {p : Nat × List Output × Nat × Nat // p.1 ≤ C ∧ p.2.1.length = p.1 ∧ ordered p.2.1 ∧ shortO 4 p.2.1 ∧ p.2.2.1 ≤ l.length} => [(17, .sl false 3 (p.1.2.1.map (outputV false))), (18, .own 3 p.1.2.2.2), (19, .int .i64 (C - p.1.1))]) (fun p => [⟨.box false 62, true, 0, deckV l p.1.2.2.1⟩, ⟨.row 57, true, 0, .arr 1 (u16s i0)⟩, ⟨.row 57, true, g + rest.length, .arr 1 (u16s i0)⟩, ⟨.row 59, true, p.1.2.2.2, .arr 4 ((strm p.1.2.1 1).map canonV)⟩]) (fun p => C - p.1.1) (⟨(0, [], k', 0), by simp, by simp, fun j hj => by simp at hj, fun o ho => by simp at ho, hk'⟩) 4 (by simp only [go_sem]; rfl) ?_ (by first | rfl | (simp only [go_sem]; done)) (by simp) (by first | rfl | (simp only [go_sem]; done)) (by first | rfl | (simp only [go_sem]; done)) (by first | rfl | (simp only [go_sem]; done)) ?_
      · (simp only [go_sem]; (try simp [strm]); done)
      intro J hJ
      rintro ⟨⟨i, L, kp, gr⟩, hi, hLl, hLo, hLs, hkp⟩
      dsimp only at hi hLl hLo hLs hkp ⊢
      have hsl := strm_len hLs 1
      by_cases c3 : i < C
      · have kc := dcs_le (l := l) hkp 4
        have nc := dcs_len (l := l) (k := kp) (n := 4) (by omega)
        have fC := canons_sl l kp 4 hkp (by omega) (by omega)
        generalize dcs l kp 4 = D at kc nc fC
        have s0 := dnx_ge (l := l) (k := D.2) (n := 2) (by omega)
        have s1 := dnx_lt (l := l) (k := D.2) (n := 2) (by omega)
        have kd := dkx_le kc
        have fN := next_fn l D.2 2 kc (by omega)
        generalize dnx l D.2 2 = s at s0 s1 fN
        generalize dkx l D.2 = k2' at kd fN
        have nc : D.1.length ≤ 4 := nc
        have fS := wsend_fn L s D.1 (by omega) (fun o ho => Nat.le_trans (hLs o ho) (by omega)) (by omega)
        rw [sSend_ok s0 s1 (by omega) (by omega)] at fS
        have hsn := strm_snoc L ⟨L.length, s, D.1⟩ 1
        have ho2 := ordered_snoc hLo s0 s1 (D := D.1) (by omega)
        have hs2 := short_snoc (m := 4) (s := s) hLs nc
        by_cases c4 : s = 1
        · rw [if_pos c4] at hsn
          repeat (first | refine And.intro (by omega) ?_ | refine And.intro rfl ?_ | refine ev_ctl rfl rfl ?_ | refine evr_nil ?_ | refine evw_nil (by kernel_rfl) ?_ | (simp (disch := omega) only [takeAll, Nat.min_eq_left, Nat.min_eq_right, if_pos, if_neg, getD_map, wrapI64, modIn, fdivE, tmodE, tdivE, decT, decF, beqT, beqF, bneT, bneF, Int.toNat_natCast]; try simp only [go_sem]) | (refine ev_condTb rfl ?_ ?_; · (simp <;> omega)) | (refine ev_condFb rfl ?_ ?_; · (simp <;> omega)) | ((first | refine ev_region ?_ | refine evr_go rfl ?_ | refine evw_go rfl ?_ | refine ev_dr0 mixed rfl (by kernel_rfl) ?_ | refine ev_dr1 mixed rfl (by kernel_rfl) ?_ | refine ev_dr2 mixed rfl (by kernel_rfl) ?_); simp only [go_sem]))
          (first | apply st_callMD (fC) rfl | apply evw_callM (fC) rfl)
          · (simp only [go_sem]; rfl)
          · rfl
          · (first | rfl | (simp only [go_sem]; done))
          · (first | rfl | (simp only [go_sem]; done) | (simp only [go_sem]; rfl))
          · (first | rfl | (simp only [go_sem]; done))
          · (first | rfl | (simp only [go_sem]; done) | (simp only [go_sem]; rfl))
          · (first | rfl | simp [V.pureT, V.pure, V.pures, pures_lo, pures_sls])
          (first | refine ev_all (fu := [(), (), (), (), (), (), (), ()]) ?_ | refine evw_all (md := []) (fu := [(), (), (), (), (), (), (), ()]) ?_); simp only [go_sem]; repeat (first | refine And.intro (by omega) ?_ | refine And.intro rfl ?_ | (simp (disch := omega) only [takeAll, Nat.min_eq_left, Nat.min_eq_right, if_pos, if_neg, getD_map, wrapI64, modIn, fdivE, tmodE, tdivE, decT, decF, beqT, beqF, bneT, bneF, Int.toNat_natCast]; try simp only [go_sem]))
          repeat (first | refine And.intro (by omega) ?_ | refine And.intro rfl ?_ | refine ev_ctl rfl rfl ?_ | refine evr_nil ?_ | refine evw_nil (by kernel_rfl) ?_ | (simp (disch := omega) only [takeAll, Nat.min_eq_left, Nat.min_eq_right, if_pos, if_neg, getD_map, wrapI64, modIn, fdivE, tmodE, tdivE, decT, decF, beqT, beqF, bneT, bneF, Int.toNat_natCast]; try simp only [go_sem]) | (refine ev_condTb rfl ?_ ?_; · (simp <;> omega)) | (refine ev_condFb rfl ?_ ?_; · (simp <;> omega)) | ((first | refine ev_region ?_ | refine evr_go rfl ?_ | refine evw_go rfl ?_ | refine ev_dr0 mixed rfl (by kernel_rfl) ?_ | refine ev_dr1 mixed rfl (by kernel_rfl) ?_ | refine ev_dr2 mixed rfl (by kernel_rfl) ?_); simp only [go_sem]))
          (first | apply st_callMD (fN) rfl | apply evw_callM (fN) rfl)
          · (simp only [go_sem]; rfl)
          · rfl
          · (first | rfl | (simp only [go_sem]; done))
          · (first | rfl | (simp only [go_sem]; done) | (simp only [go_sem]; rfl))
          · (first | rfl | (simp only [go_sem]; done))
          · (first | rfl | (simp only [go_sem]; done) | (simp only [go_sem]; rfl))
          · (first | rfl | simp [V.pureT, V.pure, V.pures, pures_lo, pures_sls])
          (first | refine ev_all (fu := [(), (), (), (), (), (), (), ()]) ?_ | refine evw_all (md := []) (fu := [(), (), (), (), (), (), (), ()]) ?_); simp only [go_sem]; repeat (first | refine And.intro (by omega) ?_ | refine And.intro rfl ?_ | (simp (disch := omega) only [takeAll, Nat.min_eq_left, Nat.min_eq_right, if_pos, if_neg, getD_map, wrapI64, modIn, fdivE, tmodE, tdivE, decT, decF, beqT, beqF, bneT, bneF, Int.toNat_natCast]; try simp only [go_sem]))
          repeat (first | refine And.intro (by omega) ?_ | refine And.intro rfl ?_ | refine ev_ctl rfl rfl ?_ | refine evr_nil ?_ | refine evw_nil (by kernel_rfl) ?_ | (simp (disch := omega) only [takeAll, Nat.min_eq_left, Nat.min_eq_right, if_pos, if_neg, getD_map, wrapI64, modIn, fdivE, tmodE, tdivE, decT, decF, beqT, beqF, bneT, bneF, Int.toNat_natCast]; try simp only [go_sem]) | (refine ev_condTb rfl ?_ ?_; · (simp <;> omega)) | (refine ev_condFb rfl ?_ ?_; · (simp <;> omega)) | ((first | refine ev_region ?_ | refine evr_go rfl ?_ | refine evw_go rfl ?_ | refine ev_dr0 mixed rfl (by kernel_rfl) ?_ | refine ev_dr1 mixed rfl (by kernel_rfl) ?_ | refine ev_dr2 mixed rfl (by kernel_rfl) ?_); simp only [go_sem]))
          (first | refine callD (fS) ?_ | refine callDw (fS) ?_); simp only [go_sem]
          repeat (first | refine And.intro (by omega) ?_ | refine And.intro rfl ?_ | refine ev_ctl rfl rfl ?_ | refine evr_nil ?_ | refine evw_nil (by kernel_rfl) ?_ | (simp (disch := omega) only [takeAll, Nat.min_eq_left, Nat.min_eq_right, if_pos, if_neg, getD_map, wrapI64, modIn, fdivE, tmodE, tdivE, decT, decF, beqT, beqF, bneT, bneF, Int.toNat_natCast]; try simp only [go_sem]) | (refine ev_condTb rfl ?_ ?_; · (simp <;> omega)) | (refine ev_condFb rfl ?_ ?_; · (simp <;> omega)) | ((first | refine ev_region ?_ | refine evr_go rfl ?_ | refine evw_go rfl ?_ | refine ev_dr0 mixed rfl (by kernel_rfl) ?_ | refine ev_dr1 mixed rfl (by kernel_rfl) ?_ | refine ev_dr2 mixed rfl (by kernel_rfl) ?_); simp only [go_sem]))
          refine ev_next 4 (hJ _ (⟨(i + 1, L ++ [⟨L.length, s, D.1⟩], k2', gr + 1), c3, by simp [hLl], ho2, hs2, kd⟩) (by first | omega | (dsimp only; omega) | (simp; omega))) rfl (by simp) ?_ (by first | rfl | (simp only [go_sem]; done)) (by first | rfl | (simp only [go_sem]; done)) ?_
          · (first | rfl | (simp only [go_sem]; done) | (simp only [go_sem]; simp only [hsn]; done) | (simp only [go_sem]; simp [hsn]; done) | (simp [hsn]; done))
          · (simp only [go_sem]; (repeat' (refine And.intro ?_ ?_)) <;> first | exact trivial | with_reducible rfl | (simp only [hsn]; done) | (simp only [hsn]; with_reducible rfl) | (simp [hsn]; done) | (simp [hsn]; omega) | (simp only [hsn]; rfl) | skip)
        · rw [if_neg c4] at hsn
          repeat (first | refine And.intro (by omega) ?_ | refine And.intro rfl ?_ | refine ev_ctl rfl rfl ?_ | refine evr_nil ?_ | refine evw_nil (by kernel_rfl) ?_ | (simp (disch := omega) only [takeAll, Nat.min_eq_left, Nat.min_eq_right, if_pos, if_neg, getD_map, wrapI64, modIn, fdivE, tmodE, tdivE, decT, decF, beqT, beqF, bneT, bneF, Int.toNat_natCast]; try simp only [go_sem]) | (refine ev_condTb rfl ?_ ?_; · (simp <;> omega)) | (refine ev_condFb rfl ?_ ?_; · (simp <;> omega)) | ((first | refine ev_region ?_ | refine evr_go rfl ?_ | refine evw_go rfl ?_ | refine ev_dr0 mixed rfl (by kernel_rfl) ?_ | refine ev_dr1 mixed rfl (by kernel_rfl) ?_ | refine ev_dr2 mixed rfl (by kernel_rfl) ?_); simp only [go_sem]))
          (first | apply st_callMD (fC) rfl | apply evw_callM (fC) rfl)
          · (simp only [go_sem]; rfl)
          · rfl
          · (first | rfl | (simp only [go_sem]; done))
          · (first | rfl | (simp only [go_sem]; done) | (simp only [go_sem]; rfl))
          · (first | rfl | (simp only [go_sem]; done))
          · (first | rfl | (simp only [go_sem]; done) | (simp only [go_sem]; rfl))
          · (first | rfl | simp [V.pureT, V.pure, V.pures, pures_lo, pures_sls])
          (first | refine ev_all (fu := [(), (), (), (), (), (), (), ()]) ?_ | refine evw_all (md := []) (fu := [(), (), (), (), (), (), (), ()]) ?_); simp only [go_sem]; repeat (first | refine And.intro (by omega) ?_ | refine And.intro rfl ?_ | (simp (disch := omega) only [takeAll, Nat.min_eq_left, Nat.min_eq_right, if_pos, if_neg, getD_map, wrapI64, modIn, fdivE, tmodE, tdivE, decT, decF, beqT, beqF, bneT, bneF, Int.toNat_natCast]; try simp only [go_sem]))
          repeat (first | refine And.intro (by omega) ?_ | refine And.intro rfl ?_ | refine ev_ctl rfl rfl ?_ | refine evr_nil ?_ | refine evw_nil (by kernel_rfl) ?_ | (simp (disch := omega) only [takeAll, Nat.min_eq_left, Nat.min_eq_right, if_pos, if_neg, getD_map, wrapI64, modIn, fdivE, tmodE, tdivE, decT, decF, beqT, beqF, bneT, bneF, Int.toNat_natCast]; try simp only [go_sem]) | (refine ev_condTb rfl ?_ ?_; · (simp <;> omega)) | (refine ev_condFb rfl ?_ ?_; · (simp <;> omega)) | ((first | refine ev_region ?_ | refine evr_go rfl ?_ | refine evw_go rfl ?_ | refine ev_dr0 mixed rfl (by kernel_rfl) ?_ | refine ev_dr1 mixed rfl (by kernel_rfl) ?_ | refine ev_dr2 mixed rfl (by kernel_rfl) ?_); simp only [go_sem]))
          (first | apply st_callMD (fN) rfl | apply evw_callM (fN) rfl)
          · (simp only [go_sem]; rfl)
          · rfl
          · (first | rfl | (simp only [go_sem]; done))
          · (first | rfl | (simp only [go_sem]; done) | (simp only [go_sem]; rfl))
          · (first | rfl | (simp only [go_sem]; done))
          · (first | rfl | (simp only [go_sem]; done) | (simp only [go_sem]; rfl))
          · (first | rfl | simp [V.pureT, V.pure, V.pures, pures_lo, pures_sls])
          (first | refine ev_all (fu := [(), (), (), (), (), (), (), ()]) ?_ | refine evw_all (md := []) (fu := [(), (), (), (), (), (), (), ()]) ?_); simp only [go_sem]; repeat (first | refine And.intro (by omega) ?_ | refine And.intro rfl ?_ | (simp (disch := omega) only [takeAll, Nat.min_eq_left, Nat.min_eq_right, if_pos, if_neg, getD_map, wrapI64, modIn, fdivE, tmodE, tdivE, decT, decF, beqT, beqF, bneT, bneF, Int.toNat_natCast]; try simp only [go_sem]))
          repeat (first | refine And.intro (by omega) ?_ | refine And.intro rfl ?_ | refine ev_ctl rfl rfl ?_ | refine evr_nil ?_ | refine evw_nil (by kernel_rfl) ?_ | (simp (disch := omega) only [takeAll, Nat.min_eq_left, Nat.min_eq_right, if_pos, if_neg, getD_map, wrapI64, modIn, fdivE, tmodE, tdivE, decT, decF, beqT, beqF, bneT, bneF, Int.toNat_natCast]; try simp only [go_sem]) | (refine ev_condTb rfl ?_ ?_; · (simp <;> omega)) | (refine ev_condFb rfl ?_ ?_; · (simp <;> omega)) | ((first | refine ev_region ?_ | refine evr_go rfl ?_ | refine evw_go rfl ?_ | refine ev_dr0 mixed rfl (by kernel_rfl) ?_ | refine ev_dr1 mixed rfl (by kernel_rfl) ?_ | refine ev_dr2 mixed rfl (by kernel_rfl) ?_); simp only [go_sem]))
          (first | refine callD (fS) ?_ | refine callDw (fS) ?_); simp only [go_sem]
          repeat (first | refine And.intro (by omega) ?_ | refine And.intro rfl ?_ | refine ev_ctl rfl rfl ?_ | refine evr_nil ?_ | refine evw_nil (by kernel_rfl) ?_ | (simp (disch := omega) only [takeAll, Nat.min_eq_left, Nat.min_eq_right, if_pos, if_neg, getD_map, wrapI64, modIn, fdivE, tmodE, tdivE, decT, decF, beqT, beqF, bneT, bneF, Int.toNat_natCast]; try simp only [go_sem]) | (refine ev_condTb rfl ?_ ?_; · (simp <;> omega)) | (refine ev_condFb rfl ?_ ?_; · (simp <;> omega)) | ((first | refine ev_region ?_ | refine evr_go rfl ?_ | refine evw_go rfl ?_ | refine ev_dr0 mixed rfl (by kernel_rfl) ?_ | refine ev_dr1 mixed rfl (by kernel_rfl) ?_ | refine ev_dr2 mixed rfl (by kernel_rfl) ?_); simp only [go_sem]))
          refine ev_next 4 (hJ _ (⟨(i + 1, L ++ [⟨L.length, s, D.1⟩], k2', gr), c3, by simp [hLl], ho2, hs2, kd⟩) (by first | omega | (dsimp only; omega) | (simp; omega))) rfl (by simp) ?_ (by first | rfl | (simp only [go_sem]; done)) (by first | rfl | (simp only [go_sem]; done)) ?_
          · (first | rfl | (simp only [go_sem]; done) | (simp only [go_sem]; simp only [hsn]; done) | (simp only [go_sem]; simp [hsn]; done) | (simp [hsn]; done))
          · (simp only [go_sem]; (repeat' (refine And.intro ?_ ?_)) <;> first | exact trivial | with_reducible rfl | (simp only [hsn]; done) | (simp only [hsn]; with_reducible rfl) | (simp [hsn]; done) | (simp [hsn]; omega) | (simp only [hsn]; rfl) | skip)
      · obtain rfl : i = C := by omega
        have f1 := samew_fn i0 (by omega)
        have f2 := wordered_fn L
        rw [ordB_T hLo] at f2
        have f3 := wstream_fn L 1 (by omega) (fun o ho => Nat.le_trans (hLs o ho) (by omega))
        have f4 := samecanon_fn (strm L 1) (strm L 1)
        rw [decT rfl] at f4
        repeat (first | refine And.intro (by omega) ?_ | refine And.intro rfl ?_ | refine ev_ctl rfl rfl ?_ | refine evr_nil ?_ | refine evw_nil (by kernel_rfl) ?_ | (simp (disch := omega) only [takeAll, Nat.min_eq_left, Nat.min_eq_right, if_pos, if_neg, getD_map, wrapI64, modIn, fdivE, tmodE, tdivE, decT, decF, beqT, beqF, bneT, bneF, Int.toNat_natCast]; try simp only [go_sem]) | (refine ev_condTb rfl ?_ ?_; · (simp <;> omega)) | (refine ev_condFb rfl ?_ ?_; · (simp <;> omega)) | ((first | refine ev_region ?_ | refine evr_go rfl ?_ | refine evw_go rfl ?_ | refine ev_dr0 mixed rfl (by kernel_rfl) ?_ | refine ev_dr1 mixed rfl (by kernel_rfl) ?_ | refine ev_dr2 mixed rfl (by kernel_rfl) ?_); simp only [go_sem]))
        (first | refine callD (f1) ?_ | refine callDw (f1) ?_); simp only [go_sem]
        repeat (first | refine And.intro (by omega) ?_ | refine And.intro rfl ?_ | refine ev_ctl rfl rfl ?_ | refine evr_nil ?_ | refine evw_nil (by kernel_rfl) ?_ | (simp (disch := omega) only [takeAll, Nat.min_eq_left, Nat.min_eq_right, if_pos, if_neg, getD_map, wrapI64, modIn, fdivE, tmodE, tdivE, decT, decF, beqT, beqF, bneT, bneF, Int.toNat_natCast]; try simp only [go_sem]) | (refine ev_condTb rfl ?_ ?_; · (simp <;> omega)) | (refine ev_condFb rfl ?_ ?_; · (simp <;> omega)) | ((first | refine ev_region ?_ | refine evr_go rfl ?_ | refine evw_go rfl ?_ | refine ev_dr0 mixed rfl (by kernel_rfl) ?_ | refine ev_dr1 mixed rfl (by kernel_rfl) ?_ | refine ev_dr2 mixed rfl (by kernel_rfl) ?_); simp only [go_sem]))
        (first | refine callD (f2) ?_ | refine callDw (f2) ?_); simp only [go_sem]
        repeat (first | refine And.intro (by omega) ?_ | refine And.intro rfl ?_ | refine ev_ctl rfl rfl ?_ | refine evr_nil ?_ | refine evw_nil (by kernel_rfl) ?_ | (simp (disch := omega) only [takeAll, Nat.min_eq_left, Nat.min_eq_right, if_pos, if_neg, getD_map, wrapI64, modIn, fdivE, tmodE, tdivE, decT, decF, beqT, beqF, bneT, bneF, Int.toNat_natCast]; try simp only [go_sem]) | (refine ev_condTb rfl ?_ ?_; · (simp <;> omega)) | (refine ev_condFb rfl ?_ ?_; · (simp <;> omega)) | ((first | refine ev_region ?_ | refine evr_go rfl ?_ | refine evw_go rfl ?_ | refine ev_dr0 mixed rfl (by kernel_rfl) ?_ | refine ev_dr1 mixed rfl (by kernel_rfl) ?_ | refine ev_dr2 mixed rfl (by kernel_rfl) ?_); simp only [go_sem]))
        (first | refine callD (f3) ?_ | refine callDw (f3) ?_); simp only [go_sem]
        repeat (first | refine And.intro (by omega) ?_ | refine And.intro rfl ?_ | refine ev_ctl rfl rfl ?_ | refine evr_nil ?_ | refine evw_nil (by kernel_rfl) ?_ | (simp (disch := omega) only [takeAll, Nat.min_eq_left, Nat.min_eq_right, if_pos, if_neg, getD_map, wrapI64, modIn, fdivE, tmodE, tdivE, decT, decF, beqT, beqF, bneT, bneF, Int.toNat_natCast]; try simp only [go_sem]) | (refine ev_condTb rfl ?_ ?_; · (simp <;> omega)) | (refine ev_condFb rfl ?_ ?_; · (simp <;> omega)) | ((first | refine ev_region ?_ | refine evr_go rfl ?_ | refine evw_go rfl ?_ | refine ev_dr0 mixed rfl (by kernel_rfl) ?_ | refine ev_dr1 mixed rfl (by kernel_rfl) ?_ | refine ev_dr2 mixed rfl (by kernel_rfl) ?_); simp only [go_sem]))
        (first | refine callD (f4) ?_ | refine callDw (f4) ?_); simp only [go_sem]
        repeat (first | refine And.intro (by omega) ?_ | refine And.intro rfl ?_ | refine ev_ctl rfl rfl ?_ | refine evr_nil ?_ | refine evw_nil (by kernel_rfl) ?_ | (simp (disch := omega) only [takeAll, Nat.min_eq_left, Nat.min_eq_right, if_pos, if_neg, getD_map, wrapI64, modIn, fdivE, tmodE, tdivE, decT, decF, beqT, beqF, bneT, bneF, Int.toNat_natCast]; try simp only [go_sem]) | (refine ev_condTb rfl ?_ ?_; · (simp <;> omega)) | (refine ev_condFb rfl ?_ ?_; · (simp <;> omega)) | ((first | refine ev_region ?_ | refine evr_go rfl ?_ | refine evw_go rfl ?_ | refine ev_dr0 mixed rfl (by kernel_rfl) ?_ | refine ev_dr1 mixed rfl (by kernel_rfl) ?_ | refine ev_dr2 mixed rfl (by kernel_rfl) ?_); simp only [go_sem]))
        (first | refine callD (awake18_fn) ?_ | refine callDw (awake18_fn) ?_); simp only [go_sem]
        repeat (first | refine And.intro (by omega) ?_ | refine And.intro rfl ?_ | refine ev_ctl rfl rfl ?_ | refine evr_nil ?_ | refine evw_nil (by kernel_rfl) ?_ | (simp (disch := omega) only [takeAll, Nat.min_eq_left, Nat.min_eq_right, if_pos, if_neg, getD_map, wrapI64, modIn, fdivE, tmodE, tdivE, decT, decF, beqT, beqF, bneT, bneF, Int.toNat_natCast]; try simp only [go_sem]) | (refine ev_condTb rfl ?_ ?_; · (simp <;> omega)) | (refine ev_condFb rfl ?_ ?_; · (simp <;> omega)) | ((first | refine ev_region ?_ | refine evr_go rfl ?_ | refine evw_go rfl ?_ | refine ev_dr0 mixed rfl (by kernel_rfl) ?_ | refine ev_dr1 mixed rfl (by kernel_rfl) ?_ | refine ev_dr2 mixed rfl (by kernel_rfl) ?_); simp only [go_sem]))
        refine ret m_socw_ok [] ?_; (first | (simp only [go_sem]; done) | (simp only [go_sem]; rfl))
theorem socw_law {a0 : List Int} {v0 : Value} (W : World) (e0 : (Sh.slice (Sh.int .i64)).rd (old W) W a0 [v0]) :
    Calls Try.prog 4 #[v0] W fun e w' => e = .returned (.bool true) ∧ Below W.heap.size W w' :=
  Fnc.law (socw_fn a0) (RdTs.slice enc_i64s e0 RdTs.nil')
end Go.Proofs.Ytibfpmochioopaa
