/- The outside, drawn. -/
import Derived.Test.YtanmcjkpdkmhfaaK3
import Derived.Test.YtanmcjkpdkmhfaaZt
namespace Go.Proofs.Ytanmcjkpdkmhfaa
open Go Go.RowKit Rdn Rdn.Dp
set_option linter.unusedVariables false
set_option linter.unusedSimpArgs false
def m_obeg : MC := .seq (.reg [⟨(some 8), none, (.m (.alloc 63 (.agg [.nilS, .nilS, .nilS, .agg [.nilS, .nilS], .nilS])))⟩, ⟨(some 9), none, (.p (.mov (.c (.int .i64 0))))⟩])
 (.seq (.reg [⟨(some 14), none, (.p (.mov (.t 0)))⟩, ⟨(some 15), none, (.call 26 [(.t 14)])⟩, ⟨(some 13), none, (.p (.mov (.t 15)))⟩, ⟨(some 16), none, (.p (.ext (.t 13) 0))⟩, ⟨(some 17), none, (.p (.ext (.t 13) 1))⟩, ⟨(some 10), none, (.m (.alloc 26 (.agg [.nilS, .nilS])))⟩, ⟨none, none, (.m (.store 2 (.t 10) (.t 16)))⟩, ⟨(some 11), none, (.p (.mov (.t 17)))⟩])
 (.seq (.seq (.reg [⟨(some 18), none, (.p (.mov (.t 11)))⟩, ⟨(some 19), none, (.p (.bin 0 .neq (.t 18) (.c (.int .i64 0))))⟩])
 (.cond (.t 19) (.seq (.reg [⟨(some 20), none, (.m (.build none [.nilS, .nilS, .nilS, .agg [.nilS, .nilS], .nilS] []))⟩, ⟨(some 21), none, (.p (.mov (.t 11)))⟩, ⟨none, none, (.m (.store 6 (.t 8) (.t 20)))⟩, ⟨(some 9), none, (.p (.mov (.t 21)))⟩])
 (.ret)) (.skip)))
 (.seq (.dreg [⟨(some 22), none, (.p (.mov (.t 2)))⟩, ⟨(some 23), none, (.m (.app 69 1 2 (.c (.nilS)) (.t 22)))⟩, ⟨(some 24), none, (.p (.mov (.t 3)))⟩, ⟨(some 25), none, (.m (.app 69 1 2 (.c (.nilS)) (.t 24)))⟩, ⟨(some 26), none, (.p (.mov (.t 1)))⟩, ⟨(some 27), none, (.call 65 [(.t 26)])⟩, ⟨(some 28), none, (.p (.load true 2 (.t 10)))⟩, ⟨(some 29), none, (.m (.build none [.nilS, .nilS, .nilS, .agg [.nilS, .nilS], .nilS] [(0, (.t 23)), (1, (.t 25)), (2, (.t 27)), (3, (.t 28))]))⟩, ⟨(some 12), none, (.m (.alloc 63 (.agg [.nilS, .nilS, .nilS, .agg [.nilS, .nilS], .nilS])))⟩, ⟨none, none, (.m (.store 6 (.t 12) (.t 29)))⟩] [[], [0], [], [0, 1, 2], [], [0, 1, 2, 3, 4], [], [0, 1, 2, 3, 4, 5, 6], [], [0, 1, 2, 3, 4, 5, 6, 7, 8]])
 (.seq (.seq (.reg [⟨(some 30), none, (.p (.load true 6 (.t 12)))⟩, ⟨(some 31), none, (.call 66 [(.t 30)])⟩, ⟨(some 32), none, (.p (.un .not (.t 31)))⟩])
 (.cond (.t 32) (.seq (.reg [⟨(some 33), none, (.m (.build none [.nilS, .nilS, .nilS, .agg [.nilS, .nilS], .nilS] []))⟩, ⟨none, none, (.m (.store 6 (.t 8) (.t 33)))⟩, ⟨(some 9), none, (.p (.mov (.c (.int .i64 3))))⟩])
 (.ret)) (.skip)))
 (.seq (.reg [⟨(some 34), none, (.p (.load true 6 (.t 12)))⟩, ⟨none, none, (.m (.store 6 (.t 8) (.t 34)))⟩, ⟨(some 9), none, (.p (.mov (.c (.int .i64 0))))⟩])
 (.ret))))))
theorem m_obeg_ok : compF Try.prog 53 = some (35, m_obeg, [.load true 6 (.t 8), .mov (.t 9)]) := by kernel_rfl
def m_outs : MC := .seq (.reg [⟨(some 2), none, (.m (.alloc 63 (.agg [.nilS, .nilS, .nilS, .agg [.nilS, .nilS], .nilS])))⟩])
 (.seq (.reg [⟨(some 6), none, (.p (.mov (.t 0)))⟩, ⟨(some 7), none, (.call 54 [(.t 6), (.c (.int .i64 5))])⟩, ⟨(some 8), none, (.p (.mov (.t 0)))⟩, ⟨(some 9), none, (.call 54 [(.t 8), (.c (.int .i64 3))])⟩, ⟨(some 10), none, (.m (.buildS 52 1 (.nilS) 2 [(0, (.t 7)), (1, (.t 9))]))⟩, ⟨(some 11), none, (.p (.mov (.t 0)))⟩, ⟨(some 12), none, (.call 54 [(.t 11), (.c (.int .i64 8))])⟩, ⟨(some 13), none, (.p (.mov (.t 0)))⟩, ⟨(some 14), none, (.call 54 [(.t 13), (.c (.int .i64 4))])⟩, ⟨(some 15), none, (.m (.buildS 52 1 (.nilS) 2 [(0, (.t 12)), (1, (.t 14))]))⟩, ⟨(some 16), none, (.p (.mov (.t 0)))⟩, ⟨(some 17), none, (.call 54 [(.t 16), (.c (.int .i64 5))])⟩, ⟨(some 18), none, (.p (.mov (.t 0)))⟩, ⟨(some 19), none, (.call 54 [(.t 18), (.c (.int .i64 5))])⟩, ⟨(some 20), none, (.call 53 [(.t 10), (.t 15), (.t 17), (.t 19)])⟩, ⟨(some 5), none, (.p (.mov (.t 20)))⟩, ⟨(some 21), none, (.p (.ext (.t 5) 0))⟩, ⟨(some 22), none, (.p (.ext (.t 5) 1))⟩, ⟨(some 3), none, (.m (.alloc 63 (.agg [.nilS, .nilS, .nilS, .agg [.nilS, .nilS], .nilS])))⟩, ⟨none, none, (.m (.store 6 (.t 3) (.t 21)))⟩, ⟨(some 4), none, (.p (.mov (.t 22)))⟩])
 (.seq (.reg [⟨(some 23), none, (.p (.load true 6 (.t 3)))⟩, ⟨none, none, (.m (.store 6 (.t 2) (.t 23)))⟩])
 (.ret)))
theorem m_outs_ok : compF Try.prog 33 = some (24, m_outs, [.load true 6 (.t 2)]) := by kernel_rfl
set_option maxHeartbeats 8000000 in
theorem obeg_fn (c r i0 i1 w0 w1 : List Int) (hc : c.length ≤ 64) (hr : r.length ≤ 64) (hi0 : i0.length ≤ 64) (hi1 : i1.length ≤ 64) (h0 : w0.length ≤ 64) (h1 : w1.length ≤ 64) : Fnc Try.prog 53 [.sl false 1 [wsV w0, wsV w1], .sl false 1 [wsV i0, wsV i1], wsV c, wsV r] (fun x obs => x = .tup [.agg [wsV c, wsV r, .sl false 1 [wsV i0, wsV i1], fsV w0 w1, .nilS], .int .i64 0] ∧ obs = []) := by
  refine Fnc.low ?_
  refine Fnc.intro m_obeg_ok (by simp) fun W S => ?_
  unfold m_obeg
  simp only [ents, Nat.zero_add, Nat.reduceAdd]
  refine zst ?_
  (first | refine callD (fnew_fn w0 w1 h0 h1) ?_ | refine callDw (fnew_fn w0 w1 h0 h1) ?_); simp only [go_sem]
  refine zst ?_
  (first | refine callD (copyin_fn i0 i1 hi0 hi1) ?_ | refine callDw (copyin_fn i0 i1 hi0 hi1) ?_); simp only [go_sem]
  refine zst ?_
  (first | refine callD (oval_fn c r i0 i1 w0 w1 hc hr hi0 hi1 h0 h1) ?_ | refine callDw (oval_fn c r i0 i1 w0 w1 hc hr hi0 hi1 h0 h1) ?_); simp only [go_sem]
  refine zst ?_
  refine ret m_obeg_ok [] ?_; (first | (simp only [go_sem]; done) | (simp only [go_sem]; ((try dsimp only); (repeat' (refine And.intro ?_ ?_)) <;> first | with_reducible rfl | (simp only [go_sem]; done) | (simp only [go_sem]; rfl) | (simp only []; (try simp only [go_sem]); first | done | rfl) | (simp only [go_sem]; simp []; done) | (simp []; done) | rfl)))
set_option maxHeartbeats 8000000 in
theorem outs_fn (l : List Int) (k : Nat) (hk : k ≤ l.length) : FncM Try.prog 33 66 (deckV l k) [] (fun x obs d => x = .agg [wsV (dws l (dws l (dws l (dws l (dws l k 5).2 3).2 8).2 4).2 5).1, wsV (dws l (dws l (dws l (dws l (dws l (dws l k 5).2 3).2 8).2 4).2 5).2 5).1, .sl false 1 [wsV (dws l (dws l (dws l k 5).2 3).2 8).1, wsV (dws l (dws l (dws l (dws l k 5).2 3).2 8).2 4).1], fsV (dws l k 5).1 (dws l (dws l k 5).2 3).1, .nilS] ∧ obs = [] ∧ d = deckV l (dws l (dws l (dws l (dws l (dws l (dws l k 5).2 3).2 8).2 4).2 5).2 5).2) := by
  refine FncM.low ?_
  have k1 := dws_le hk 5
  have n1 := dws_len (l := l) (k := k) (n := 5) (by omega)
  have f1 := words_fn l k 5 hk (by omega) (by omega)
  generalize dws l k 5 = q1 at k1 n1 f1
  have k2 := dws_le k1 3
  have n2 := dws_len (l := l) (k := q1.2) (n := 3) (by omega)
  have f2 := words_fn l q1.2 3 k1 (by omega) (by omega)
  generalize dws l q1.2 3 = q2 at k2 n2 f2
  have k3 := dws_le k2 8
  have n3 := dws_len (l := l) (k := q2.2) (n := 8) (by omega)
  have f3 := words_fn l q2.2 8 k2 (by omega) (by omega)
  generalize dws l q2.2 8 = q3 at k3 n3 f3
  have k4 := dws_le k3 4
  have n4 := dws_len (l := l) (k := q3.2) (n := 4) (by omega)
  have f4 := words_fn l q3.2 4 k3 (by omega) (by omega)
  generalize dws l q3.2 4 = q4 at k4 n4 f4
  have k5 := dws_le k4 5
  have n5 := dws_len (l := l) (k := q4.2) (n := 5) (by omega)
  have f5 := words_fn l q4.2 5 k4 (by omega) (by omega)
  generalize dws l q4.2 5 = q5 at k5 n5 f5
  have n6 := dws_len (l := l) (k := q5.2) (n := 5) (by omega)
  have f6 := words_fn l q5.2 5 k5 (by omega) (by omega)
  generalize dws l q5.2 5 = q6 at n6 f6
  refine FncM.intro m_outs_ok (by simp) fun W S b0 hb0 => ?_
  unfold m_outs
  simp only [ents, Nat.zero_add, Nat.reduceAdd]
  refine zst ?_
  (first | apply st_callMD (f1) rfl | apply evw_callM (f1) rfl)
  · (simp only [go_sem]; rfl)
  · rfl
  · (first | rfl | (simp only [go_sem]; done))
  · (first | rfl | (simp only [go_sem]; done) | (simp only [go_sem]; rfl))
  · (first | rfl | (simp only [go_sem]; done))
  · (first | rfl | (simp only [go_sem]; done) | (simp only [go_sem]; rfl))
  · (first | rfl | simp [V.pureT, V.pure, V.pures, pures_lo, pures_sls])
  (first | refine ev_all (fu := [(), (), (), (), (), (), (), ()]) ?_ | refine evw_all (md := []) (fu := [(), (), (), (), (), (), (), ()]) ?_); refine zev ?_
  refine zst ?_
  (first | apply st_callMD (f2) rfl | apply evw_callM (f2) rfl)
  · (simp only [go_sem]; rfl)
  · rfl
  · (first | rfl | (simp only [go_sem]; done))
  · (first | rfl | (simp only [go_sem]; done) | (simp only [go_sem]; rfl))
  · (first | rfl | (simp only [go_sem]; done))
  · (first | rfl | (simp only [go_sem]; done) | (simp only [go_sem]; rfl))
  · (first | rfl | simp [V.pureT, V.pure, V.pures, pures_lo, pures_sls])
  (first | refine ev_all (fu := [(), (), (), (), (), (), (), ()]) ?_ | refine evw_all (md := []) (fu := [(), (), (), (), (), (), (), ()]) ?_); refine zev ?_
  refine zst ?_
  (first | apply st_callMD (f3) rfl | apply evw_callM (f3) rfl)
  · (simp only [go_sem]; rfl)
  · rfl
  · (first | rfl | (simp only [go_sem]; done))
  · (first | rfl | (simp only [go_sem]; done) | (simp only [go_sem]; rfl))
  · (first | rfl | (simp only [go_sem]; done))
  · (first | rfl | (simp only [go_sem]; done) | (simp only [go_sem]; rfl))
  · (first | rfl | simp [V.pureT, V.pure, V.pures, pures_lo, pures_sls])
  (first | refine ev_all (fu := [(), (), (), (), (), (), (), ()]) ?_ | refine evw_all (md := []) (fu := [(), (), (), (), (), (), (), ()]) ?_); refine zev ?_
  refine zst ?_
  (first | apply st_callMD (f4) rfl | apply evw_callM (f4) rfl)
  · (simp only [go_sem]; rfl)
  · rfl
  · (first | rfl | (simp only [go_sem]; done))
  · (first | rfl | (simp only [go_sem]; done) | (simp only [go_sem]; rfl))
  · (first | rfl | (simp only [go_sem]; done))
  · (first | rfl | (simp only [go_sem]; done) | (simp only [go_sem]; rfl))
  · (first | rfl | simp [V.pureT, V.pure, V.pures, pures_lo, pures_sls])
  (first | refine ev_all (fu := [(), (), (), (), (), (), (), ()]) ?_ | refine evw_all (md := []) (fu := [(), (), (), (), (), (), (), ()]) ?_); refine zev ?_
  refine zst ?_
  (first | apply st_callMD (f5) rfl | apply evw_callM (f5) rfl)
  · (simp only [go_sem]; rfl)
  · rfl
  · (first | rfl | (simp only [go_sem]; done))
  · (first | rfl | (simp only [go_sem]; done) | (simp only [go_sem]; rfl))
  · (first | rfl | (simp only [go_sem]; done))
  · (first | rfl | (simp only [go_sem]; done) | (simp only [go_sem]; rfl))
  · (first | rfl | simp [V.pureT, V.pure, V.pures, pures_lo, pures_sls])
  (first | refine ev_all (fu := [(), (), (), (), (), (), (), ()]) ?_ | refine evw_all (md := []) (fu := [(), (), (), (), (), (), (), ()]) ?_); refine zev ?_
  refine zst ?_
  (first | apply st_callMD (f6) rfl | apply evw_callM (f6) rfl)
  · (simp only [go_sem]; rfl)
  · rfl
  · (first | rfl | (simp only [go_sem]; done))
  · (first | rfl | (simp only [go_sem]; done) | (simp only [go_sem]; rfl))
  · (first | rfl | (simp only [go_sem]; done))
  · (first | rfl | (simp only [go_sem]; done) | (simp only [go_sem]; rfl))
  · (first | rfl | simp [V.pureT, V.pure, V.pures, pures_lo, pures_sls])
  (first | refine ev_all (fu := [(), (), (), (), (), (), (), ()]) ?_ | refine evw_all (md := []) (fu := [(), (), (), (), (), (), (), ()]) ?_); refine zev ?_
  refine zst ?_
  refine evr_calmA ?_; (refine zev ?_); (first | refine callD (obeg_fn q5.1 q6.1 q3.1 q4.1 q1.1 q2.1 (by omega) (by omega) (by omega) (by omega) (by omega) (by omega)) ?_ | refine callDw (obeg_fn q5.1 q6.1 q3.1 q4.1 q1.1 q2.1 (by omega) (by omega) (by omega) (by omega) (by omega) (by omega)) ?_); simp only [go_sem]
  refine zst ?_
  apply st_returnM hb0 m_outs_ok []
  · (simp only [go_sem]; rfl)
  · (first | exact trivial | (simp; done))
  · (first | (simp [outOk]; done) | exact outOk1 rfl)
  · (simp only [go_sem]; (first | done | trivial | simp [V.resOk, V.ressOk, rowV, V.pures, V.pure, pures_appE, pures_lo, pures_sls]))
  · (first | (simp only [V.res, V.ress, rowV, List.idxOf?_nil, List.idxOf?_cons, List.getElem?_cons_zero, List.getElem?_cons_succ]; first | rfl | (simp only [go_sem]; rfl)) | rfl)
  · (first | (simp only [go_sem]; rfl) | rfl)
  · rfl
  · (simp only [go_sem]; (first | done | rfl))
  ((try dsimp only); (repeat' (refine And.intro ?_ ?_)) <;> first | with_reducible rfl | (simp only [go_sem]; done) | (simp only [go_sem]; rfl) | (simp only []; (try simp only [go_sem]); first | done | rfl) | (simp only [go_sem]; simp []; done) | (simp []; done) | rfl)
end Go.Proofs.Ytanmcjkpdkmhfaa
