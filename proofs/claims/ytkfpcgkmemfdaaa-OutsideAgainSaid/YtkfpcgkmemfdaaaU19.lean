/- The outside: the law OutsideAgain. -/
import Derived.Test.YtkfpcgkmemfdaaaUE
import Derived.Test.YtkfpcgkmemfdaaaZt
import Derived.Test.YtkfpcgkmemfdaaaUB
namespace Go.Proofs.Ytkfpcgkmemfdaaa
open Go Go.RowKit Rdn Rdn.Dp
set_option linter.unusedVariables false
set_option linter.unusedSimpArgs false
theorem m_oagain_ok : compF Try.prog 5 = some (91, Qr ([Qc 2 (.bool false)])
 (Qr ([Qm 19 0, Qq 20 11 [(.t 19)], Qm 3 20])
 (Qr ([Qm 21 3, Qq 22 12 [(.t 21)], Qw 4 (.alloc 31 (.agg [.nilS, .nilS, .nilS, .agg [.nilS, .nilS], .nilS])), Qs 6 4 22])
 (Qr ([Qm 23 3, Qq 24 13 [(.t 23)], Qw 5 (.alloc 43 (.agg [.int .i64 0, .int .i64 0, .int .i64 0, .int .i64 0, .int .i64 0, .int .i64 0, .nilS, .nilS])), Qs 8 5 24])
 (Qr ([QL 26 6 4, QL 27 8 5, Qq 28 14 [(.t 26), (.t 27)], Qm 25 28, Qe 29 25 0, Qe 30 25 1, Qe 31 25 2, Qw 6 (.alloc 31 (.agg [.nilS, .nilS, .nilS, .agg [.nilS, .nilS], .nilS])), Qw 7 (.alloc 49 (.agg [.agg [.int .u8 0, .int .u16 0, .int .i64 0, .int .i64 0], .nilS, .int .i64 0, .bool false])), Qs 6 6 29, Qs 7 7 30, Qm 8 31])
 (Qr ([QL 33 6 4, QL 34 8 5, Qq 35 14 [(.t 33), (.t 34)], Qm 32 35, Qe 36 32 0, Qe 37 32 1, Qe 38 32 2, Qw 9 (.alloc 31 (.agg [.nilS, .nilS, .nilS, .agg [.nilS, .nilS], .nilS])), Qw 10 (.alloc 49 (.agg [.agg [.int .u8 0, .int .u16 0, .int .i64 0, .int .i64 0], .nilS, .int .i64 0, .bool false])), Qs 6 9 36, Qs 7 10 37, Qm 11 38])
 (.seq (Qr ([Qm 39 8, Qm 40 11, Qb 41 .neq 39 40, Qm 42 41, Q0 43 42 (.load true 7 (.t 7)), Q0 44 42 (.load true 7 (.t 10)), ⟨(some 45), (some (42, false)), (.call 18 [(.t 43), (.t 44)])⟩, Q0 46 42 (.un .not (.t 45)), Qt 47 42 46, Qm 48 47, Q0 49 48 (.load true 6 (.t 6)), Q0 50 48 (.load true 6 (.t 9)), ⟨(some 51), (some (48, false)), (.call 10 [(.t 49), (.t 50)])⟩, Q0 52 48 (.un .not (.t 51)), Qt 53 48 52])
 (.cond (.t 53) (Qr ([Qc 2 (.bool false)])
 (.ret)) (.skip)))
 (.seq (Qr ([Qm 54 8, Qk 55 .neq 54 0])
 (.cond (.t 55) (Qr ([Qq 56 7 [], Qm 2 56])
 (.ret)) (.skip)))
 (Qr ([Qw 57 (.build none [.int .i64 0, .int .i64 0, .int .i64 0, .int .i64 0, .int .i64 0, .int .i64 0, .nilS, .nilS] [(1, (Qi 1)), (5, (Qi 6))]), Qw 12 (.alloc 43 (.agg [.int .i64 0, .int .i64 0, .int .i64 0, .int .i64 0, .int .i64 0, .int .i64 0, .nilS, .nilS])), Qs 8 12 57])
 (Qr ([QL 59 6 4, QL 60 8 12, Qq 61 14 [(.t 59), (.t 60)], Qm 58 61, Qe 62 58 0, Qe 63 58 1, Qe 64 58 2, Qw 13 (.alloc 31 (.agg [.nilS, .nilS, .nilS, .agg [.nilS, .nilS], .nilS])), Qw 14 (.alloc 49 (.agg [.agg [.int .u8 0, .int .u16 0, .int .i64 0, .int .i64 0], .nilS, .int .i64 0, .bool false])), Qs 6 13 62, Qs 7 14 63, Qm 15 64])
 (Qr ([QL 66 6 6, QL 67 8 12, Qq 68 14 [(.t 66), (.t 67)], Qm 65 68, Qe 69 65 0, Qe 70 65 1, Qe 71 65 2, Qw 16 (.alloc 31 (.agg [.nilS, .nilS, .nilS, .agg [.nilS, .nilS], .nilS])), Qw 17 (.alloc 49 (.agg [.agg [.int .u8 0, .int .u16 0, .int .i64 0, .int .i64 0], .nilS, .int .i64 0, .bool false])), Qs 6 16 69, Qs 7 17 70, Qm 18 71])
 (Qr ([Qm 72 15, Qk 73 .eql 72 0, Qm 74 73, Q1 75 74 (.mov (.t 18)), Q1 76 74 (.bin 0 .eql (.t 75) (Qi 0)), Qu 77 74 76, Qm 78 77, Q1 79 78 (.fieldA 5 5 (.t 5)), Q1 80 78 (.load false 1 (.t 79)), Q1 81 78 (.bin 0 .eql (.t 80) (Qi 6)), Q1 82 78 (.mov (.t 81)), Q0 83 82 (.load true 7 (.t 14)), Q0 84 82 (.load true 7 (.t 17)), ⟨(some 85), (some (82, false)), (.call 18 [(.t 83), (.t 84)])⟩, Q1 86 78 (.pick (.t 82) (.c (.bool true)) (.t 85)), Qu 87 78 86, Qm 88 87, ⟨(some 89), (some (88, true)), (.call 7 [])⟩, Qu 90 88 89, Qm 2 90])
 (.ret)))))))))))), [.mov (.t 2)]) := by kernel_rfl
attribute [local irreducible] sDo rq usd sFirst
theorem asks_qT : asksB qT = true := asks_aw
theorem okDo_T {o : Rdn.Outside} (F : FitO o) : okDo o qT = true := by
  unfold okDo
  rw [valO_T F, asks_qT, show actB qT.call = true from rfl, decT (show oks16 qT from fun h => absurd h (by decide))]
  rfl
theorem sDo_time {o : Rdn.Outside} (F : FitO o) : (sDo o qT).2 = (resB (sFirst o.clock).2.1 [] (sFirst o.clock).2.2, 0) := by
  rw [sDo_T (okDo_T F), doS_6 rfl]
theorem sDo_clock {o : Rdn.Outside} {q : Request} (h : (sDo o q).2.2 = 0) (c6 : q.call ≠ 6) : (sDo o q).1.clock = o.clock := by
  obtain ⟨hF, hk⟩ := sDo_fit h
  obtain ⟨F, A, C, H⟩ := okDo_of hk
  rw [sDo_T hk]
  rcases act_cases C with c | c | c | c | c | c | c | c | c
  · rw [doS_1 c]; rfl
  · rw [doS_2 c]; rfl
  · rw [doS_3 c]; rfl
  · rw [doS_4 c]; rfl
  · rw [doS_5 c]; rfl
  · exact absurd c c6
  · rw [doS_7 c]
  · rw [doS_13 c]
  · rw [doS_14 c]
set_option maxHeartbeats 16000000 in
theorem oagain_fn (l : List Int) : Fnc Try.prog 5 [.sl false 1 (i64s l)] (fun x obs => x = .bool true) := by
  have fa := awake19_fn
  have fu := used_fn l 0 (by omega)
  obtain ⟨hF, hk⟩ := usd_fit (l := l) (k := 0) (by omega)
  generalize usd l 0 = P at fu hF hk
  obtain ⟨o, k⟩ := P
  dsimp only at fu hF hk
  have fq := req_fn l k hk
  have fd := wdo_fn o (rq l k).1 (by have := rq_len (l := l) (k := k); omega)
  have e3 := fun h => sDo_clock (o := o) (q := (rq l k).1) h
  have e4 := fun h => (sDo_fit (o := o) (q := (rq l k).1) h).1
  generalize rq l k = Q at fq fd e3 e4
  obtain ⟨q, k2⟩ := Q
  dsimp only at fq fd e3 e4
  have e := sDo_e o q
  generalize sDo o q = D at fd e e3 e4
  obtain ⟨x, r, e2⟩ := D
  dsimp only at fd e e3 e4
  have f1 := rress_eq r
  have f2 := rsao_eq x
  rcases e with rfl | rfl
  · have hX := e4 rfl
    have ft := wdo_fn o qT (by decide)
    rw [sDo_time hF] at ft
    have fw := wdo_fn x qT (by decide)
    rw [sDo_time hX] at fw
    generalize (sDo o qT).1 = o2 at ft
    generalize (sDo x qT).1 = x2 at fw
    simp only [reqV, qT, List.map_nil] at ft fw
    by_cases c6 : q.call = 6
    · skip
      refine zgo m_oagain_ok fun W S => ?_
      refine zcx (new_fn l) ?_
      refine zcm (fu) ?_
      refine zcm (fq) ?_
      refine zcd (fd) ?_
      refine zcd (fd) ?_
      refine zcd (f1) ?_
      refine zcd (f2) ?_
      refine zcd (ft) ?_
      refine zcd (fw) ?_
      refine zcd (fa) ?_
      exact zrt m_oagain_ok
    · rw [e3 rfl c6] at fw
      have f3 := rress_eq (resB (sFirst o.clock).2.1 [] (sFirst o.clock).2.2)
      refine zgo m_oagain_ok fun W S => ?_
      refine zcx (new_fn l) ?_
      refine zcm (fu) ?_
      refine zcm (fq) ?_
      refine zcd (fd) ?_
      refine zcd (fd) ?_
      refine zcd (f1) ?_
      refine zcd (f2) ?_
      refine zcd (ft) ?_
      refine zcd (fw) ?_
      refine zcd (f3) ?_
      refine zcd (fa) ?_
      exact zrt m_oagain_ok
  · skip
    refine zgo m_oagain_ok fun W S => ?_
    refine zcx (new_fn l) ?_
    refine zcm (fu) ?_
    refine zcm (fq) ?_
    refine zcd (fd) ?_
    refine zcd (fd) ?_
    refine zcd (f1) ?_
    refine zcd (f2) ?_
    refine zcd (fa) ?_
    exact zrt m_oagain_ok
theorem oag_law {a0 : List Int} {v0 : Value} (W : World) (e0 : (Sh.slice (Sh.int .i64)).rd (old W) W a0 [v0]) :
    Calls Try.prog 5 #[v0] W fun e w' => e = .returned (.bool true) ∧ Below W.heap.size W w' :=
  Fnc.law (oagain_fn a0) (RdTs.slice enc_i64s e0 RdTs.nil')
end Go.Proofs.Ytkfpcgkmemfdaaa
