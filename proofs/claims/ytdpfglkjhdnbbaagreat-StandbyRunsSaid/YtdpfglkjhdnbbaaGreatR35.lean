/- The law StandbyRuns. -/
import Derived.Test.YtdpfglkjhdnbbaaGreatR34
import Derived.Test.YtdpfglkjhdnbbaaGreatC5
import Derived.Test.YtdpfglkjhdnbbaaGreatR28
import Derived.Test.YtdpfglkjhdnbbaaGreatR26
import Derived.Test.YtdpfglkjhdnbbaaGreatC4
import Derived.Test.YtdpfglkjhdnbbaaGreatReads
namespace Go.Proofs.YtdpfglkjhdnbbaaGreat
open Go Go.RowKit Rdn Rdn.Dp
set_option linter.unusedVariables false
set_option linter.unusedSimpArgs false
theorem m_sruns_ok : compF Tryz.prog 3 = some (52, Qr ([Qc 2 (.bool false)])
 (.seq (Qr ([Qm 8 0, Qq 9 4 [(.t 8)], Qp 10 (.un .not (.t 9))])
 (.cond (.t 10) (Qr ([Qq 11 5 [], Qm 2 11])
 (.ret)) (.skip)))
 (Qr ([Qm 12 0, Qq 13 6 [(.t 12)], Qm 3 13])
 (Qr ([Qm 15 3, Qq 16 8 [(.t 15), (Qi 4)], Qp 17 (.bin 0 .add (Qi 1) (.t 16)), Qq 18 7 [(.t 17)], Qm 14 18, Qe 19 14 0, Qe 20 14 1, Qw 4 (.alloc 35 (.agg [.int .i64 0, .int .i64 0, .int .i64 0, .nilS, .nilS, .nilS, .agg [.int .i64 0, .int .i64 0, .int .i64 0, .nilS], .int .i64 0, .agg [.int .i64 0, .int .i64 0, .nilS]])), Qs 14 4 19, Qm 5 20])
 (.seq (Qr ([Qp 6 (.mov (Qi 0))])
 (.block 0 (.loop (.seq (Qr ([Qm 21 6, Qk 22 .lss 21 40, Qm 23 22, Q1 24 23 (.mov (.t 3)), ⟨(some 25), (some (23, true)), (.call 9 [(.t 24)])⟩, Qu 26 23 25])
 (.cond (.t 26) (.skip) (.exit 0)))
 (.seq (.block 1 (Qr ([Qm 29 3, QL 30 14 4, Qq 31 10 [(.t 29), (.t 30)], Qw 7 (.alloc 42 (.agg [.int .i64 0, .int .i64 0, .int .i64 0, .nilS])), Qs 4 7 31])
 (.seq (.seq (.dreg [QL 32 14 4, QL 33 4 7, Qm 34 3, Qq 35 8 [(.t 34), (Qi 30)], Qk 36 .sub 35 1, Qm 37 3, Qq 38 8 [(.t 37), (Qi 30)], Qk 39 .sub 38 1, Qm 40 3, Qq 41 8 [(.t 40), (Qi 3)], Qq 42 11 [(.t 32), (.t 33), (.t 36), (.t 39), (.t 41)], Qp 43 (.un .not (.t 42))] [[], [], [], [2], [2, 3], [], [2, 3, 5], [2, 3, 5, 6], [], [2, 3, 5, 6, 8], [0, 1, 2, 3, 4, 5, 6, 7, 8, 9], [0, 1, 2, 3, 4, 5, 6, 7, 8, 9, 10]])
 (.cond (.t 43) (Qr ([Qc 2 (.bool false)])
 (.ret)) (.skip)))
 (.reg [Qm 45 3, QL 46 14 4, QL 47 4 7, Qq 48 12 [(.t 45), (.t 46), (.t 47)], Qm 44 48, Qe 49 44 0, Qe 50 44 1, Qs 14 4 49]))))
 (.reg [Qm 27 6, Qk 28 .add 27 1, Qm 6 28]))))))
 (Qr ([Qq 51 5 [], Qm 2 51])
 (.ret)))))), [.mov (.t 2)]) := by kernel_rfl
theorem sNew_okR {w : Int} (h1 : 1 ≤ w) (h2 : w ≤ 1000) : sNew w = (pN w, 0) := if_neg (by omega)
attribute [local irreducible] sWr sTear sSnd sFail sStart sTick chkP sNew noteS stepS
set_option maxHeartbeats 32000000 in
theorem sruns_fn (l : List Int) : Fnc Tryz.prog 3 [.sl false 1 (i64s l)] (fun x obs => x = .bool true) := by
  have fa := awake40_fn
  by_cases h1 : l.length ≤ 400
  rotate_left
  · skip
    refine zgo m_sruns_ok fun W S => ?_
    refine zcd (few_fn l) ?_
    refine zcd (fa) ?_
    refine ret m_sruns_ok [] ?_; (first | (simp only [go_sem]; done) | (simp only [go_sem]; rfl))
  have hk0 : (0 : Nat) ≤ l.length := by omega
  have f1 := next_fn l 0 4 hk0 (by omega)
  have w1 := dnx_ge (l := l) (k := 0) (n := 4) (by omega)
  have w2 := dnx_lt (l := l) (k := 0) (n := 4) (by omega)
  have k1 := dkx_le hk0
  have f2 := rnew_fn (1 + dnx l 0 4)
  rw [sNew_okR (by omega) (by omega)] at f2
  have i0 := inv_new (w := 1 + dnx l 0 4) (by omega) (by omega)
  generalize pN (1 + dnx l 0 4) = P0 at *
  refine zgo m_sruns_ok fun W S => ?_
  refine zcd (few_fn l) ?_
  refine zcx (new_fn l) ?_
  refine zcm (f1) ?_
  refine zcd (f2) ?_
  refine ev_loopK [3, 4] (fun q : {q : Pair × Nat × Nat // (∃ g ep out, Inv q.1 g ep out) ∧ q.2.1 ≤ l.length ∧ q.2.2 ≤ 40} => [(6, .int .i64 q.1.2.2)]) (fun q => [⟨.box false 54, true, 0, deckV l q.1.2.1⟩, ⟨.box false 35, true, 0, prV false q.1.1⟩]) (fun q => 40 - q.1.2.2) (⟨(P0, dkx l 0, 0), ⟨_, _, _, i0⟩, k1, by simp⟩) 2 (by simp only [go_sem]; rfl) ?_ (by first | rfl | (simp only [go_sem]; done)) (by simp) (by first | rfl | (simp only [go_sem]; done)) (by first | rfl | (simp only [go_sem]; done)) (by first | rfl | (simp only [go_sem]; done)) ?_
  · (simp only [go_sem]; (try simp []); done)
  intro J hJ
  rintro ⟨⟨p, k, t⟩, hI, hk, ht⟩
  dsimp only at hI hk ht ⊢
  clear i0 f1 f2 w1 w2 k1
  by_cases c1 : t < 40
  rotate_left
  · refine zst ?_
    refine zcd (fa) ?_
    refine ret m_sruns_ok [] ?_; (first | (simp only [go_sem]; done) | (simp only [go_sem]; rfl))
  have fl := left_fn l k hk
  by_cases c2 : k < l.length
  rotate_left
  · rw [decF c2] at fl
    refine zst ?_
    refine zcm (fl) ?_
    refine zcd (fa) ?_
    refine ret m_sruns_ok [] ?_; (first | (simp only [go_sem]; done) | (simp only [go_sem]; rfl))
  rw [decT c2] at fl
  have fn := nt40_fn l k p hk
  have hk2 := noteS_le (l := l) (k := k) p hk
  generalize noteS l k p = n at *
  obtain ⟨n, K⟩ := n
  dsimp only at fn hk2
  have fx := next_fn l K 30 hk2 (by omega)
  have k2 := dkx_le hk2
  have fy := next_fn l (dkx l K) 30 k2 (by omega)
  have k3 := dkx_le k2
  have fz := next_fn l (dkx l (dkx l K)) 3 k3 (by omega)
  have k4 := dkx_le k3
  have b0 := dnx_ge (l := l) (k := K) (n := 30) (by omega)
  have b1 := dnx_lt (l := l) (k := K) (n := 30) (by omega)
  have b2 := dnx_ge (l := l) (k := dkx l K) (n := 30) (by omega)
  have b3 := dnx_lt (l := l) (k := dkx l K) (n := 30) (by omega)
  obtain ⟨g, ep, out, hJ0⟩ := id hI
  have ft := agree40_fn p n (dnx l K 30 - 1) (dnx l (dkx l K) 30 - 1) (dnx l (dkx l (dkx l K)) 3) hJ0.fit (by have := hJ0.tlen; omega)
  clear hJ0
  have fs := stp_fn l (dkx l (dkx l (dkx l K))) p n k4 hI
  have hI2 := stepS_inv (l := l) (k := dkx l (dkx l (dkx l K))) n hI
  have k5 := stepS_le (l := l) (k := dkx l (dkx l (dkx l K))) p n k4
  generalize stepS l (dkx l (dkx l (dkx l K))) p n = r at *
  obtain ⟨x, b, K4⟩ := r
  dsimp only at fs hI2 k5
  refine zst ?_
  refine zcm (fl) ?_
  refine zcm (fn) ?_
  refine zcm (fx) ?_
  refine zcm (fy) ?_
  refine zcm (fz) ?_
  refine zcd (ft) ?_
  refine zcm (fs) ?_
  exact znx 2 (hJ _ (⟨(x, K4, t + 1), hI2, k5, c1⟩) (by first | omega | (dsimp only; omega) | (simp; omega))) (by refine ⟨rfl, by simp, ?_, ?_, ?_, ?_⟩ <;> first | rfl | (simp only [go_sem]; done) | (simp only [go_sem]; (repeat' (refine And.intro ?_ ?_)) <;> first | exact trivial | with_reducible rfl | rfl))
theorem sruns_law {a0 : List Int} {v0 : Value} (W : World) (e0 : (Sh.slice (Sh.int .i64)).rd (old W) W a0 [v0]) :
    Calls Tryz.prog 3 #[v0] W fun e w' => e = .returned (.bool true) ∧ Below W.heap.size W w' :=
  Fnc.law (sruns_fn a0) (RdTs.slice enc_i64s e0 RdTs.nil')
end Go.Proofs.YtdpfglkjhdnbbaaGreat
