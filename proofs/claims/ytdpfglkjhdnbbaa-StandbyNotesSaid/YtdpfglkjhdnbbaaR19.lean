/- The law StandbyNotes. -/
import Derived.Test.YtdpfglkjhdnbbaaR18
import Derived.Test.YtdpfglkjhdnbbaaC5
import Derived.Test.YtdpfglkjhdnbbaaReads
namespace Go.Proofs.Ytdpfglkjhdnbbaa
open Go Go.RowKit Rdn Rdn.Dp
set_option linter.unusedVariables false
set_option linter.unusedSimpArgs false
theorem m_sbn_ok : compF Try.prog 3 = some (118, Qr ([Qc 8 (.bool false)])
 (Qr ([Qp 9 (.mov (Qi 0))])
 (.seq (Qr ([Qp 10 (.mov (Qi 0))])
 (.block 0 (.loop (.seq (Qr ([Qm 25 10, Qm 26 3, Qn 27 26, Qb 28 .lss 25 27])
 (.cond (.t 28) (.skip) (.exit 0)))
 (.seq (.block 1 (.reg [Qm 31 9, Qk 32 .add 31 4, Qm 33 3, Qm 34 10, Qx 35 4 33 34, Qf 36 3 3 35, Ql 37 1 36, Qn 38 37, Qb 39 .add 32 38, Qm 9 39]))
 (.reg [Qm 29 10, Qk 30 .add 29 1, Qm 10 30]))))))
 (.seq (Qr ([Qm 40 2, Qn 41 40, Qk 42 .gtr 41 100, Qm 43 42, Q0 44 43 (.mov (.t 9)), Q0 45 43 (.bin 0 .gtr (.t 44) (Qi 3000)), Qt 46 43 45])
 (.cond (.t 46) (Qr ([Qq 47 7 [], Qm 8 47])
 (.ret)) (.skip)))
 (Qr ([Qm 49 0, Qq 50 8 [(.t 49)], Qm 48 50, Qe 51 48 0, Qe 52 48 1, Qw 11 (.alloc 36 (.agg [.int .i64 0, .int .i64 0, .int .i64 0, .nilS, .nilS, .nilS, .agg [.int .i64 0, .int .i64 0, .int .i64 0, .nilS], .int .i64 0, .agg [.int .i64 0, .int .i64 0, .nilS]])), Qs 14 11 51, Qm 12 52])
 (Qr ([Qm 54 0, Qq 55 9 [(.t 54)], Qm 53 55, Qe 56 53 0, Qe 57 53 1, Qw 13 (.alloc 36 (.agg [.int .i64 0, .int .i64 0, .int .i64 0, .nilS, .nilS, .nilS, .agg [.int .i64 0, .int .i64 0, .int .i64 0, .nilS], .int .i64 0, .agg [.int .i64 0, .int .i64 0, .nilS]])), Qs 14 13 56, Qm 14 57])
 (Qr ([Qm 59 1, Qm 60 2, Qq 61 10 [(.t 59), (.t 60)], Qm 58 61, Qe 62 58 0, Qe 63 58 1, Qw 15 (.alloc 26 (.agg [.int .i64 0, .int .i64 0, .int .i64 0, .nilS])), Qs 4 15 62, Qm 16 63])
 (Qr ([Qm 65 1, Qm 66 2, Qq 67 11 [(.t 65), (.t 66)], Qm 64 67, Qe 68 64 0, Qe 69 64 1, Qw 17 (.alloc 26 (.agg [.int .i64 0, .int .i64 0, .int .i64 0, .nilS])), Qs 4 17 68, Qm 18 69])
 (Qr ([Qm 71 3, Qq 72 12 [(.t 71)], Qm 70 72, Qe 73 70 0, Qe 74 70 1, Qe 75 70 2, Qw 19 (.alloc 32 (.agg [.int .i64 0, .int .i64 0, .int .i64 0, .nilS])), Qs 4 19 73, Qm 20 74, Qm 21 75])
 (Qr ([Qm 77 3, Qq 78 13 [(.t 77)], Qm 76 78, Qe 79 76 0, Qe 80 76 1, Qe 81 76 2, Qw 22 (.alloc 32 (.agg [.int .i64 0, .int .i64 0, .int .i64 0, .nilS])), Qs 4 22 79, Qm 23 80, Qm 24 81])
 (Qr ([Qm 82 12, Qm 83 14, Qb 84 .eql 82 83, Qm 85 84, Q1 86 85 (.mov (.t 16)), Q1 87 85 (.mov (.t 18)), Q1 88 85 (.bin 0 .eql (.t 86) (.t 87)), Qu 89 85 88, Qm 90 89, Q1 91 90 (.mov (.t 21)), Q1 92 90 (.mov (.t 24)), Q1 93 90 (.bin 0 .eql (.t 91) (.t 92)), Qu 94 90 93, Qm 95 94, Q1 96 95 (.mov (.t 20)), Q1 97 95 (.mov (.t 23)), Q1 98 95 (.bin 0 .eql (.t 96) (.t 97)), Qu 99 95 98, Qm 100 99, Q1 101 100 (.load true 14 (.t 11)), Q1 102 100 (.load true 14 (.t 13)), ⟨(some 103), (some (100, true)), (.call 14 [(.t 101), (.t 102)])⟩, Qu 104 100 103, Qm 105 104, Q1 106 105 (.load true 4 (.t 15)), Q1 107 105 (.load true 4 (.t 17)), ⟨(some 108), (some (105, true)), (.call 15 [(.t 106), (.t 107)])⟩, Qu 109 105 108, Qm 110 109, Q1 111 110 (.load true 4 (.t 19)), Q1 112 110 (.load true 4 (.t 22)), ⟨(some 113), (some (110, true)), (.call 16 [(.t 111), (.t 112)])⟩, Qu 114 110 113, Qm 115 114, ⟨(some 116), (some (115, true)), (.call 7 [])⟩, Qu 117 115 116, Qm 8 117])
 (.ret))))))))))), [.mov (.t 8)]) := by kernel_rfl
theorem enc_notes : Enc (Sh.slice Note.sh) (fun l => .sl false Note.sh.size (l.map (noteV false))) := Enc.slice enc_note (fun _ => rfl) (fun _ => rfl)
theorem rd_Notes : Reads Try.prog 23 (Sh.slice Note.sh) := Reads.slice (by kernel_rfl) (by kernel_rfl) (by decide) (of_decide_eq_true (by kernel_rfl)) rd_Note
def lgtN (l : List Note) : Nat → Int
  | 0 => 0
  | k + 1 => IntKind.i64.wrap (IntKind.i64.wrap (lgtN l k + 4) + l[k]!.bytes.length)
attribute [local irreducible] sReb
set_option maxHeartbeats 8000000 in
theorem sbn_fn (w s : Int) (d : List Canon) (l : List Note) : Fnc Try.prog 3 [.int .i64 w, .int .i64 s, .sl false 4 (d.map canonV), .sl false 4 (l.map (noteV false))] (fun x obs => x = .bool true) := by
  refine Fnc.wf fun hw => ?_
  simp only [V.wfs, V.wf, List.length_map] at hw
  have hm := hw.2.2.2.1.2
  have hd := hw.2.2.1.2
  clear hw
  have f1 := pnew_fn w
  have f2 := rnew_fn w
  have f3 := sout_fn s d
  have f4 := rout_fn40 s d
  have f5 := sreb_fn l
  have f6 := rreb_fn l
  have g1 := rprq_fn (sNew w).1
  have g2 := rnq_fn (sOut s d).1
  have g3 := gwq_fn (sReb l).1 (sReb l).1
  rw [decT rfl] at g3
  generalize sNew w = z1 at *
  generalize sOut s d = z2 at *
  generalize sReb l = z3 at *
  refine zgo m_sbn_ok fun W S => ?_
  refine ev_loopK [0, 1, 2, 3] (fun p : {p : Nat // p ≤ l.length} => [(9, .int .i64 (lgtN l p.1)), (10, .int .i64 p.1)]) (fun _ => []) (fun p => l.length - p.1) (⟨0, by simp⟩) 0 (by simp only [go_sem]; rfl) ?_ (by first | rfl | (simp only [go_sem]; done) | (simp only [go_sem]; simp [lgtN]; done)) (by simp) (by first | rfl | (simp only [go_sem]; done)) (by first | rfl | (simp only [go_sem]; done)) (by first | rfl | (simp only [go_sem]; done) | (simp only [lgtN]; (try simp only [go_sem]); first | done | rfl)) ?_
  · (simp only [go_sem]; (try simp [lgtN]); done)
  intro J hJ
  rintro ⟨k, hk0⟩
  by_cases hlt : k < l.length
  · skip
    refine zst ?_
    refine ev_next 0 (hJ _ (⟨k + 1, hlt⟩) (by first | omega | (dsimp only; omega) | (simp; omega))) rfl (by simp) ?_ (by first | rfl | (simp only [go_sem]; done)) (by first | rfl | (simp only [go_sem]; done) | (simp only [lgtN]; (try simp only [go_sem]); first | done | rfl)) ?_
    · (first | rfl | (simp only [go_sem]; done) | (simp only [go_sem]; simp only [lgtN]; done) | (simp only [lgtN]; done) | (simp only [go_sem]; simp [lgtN]; done) | (simp [lgtN]; done))
    · (simp only [go_sem]; (repeat' (refine And.intro ?_ ?_)) <;> first | exact trivial | with_reducible rfl | (simp only [lgtN]; done) | (simp only [lgtN]; with_reducible rfl) | (simp [lgtN]; done) | (simp [lgtN]; omega) | (simp only [lgtN]; rfl) | skip)
  · obtain rfl : k = l.length := by omega
    clear hJ
    by_cases c1 : d.length ≤ 100
    · by_cases c2 : lgtN l l.length ≤ 3000
      · skip
        refine zst ?_
        refine zcd (f1) ?_
        refine zcd (f2) ?_
        refine zcd (f3) ?_
        refine zcd (f4) ?_
        refine zcd (f5) ?_
        refine zcd (f6) ?_
        refine zcd (g1) ?_
        refine zcd (g2) ?_
        refine zcd (g3) ?_
        refine zcd (awake40_fn) ?_
        refine ret m_sbn_ok [] ?_; (first | (simp only [go_sem]; done) | (simp only [go_sem]; rfl))
      · skip
        refine zst ?_
        refine zcd (awake40_fn) ?_
        refine ret m_sbn_ok [] ?_; (first | (simp only [go_sem]; done) | (simp only [go_sem]; rfl))
    · skip
      refine zst ?_
      refine zcd (awake40_fn) ?_
      refine ret m_sbn_ok [] ?_; (first | (simp only [go_sem]; done) | (simp only [go_sem]; rfl))
theorem sbn_law {a0 : Int} {v0 : Value} {a1 : Int} {v1 : Value} {a2 : List Canon} {v2 : Value} {a3 : List Note} {v3 : Value} (W : World) (e0 : (Sh.int .i64).rd (old W) W a0 [v0]) (e1 : (Sh.int .i64).rd (old W) W a1 [v1]) (e2 : (Sh.slice Canon.sh).rd (old W) W a2 [v2]) (e3 : (Sh.slice Note.sh).rd (old W) W a3 [v3]) :
    Calls Try.prog 3 #[v0, v1, v2, v3] W fun e w' => e = .returned (.bool true) ∧ Below W.heap.size W w' :=
  Fnc.law (sbn_fn a0 a1 a2 a3) (RdTs.int e0 (RdTs.int e1 (RdTs.slice enc_canons e2 (RdTs.slice enc_notes e3 RdTs.nil'))))
end Go.Proofs.Ytdpfglkjhdnbbaa
