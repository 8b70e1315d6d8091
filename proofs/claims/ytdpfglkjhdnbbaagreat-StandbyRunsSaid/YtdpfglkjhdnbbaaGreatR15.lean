/- Standby: equal pairs and notes. -/
import Derived.Test.YtdpfglkjhdnbbaaGreatR14
import Derived.Test.YtdpfglkjhdnbbaaGreatC5
namespace Go.Proofs.YtdpfglkjhdnbbaaGreat
open Go Go.RowKit Rdn Rdn.Dp
set_option linter.unusedVariables false
set_option linter.unusedSimpArgs false
theorem m_rprq_ok : compF Tryz.prog 23 = some (129, Qr ([Qw 2 (.box 35 (.t 0)), Qw 3 (.box 35 (.t 1)), Qc 4 (.bool false)])
 (.seq (Qr ([Qf 8 0 0 2, Ql 9 1 8, Qf 10 0 0 3, Ql 11 1 10, Qb 12 .neq 9 11, Qm 13 12, Q0 14 13 (.fieldA 1 1 (.t 2)), Q0 15 13 (.load false 1 (.t 14)), Q0 16 13 (.fieldA 1 1 (.t 3)), Q0 17 13 (.load false 1 (.t 16)), Q0 18 13 (.bin 0 .neq (.t 15) (.t 17)), Qt 19 13 18, Qm 20 19, Q0 21 20 (.fieldA 2 2 (.t 2)), Q0 22 20 (.load false 1 (.t 21)), Q0 23 20 (.fieldA 2 2 (.t 3)), Q0 24 20 (.load false 1 (.t 23)), Q0 25 20 (.bin 0 .neq (.t 22) (.t 24)), Qt 26 20 25, Qm 27 26, Q0 28 27 (.fieldA 10 7 (.t 2)), Q0 29 27 (.load false 1 (.t 28)), Q0 30 27 (.fieldA 10 7 (.t 3)), Q0 31 27 (.load false 1 (.t 30)), Q0 32 27 (.bin 0 .neq (.t 29) (.t 31)), Qt 33 27 32, Qm 34 33, Q0 35 34 (.fieldA 3 3 (.t 2)), Q0 36 34 (.load false 1 (.t 35)), Q0 37 34 (.len (.t 36)), Q0 38 34 (.fieldA 3 3 (.t 3)), Q0 39 34 (.load false 1 (.t 38)), Q0 40 34 (.len (.t 39)), Q0 41 34 (.bin 0 .neq (.t 37) (.t 40)), Qt 42 34 41, Qm 43 42, Q0 44 43 (.fieldA 4 4 (.t 2)), Q0 45 43 (.load false 1 (.t 44)), Q0 46 43 (.len (.t 45)), Q0 47 43 (.fieldA 4 4 (.t 3)), Q0 48 43 (.load false 1 (.t 47)), Q0 49 43 (.len (.t 48)), Q0 50 43 (.bin 0 .neq (.t 46) (.t 49)), Qt 51 43 50, Qm 52 51, Q0 53 52 (.fieldA 5 5 (.t 2)), Q0 54 52 (.load false 1 (.t 53)), Q0 55 52 (.len (.t 54)), Q0 56 52 (.fieldA 5 5 (.t 3)), Q0 57 52 (.load false 1 (.t 56)), Q0 58 52 (.len (.t 57)), Q0 59 52 (.bin 0 .neq (.t 55) (.t 58)), Qt 60 52 59])
 (.cond (.t 60) (Qr ([Qc 4 (.bool false)])
 (.ret)) (.skip)))
 (.seq (Qr ([Qp 5 (.mov (Qi 0))])
 (.block 0 (.loop (.seq (Qr ([Qm 61 5, Qf 62 3 3 2, Ql 63 1 62, Qn 64 63, Qb 65 .lss 61 64])
 (.cond (.t 65) (.skip) (.exit 0)))
 (.seq (.block 1 (.seq (.dreg [Qf 68 3 3 2, Ql 69 1 68, Qm 70 5, Qx 71 1 69 70, Ql 72 1 71, Qf 73 3 3 3, Ql 74 1 73, Qm 75 5, Qx 76 1 74 75, Ql 77 1 76, Qp 78 (.bin 1 .neq (.t 72) (.t 77))] [[], [0], [], [0, 1, 2], [0, 1, 2, 3], [], [5], [], [5, 6, 7], [5, 6, 7, 8], [0, 1, 2, 3, 4, 5, 6, 7, 8, 9]])
 (.cond (.t 78) (Qr ([Qc 4 (.bool false)])
 (.ret)) (.skip))))
 (.reg [Qm 66 5, Qk 67 .add 66 1, Qm 5 67]))))))
 (.seq (Qr ([Qp 6 (.mov (Qi 0))])
 (.block 2 (.loop (.seq (Qr ([Qm 79 6, Qf 80 4 4 2, Ql 81 1 80, Qn 82 81, Qb 83 .lss 79 82])
 (.cond (.t 83) (.skip) (.exit 2)))
 (.seq (.block 3 (.seq (.dreg [Qf 86 4 4 2, Ql 87 1 86, Qm 88 6, Qx 89 1 87 88, Ql 90 1 89, Qf 91 4 4 3, Ql 92 1 91, Qm 93 6, Qx 94 1 92 93, Ql 95 1 94, Qp 96 (.bin 1 .neq (.t 90) (.t 95))] [[], [0], [], [0, 1, 2], [0, 1, 2, 3], [], [5], [], [5, 6, 7], [5, 6, 7, 8], [0, 1, 2, 3, 4, 5, 6, 7, 8, 9]])
 (.cond (.t 96) (Qr ([Qc 4 (.bool false)])
 (.ret)) (.skip))))
 (.reg [Qm 84 6, Qk 85 .add 84 1, Qm 6 85]))))))
 (.seq (Qr ([Qp 7 (.mov (Qi 0))])
 (.block 4 (.loop (.seq (Qr ([Qm 97 7, Qf 98 5 5 2, Ql 99 1 98, Qn 100 99, Qb 101 .lss 97 100])
 (.cond (.t 101) (.skip) (.exit 4)))
 (.seq (.block 5 (.seq (.dreg [Qf 104 5 5 2, Ql 105 1 104, Qm 106 7, Qx 107 1 105 106, Ql 108 1 107, Qp 109 (.b2s (.t 108)), Qf 110 5 5 3, Ql 111 1 110, Qm 112 7, Qx 113 1 111 112, Ql 114 1 113, Qp 115 (.b2s (.t 114)), Qb 116 .neq 109 115] [[], [0], [], [0, 1, 2], [0, 1, 2, 3], [0, 1, 2, 3, 4], [], [6], [], [6, 7, 8], [6, 7, 8, 9], [6, 7, 8, 9, 10], [0, 1, 2, 3, 4, 5, 6, 7, 8, 9, 10, 11]])
 (.cond (.t 116) (Qr ([Qc 4 (.bool false)])
 (.ret)) (.skip))))
 (.reg [Qm 102 7, Qk 103 .add 102 1, Qm 7 103]))))))
 (Qr ([Qf 117 6 6 2, QL 118 4 117, Qf 119 6 6 3, QL 120 4 119, Qq 121 53 [(.t 118), (.t 120)], Qm 122 121, Q1 123 122 (.fieldA 11 8 (.t 2)), Q1 124 122 (.load true 3 (.t 123)), Q1 125 122 (.fieldA 11 8 (.t 3)), Q1 126 122 (.load true 3 (.t 125)), ⟨(some 127), (some (122, true)), (.call 54 [(.t 124), (.t 126)])⟩, Qu 128 122 127, Qm 4 128])
 (.ret)))))), [.mov (.t 4)]) := by kernel_rfl
set_option maxHeartbeats 8000000 in
theorem rprq_fn (p : Pair) : Fnc Tryz.prog 23 [prV false p, prV false p] (fun x obs => x = .bool true ∧ obs = []) := by
  refine Fnc.wf fun hw => ?_
  simp only [V.wfs, V.wf, List.length_map] at hw
  have b1 := hw.1.2.2.2.1.2
  have b2 := hw.1.2.2.2.2.1.2
  have b3 := hw.1.2.2.2.2.2.1.2
  clear hw
  have f1 := gwq_fn p.gateway p.gateway
  have f2 := mbq_fn p.mailbox p.mailbox
  rw [decT rfl] at f1 f2
  refine zgo m_rprq_ok fun W S => ?_
  refine ev_loopK [2, 3] (fun q : {q : Nat // q ≤ p.up.length} => [(5, .int .i64 q.1)]) (fun _ => [⟨.box false 35, true, 0, prV false p⟩, ⟨.box false 35, true, 0, prV false p⟩]) (fun q => p.up.length - q.1) (⟨0, by simp⟩) 2 (by simp only [go_sem]; rfl) ?_ (by first | rfl | (simp only [go_sem]; done)) (by simp) (by first | rfl | (simp only [go_sem]; done)) (by first | rfl | (simp only [go_sem]; done)) (by first | rfl | (simp only [go_sem]; done)) ?_
  · (simp only [go_sem]; (try simp []); done)
  intro J hJ
  rintro ⟨k, hk0⟩
  by_cases hlt : k < p.up.length
  · skip
    refine zst ?_
    exact zn2 (hJ _ (⟨k + 1, hlt⟩) (by first | omega | (dsimp only; omega) | (simp; omega))) hlt
  · obtain rfl : k = p.up.length := by omega
    clear hJ
    refine zst ?_
    refine ev_loopK [2, 3] (fun q : {q : Nat // q ≤ p.sync.length} => [(6, .int .i64 q.1)]) (fun _ => [⟨.box false 35, true, 0, prV false p⟩, ⟨.box false 35, true, 0, prV false p⟩]) (fun q => p.sync.length - q.1) (⟨0, by simp⟩) 2 (by simp only [go_sem]; rfl) ?_ (by first | rfl | (simp only [go_sem]; done)) (by simp) (by first | rfl | (simp only [go_sem]; done)) (by first | rfl | (simp only [go_sem]; done)) (by first | rfl | (simp only [go_sem]; done)) ?_
    · (simp only [go_sem]; (try simp []); done)
    intro J hJ
    rintro ⟨k, hk0⟩
    by_cases hlt : k < p.sync.length
    · skip
      refine zst ?_
      exact zn2 (hJ _ (⟨k + 1, hlt⟩) (by first | omega | (dsimp only; omega) | (simp; omega))) hlt
    · obtain rfl : k = p.sync.length := by omega
      clear hJ
      refine zst ?_
      refine ev_loopK [2, 3] (fun q : {q : Nat // q ≤ p.journals.length} => [(7, .int .i64 q.1)]) (fun _ => [⟨.box false 35, true, 0, prV false p⟩, ⟨.box false 35, true, 0, prV false p⟩]) (fun q => p.journals.length - q.1) (⟨0, by simp⟩) 2 (by simp only [go_sem]; rfl) ?_ (by first | rfl | (simp only [go_sem]; done)) (by simp) (by first | rfl | (simp only [go_sem]; done)) (by first | rfl | (simp only [go_sem]; done)) (by first | rfl | (simp only [go_sem]; done)) ?_
      · (simp only [go_sem]; (try simp []); done)
      intro J hJ
      rintro ⟨k, hk0⟩
      by_cases hlt : k < p.journals.length
      · skip
        refine zst ?_
        exact zn2 (hJ _ (⟨k + 1, hlt⟩) (by first | omega | (dsimp only; omega) | (simp; omega))) hlt
      · obtain rfl : k = p.journals.length := by omega
        clear hJ
        refine zst ?_
        refine zcd (f1) ?_
        refine zcd (f2) ?_
        exact zrt m_rprq_ok
end Go.Proofs.YtdpfglkjhdnbbaaGreat
