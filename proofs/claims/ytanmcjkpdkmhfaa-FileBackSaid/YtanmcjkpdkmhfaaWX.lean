/- W12, W13, in one text. -/
import Derived.Test.YtanmcjkpdkmhfaaW10
import Derived.Test.YtanmcjkpdkmhfaaZt
/- Files: validity by the reference. -/
namespace Go.Proofs.Ytanmcjkpdkmhfaa
open Go Go.RowKit Rdn Rdn.Dp
set_option linter.unusedVariables false
set_option linter.unusedSimpArgs false
def m_rvalf : MC := .seq (.reg [⟨(some 1), none, (.m (.box 26 (.t 0)))⟩, ⟨(some 2), none, (.p (.mov (.c (.bool false))))⟩])
 (.seq (.seq (.reg [⟨(some 7), none, (.p (.fieldA 0 0 (.t 1)))⟩, ⟨(some 8), none, (.p (.load false 1 (.t 7)))⟩, ⟨(some 9), none, (.p (.len (.t 8)))⟩, ⟨(some 10), none, (.p (.bin 0 .gtr (.t 9) (.c (.int .i64 4))))⟩, ⟨(some 11), none, (.p (.mov (.t 10)))⟩, ⟨(some 12), (some (11, false)), (.p (.fieldA 1 1 (.t 1)))⟩, ⟨(some 13), (some (11, false)), (.p (.load false 1 (.t 12)))⟩, ⟨(some 14), (some (11, false)), (.p (.len (.t 13)))⟩, ⟨(some 15), (some (11, false)), (.p (.bin 0 .neq (.t 14) (.c (.int .i64 8))))⟩, ⟨(some 16), none, (.p (.pick (.t 11) (.c (.bool true)) (.t 15)))⟩])
 (.cond (.t 16) (.seq (.reg [⟨(some 2), none, (.p (.mov (.c (.bool false))))⟩])
 (.ret)) (.skip)))
 (.seq (.seq (.reg [⟨(some 17), none, (.p (.fieldA 0 0 (.t 1)))⟩, ⟨(some 18), none, (.p (.load false 1 (.t 17)))⟩, ⟨(some 19), none, (.p (.len (.t 18)))⟩, ⟨(some 20), none, (.p (.mov (.c (.int .i64 0))))⟩])
 (.block 0 (.loop (.seq (.reg [⟨(some 21), none, (.p (.bin 0 .lss (.t 20) (.t 19)))⟩])
 (.seq (.cond (.t 21) (.skip) (.exit 0))
 (.seq (.block 1 (.seq (.reg [⟨(some 22), none, (.p (.idxA 1 (.t 18) (.t 20)))⟩, ⟨(some 23), none, (.p (.load false 1 (.t 22)))⟩, ⟨(some 4), none, (.p (.mov (.t 23)))⟩])
 (.seq (.reg [⟨(some 24), none, (.p (.mov (.t 4)))⟩, ⟨(some 25), none, (.call 40 [(.t 24), (.c (.int .i64 64))])⟩, ⟨(some 26), none, (.p (.un .not (.t 25)))⟩])
 (.cond (.t 26) (.seq (.reg [⟨(some 2), none, (.p (.mov (.c (.bool false))))⟩])
 (.ret)) (.skip)))))
 (.reg [⟨(some 27), none, (.p (.bin 0 .add (.t 20) (.c (.int .i64 1))))⟩, ⟨(some 20), none, (.p (.mov (.t 27)))⟩])))))))
 (.seq (.seq (.reg [⟨(some 28), none, (.p (.fieldA 1 1 (.t 1)))⟩, ⟨(some 29), none, (.p (.load false 1 (.t 28)))⟩, ⟨(some 30), none, (.p (.len (.t 29)))⟩, ⟨(some 31), none, (.p (.mov (.c (.int .i64 0))))⟩])
 (.block 2 (.loop (.seq (.reg [⟨(some 32), none, (.p (.bin 0 .lss (.t 31) (.t 30)))⟩])
 (.seq (.cond (.t 32) (.skip) (.exit 2))
 (.seq (.block 3 (.seq (.reg [⟨(some 33), none, (.p (.idxA 3 (.t 29) (.t 31)))⟩, ⟨(some 34), none, (.p (.load true 3 (.t 33)))⟩, ⟨(some 6), none, (.m (.alloc 36 (.agg [.int .i64 0, .int .i64 0, .bool false])))⟩, ⟨none, none, (.m (.store 3 (.t 6) (.t 34)))⟩])
 (.seq (.dreg [⟨(some 35), none, (.p (.fieldA 0 0 (.t 6)))⟩, ⟨(some 36), none, (.p (.load false 1 (.t 35)))⟩, ⟨(some 37), none, (.p (.bin 0 .eql (.t 36) (.c (.int .i64 (-1)))))⟩, ⟨(some 38), none, (.p (.mov (.t 37)))⟩, ⟨(some 39), (some (38, true)), (.p (.fieldA 1 1 (.t 6)))⟩, ⟨(some 40), (some (38, true)), (.p (.load false 1 (.t 39)))⟩, ⟨(some 41), (some (38, true)), (.p (.bin 0 .neq (.t 40) (.c (.int .i64 0))))⟩, ⟨(some 42), (some (38, true)), (.p (.mov (.t 41)))⟩, ⟨(some 43), (some (42, false)), (.p (.fieldA 2 2 (.t 6)))⟩, ⟨(some 44), (some (42, false)), (.p (.load false 1 (.t 43)))⟩, ⟨(some 45), (some (38, true)), (.p (.pick (.t 42) (.c (.bool true)) (.t 44)))⟩, ⟨(some 46), none, (.p (.pick (.t 38) (.t 45) (.c (.bool false))))⟩, ⟨(some 47), none, (.p (.mov (.t 46)))⟩, ⟨(some 48), (some (47, false)), (.p (.fieldA 0 0 (.t 6)))⟩, ⟨(some 49), (some (47, false)), (.p (.load false 1 (.t 48)))⟩, ⟨(some 50), (some (47, false)), (.p (.bin 0 .lss (.t 49) (.c (.int .i64 (-1)))))⟩, ⟨(some 51), none, (.p (.pick (.t 47) (.c (.bool true)) (.t 50)))⟩, ⟨(some 52), none, (.p (.mov (.t 51)))⟩, ⟨(some 53), (some (52, false)), (.p (.fieldA 0 0 (.t 6)))⟩, ⟨(some 54), (some (52, false)), (.p (.load false 1 (.t 53)))⟩, ⟨(some 55), (some (52, false)), (.p (.fieldA 0 0 (.t 1)))⟩, ⟨(some 56), (some (52, false)), (.p (.load false 1 (.t 55)))⟩, ⟨(some 57), (some (52, false)), (.p (.len (.t 56)))⟩, ⟨(some 58), (some (52, false)), (.p (.bin 0 .geq (.t 54) (.t 57)))⟩, ⟨(some 59), none, (.p (.pick (.t 52) (.c (.bool true)) (.t 58)))⟩, ⟨(some 60), none, (.p (.mov (.t 59)))⟩, ⟨(some 61), (some (60, false)), (.p (.fieldA 0 0 (.t 6)))⟩, ⟨(some 62), (some (60, false)), (.p (.load false 1 (.t 61)))⟩, ⟨(some 63), (some (60, false)), (.p (.bin 0 .geq (.t 62) (.c (.int .i64 0))))⟩, ⟨(some 64), (some (60, false)), (.p (.mov (.t 63)))⟩, ⟨(some 65), (some (64, true)), (.p (.fieldA 1 1 (.t 6)))⟩, ⟨(some 66), (some (64, true)), (.p (.load false 1 (.t 65)))⟩, ⟨(some 67), (some (64, true)), (.p (.bin 0 .lss (.t 66) (.c (.int .i64 0))))⟩, ⟨(some 68), (some (64, true)), (.p (.mov (.t 67)))⟩, ⟨(some 69), (some (68, false)), (.p (.fieldA 1 1 (.t 6)))⟩, ⟨(some 70), (some (68, false)), (.p (.load false 1 (.t 69)))⟩, ⟨(some 71), (some (68, false)), (.p (.fieldA 0 0 (.t 1)))⟩, ⟨(some 72), (some (68, false)), (.p (.load false 1 (.t 71)))⟩, ⟨(some 73), (some (68, false)), (.p (.fieldA 0 0 (.t 6)))⟩, ⟨(some 74), (some (68, false)), (.p (.load false 1 (.t 73)))⟩, ⟨(some 75), (some (68, false)), (.p (.idxA 1 (.t 72) (.t 74)))⟩, ⟨(some 76), (some (68, false)), (.p (.load false 1 (.t 75)))⟩, ⟨(some 77), (some (68, false)), (.p (.len (.t 76)))⟩, ⟨(some 78), (some (68, false)), (.p (.bin 0 .gtr (.t 70) (.t 77)))⟩, ⟨(some 79), (some (64, true)), (.p (.pick (.t 68) (.c (.bool true)) (.t 78)))⟩, ⟨(some 80), (some (60, false)), (.p (.pick (.t 64) (.t 79) (.c (.bool false))))⟩, ⟨(some 81), none, (.p (.pick (.t 60) (.c (.bool true)) (.t 80)))⟩] [[], [0], [0, 1], [0, 1, 2], [0, 1, 2, 3], [0, 1, 2, 3, 4], [0, 1, 2, 3, 4, 5], [0, 1, 2, 3, 4, 5, 6], [0, 1, 2, 3, 4, 5, 6, 7], [0, 1, 2, 3, 4, 5, 6, 7, 8], [0, 1, 2, 3, 4, 5, 6, 7, 8, 9], [0, 1, 2, 3, 4, 5, 6, 7, 8, 9, 10], [0, 1, 2, 3, 4, 5, 6, 7, 8, 9, 10, 11], [0, 1, 2, 3, 4, 5, 6, 7, 8, 9, 10, 11, 12], [0, 1, 2, 3, 4, 5, 6, 7, 8, 9, 10, 11, 12, 13], [0, 1, 2, 3, 4, 5, 6, 7, 8, 9, 10, 11, 12, 13, 14], [0, 1, 2, 3, 4, 5, 6, 7, 8, 9, 10, 11, 12, 13, 14, 15], [0, 1, 2, 3, 4, 5, 6, 7, 8, 9, 10, 11, 12, 13, 14, 15, 16], [0, 1, 2, 3, 4, 5, 6, 7, 8, 9, 10, 11, 12, 13, 14, 15, 16, 17], [0, 1, 2, 3, 4, 5, 6, 7, 8, 9, 10, 11, 12, 13, 14, 15, 16, 17, 18], [0, 1, 2, 3, 4, 5, 6, 7, 8, 9, 10, 11, 12, 13, 14, 15, 16, 17], [0, 1, 2, 3, 4, 5, 6, 7, 8, 9, 10, 11, 12, 13, 14, 15, 16, 17, 20], [0, 1, 2, 3, 4, 5, 6, 7, 8, 9, 10, 11, 12, 13, 14, 15, 16, 17, 20, 21], [0, 1, 2, 3, 4, 5, 6, 7, 8, 9, 10, 11, 12, 13, 14, 15, 16, 17, 18, 19, 20, 21, 22], [0, 1, 2, 3, 4, 5, 6, 7, 8, 9, 10, 11, 12, 13, 14, 15, 16, 17, 18, 19, 20, 21, 22, 23], [0, 1, 2, 3, 4, 5, 6, 7, 8, 9, 10, 11, 12, 13, 14, 15, 16, 17, 18, 19, 20, 21, 22, 23, 24], [0, 1, 2, 3, 4, 5, 6, 7, 8, 9, 10, 11, 12, 13, 14, 15, 16, 17, 18, 19, 20, 21, 22, 23, 24, 25], [0, 1, 2, 3, 4, 5, 6, 7, 8, 9, 10, 11, 12, 13, 14, 15, 16, 17, 18, 19, 20, 21, 22, 23, 24, 25, 26], [0, 1, 2, 3, 4, 5, 6, 7, 8, 9, 10, 11, 12, 13, 14, 15, 16, 17, 18, 19, 20, 21, 22, 23, 24, 25, 26, 27], [0, 1, 2, 3, 4, 5, 6, 7, 8, 9, 10, 11, 12, 13, 14, 15, 16, 17, 18, 19, 20, 21, 22, 23, 24, 25, 26, 27, 28], [0, 1, 2, 3, 4, 5, 6, 7, 8, 9, 10, 11, 12, 13, 14, 15, 16, 17, 18, 19, 20, 21, 22, 23, 24, 25, 26, 27, 28, 29], [0, 1, 2, 3, 4, 5, 6, 7, 8, 9, 10, 11, 12, 13, 14, 15, 16, 17, 18, 19, 20, 21, 22, 23, 24, 25, 26, 27, 28, 29, 30], [0, 1, 2, 3, 4, 5, 6, 7, 8, 9, 10, 11, 12, 13, 14, 15, 16, 17, 18, 19, 20, 21, 22, 23, 24, 25, 26, 27, 28, 29, 30, 31], [0, 1, 2, 3, 4, 5, 6, 7, 8, 9, 10, 11, 12, 13, 14, 15, 16, 17, 18, 19, 20, 21, 22, 23, 24, 25, 26, 27, 28, 29, 30, 31, 32], [0, 1, 2, 3, 4, 5, 6, 7, 8, 9, 10, 11, 12, 13, 14, 15, 16, 17, 18, 19, 20, 21, 22, 23, 24, 25, 26, 27, 28, 29, 30, 31, 32, 33], [0, 1, 2, 3, 4, 5, 6, 7, 8, 9, 10, 11, 12, 13, 14, 15, 16, 17, 18, 19, 20, 21, 22, 23, 24, 25, 26, 27, 28, 29, 30, 31, 32, 33, 34], [0, 1, 2, 3, 4, 5, 6, 7, 8, 9, 10, 11, 12, 13, 14, 15, 16, 17, 18, 19, 20, 21, 22, 23, 24, 25, 26, 27, 28, 29, 30, 31, 32, 33], [0, 1, 2, 3, 4, 5, 6, 7, 8, 9, 10, 11, 12, 13, 14, 15, 16, 17, 18, 19, 20, 21, 22, 23, 24, 25, 26, 27, 28, 29, 30, 31, 32, 33, 36], [0, 1, 2, 3, 4, 5, 6, 7, 8, 9, 10, 11, 12, 13, 14, 15, 16, 17, 18, 19, 20, 21, 22, 23, 24, 25, 26, 27, 28, 29, 30, 31, 32, 33], [0, 1, 2, 3, 4, 5, 6, 7, 8, 9, 10, 11, 12, 13, 14, 15, 16, 17, 18, 19, 20, 21, 22, 23, 24, 25, 26, 27, 28, 29, 30, 31, 32, 33, 38], [0, 1, 2, 3, 4, 5, 6, 7, 8, 9, 10, 11, 12, 13, 14, 15, 16, 17, 18, 19, 20, 21, 22, 23, 24, 25, 26, 27, 28, 29, 30, 31, 32, 33, 36, 37, 38, 39], [0, 1, 2, 3, 4, 5, 6, 7, 8, 9, 10, 11, 12, 13, 14, 15, 16, 17, 18, 19, 20, 21, 22, 23, 24, 25, 26, 27, 28, 29, 30, 31, 32, 33, 36, 37, 38, 39, 40], [0, 1, 2, 3, 4, 5, 6, 7, 8, 9, 10, 11, 12, 13, 14, 15, 16, 17, 18, 19, 20, 21, 22, 23, 24, 25, 26, 27, 28, 29, 30, 31, 32, 33, 36, 37, 38, 39, 40, 41], [0, 1, 2, 3, 4, 5, 6, 7, 8, 9, 10, 11, 12, 13, 14, 15, 16, 17, 18, 19, 20, 21, 22, 23, 24, 25, 26, 27, 28, 29, 30, 31, 32, 33, 34, 35, 36, 37, 38, 39, 40, 41, 42], [0, 1, 2, 3, 4, 5, 6, 7, 8, 9, 10, 11, 12, 13, 14, 15, 16, 17, 18, 19, 20, 21, 22, 23, 24, 25, 26, 27, 28, 29, 30, 31, 32, 33, 34, 35, 36, 37, 38, 39, 40, 41, 42, 43], [0, 1, 2, 3, 4, 5, 6, 7, 8, 9, 10, 11, 12, 13, 14, 15, 16, 17, 18, 19, 20, 21, 22, 23, 24, 25, 26, 27, 28, 29, 30, 31, 32, 33, 34, 35, 36, 37, 38, 39, 40, 41, 42, 43, 44], [0, 1, 2, 3, 4, 5, 6, 7, 8, 9, 10, 11, 12, 13, 14, 15, 16, 17, 18, 19, 20, 21, 22, 23, 24, 25, 26, 27, 28, 29, 30, 31, 32, 33, 34, 35, 36, 37, 38, 39, 40, 41, 42, 43, 44, 45]])
 (.cond (.t 81) (.seq (.reg [⟨(some 2), none, (.p (.mov (.c (.bool false))))⟩])
 (.ret)) (.skip)))))
 (.reg [⟨(some 82), none, (.p (.bin 0 .add (.t 31) (.c (.int .i64 1))))⟩, ⟨(some 31), none, (.p (.mov (.t 82)))⟩])))))))
 (.seq (.reg [⟨(some 2), none, (.p (.mov (.c (.bool true))))⟩])
 (.ret)))))
theorem m_rvalf_ok : compF Try.prog 16 = some (83, m_rvalf, [.mov (.t 2)]) := by kernel_rfl
/-- Whether files are valid. -/
noncomputable def valF (f : Files) : Bool := @decide (FitF f) (Classical.propDecidable _)
theorem valF_T {f : Files} (h : FitF f) : valF f = true := by unfold valF; exact @decide_eq_true _ (Classical.propDecidable _) h
theorem valF_F {f : Files} (h : ¬ FitF f) : valF f = false := by unfold valF; exact @decide_eq_false _ (Classical.propDecidable _) h
theorem cellsB_F {f : Files} {k : Nat} (hk : k < f.data.length) (h : cellsB f.data[k]! 64 = false) : ¬ FitF f := fun F => by
  have h1 := F.len _ (mem_at hk)
  have h2 := F.cell _ (mem_at hk)
  unfold cellsB at h
  rw [h2, decT (by omega)] at h
  exact absurd h (by decide)
theorem okO_F {f : Files} {i : Nat} (hi : i < f.opens.length) (h : ¬ okO f f.opens[i]!) : ¬ FitF f := fun F => h (F.ok _ (mem_at hi))
set_option maxHeartbeats 16000000 in
theorem rvalf_fn (f : Files) : Fnc Try.prog 16 [filV f] (fun x obs => x = .bool (valF f) ∧ obs = []) := by
  refine Fnc.wf fun hw => ?_
  have hm : ∀ k, k < f.data.length → f.data[k]!.length ≤ 140737488355328 := fun k hk => by
    have := hw.1
    simp only [V.wf, V.wfs, wfs_map] at this
    have := this.1.1 _ (mem_at hk)
    simp only [slV', V.wf, List.length_map] at this
    exact this.2
  simp only [V.wfs, V.wf, List.length_map] at hw
  have m1 := hw.1.1.2
  have m2 := hw.1.2.1.2
  clear hw
  by_cases hl : f.data.length ≤ 4
  · by_cases ho : f.opens.length = 8
    · skip
      refine Fnc.intro m_rvalf_ok (by simp) fun W S => ?_
      unfold m_rvalf
      simp only [ents, Nat.zero_add, Nat.reduceAdd]
      refine zst ?_
      refine ev_loopK [1, 18, 19] (fun p : {p : Nat // p ≤ f.data.length ∧ ∀ j, j < p → cellsB f.data[j]! 64 = true} => [(20, .int .i64 p.1)]) (fun _ => [⟨.box false 26, true, 0, filV f⟩]) (fun p => f.data.length - p.1) (⟨0, by simp⟩) 1 (by simp only [go_sem]; rfl) ?_ (by first | rfl | (simp only [go_sem]; done)) (by simp) (by first | rfl | (simp only [go_sem]; done)) (by first | rfl | (simp only [go_sem]; done)) (by first | rfl | (simp only [go_sem]; done)) ?_
      · (simp only [go_sem]; (try simp []); done)
      intro J hJ
      rintro ⟨k, hk0, hk1⟩
      by_cases hlt : k < f.data.length
      · have h3 := hm k hlt
        have fc := rcels_fn f.data[k]! 64
        by_cases e : cellsB f.data[k]! 64 = true
        · rw [e] at fc
          have hS : ∀ j, j < k + 1 → cellsB f.data[j]! 64 = true := fun j hj => by
            by_cases e' : j = k
            · subst e'; exact e
            · exact hk1 j (by omega)
          refine zst ?_
          (first | refine callD (fc) ?_ | refine callDw (fc) ?_); simp only [go_sem]
          refine zst ?_
          refine ev_next 1 (hJ _ (⟨k + 1, hlt, hS⟩) (by first | omega | (dsimp only; omega) | (simp; omega))) rfl (by simp) ?_ (by first | rfl | (simp only [go_sem]; done)) (by first | rfl | (simp only [go_sem]; done) | (simp only [hlt]; (try simp only [go_sem]); first | done | rfl)) ?_
          · (first | rfl | (simp only [go_sem]; done) | (simp only [go_sem]; simp only [hlt]; done) | (simp only [hlt]; done) | (simp only [go_sem]; simp [hlt]; done) | (simp [hlt]; done))
          · (simp only [go_sem]; (repeat' (refine And.intro ?_ ?_)) <;> first | exact trivial | with_reducible rfl | (simp only [hlt]; done) | (simp only [hlt]; with_reducible rfl) | (simp [hlt]; done) | (simp [hlt]; omega) | (simp only [hlt]; rfl) | skip)
        · rw [Bool.not_eq_true] at e
          rw [e] at fc
          rw [valF_F (cellsB_F hlt e)]
          refine zst ?_
          (first | refine callD (fc) ?_ | refine callDw (fc) ?_); simp only [go_sem]
          refine zst ?_
          refine ret m_rvalf_ok [] ?_; (first | (simp only [go_sem]; done) | (simp only [go_sem]; ((try dsimp only); (repeat' (refine And.intro ?_ ?_)) <;> first | with_reducible rfl | (simp only [go_sem]; done) | (simp only [go_sem]; rfl) | (simp only []; (try simp only [go_sem]); first | done | rfl) | (simp only [go_sem]; simp []; done) | (simp []; done) | rfl)))
      · obtain rfl : k = f.data.length := by omega
        refine zst ?_
        refine ev_loopK [1, 29, 30] (fun p : {p : Nat // p ≤ 8 ∧ ∀ j, j < p → okO f f.opens[j]!} => [(31, .int .i64 p.1)]) (fun _ => [⟨.box false 26, true, 0, filV f⟩]) (fun p => 8 - p.1) (⟨0, by simp⟩) 1 (by simp only [go_sem]; rfl) ?_ (by first | rfl | (simp only [go_sem]; done)) (by simp) (by first | rfl | (simp only [go_sem]; done)) (by first | rfl | (simp only [go_sem]; done)) (by first | rfl | (simp only [go_sem]; done)) ?_
        · (simp only [go_sem]; (try simp []); done)
        intro J hJ
        rintro ⟨i, hi0, hi1⟩
        by_cases hlt2 : i < 8
        · have hS (h : okO f f.opens[i]!) : ∀ j, j < i + 1 → okO f f.opens[j]! := fun j hj => by
            by_cases e' : j = i
            · subst e'; exact h
            · exact hi1 j (by omega)
          have hF := fun h => okO_F (f := f) (i := i) (by omega) h
          generalize ho' : f.opens[i]! = o at hS hF
          by_cases c1 : o.file = -1
          · by_cases c2 : o.offset = 0
            · cases c3 : o.write
              · have hS := hS (.inl ⟨c1, c2, c3⟩)
                repeat (first | (simp only [ho', c3]; try simp only [go_sem]) | refine And.intro (by omega) ?_ | refine And.intro rfl ?_ | refine ev_ctl rfl rfl ?_ | refine evr_nil ?_ | refine evw_nil (by kernel_rfl) ?_ | (simp (disch := omega) only [takeAll, Nat.min_eq_left, Nat.min_eq_right, if_pos, if_neg, getD_map, wrapI64, modIn, fdivE, tmodE, tdivE, decT, decF, beqT, beqF, bneT, bneF, Int.toNat_natCast]; try simp only [go_sem]) | (refine ev_condTb rfl ?_ ?_; · (simp <;> omega)) | (refine ev_condFb rfl ?_ ?_; · (simp <;> omega)) | ((first | refine ev_region ?_ | refine evr_go rfl ?_ | refine evw_go rfl ?_ | refine ev_dr0 mixed rfl (by kernel_rfl) ?_ | refine ev_dr1 mixed rfl (by kernel_rfl) ?_ | refine ev_dr2 mixed rfl (by kernel_rfl) ?_); simp only [go_sem]))
                refine ev_next 1 (hJ _ (⟨i + 1, hlt2, hS⟩) (by first | omega | (dsimp only; omega) | (simp; omega))) rfl (by simp) ?_ (by first | rfl | (simp only [go_sem]; done)) (by first | rfl | (simp only [go_sem]; done) | (simp only [hlt2]; (try simp only [go_sem]); first | done | rfl)) ?_
                · (first | rfl | (simp only [go_sem]; done) | (simp only [go_sem]; simp only [hlt2]; done) | (simp only [hlt2]; done) | (simp only [go_sem]; simp [hlt2]; done) | (simp [hlt2]; done))
                · (simp only [go_sem]; (repeat' (refine And.intro ?_ ?_)) <;> first | exact trivial | with_reducible rfl | (simp only [hlt2]; done) | (simp only [hlt2]; with_reducible rfl) | (simp [hlt2]; done) | (simp [hlt2]; omega) | (simp only [hlt2]; rfl) | skip)
              · rw [valF_F (hF fun h => by
                  rcases h with h | h
                  · rw [c3] at h; exact absurd h.2.2 (by decide)
                  · omega)]
                repeat (first | (simp only [ho', c3]; try simp only [go_sem]) | refine And.intro (by omega) ?_ | refine And.intro rfl ?_ | refine ev_ctl rfl rfl ?_ | refine evr_nil ?_ | refine evw_nil (by kernel_rfl) ?_ | (simp (disch := omega) only [takeAll, Nat.min_eq_left, Nat.min_eq_right, if_pos, if_neg, getD_map, wrapI64, modIn, fdivE, tmodE, tdivE, decT, decF, beqT, beqF, bneT, bneF, Int.toNat_natCast]; try simp only [go_sem]) | (refine ev_condTb rfl ?_ ?_; · (simp <;> omega)) | (refine ev_condFb rfl ?_ ?_; · (simp <;> omega)) | ((first | refine ev_region ?_ | refine evr_go rfl ?_ | refine evw_go rfl ?_ | refine ev_dr0 mixed rfl (by kernel_rfl) ?_ | refine ev_dr1 mixed rfl (by kernel_rfl) ?_ | refine ev_dr2 mixed rfl (by kernel_rfl) ?_); simp only [go_sem]))
                refine ret m_rvalf_ok [] ?_; (first | (simp only [go_sem]; done) | (simp only [go_sem]; ((try dsimp only); (repeat' (refine And.intro ?_ ?_)) <;> first | with_reducible rfl | (simp only [go_sem]; done) | (simp only [go_sem]; rfl) | (simp only []; (try simp only [go_sem]); first | done | rfl) | (simp only [go_sem]; simp []; done) | (simp []; done) | rfl)))
            · rw [valF_F (hF fun h => by rcases h with h | h <;> omega)]
              repeat (first | (simp only [ho']; try simp only [go_sem]) | refine And.intro (by omega) ?_ | refine And.intro rfl ?_ | refine ev_ctl rfl rfl ?_ | refine evr_nil ?_ | refine evw_nil (by kernel_rfl) ?_ | (simp (disch := omega) only [takeAll, Nat.min_eq_left, Nat.min_eq_right, if_pos, if_neg, getD_map, wrapI64, modIn, fdivE, tmodE, tdivE, decT, decF, beqT, beqF, bneT, bneF, Int.toNat_natCast]; try simp only [go_sem]) | (refine ev_condTb rfl ?_ ?_; · (simp <;> omega)) | (refine ev_condFb rfl ?_ ?_; · (simp <;> omega)) | ((first | refine ev_region ?_ | refine evr_go rfl ?_ | refine evw_go rfl ?_ | refine ev_dr0 mixed rfl (by kernel_rfl) ?_ | refine ev_dr1 mixed rfl (by kernel_rfl) ?_ | refine ev_dr2 mixed rfl (by kernel_rfl) ?_); simp only [go_sem]))
              refine ret m_rvalf_ok [] ?_; (first | (simp only [go_sem]; done) | (simp only [go_sem]; ((try dsimp only); (repeat' (refine And.intro ?_ ?_)) <;> first | with_reducible rfl | (simp only [go_sem]; done) | (simp only [go_sem]; rfl) | (simp only []; (try simp only [go_sem]); first | done | rfl) | (simp only [go_sem]; simp []; done) | (simp []; done) | rfl)))
          by_cases c2 : o.file < -1
          · rw [valF_F (hF fun h => by rcases h with h | h <;> omega)]
            repeat (first | (simp only [ho']; try simp only [go_sem]) | refine And.intro (by omega) ?_ | refine And.intro rfl ?_ | refine ev_ctl rfl rfl ?_ | refine evr_nil ?_ | refine evw_nil (by kernel_rfl) ?_ | (simp (disch := omega) only [takeAll, Nat.min_eq_left, Nat.min_eq_right, if_pos, if_neg, getD_map, wrapI64, modIn, fdivE, tmodE, tdivE, decT, decF, beqT, beqF, bneT, bneF, Int.toNat_natCast]; try simp only [go_sem]) | (refine ev_condTb rfl ?_ ?_; · (simp <;> omega)) | (refine ev_condFb rfl ?_ ?_; · (simp <;> omega)) | ((first | refine ev_region ?_ | refine evr_go rfl ?_ | refine evw_go rfl ?_ | refine ev_dr0 mixed rfl (by kernel_rfl) ?_ | refine ev_dr1 mixed rfl (by kernel_rfl) ?_ | refine ev_dr2 mixed rfl (by kernel_rfl) ?_); simp only [go_sem]))
            refine ret m_rvalf_ok [] ?_; (first | (simp only [go_sem]; done) | (simp only [go_sem]; ((try dsimp only); (repeat' (refine And.intro ?_ ?_)) <;> first | with_reducible rfl | (simp only [go_sem]; done) | (simp only [go_sem]; rfl) | (simp only []; (try simp only [go_sem]); first | done | rfl) | (simp only [go_sem]; simp []; done) | (simp []; done) | rfl)))
          by_cases c3 : f.data.length ≤ o.file
          · rw [valF_F (hF fun h => by rcases h with h | h <;> omega)]
            repeat (first | (simp only [ho']; try simp only [go_sem]) | refine And.intro (by omega) ?_ | refine And.intro rfl ?_ | refine ev_ctl rfl rfl ?_ | refine evr_nil ?_ | refine evw_nil (by kernel_rfl) ?_ | (simp (disch := omega) only [takeAll, Nat.min_eq_left, Nat.min_eq_right, if_pos, if_neg, getD_map, wrapI64, modIn, fdivE, tmodE, tdivE, decT, decF, beqT, beqF, bneT, bneF, Int.toNat_natCast]; try simp only [go_sem]) | (refine ev_condTb rfl ?_ ?_; · (simp <;> omega)) | (refine ev_condFb rfl ?_ ?_; · (simp <;> omega)) | ((first | refine ev_region ?_ | refine evr_go rfl ?_ | refine evw_go rfl ?_ | refine ev_dr0 mixed rfl (by kernel_rfl) ?_ | refine ev_dr1 mixed rfl (by kernel_rfl) ?_ | refine ev_dr2 mixed rfl (by kernel_rfl) ?_); simp only [go_sem]))
            refine ret m_rvalf_ok [] ?_; (first | (simp only [go_sem]; done) | (simp only [go_sem]; ((try dsimp only); (repeat' (refine And.intro ?_ ?_)) <;> first | with_reducible rfl | (simp only [go_sem]; done) | (simp only [go_sem]; rfl) | (simp only []; (try simp only [go_sem]); first | done | rfl) | (simp only [go_sem]; simp []; done) | (simp []; done) | rfl)))
          by_cases c4 : o.offset < 0
          · rw [valF_F (hF fun h => by rcases h with h | h <;> omega)]
            repeat (first | (simp only [ho']; try simp only [go_sem]) | refine And.intro (by omega) ?_ | refine And.intro rfl ?_ | refine ev_ctl rfl rfl ?_ | refine evr_nil ?_ | refine evw_nil (by kernel_rfl) ?_ | (simp (disch := omega) only [takeAll, Nat.min_eq_left, Nat.min_eq_right, if_pos, if_neg, getD_map, wrapI64, modIn, fdivE, tmodE, tdivE, decT, decF, beqT, beqF, bneT, bneF, Int.toNat_natCast]; try simp only [go_sem]) | (refine ev_condTb rfl ?_ ?_; · (simp <;> omega)) | (refine ev_condFb rfl ?_ ?_; · (simp <;> omega)) | ((first | refine ev_region ?_ | refine evr_go rfl ?_ | refine evw_go rfl ?_ | refine ev_dr0 mixed rfl (by kernel_rfl) ?_ | refine ev_dr1 mixed rfl (by kernel_rfl) ?_ | refine ev_dr2 mixed rfl (by kernel_rfl) ?_); simp only [go_sem]))
            refine ret m_rvalf_ok [] ?_; (first | (simp only [go_sem]; done) | (simp only [go_sem]; ((try dsimp only); (repeat' (refine And.intro ?_ ?_)) <;> first | with_reducible rfl | (simp only [go_sem]; done) | (simp only [go_sem]; rfl) | (simp only []; (try simp only [go_sem]); first | done | rfl) | (simp only [go_sem]; simp []; done) | (simp []; done) | rfl)))
          by_cases c5 : o.offset ≤ f.data[o.file.toNat]!.length
          · have hS := hS (.inr ⟨by omega, by omega, by omega, c5⟩)
            repeat (first | (simp only [ho']; try simp only [go_sem]) | refine And.intro (by omega) ?_ | refine And.intro rfl ?_ | refine ev_ctl rfl rfl ?_ | refine evr_nil ?_ | refine evw_nil (by kernel_rfl) ?_ | (simp (disch := omega) only [takeAll, Nat.min_eq_left, Nat.min_eq_right, if_pos, if_neg, getD_map, wrapI64, modIn, fdivE, tmodE, tdivE, decT, decF, beqT, beqF, bneT, bneF, Int.toNat_natCast]; try simp only [go_sem]) | (refine ev_condTb rfl ?_ ?_; · (simp <;> omega)) | (refine ev_condFb rfl ?_ ?_; · (simp <;> omega)) | ((first | refine ev_region ?_ | refine evr_go rfl ?_ | refine evw_go rfl ?_ | refine ev_dr0 mixed rfl (by kernel_rfl) ?_ | refine ev_dr1 mixed rfl (by kernel_rfl) ?_ | refine ev_dr2 mixed rfl (by kernel_rfl) ?_); simp only [go_sem]))
            refine ev_next 1 (hJ _ (⟨i + 1, hlt2, hS⟩) (by first | omega | (dsimp only; omega) | (simp; omega))) rfl (by simp) ?_ (by first | rfl | (simp only [go_sem]; done)) (by first | rfl | (simp only [go_sem]; done) | (simp only [hlt2]; (try simp only [go_sem]); first | done | rfl)) ?_
            · (first | rfl | (simp only [go_sem]; done) | (simp only [go_sem]; simp only [hlt2]; done) | (simp only [hlt2]; done) | (simp only [go_sem]; simp [hlt2]; done) | (simp [hlt2]; done))
            · (simp only [go_sem]; (repeat' (refine And.intro ?_ ?_)) <;> first | exact trivial | with_reducible rfl | (simp only [hlt2]; done) | (simp only [hlt2]; with_reducible rfl) | (simp [hlt2]; done) | (simp [hlt2]; omega) | (simp only [hlt2]; rfl) | skip)
          · rw [valF_F (hF fun h => by rcases h with h | h <;> omega)]
            repeat (first | (simp only [ho']; try simp only [go_sem]) | refine And.intro (by omega) ?_ | refine And.intro rfl ?_ | refine ev_ctl rfl rfl ?_ | refine evr_nil ?_ | refine evw_nil (by kernel_rfl) ?_ | (simp (disch := omega) only [takeAll, Nat.min_eq_left, Nat.min_eq_right, if_pos, if_neg, getD_map, wrapI64, modIn, fdivE, tmodE, tdivE, decT, decF, beqT, beqF, bneT, bneF, Int.toNat_natCast]; try simp only [go_sem]) | (refine ev_condTb rfl ?_ ?_; · (simp <;> omega)) | (refine ev_condFb rfl ?_ ?_; · (simp <;> omega)) | ((first | refine ev_region ?_ | refine evr_go rfl ?_ | refine evw_go rfl ?_ | refine ev_dr0 mixed rfl (by kernel_rfl) ?_ | refine ev_dr1 mixed rfl (by kernel_rfl) ?_ | refine ev_dr2 mixed rfl (by kernel_rfl) ?_); simp only [go_sem]))
            refine ret m_rvalf_ok [] ?_; (first | (simp only [go_sem]; done) | (simp only [go_sem]; ((try dsimp only); (repeat' (refine And.intro ?_ ?_)) <;> first | with_reducible rfl | (simp only [go_sem]; done) | (simp only [go_sem]; rfl) | (simp only []; (try simp only [go_sem]); first | done | rfl) | (simp only [go_sem]; simp []; done) | (simp []; done) | rfl)))
        · rw [valF_T ⟨hl, ho, fun x hx => by
            obtain ⟨j, hj, rfl⟩ := at_mem hx
            have := hk1 j hj; unfold cellsB at this; simp only [Bool.and_eq_true, decide_eq_true_eq] at this; omega, fun x hx => by
            obtain ⟨j, hj, rfl⟩ := at_mem hx
            have := hk1 j hj; unfold cellsB at this; simp only [Bool.and_eq_true] at this; exact this.1, fun o h => by
            obtain ⟨j, hj, rfl⟩ := at_mem h
            exact hi1 j (by omega)⟩]
          refine zst ?_
          refine ret m_rvalf_ok [] ?_; (first | (simp only [go_sem]; done) | (simp only [go_sem]; ((try dsimp only); (repeat' (refine And.intro ?_ ?_)) <;> first | with_reducible rfl | (simp only [go_sem]; done) | (simp only [go_sem]; rfl) | (simp only []; (try simp only [go_sem]); first | done | rfl) | (simp only [go_sem]; simp []; done) | (simp []; done) | rfl)))
    · rw [valF_F fun F => ho F.o]
      refine Fnc.intro m_rvalf_ok (by simp) fun W S => ?_
      unfold m_rvalf
      simp only [ents, Nat.zero_add, Nat.reduceAdd]
      refine zst ?_
      refine ret m_rvalf_ok [] ?_; (first | (simp only [go_sem]; done) | (simp only [go_sem]; ((try dsimp only); (repeat' (refine And.intro ?_ ?_)) <;> first | with_reducible rfl | (simp only [go_sem]; done) | (simp only [go_sem]; rfl) | (simp only []; (try simp only [go_sem]); first | done | rfl) | (simp only [go_sem]; simp []; done) | (simp []; done) | rfl)))
  · rw [valF_F fun F => hl F.d]
    refine Fnc.intro m_rvalf_ok (by simp) fun W S => ?_
    unfold m_rvalf
    simp only [ents, Nat.zero_add, Nat.reduceAdd]
    refine zst ?_
    refine ret m_rvalf_ok [] ?_; (first | (simp only [go_sem]; done) | (simp only [go_sem]; ((try dsimp only); (repeat' (refine And.intro ?_ ?_)) <;> first | with_reducible rfl | (simp only [go_sem]; done) | (simp only [go_sem]; rfl) | (simp only []; (try simp only [go_sem]); first | done | rfl) | (simp only [go_sem]; simp []; done) | (simp []; done) | rfl)))
end Go.Proofs.Ytanmcjkpdkmhfaa
/- Files: reading in two parts (FileParts). -/
namespace Go.Proofs.Ytanmcjkpdkmhfaa
open Go Go.RowKit Rdn Rdn.Dp
set_option linter.unusedVariables false
set_option linter.unusedSimpArgs false
def m_fpa : MC := .seq (.reg [⟨(some 8), none, (.p (.mov (.c (.bool false))))⟩])
 (.seq (.reg [⟨(some 19), none, (.p (.mov (.t 0)))⟩, ⟨(some 20), none, (.call 9 [(.t 19)])⟩, ⟨(some 21), none, (.call 8 [(.t 20)])⟩, ⟨(some 9), none, (.m (.alloc 26 (.agg [.nilS, .nilS])))⟩, ⟨none, none, (.m (.store 2 (.t 9) (.t 21)))⟩])
 (.seq (.reg [⟨(some 22), none, (.p (.mov (.t 1)))⟩, ⟨(some 23), none, (.call 10 [(.t 22), (.c (.int .i64 5))])⟩, ⟨(some 24), none, (.p (.mov (.t 2)))⟩, ⟨(some 25), none, (.call 10 [(.t 24), (.c (.int .i64 6))])⟩, ⟨(some 26), none, (.p (.mov (.t 3)))⟩, ⟨(some 27), none, (.call 10 [(.t 26), (.c (.int .i64 6))])⟩, ⟨(some 1), none, (.p (.mov (.t 23)))⟩, ⟨(some 2), none, (.p (.mov (.t 25)))⟩, ⟨(some 3), none, (.p (.mov (.t 27)))⟩])
 (.seq (.reg [⟨(some 29), none, (.p (.load true 2 (.t 9)))⟩, ⟨(some 30), none, (.p (.mov (.t 1)))⟩, ⟨(some 31), none, (.p (.mov (.t 2)))⟩, ⟨(some 32), none, (.call 14 [(.t 29), (.t 30), (.t 31)])⟩, ⟨(some 28), none, (.p (.mov (.t 32)))⟩, ⟨(some 33), none, (.p (.ext (.t 28) 0))⟩, ⟨(some 34), none, (.p (.ext (.t 28) 1))⟩, ⟨(some 35), none, (.p (.ext (.t 28) 2))⟩, ⟨(some 10), none, (.m (.alloc 26 (.agg [.nilS, .nilS])))⟩, ⟨none, none, (.m (.store 2 (.t 10) (.t 33)))⟩, ⟨(some 11), none, (.p (.mov (.t 34)))⟩, ⟨(some 12), none, (.p (.mov (.t 35)))⟩])
 (.seq (.reg [⟨(some 37), none, (.p (.load true 2 (.t 10)))⟩, ⟨(some 38), none, (.p (.mov (.t 1)))⟩, ⟨(some 39), none, (.p (.mov (.t 3)))⟩, ⟨(some 40), none, (.call 14 [(.t 37), (.t 38), (.t 39)])⟩, ⟨(some 36), none, (.p (.mov (.t 40)))⟩, ⟨(some 41), none, (.p (.ext (.t 36) 0))⟩, ⟨(some 42), none, (.p (.ext (.t 36) 1))⟩, ⟨(some 43), none, (.p (.ext (.t 36) 2))⟩, ⟨(some 13), none, (.m (.alloc 26 (.agg [.nilS, .nilS])))⟩, ⟨none, none, (.m (.store 2 (.t 13) (.t 41)))⟩, ⟨(some 14), none, (.p (.mov (.t 42)))⟩, ⟨(some 15), none, (.p (.mov (.t 43)))⟩])
 (.seq (.reg [⟨(some 45), none, (.p (.load true 2 (.t 9)))⟩, ⟨(some 46), none, (.p (.mov (.t 1)))⟩, ⟨(some 47), none, (.p (.mov (.t 2)))⟩, ⟨(some 48), none, (.p (.mov (.t 3)))⟩, ⟨(some 49), none, (.p (.bin 0 .add (.t 47) (.t 48)))⟩, ⟨(some 50), none, (.call 14 [(.t 45), (.t 46), (.t 49)])⟩, ⟨(some 44), none, (.p (.mov (.t 50)))⟩, ⟨(some 51), none, (.p (.ext (.t 44) 0))⟩, ⟨(some 52), none, (.p (.ext (.t 44) 1))⟩, ⟨(some 53), none, (.p (.ext (.t 44) 2))⟩, ⟨(some 16), none, (.m (.alloc 26 (.agg [.nilS, .nilS])))⟩, ⟨none, none, (.m (.store 2 (.t 16) (.t 51)))⟩, ⟨(some 17), none, (.p (.mov (.t 52)))⟩, ⟨(some 18), none, (.p (.mov (.t 53)))⟩])
 (.seq (.seq (.reg [⟨(some 54), none, (.p (.mov (.t 12)))⟩, ⟨(some 55), none, (.p (.mov (.t 15)))⟩, ⟨(some 56), none, (.p (.bin 1 .neq (.t 54) (.t 55)))⟩, ⟨(some 57), none, (.p (.mov (.t 56)))⟩, ⟨(some 58), (some (57, false)), (.p (.mov (.t 12)))⟩, ⟨(some 59), (some (57, false)), (.p (.mov (.t 18)))⟩, ⟨(some 60), (some (57, false)), (.p (.bin 1 .neq (.t 58) (.t 59)))⟩, ⟨(some 61), none, (.p (.pick (.t 57) (.c (.bool true)) (.t 60)))⟩])
 (.cond (.t 61) (.seq (.reg [⟨(some 8), none, (.p (.mov (.c (.bool false))))⟩])
 (.ret)) (.skip)))
 (.seq (.reg [⟨(some 62), none, (.p (.load true 2 (.t 13)))⟩, ⟨(some 63), none, (.p (.load true 2 (.t 16)))⟩, ⟨(some 64), none, (.call 15 [(.t 62), (.t 63)])⟩, ⟨(some 65), none, (.p (.mov (.t 64)))⟩, ⟨(some 66), (some (65, true)), (.p (.mov (.t 11)))⟩, ⟨(some 67), (some (65, true)), (.m (.app 71 4 24 (.c (.nilS)) (.t 66)))⟩, ⟨(some 68), (some (65, true)), (.p (.mov (.t 14)))⟩, ⟨(some 69), (some (65, true)), (.m (.app 71 4 24 (.t 67) (.t 68)))⟩, ⟨(some 70), (some (65, true)), (.p (.mov (.t 17)))⟩, ⟨(some 71), (some (65, true)), (.call 12 [(.t 69), (.t 70)])⟩, ⟨(some 72), none, (.p (.pick (.t 65) (.t 71) (.c (.bool false))))⟩, ⟨(some 73), none, (.p (.mov (.t 72)))⟩, ⟨(some 74), (some (73, true)), (.p (.mov (.t 11)))⟩, ⟨(some 75), (some (73, true)), (.p (.len (.t 74)))⟩, ⟨(some 76), (some (73, true)), (.p (.mov (.t 2)))⟩, ⟨(some 77), (some (73, true)), (.p (.bin 0 .leq (.t 75) (.t 76)))⟩, ⟨(some 78), none, (.p (.pick (.t 73) (.t 77) (.c (.bool false))))⟩, ⟨(some 79), none, (.p (.mov (.t 78)))⟩, ⟨(some 80), (some (79, true)), (.p (.mov (.t 12)))⟩, ⟨(some 81), (some (79, true)), (.p (.mov (.t 80)))⟩, ⟨(some 82), (some (81, false)), (.p (.load true 2 (.t 16)))⟩, ⟨(some 83), (some (81, false)), (.p (.load true 2 (.t 9)))⟩, ⟨(some 84), (some (81, false)), (.call 15 [(.t 82), (.t 83)])⟩, ⟨(some 85), (some (79, true)), (.p (.pick (.t 81) (.c (.bool true)) (.t 84)))⟩, ⟨(some 86), none, (.p (.pick (.t 79) (.t 85) (.c (.bool false))))⟩, ⟨(some 87), none, (.p (.mov (.t 86)))⟩, ⟨(some 88), (some (87, true)), (.call 13 [])⟩, ⟨(some 89), none, (.p (.pick (.t 87) (.t 88) (.c (.bool false))))⟩, ⟨(some 8), none, (.p (.mov (.t 89)))⟩])
 (.ret))))))))
theorem m_fpa_ok : compF Try.prog 4 = some (90, m_fpa, [.mov (.t 8)]) := by kernel_rfl
theorem read_F {f : Files} {h n : Int} (c : ¬ (opd f h ∧ f.opens[h.toNat]!.write = false)) : sRead f h n = (f, [], false) := by
  unfold sRead
  rw [if_neg fun x => c ⟨x.1, x.2.2⟩]
theorem read_T {f : Files} {h n : Int} (c : opd f h ∧ f.opens[h.toNat]!.write = false) (hn : 0 ≤ n) : sRead f h n = (⟨f.data, setOff f h (f.opens[h.toNat]!.offset + rdn f h n)⟩, ((dat f h).drop f.opens[h.toNat]!.offset.toNat).take (rdn f h n).toNat, true) := by
  unfold sRead
  rw [if_pos ⟨c.1, hn, c.2⟩]
theorem setOff_at {f : Files} {h x : Int} (c : opd f h) : (setOff f h x)[h.toNat]! = ⟨f.opens[h.toNat]!.file, x, f.opens[h.toNat]!.write⟩ := by
  obtain ⟨c1, c2, _⟩ := c
  unfold setOff
  rw [set_at (by omega), if_pos rfl]
theorem setOff_opd {f : Files} {h x : Int} (c : opd f h) : opd ⟨f.data, setOff f h x⟩ h := by
  refine ⟨c.1, ?_, ?_⟩
  · show h < ((setOff f h x).length : Int)
    unfold setOff
    rw [List.length_set]
    exact c.2.1
  · show (setOff f h x)[h.toNat]!.file ≠ -1
    rw [setOff_at c]
    exact c.2.2
theorem setOff_dat {f : Files} {h x : Int} (c : opd f h) : dat ⟨f.data, setOff f h x⟩ h = dat f h := by
  unfold dat
  dsimp only
  rw [setOff_at c]
theorem setOff_two {f : Files} {h x y : Int} (c : opd f h) : setOff ⟨f.data, setOff f h x⟩ h y = setOff f h y := by
  rw [setOff]
  dsimp only
  rw [setOff_at c]
  dsimp only
  unfold setOff
  rw [List.set_set]
theorem take_take_drop {α : Type} (l : List α) (a b c : Nat) : (l.drop a).take b ++ (l.drop (a + b)).take c = (l.drop a).take (b + c) := by
  rw [List.take_add, List.drop_drop]
structure Parts (f a b c : Files) (x y z : List Canon) (ok is whole : Bool) (n k : Int) : Prop where
  bc : b = c
  xy : x ++ y = z
  is : is = ok
  whole : whole = ok
  le : (x.length : Int) ≤ n
  yl : (y.length : Int) ≤ k
  no : ok = false → c = f ∧ x = [] ∧ y = [] ∧ z = []
theorem parts {f : Files} (F : FitF f) {h n k : Int} (hn : 0 ≤ n) (hk : 0 ≤ k) : Parts f (sRead f h n).1 (sRead (sRead f h n).1 h k).1 (sRead f h (n + k)).1 (sRead f h n).2.1 (sRead (sRead f h n).1 h k).2.1 (sRead f h (n + k)).2.1 (sRead f h n).2.2 (sRead (sRead f h n).1 h k).2.2 (sRead f h (n + k)).2.2 n k := by
  by_cases c : opd f h ∧ f.opens[h.toNat]!.write = false
  · obtain ⟨_, _, a1, a2, _⟩ := F.at c.1
    have r0 : 0 ≤ rdn f h n ∧ rdn f h n ≤ n := by unfold rdn; omega
    rw [read_T c hn, read_T c (by omega), read_T (f := ⟨f.data, setOff f h _⟩) ⟨setOff_opd c.1, by dsimp only; rw [setOff_at c.1]; exact c.2⟩ hk]
    dsimp only
    rw [setOff_dat c.1, setOff_two c.1, setOff_at c.1]
    dsimp only
    have e : rdn f h n + rdn ⟨f.data, setOff f h (f.opens[h.toNat]!.offset + rdn f h n)⟩ h k = rdn f h (n + k) := by
      unfold rdn
      rw [setOff_dat c.1]
      dsimp only
      rw [setOff_at c.1]
      dsimp only
      omega
    have r1 : 0 ≤ rdn ⟨f.data, setOff f h (f.opens[h.toNat]!.offset + rdn f h n)⟩ h k ∧ rdn ⟨f.data, setOff f h (f.opens[h.toNat]!.offset + rdn f h n)⟩ h k ≤ k := by
      unfold rdn
      rw [setOff_dat c.1]
      dsimp only
      rw [setOff_at c.1]
      dsimp only
      omega
    refine ⟨by rw [Int.add_assoc, e], ?_, rfl, rfl, ?_, ?_, fun h => absurd h (by decide)⟩
    · rw [← e, Int.toNat_add a1 r0.1, take_take_drop, ← Int.toNat_add r0.1 r1.1]
    · rw [List.length_take]; omega
    · rw [List.length_take]; omega
  · rw [read_F c, read_F c]
    dsimp only
    rw [read_F c]
    exact ⟨rfl, rfl, rfl, rfl, by simpa using hn, by simpa using hk, fun _ => ⟨rfl, rfl, rfl, rfl⟩⟩
attribute [local irreducible] fls sRead
set_option maxHeartbeats 16000000 in
theorem fpa_fn (l : List Int) (h0 n0 k0 : Int) : Fnc Try.prog 4 [.sl false 1 (i64s l), .int .i64 h0, .int .i64 n0, .int .i64 k0] (fun x obs => x = .bool true) := by
  have fo := files_fn l 0 (by omega)
  obtain ⟨F, hk⟩ := fls_fit (l := l) (k := 0) (by omega)
  generalize fls l 0 = q at fo F hk
  obtain ⟨f, kk⟩ := q
  dsimp only at fo F hk
  have g1 := mmod_fn h0 5 (by omega)
  have g2 := mmod_fn n0 6 (by omega)
  have g3 := mmod_fn k0 6 (by omega)
  have b1 := Int.emod_nonneg h0 (b := 5) (by omega)
  have b2 := Int.emod_nonneg n0 (b := 6) (by omega)
  have b3 := Int.emod_nonneg k0 (b := 6) (by omega)
  have b4 := Int.emod_lt_of_pos n0 (b := 6) (by omega)
  have b5 := Int.emod_lt_of_pos k0 (b := 6) (by omega)
  generalize h0 % 5 = h at g1 b1
  generalize n0 % 6 = n at g2 b2 b4
  generalize k0 % 6 = k at g3 b3 b5
  have P := parts F (h := h) b2 b3
  have f1 := wread_fn f F h n
  have f2 := wread_fn _ (F.read h n) h k
  have f3 := wread_fn f F h (n + k)
  generalize sRead f h n = r1 at P f1 f2
  obtain ⟨a, x, ok⟩ := r1
  dsimp only at P f1 f2
  generalize sRead a h k = r2 at P f2
  obtain ⟨b, y, is⟩ := r2
  generalize sRead f h (n + k) = r3 at P f3
  obtain ⟨c, z, whole⟩ := r3
  dsimp only at P f1 f2 f3
  obtain ⟨rfl, rfl, rfl, rfl, hle, hyl, hno⟩ := P
  have f4 := rsamf_fn b b
  rw [decT rfl] at f4
  have f5 := samec_fn (x ++ y) (x ++ y)
  rw [decT rfl] at f5
  rename Bool => ok
  cases ok
  · obtain ⟨rfl, rfl, rfl, _⟩ := hno rfl
    refine Fnc.intro m_fpa_ok (by simp) fun W S => ?_
    unfold m_fpa
    simp only [ents, Nat.zero_add, Nat.reduceAdd]
    refine zst ?_
    (first | refine callX (new_fn l) ?_ | refine callXw (new_fn l) ?_); simp only [go_sem]
    refine zst ?_
    (first | apply st_callMD (fo) rfl | apply evw_callM (fo) rfl)
    · (simp only [go_sem]; rfl)
    · rfl
    · (first | rfl | (simp only [go_sem]; done))
    · (first | rfl | (simp only [go_sem]; done) | (simp only [go_sem]; rfl))
    · (first | rfl | (simp only [go_sem]; done))
    · (first | rfl | (simp only [go_sem]; done) | (simp only [go_sem]; rfl))
    · (first | rfl | simp [V.pureT, V.pure, V.pures, pures_lo, pures_sls])
    (first | refine ev_all (fu := [(), (), (), (), (), (), (), ()]) ?_ | refine evw_all (md := []) (fu := [(), (), (), (), (), (), (), ()]) ?_); refine zev ?_
    refine zst ?_
    (first | refine callD (g1) ?_ | refine callDw (g1) ?_); simp only [go_sem]
    refine zst ?_
    (first | refine callD (g2) ?_ | refine callDw (g2) ?_); simp only [go_sem]
    refine zst ?_
    (first | refine callD (g3) ?_ | refine callDw (g3) ?_); simp only [go_sem]
    refine zst ?_
    (first | refine callD (f1) ?_ | refine callDw (f1) ?_); simp only [go_sem]
    refine zst ?_
    (first | refine callD (f2) ?_ | refine callDw (f2) ?_); simp only [go_sem]
    refine zst ?_
    (first | refine callD (f3) ?_ | refine callDw (f3) ?_); simp only [go_sem]
    refine zst ?_
    (first | refine callD (f4) ?_ | refine callDw (f4) ?_); simp only [go_sem]
    refine zst ?_
    (first | refine callD (f5) ?_ | refine callDw (f5) ?_); simp only [go_sem]
    refine zst ?_
    (first | refine callD (f4) ?_ | refine callDw (f4) ?_); simp only [go_sem]
    refine zst ?_
    (first | refine callD (awake17_fn) ?_ | refine callDw (awake17_fn) ?_); simp only [go_sem]
    refine zst ?_
    refine ret m_fpa_ok [] ?_; (first | (simp only [go_sem]; done) | (simp only [go_sem]; ((try dsimp only); (repeat' (refine And.intro ?_ ?_)) <;> first | with_reducible rfl | (simp only [go_sem]; done) | (simp only [go_sem]; rfl) | (simp only []; (try simp only [go_sem]); first | done | rfl) | (simp only [go_sem]; simp []; done) | (simp []; done) | rfl)))
  · skip
    refine Fnc.intro m_fpa_ok (by simp) fun W S => ?_
    unfold m_fpa
    simp only [ents, Nat.zero_add, Nat.reduceAdd]
    refine zst ?_
    (first | refine callX (new_fn l) ?_ | refine callXw (new_fn l) ?_); simp only [go_sem]
    refine zst ?_
    (first | apply st_callMD (fo) rfl | apply evw_callM (fo) rfl)
    · (simp only [go_sem]; rfl)
    · rfl
    · (first | rfl | (simp only [go_sem]; done))
    · (first | rfl | (simp only [go_sem]; done) | (simp only [go_sem]; rfl))
    · (first | rfl | (simp only [go_sem]; done))
    · (first | rfl | (simp only [go_sem]; done) | (simp only [go_sem]; rfl))
    · (first | rfl | simp [V.pureT, V.pure, V.pures, pures_lo, pures_sls])
    (first | refine ev_all (fu := [(), (), (), (), (), (), (), ()]) ?_ | refine evw_all (md := []) (fu := [(), (), (), (), (), (), (), ()]) ?_); refine zev ?_
    refine zst ?_
    (first | refine callD (g1) ?_ | refine callDw (g1) ?_); simp only [go_sem]
    refine zst ?_
    (first | refine callD (g2) ?_ | refine callDw (g2) ?_); simp only [go_sem]
    refine zst ?_
    (first | refine callD (g3) ?_ | refine callDw (g3) ?_); simp only [go_sem]
    refine zst ?_
    (first | refine callD (f1) ?_ | refine callDw (f1) ?_); simp only [go_sem]
    refine zst ?_
    (first | refine callD (f2) ?_ | refine callDw (f2) ?_); simp only [go_sem]
    refine zst ?_
    (first | refine callD (f3) ?_ | refine callDw (f3) ?_); simp only [go_sem]
    refine zst ?_
    (first | refine callD (f4) ?_ | refine callDw (f4) ?_); simp only [go_sem]
    refine zst ?_
    (first | refine callD (f5) ?_ | refine callDw (f5) ?_); simp only [go_sem]
    refine zst ?_
    (first | refine callD (awake17_fn) ?_ | refine callDw (awake17_fn) ?_); simp only [go_sem]
    refine zst ?_
    refine ret m_fpa_ok [] ?_; (first | (simp only [go_sem]; done) | (simp only [go_sem]; ((try dsimp only); (repeat' (refine And.intro ?_ ?_)) <;> first | with_reducible rfl | (simp only [go_sem]; done) | (simp only [go_sem]; rfl) | (simp only []; (try simp only [go_sem]); first | done | rfl) | (simp only [go_sem]; simp []; done) | (simp []; done) | rfl)))
theorem fpa_law {a0 : List Int} {v0 : Value} {a1 : Int} {v1 : Value} {a2 : Int} {v2 : Value} {a3 : Int} {v3 : Value} (W : World) (e0 : (Sh.slice (Sh.int .i64)).rd (old W) W a0 [v0]) (e1 : (Sh.int .i64).rd (old W) W a1 [v1]) (e2 : (Sh.int .i64).rd (old W) W a2 [v2]) (e3 : (Sh.int .i64).rd (old W) W a3 [v3]) :
    Calls Try.prog 4 #[v0, v1, v2, v3] W fun e w' => e = .returned (.bool true) ∧ Below W.heap.size W w' :=
  Fnc.law (fpa_fn a0 a1 a2 a3) (RdTs.slice enc_i64s e0 (RdTs.int e1 (RdTs.int e2 (RdTs.int e3 RdTs.nil'))))
end Go.Proofs.Ytanmcjkpdkmhfaa
