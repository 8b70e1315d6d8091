/- Files: validity by the reference. -/
import Derived.Test.YtanmcjkpdkmhfaaW10
import Derived.Test.YtanmcjkpdkmhfaaZt
namespace Go.Proofs.Ytanmcjkpdkmhfaa
open Go Go.RowKit Rdn Rdn.Dp
set_option linter.unusedVariables false
set_option linter.unusedSimpArgs false
def m_rvalf : MC := .seq (.reg [⟨(some 1), none, (.m (.box 26 (.t 0)))⟩, ⟨(some 2), none, (.p (.mov (.c (.bool false))))⟩])
 (.seq (.seq (.reg [⟨(some 7), none, (.p (.fieldA 0 0 (.t 1)))⟩, ⟨(some 8), none, (.p (.load false 1 (.t 7)))⟩, ⟨(some 9), none, (.p (.len (.t 8)))⟩, ⟨(some 10), none, (.p (.bin 0 .gtr (.t 9) (.c (.int .i64 4))))⟩, ⟨(some 11), none, (.p (.mov (.t 10)))⟩, ⟨(some 12), (some (11, false)), (.p (.fieldA 1 1 (.t 1)))⟩, ⟨(some 13), (some (11, false)), (.p (.load false 1 (.t 12)))⟩, ⟨(some 14), (some (11, false)), (.p (.len (.t 13)))⟩, ⟨(some 15), (some (11, false)), (.p (.bin 0 .neq (.t 14) (.c (.int .i64 8))))⟩, ⟨(some 16), none, (.p (.pick (.t 11) (.c (.bool true)) (.t 15)))⟩])
 (.cond (.t 16) (.seq (.reg [⟨(some 2), none, (.p (.mov (.c (.bool false))))⟩])
 (.ret)) (.skip)))
 (.seq (.seq (.reg [⟨(some 17), none, (.p (.fieldA 0 0 (.t 1)))⟩, ⟨(some 18), none, (.p (.load false 1 (.t 17)))⟩, ⟨(some 19), none, (.p (.len (.t 18)))⟩, ⟨(some 20), none, (.p (.mov (.c (.int .i64 0))))⟩])
 (.block 0 (.loop (.seq (.reg [⟨(some 21), none, (.p (.bin 0 .lss (.t 20) (.t 19)))⟩])
 (.seq (.cond (.t 21) (.skip) (.exit 0))
 (.seq (.block 1 (.seq (.reg [⟨(some 22), none, (.p (.idxA 1 (.t 18) (.t 20)))⟩, ⟨(some 23), none, (.p (.load false 1 (.t 22)))⟩, ⟨(some 4), none, (.p (.mov (.t 23)))⟩])
 (.seq (.reg [⟨(some 24), none, (.p (.mov (.t 4)))⟩, ⟨(some 25), none, (.call 40 [(.t 24), (.c (.int .i64 64))])⟩, ⟨(some 26), none, (.p (.un .not (.t 25)))⟩])
 (.cond (.t 26) (.seq (.reg [⟨(some 2), none, (.p (.mov (.c (.bool false))))⟩])
 (.ret)) (.skip)))))
 (.reg [⟨(some 27), none, (.p (.bin 0 .add (.t 20) (.c (.int .i64 1))))⟩, ⟨(some 20), none, (.p (.mov (.t 27)))⟩])))))))
 (.seq (.seq (.reg [⟨(some 28), none, (.p (.fieldA 1 1 (.t 1)))⟩, ⟨(some 29), none, (.p (.load false 1 (.t 28)))⟩, ⟨(some 30), none, (.p (.len (.t 29)))⟩, ⟨(some 31), none, (.p (.mov (.c (.int .i64 0))))⟩])
 (.block 2 (.loop (.seq (.reg [⟨(some 32), none, (.p (.bin 0 .lss (.t 31) (.t 30)))⟩])
 (.seq (.cond (.t 32) (.skip) (.exit 2))
 (.seq (.block 3 (.seq (.reg [⟨(some 33), none, (.p (.idxA 3 (.t 29) (.t 31)))⟩, ⟨(some 34), none, (.p (.load true 3 (.t 33)))⟩, ⟨(some 6), none, (.m (.alloc 36 (.agg [.int .i64 0, .int .i64 0, .bool false])))⟩, ⟨none, none, (.m (.store 3 (.t 6) (.t 34)))⟩])
 (.seq (.dreg [⟨(some 35), none, (.p (.fieldA 0 0 (.t 6)))⟩, ⟨(some 36), none, (.p (.load false 1 (.t 35)))⟩, ⟨(some 37), none, (.p (.bin 0 .eql (.t 36) (.c (.int .i64 (-1)))))⟩, ⟨(some 38), none, (.p (.mov (.t 37)))⟩, ⟨(some 39), (some (38, true)), (.p (.fieldA 1 1 (.t 6)))⟩, ⟨(some 40), (some (38, true)), (.p (.load false 1 (.t 39)))⟩, ⟨(some 41), (some (38, true)), (.p (.bin 0 .neq (.t 40) (.c (.int .i64 0))))⟩, ⟨(some 42), (some (38, true)), (.p (.mov (.t 41)))⟩, ⟨(some 43), (some (42, false)), (.p (.fieldA 2 2 (.t 6)))⟩, ⟨(some 44), (some (42, false)), (.p (.load false 1 (.t 43)))⟩, ⟨(some 45), (some (38, true)), (.p (.pick (.t 42) (.c (.bool true)) (.t 44)))⟩, ⟨(some 46), none, (.p (.pick (.t 38) (.t 45) (.c (.bool false))))⟩, ⟨(some 47), none, (.p (.mov (.t 46)))⟩, ⟨(some 48), (some (47, false)), (.p (.fieldA 0 0 (.t 6)))⟩, ⟨(some 49), (some (47, false)), (.p (.load false 1 (.t 48)))⟩, ⟨(some 50), (some (47, false)), (.p (.bin 0 .lss (.t 49) (.c (.int .i64 (-1)))))⟩, ⟨(some 51), none, (.p (.pick (.t 47) (.c (.bool true)) (.t 50)))⟩, ⟨(some 52), none, (.p (.mov (.t 51)))⟩, ⟨(some 53), (some (52, false)), (.p (.fieldA 0 0 (.t 6)))⟩, ⟨(some 54), (some (52, false)), (.p (.load false 1 (.t 53)))⟩, ⟨(some 55), (some (52, false)), (.p (.fieldA 0 0 (.t 1)))⟩, ⟨(some 56), (some (52, false)), (.p (.load false 1 (.t 55)))⟩, ⟨(some 57), (some (52, false)), (.p (.len (.t 56)))⟩, ⟨(some 58), (some (52, false)), (.p (.bin 0 .geq (.t 54) (.t 57)))⟩, ⟨(some 59), none, (.p (.pick (.t 52) (.c (.bool true)) (.t 58)))⟩, ⟨(some 60), none, (.p (.mov (.t 59)))⟩, ⟨(some 61), (some (60, false)), (.p (.fieldA 0 0 (.t 6)))⟩, ⟨(some 62), (some (60, false)), (.p (.load false 1 (.t 61)))⟩, ⟨(some 63), (some (60, false)), (.p (.bin 0 .geq (.t 62) (.c (.int .i64 0))))⟩, ⟨(some 64), (some (60, false)), (.p (.mov (.t 63)))⟩, ⟨(some 65), (some (64, true)), (.p (.fieldA 1 1 (.t 6)))⟩, ⟨(some 66), (some (64, true)), (.p (.load false 1 (.t 65)))⟩, ⟨(some 67), (some (64, true)), (.p (.bin 0 .lss (.t 66) (.c (.int .i64 0))))⟩, ⟨(some 68), (some (64, true)), (.p (.mov (.t 67)))⟩, ⟨(some 69), (some (68, false)), (.p (.fieldA 1 1 (.t 6)))⟩, ⟨(some 70), (some (68, false)), (.p (.load false 1 (.t 69)))⟩, ⟨(some 71), (some (68, false)), (.p (.fieldA 0 0 (.t 1)))⟩, ⟨(some 72), (some (68, false)), (.p (.load false 1 (.t 71)))⟩, ⟨(some 73), (some (68, false)), (.p (.fieldA 0 0 (.t 6)))⟩, ⟨(some 74), (some (68, false)), (.p (.load false 1 (.t 73)))⟩, ⟨(some 75), (some (68, false)), (.p (.idxA 1 (.t 72) (.t 74)))⟩, ⟨(some 76), (some (68, false)), (.p (.load false 1 (.t 75)))⟩, ⟨(some 77), (some (68, false)), (.p (.len (.t 76)))⟩, ⟨(some 78), (some (68, false)), (.p (.bin 0 .gtr (.t 70) (.t 77)))⟩, ⟨(some 79), (some (64, true)), (.p (.pick (.t 68) (.c (.bool true)) (.t 78)))⟩, ⟨(some 80), (some (60, false)), (.p (.pick (.t 64) (.t 79) (.c (.bool false))))⟩, ⟨(some 81), none, (.p (.pick (.t 60) (.c (.bool true)) (.t 80)))⟩] [[], [0], [0, 1], [0, 1, 2], [0, 1, 2, 3], [0, 1, 2, 3, 4], [0, 1, 2, 3, 4, 5], [0, 1, 2, 3, 4, 5, 6], [0, 1, 2, 3, 4, 5, 6, 7], [0, 1, 2, 3, 4, 5, 6, 7, 8], [0, 1, 2, 3, 4, 5, 6, 7, 8, 9], [0, 1, 2, 3, 4, 5, 6, 7, 8, 9, 10], [0, 1, 2, 3, 4, 5, 6, 7, 8, 9, 10, 11], [0, 1, 2, 3, 4, 5, 6, 7, 8, 9, 10, 11, 12], [0, 1, 2, 3, 4, 5, 6, 7, 8, 9, 10, 11, 12, 13], [0, 1, 2, 3, 4, 5, 6, 7, 8, 9, 10, 11, 12, 13, 14], [0, 1, 2, 3, 4, 5, 6, 7, 8, 9, 10, 11, 12, 13, 14, 15], [0, 1, 2, 3, 4, 5, 6, 7, 8, 9, 10, 11, 12, 13, 14, 15, 16], [0, 1, 2, 3, 4, 5, 6, 7, 8, 9, 10, 11, 12, 13, 14, 15, 16, 17], [0, 1, 2, 3, 4, 5, 6, 7, 8, 9, 10, 11, 12, 13, 14, 15, 16, 17, 18], [0, 1, 2, 3, 4, 5, 6, 7, 8, 9, 10, 11, 12, 13, 14, 15, 16, 17], [0, 1, 2, 3, 4, 5, 6, 7, 8, 9, 10, 11, 12, 13, 14, 15, 16, 17, 20], [0, 1, 2, 3, 4, 5, 6, 7, 8, 9, 10, 11, 12, 13, 14, 15, 16, 17, 20, 21], [0, 1, 2, 3, 4, 5, 6, 7, 8, 9, 10, 11, 12, 13, 14, 15, 16, 17, 18, 19, 20, 21, 22], [0, 1, 2, 3, 4, 5, 6, 7, 8, 9, 10, 11, 12, 13, 14, 15, 16, 17, 18, 19, 20, 21, 22, 23], [0, 1, 2, 3, 4, 5, 6, 7, 8, 9, 10, 11, 12, 13, 14, 15, 16, 17, 18, 19, 20, 21, 22, 23, 24], [0, 1, 2, 3, 4, 5, 6, 7, 8, 9, 10, 11, 12, 13, 14, 15, 16, 17, 18, 19, 20, 21, 22, 23, 24, 25], [0, 1, 2, 3, 4, 5, 6, 7, 8, 9, 10, 11, 12, 13, 14, 15, 16, 17, 18, 19, 20, 21, 22, 23, 24, 25, 26], [0, 1, 2, 3, 4, 5, 6, 7, 8, 9, 10, 11, 12, 13, 14, 15, 16, 17, 18, 19, 20, 21, 22, 23, 24, 25, 26, 27], [0, 1, 2, 3, 4, 5, 6, 7, 8, 9, 10, 11, 12, 13, 14, 15, 16, 17, 18, 19, 20, 21, 22, 23, 24, 25, 26, 27, 28], [0, 1, 2, 3, 4, 5, 6, 7, 8, 9, 10, 11, 12, 13, 14, 15, 16, 17, 18, 19, 20, 21, 22, 23, 24, 25, 26, 27, 28, 29], [0, 1, 2, 3, 4, 5, 6, 7, 8, 9, 10, 11, 12, 13, 14, 15, 16, 17, 18, 19, 20, 21, 22, 23, 24, 25, 26, 27, 28, 29, 30], [0, 1, 2, 3, 4, 5, 6, 7, 8, 9, 10, 11, 12, 13, 14, 15, 16, 17, 18, 19, 20, 21, 22, 23, 24, 25, 26, 27, 28, 29, 30, 31], [0, 1, 2, 3, 4, 5, 6, 7, 8, 9, 10, 11, 12, 13, 14, 15, 16, 17, 18, 19, 20, 21, 22, 23, 24, 25, 26, 27, 28, 29, 30, 31, 32], [0, 1, 2, 3, 4, 5, 6, 7, 8, 9, 10, 11, 12, 13, 14, 15, 16, 17, 18, 19, 20, 21, 22, 23, 24, 25, 26, 27, 28, 29, 30, 31, 32, 33], [0, 1, 2, 3, 4, 5, 6, 7, 8, 9, 10, 11, 12, 13, 14, 15, 16, 17, 18, 19, 20, 21, 22, 23, 24, 25, 26, 27, 28, 29, 30, 31, 32, 33, 34], [0, 1, 2, 3, 4, 5, 6, 7, 8, 9, 10, 11, 12, 13, 14, 15, 16, 17, 18, 19, 20, 21, 22, 23, 24, 25, 26, 27, 28, 29, 30, 31, 32, 33], [0, 1, 2, 3, 4, 5, 6, 7, 8, 9, 10, 11, 12, 13, 14, 15, 16, 17, 18, 19, 20, 21, 22, 23, 24, 25, 26, 27, 28, 29, 30, 31, 32, 33, 36], [0, 1, 2, 3, 4, 5, 6, 7, 8, 9, 10, 11, 12, 13, 14, 15, 16, 17, 18, 19, 20, 21, 22, 23, 24, 25, 26, 27, 28, 29, 30, 31, 32, 33], [0, 1, 2, 3, 4, 5, 6, 7, 8, 9, 10, 11, 12, 13, 14, 15, 16, 17, 18, 19, 20, 21, 22, 23, 24, 25, 26, 27, 28, 29, 30, 31, 32, 33, 38], [0, 1, 2, 3, 4, 5, 6, 7, 8, 9, 10, 11, 12, 13, 14, 15, 16, 17, 18, 19, 20, 21, 22, 23, 24, 25, 26, 27, 28, 29, 30, 31, 32, 33, 36, 37, 38, 39], [0, 1, 2, 3, 4, 5, 6, 7, 8, 9, 10, 11, 12, 13, 14, 15, 16, 17, 18, 19, 20, 21, 22, 23, 24, 25, 26, 27, 28, 29, 30, 31, 32, 33, 36, 37, 38, 39, 40], [0, 1, 2, 3, 4, 5, 6, 7, 8, 9, 10, 11, 12, 13, 14, 15, 16, 17, 18, 19, 20, 21, 22, 23, 24, 25, 26, 27, 28, 29, 30, 31, 32, 33, 36, 37, 38, 39, 40, 41], [0, 1, 2, 3, 4, 5, 6, 7, 8, 9, 10, 11, 12, 13, 14, 15, 16, 17, 18, 19, 20, 21, 22, 23, 24, 25, 26, 27, 28, 29, 30, 31, 32, 33, 34, 35, 36, 37, 38, 39, 40, 41, 42], [0, 1, 2, 3, 4, 5, 6, 7, 8, 9, 10, 11, 12, 13, 14, 15, 16, 17, 18, 19, 20, 21, 22, 23, 24, 25, 26, 27, 28, 29, 30, 31, 32, 33, 34, 35, 36, 37, 38, 39, 40, 41, 42, 43], [0, 1, 2, 3, 4, 5, 6, 7, 8, 9, 10, 11, 12, 13, 14, 15, 16, 17, 18, 19, 20, 21, 22, 23, 24, 25, 26, 27, 28, 29, 30, 31, 32, 33, 34, 35, 36, 37, 38, 39, 40, 41, 42, 43, 44], [0, 1, 2, 3, 4, 5, 6, 7, 8, 9, 10, 11, 12, 13, 14, 15, 16, 17, 18, 19, 20, 21, 22, 23, 24, 25, 26, 27, 28, 29, 30, 31, 32, 33, 34, 35, 36, 37, 38, 39, 40, 41, 42, 43, 44, 45]])
 (.cond (.t 81) (.seq (.reg [⟨(some 2), none, (.p (.mov (.c (.bool false))))⟩])
 (.ret)) (.skip)))))
 (.reg [⟨(some 82), none, (.p (.bin 0 .add (.t 31) (.c (.int .i64 1))))⟩, ⟨(some 31), none, (.p (.mov (.t 82)))⟩])))))))
 (.seq (.reg [⟨(some 2), none, (.p (.mov (.c (.bool true))))⟩])
 (.ret)))))
theorem m_rvalf_ok : compF Try.prog 16 = some (83, m_rvalf, [.mov (.t 2)]) := by kernel_rfl
/-- Whether files are valid. -/
noncomputable def valF (f : Files) : Bool := @decide (FitF f) (Classical.propDecidable _)
theorem valF_T {f : Files} (h : FitF f) : valF f = true := by unfold valF; exact @decide_eq_true _ (Classical.propDecidable _) h
theorem valF_F {f : Files} (h : ¬ FitF f) : valF f = false := by unfold valF; exact @decide_eq_false _ (Classical.propDecidable _) h
theorem cellsB_F {f : Files} {k : Nat} (hk : k < f.data.length) (h : cellsB f.data[k]! 64 = false) : ¬ FitF f := fun F => by
  have h1 := F.len _ (mem_at hk)
  have h2 := F.cell _ (mem_at hk)
  unfold cellsB at h
  rw [h2, decT (by omega)] at h
  exact absurd h (by decide)
theorem okO_F {f : Files} {i : Nat} (hi : i < f.opens.length) (h : ¬ okO f f.opens[i]!) : ¬ FitF f := fun F => h (F.ok _ (mem_at hi))
set_option maxHeartbeats 16000000 in
theorem rvalf_fn (f : Files) : Fnc Try.prog 16 [filV f] (fun x obs => x = .bool (valF f) ∧ obs = []) := by
  refine Fnc.wf fun hw => ?_
  have hm : ∀ k, k < f.data.length → f.data[k]!.length ≤ 140737488355328 := fun k hk => by
    have := hw.1
    simp only [V.wf, V.wfs, wfs_map] at this
    have := this.1.1 _ (mem_at hk)
    simp only [slV', V.wf, List.length_map] at this
    exact this.2
  simp only [V.wfs, V.wf, List.length_map] at hw
  have m1 := hw.1.1.2
  have m2 := hw.1.2.1.2
  clear hw
  by_cases hl : f.data.length ≤ 4
  · by_cases ho : f.opens.length = 8
    · skip
      refine Fnc.intro m_rvalf_ok (by simp) fun W S => ?_
      unfold m_rvalf
      simp only [ents, Nat.zero_add, Nat.reduceAdd]
      refine zst ?_
      refine ev_loopK [1, 18, 19] (fun p : {p : Nat // p ≤ f.data.length ∧ ∀ j, j < p → cellsB f.data[j]! 64 = true} => [(20, .int .i64 p.1)]) (fun _ => [⟨.box false 26, true, 0, filV f⟩]) (fun p => f.data.length - p.1) (⟨0, by simp⟩) 1 (by simp only [go_sem]; rfl) ?_ (by first | rfl | (simp only [go_sem]; done)) (by simp) (by first | rfl | (simp only [go_sem]; done)) (by first | rfl | (simp only [go_sem]; done)) (by first | rfl | (simp only [go_sem]; done)) ?_
      · (simp only [go_sem]; (try simp []); done)
      intro J hJ
      rintro ⟨k, hk0, hk1⟩
      by_cases hlt : k < f.data.length
      · have h3 := hm k hlt
        have fc := rcels_fn f.data[k]! 64
        by_cases e : cellsB f.data[k]! 64 = true
        · rw [e] at fc
          have hS : ∀ j, j < k + 1 → cellsB f.data[j]! 64 = true := fun j hj => by
            by_cases e' : j = k
            · subst e'; exact e
            · exact hk1 j (by omega)
          refine zst ?_
          (first | refine callD (fc) ?_ | refine callDw (fc) ?_); simp only [go_sem]
          refine zst ?_
          refine ev_next 1 (hJ _ (⟨k + 1, hlt, hS⟩) (by first | omega | (dsimp only; omega) | (simp; omega))) rfl (by simp) ?_ (by first | rfl | (simp only [go_sem]; done)) (by first | rfl | (simp only [go_sem]; done) | (simp only [hlt]; (try simp only [go_sem]); first | done | rfl)) ?_
          · (first | rfl | (simp only [go_sem]; done) | (simp only [go_sem]; simp only [hlt]; done) | (simp only [hlt]; done) | (simp only [go_sem]; simp [hlt]; done) | (simp [hlt]; done))
          · (simp only [go_sem]; (repeat' (refine And.intro ?_ ?_)) <;> first | exact trivial | with_reducible rfl | (simp only [hlt]; done) | (simp only [hlt]; with_reducible rfl) | (simp [hlt]; done) | (simp [hlt]; omega) | (simp only [hlt]; rfl) | skip)
        · rw [Bool.not_eq_true] at e
          rw [e] at fc
          rw [valF_F (cellsB_F hlt e)]
          refine zst ?_
          (first | refine callD (fc) ?_ | refine callDw (fc) ?_); simp only [go_sem]
          refine zst ?_
          refine ret m_rvalf_ok [] ?_; (first | (simp only [go_sem]; done) | (simp only [go_sem]; ((try dsimp only); (repeat' (refine And.intro ?_ ?_)) <;> first | with_reducible rfl | (simp only [go_sem]; done) | (simp only [go_sem]; rfl) | (simp only []; (try simp only [go_sem]); first | done | rfl) | (simp only [go_sem]; simp []; done) | (simp []; done) | rfl)))
      · obtain rfl : k = f.data.length := by omega
        refine zst ?_
        refine ev_loopK [1, 29, 30] (fun p : {p : Nat // p ≤ 8 ∧ ∀ j, j < p → okO f f.opens[j]!} => [(31, .int .i64 p.1)]) (fun _ => [⟨.box false 26, true, 0, filV f⟩]) (fun p => 8 - p.1) (⟨0, by simp⟩) 1 (by simp only [go_sem]; rfl) ?_ (by first | rfl | (simp only [go_sem]; done)) (by simp) (by first | rfl | (simp only [go_sem]; done)) (by first | rfl | (simp only [go_sem]; done)) (by first | rfl | (simp only [go_sem]; done)) ?_
        · (simp only [go_sem]; (try simp []); done)
        intro J hJ
        rintro ⟨i, hi0, hi1⟩
        by_cases hlt2 : i < 8
        · have hS (h : okO f f.opens[i]!) : ∀ j, j < i + 1 → okO f f.opens[j]! := fun j hj => by
            by_cases e' : j = i
            · subst e'; exact h
            · exact hi1 j (by omega)
          have hF := fun h => okO_F (f := f) (i := i) (by omega) h
          generalize ho' : f.opens[i]! = o at hS hF
          by_cases c1 : o.file = -1
          · by_cases c2 : o.offset = 0
            · cases c3 : o.write
              · have hS := hS (.inl ⟨c1, c2, c3⟩)
                repeat (first | (simp only [ho', c3]; try simp only [go_sem]) | refine And.intro (by omega) ?_ | refine And.intro rfl ?_ | refine ev_ctl rfl rfl ?_ | refine evr_nil ?_ | refine evw_nil (by kernel_rfl) ?_ | (simp (disch := omega) only [takeAll, Nat.min_eq_left, Nat.min_eq_right, if_pos, if_neg, getD_map, wrapI64, modIn, fdivE, tmodE, tdivE, decT, decF, beqT, beqF, bneT, bneF, Int.toNat_natCast]; try simp only [go_sem]) | (refine ev_condTb rfl ?_ ?_; · (simp <;> omega)) | (refine ev_condFb rfl ?_ ?_; · (simp <;> omega)) | ((first | refine ev_region ?_ | refine evr_go rfl ?_ | refine evw_go rfl ?_ | refine ev_dr0 mixed rfl (by kernel_rfl) ?_ | refine ev_dr1 mixed rfl (by kernel_rfl) ?_ | refine ev_dr2 mixed rfl (by kernel_rfl) ?_); simp only [go_sem]))
                refine ev_next 1 (hJ _ (⟨i + 1, hlt2, hS⟩) (by first | omega | (dsimp only; omega) | (simp; omega))) rfl (by simp) ?_ (by first | rfl | (simp only [go_sem]; done)) (by first | rfl | (simp only [go_sem]; done) | (simp only [hlt2]; (try simp only [go_sem]); first | done | rfl)) ?_
                · (first | rfl | (simp only [go_sem]; done) | (simp only [go_sem]; simp only [hlt2]; done) | (simp only [hlt2]; done) | (simp only [go_sem]; simp [hlt2]; done) | (simp [hlt2]; done))
                · (simp only [go_sem]; (repeat' (refine And.intro ?_ ?_)) <;> first | exact trivial | with_reducible rfl | (simp only [hlt2]; done) | (simp only [hlt2]; with_reducible rfl) | (simp [hlt2]; done) | (simp [hlt2]; omega) | (simp only [hlt2]; rfl) | skip)
              · rw [valF_F (hF fun h => by
                  rcases h with h | h
                  · rw [c3] at h; exact absurd h.2.2 (by decide)
                  · omega)]
                repeat (first | (simp only [ho', c3]; try simp only [go_sem]) | refine And.intro (by omega) ?_ | refine And.intro rfl ?_ | refine ev_ctl rfl rfl ?_ | refine evr_nil ?_ | refine evw_nil (by kernel_rfl) ?_ | (simp (disch := omega) only [takeAll, Nat.min_eq_left, Nat.min_eq_right, if_pos, if_neg, getD_map, wrapI64, modIn, fdivE, tmodE, tdivE, decT, decF, beqT, beqF, bneT, bneF, Int.toNat_natCast]; try simp only [go_sem]) | (refine ev_condTb rfl ?_ ?_; · (simp <;> omega)) | (refine ev_condFb rfl ?_ ?_; · (simp <;> omega)) | ((first | refine ev_region ?_ | refine evr_go rfl ?_ | refine evw_go rfl ?_ | refine ev_dr0 mixed rfl (by kernel_rfl) ?_ | refine ev_dr1 mixed rfl (by kernel_rfl) ?_ | refine ev_dr2 mixed rfl (by kernel_rfl) ?_); simp only [go_sem]))
                refine ret m_rvalf_ok [] ?_; (first | (simp only [go_sem]; done) | (simp only [go_sem]; ((try dsimp only); (repeat' (refine And.intro ?_ ?_)) <;> first | with_reducible rfl | (simp only [go_sem]; done) | (simp only [go_sem]; rfl) | (simp only []; (try simp only [go_sem]); first | done | rfl) | (simp only [go_sem]; simp []; done) | (simp []; done) | rfl)))
            · rw [valF_F (hF fun h => by rcases h with h | h <;> omega)]
              repeat (first | (simp only [ho']; try simp only [go_sem]) | refine And.intro (by omega) ?_ | refine And.intro rfl ?_ | refine ev_ctl rfl rfl ?_ | refine evr_nil ?_ | refine evw_nil (by kernel_rfl) ?_ | (simp (disch := omega) only [takeAll, Nat.min_eq_left, Nat.min_eq_right, if_pos, if_neg, getD_map, wrapI64, modIn, fdivE, tmodE, tdivE, decT, decF, beqT, beqF, bneT, bneF, Int.toNat_natCast]; try simp only [go_sem]) | (refine ev_condTb rfl ?_ ?_; · (simp <;> omega)) | (refine ev_condFb rfl ?_ ?_; · (simp <;> omega)) | ((first | refine ev_region ?_ | refine evr_go rfl ?_ | refine evw_go rfl ?_ | refine ev_dr0 mixed rfl (by kernel_rfl) ?_ | refine ev_dr1 mixed rfl (by kernel_rfl) ?_ | refine ev_dr2 mixed rfl (by kernel_rfl) ?_); simp only [go_sem]))
              refine ret m_rvalf_ok [] ?_; (first | (simp only [go_sem]; done) | (simp only [go_sem]; ((try dsimp only); (repeat' (refine And.intro ?_ ?_)) <;> first | with_reducible rfl | (simp only [go_sem]; done) | (simp only [go_sem]; rfl) | (simp only []; (try simp only [go_sem]); first | done | rfl) | (simp only [go_sem]; simp []; done) | (simp []; done) | rfl)))
          by_cases c2 : o.file < -1
          · rw [valF_F (hF fun h => by rcases h with h | h <;> omega)]
            repeat (first | (simp only [ho']; try simp only [go_sem]) | refine And.intro (by omega) ?_ | refine And.intro rfl ?_ | refine ev_ctl rfl rfl ?_ | refine evr_nil ?_ | refine evw_nil (by kernel_rfl) ?_ | (simp (disch := omega) only [takeAll, Nat.min_eq_left, Nat.min_eq_right, if_pos, if_neg, getD_map, wrapI64, modIn, fdivE, tmodE, tdivE, decT, decF, beqT, beqF, bneT, bneF, Int.toNat_natCast]; try simp only [go_sem]) | (refine ev_condTb rfl ?_ ?_; · (simp <;> omega)) | (refine ev_condFb rfl ?_ ?_; · (simp <;> omega)) | ((first | refine ev_region ?_ | refine evr_go rfl ?_ | refine evw_go rfl ?_ | refine ev_dr0 mixed rfl (by kernel_rfl) ?_ | refine ev_dr1 mixed rfl (by kernel_rfl) ?_ | refine ev_dr2 mixed rfl (by kernel_rfl) ?_); simp only [go_sem]))
            refine ret m_rvalf_ok [] ?_; (first | (simp only [go_sem]; done) | (simp only [go_sem]; ((try dsimp only); (repeat' (refine And.intro ?_ ?_)) <;> first | with_reducible rfl | (simp only [go_sem]; done) | (simp only [go_sem]; rfl) | (simp only []; (try simp only [go_sem]); first | done | rfl) | (simp only [go_sem]; simp []; done) | (simp []; done) | rfl)))
          by_cases c3 : f.data.length ≤ o.file
          · rw [valF_F (hF fun h => by rcases h with h | h <;> omega)]
            repeat (first | (simp only [ho']; try simp only [go_sem]) | refine And.intro (by omega) ?_ | refine And.intro rfl ?_ | refine ev_ctl rfl rfl ?_ | refine evr_nil ?_ | refine evw_nil (by kernel_rfl) ?_ | (simp (disch := omega) only [takeAll, Nat.min_eq_left, Nat.min_eq_right, if_pos, if_neg, getD_map, wrapI64, modIn, fdivE, tmodE, tdivE, decT, decF, beqT, beqF, bneT, bneF, Int.toNat_natCast]; try simp only [go_sem]) | (refine ev_condTb rfl ?_ ?_; · (simp <;> omega)) | (refine ev_condFb rfl ?_ ?_; · (simp <;> omega)) | ((first | refine ev_region ?_ | refine evr_go rfl ?_ | refine evw_go rfl ?_ | refine ev_dr0 mixed rfl (by kernel_rfl) ?_ | refine ev_dr1 mixed rfl (by kernel_rfl) ?_ | refine ev_dr2 mixed rfl (by kernel_rfl) ?_); simp only [go_sem]))
            refine ret m_rvalf_ok [] ?_; (first | (simp only [go_sem]; done) | (simp only [go_sem]; ((try dsimp only); (repeat' (refine And.intro ?_ ?_)) <;> first | with_reducible rfl | (simp only [go_sem]; done) | (simp only [go_sem]; rfl) | (simp only []; (try simp only [go_sem]); first | done | rfl) | (simp only [go_sem]; simp []; done) | (simp []; done) | rfl)))
          by_cases c4 : o.offset < 0
          · rw [valF_F (hF fun h => by rcases h with h | h <;> omega)]
            repeat (first | (simp only [ho']; try simp only [go_sem]) | refine And.intro (by omega) ?_ | refine And.intro rfl ?_ | refine ev_ctl rfl rfl ?_ | refine evr_nil ?_ | refine evw_nil (by kernel_rfl) ?_ | (simp (disch := omega) only [takeAll, Nat.min_eq_left, Nat.min_eq_right, if_pos, if_neg, getD_map, wrapI64, modIn, fdivE, tmodE, tdivE, decT, decF, beqT, beqF, bneT, bneF, Int.toNat_natCast]; try simp only [go_sem]) | (refine ev_condTb rfl ?_ ?_; · (simp <;> omega)) | (refine ev_condFb rfl ?_ ?_; · (simp <;> omega)) | ((first | refine ev_region ?_ | refine evr_go rfl ?_ | refine evw_go rfl ?_ | refine ev_dr0 mixed rfl (by kernel_rfl) ?_ | refine ev_dr1 mixed rfl (by kernel_rfl) ?_ | refine ev_dr2 mixed rfl (by kernel_rfl) ?_); simp only [go_sem]))
            refine ret m_rvalf_ok [] ?_; (first | (simp only [go_sem]; done) | (simp only [go_sem]; ((try dsimp only); (repeat' (refine And.intro ?_ ?_)) <;> first | with_reducible rfl | (simp only [go_sem]; done) | (simp only [go_sem]; rfl) | (simp only []; (try simp only [go_sem]); first | done | rfl) | (simp only [go_sem]; simp []; done) | (simp []; done) | rfl)))
          by_cases c5 : o.offset ≤ f.data[o.file.toNat]!.length
          · have hS := hS (.inr ⟨by omega, by omega, by omega, c5⟩)
            repeat (first | (simp only [ho']; try simp only [go_sem]) | refine And.intro (by omega) ?_ | refine And.intro rfl ?_ | refine ev_ctl rfl rfl ?_ | refine evr_nil ?_ | refine evw_nil (by kernel_rfl) ?_ | (simp (disch := omega) only [takeAll, Nat.min_eq_left, Nat.min_eq_right, if_pos, if_neg, getD_map, wrapI64, modIn, fdivE, tmodE, tdivE, decT, decF, beqT, beqF, bneT, bneF, Int.toNat_natCast]; try simp only [go_sem]) | (refine ev_condTb rfl ?_ ?_; · (simp <;> omega)) | (refine ev_condFb rfl ?_ ?_; · (simp <;> omega)) | ((first | refine ev_region ?_ | refine evr_go rfl ?_ | refine evw_go rfl ?_ | refine ev_dr0 mixed rfl (by kernel_rfl) ?_ | refine ev_dr1 mixed rfl (by kernel_rfl) ?_ | refine ev_dr2 mixed rfl (by kernel_rfl) ?_); simp only [go_sem]))
            refine ev_next 1 (hJ _ (⟨i + 1, hlt2, hS⟩) (by first | omega | (dsimp only; omega) | (simp; omega))) rfl (by simp) ?_ (by first | rfl | (simp only [go_sem]; done)) (by first | rfl | (simp only [go_sem]; done) | (simp only [hlt2]; (try simp only [go_sem]); first | done | rfl)) ?_
            · (first | rfl | (simp only [go_sem]; done) | (simp only [go_sem]; simp only [hlt2]; done) | (simp only [hlt2]; done) | (simp only [go_sem]; simp [hlt2]; done) | (simp [hlt2]; done))
            · (simp only [go_sem]; (repeat' (refine And.intro ?_ ?_)) <;> first | exact trivial | with_reducible rfl | (simp only [hlt2]; done) | (simp only [hlt2]; with_reducible rfl) | (simp [hlt2]; done) | (simp [hlt2]; omega) | (simp only [hlt2]; rfl) | skip)
          · rw [valF_F (hF fun h => by rcases h with h | h <;> omega)]
            repeat (first | (simp only [ho']; try simp only [go_sem]) | refine And.intro (by omega) ?_ | refine And.intro rfl ?_ | refine ev_ctl rfl rfl ?_ | refine evr_nil ?_ | refine evw_nil (by kernel_rfl) ?_ | (simp (disch := omega) only [takeAll, Nat.min_eq_left, Nat.min_eq_right, if_pos, if_neg, getD_map, wrapI64, modIn, fdivE, tmodE, tdivE, decT, decF, beqT, beqF, bneT, bneF, Int.toNat_natCast]; try simp only [go_sem]) | (refine ev_condTb rfl ?_ ?_; · (simp <;> omega)) | (refine ev_condFb rfl ?_ ?_; · (simp <;> omega)) | ((first | refine ev_region ?_ | refine evr_go rfl ?_ | refine evw_go rfl ?_ | refine ev_dr0 mixed rfl (by kernel_rfl) ?_ | refine ev_dr1 mixed rfl (by kernel_rfl) ?_ | refine ev_dr2 mixed rfl (by kernel_rfl) ?_); simp only [go_sem]))
            refine ret m_rvalf_ok [] ?_; (first | (simp only [go_sem]; done) | (simp only [go_sem]; ((try dsimp only); (repeat' (refine And.intro ?_ ?_)) <;> first | with_reducible rfl | (simp only [go_sem]; done) | (simp only [go_sem]; rfl) | (simp only []; (try simp only [go_sem]); first | done | rfl) | (simp only [go_sem]; simp []; done) | (simp []; done) | rfl)))
        · rw [valF_T ⟨hl, ho, fun x hx => by
            obtain ⟨j, hj, rfl⟩ := at_mem hx
            have := hk1 j hj; unfold cellsB at this; simp only [Bool.and_eq_true, decide_eq_true_eq] at this; omega, fun x hx => by
            obtain ⟨j, hj, rfl⟩ := at_mem hx
            have := hk1 j hj; unfold cellsB at this; simp only [Bool.and_eq_true] at this; exact this.1, fun o h => by
            obtain ⟨j, hj, rfl⟩ := at_mem h
            exact hi1 j (by omega)⟩]
          refine zst ?_
          refine ret m_rvalf_ok [] ?_; (first | (simp only [go_sem]; done) | (simp only [go_sem]; ((try dsimp only); (repeat' (refine And.intro ?_ ?_)) <;> first | with_reducible rfl | (simp only [go_sem]; done) | (simp only [go_sem]; rfl) | (simp only []; (try simp only [go_sem]); first | done | rfl) | (simp only [go_sem]; simp []; done) | (simp []; done) | rfl)))
    · rw [valF_F fun F => ho F.o]
      refine Fnc.intro m_rvalf_ok (by simp) fun W S => ?_
      unfold m_rvalf
      simp only [ents, Nat.zero_add, Nat.reduceAdd]
      refine zst ?_
      refine ret m_rvalf_ok [] ?_; (first | (simp only [go_sem]; done) | (simp only [go_sem]; ((try dsimp only); (repeat' (refine And.intro ?_ ?_)) <;> first | with_reducible rfl | (simp only [go_sem]; done) | (simp only [go_sem]; rfl) | (simp only []; (try simp only [go_sem]); first | done | rfl) | (simp only [go_sem]; simp []; done) | (simp []; done) | rfl)))
  · rw [valF_F fun F => hl F.d]
    refine Fnc.intro m_rvalf_ok (by simp) fun W S => ?_
    unfold m_rvalf
    simp only [ents, Nat.zero_add, Nat.reduceAdd]
    refine zst ?_
    refine ret m_rvalf_ok [] ?_; (first | (simp only [go_sem]; done) | (simp only [go_sem]; ((try dsimp only); (repeat' (refine And.intro ?_ ?_)) <;> first | with_reducible rfl | (simp only [go_sem]; done) | (simp only [go_sem]; rfl) | (simp only []; (try simp only [go_sem]); first | done | rfl) | (simp only [go_sem]; simp []; done) | (simp []; done) | rfl)))
end Go.Proofs.Ytanmcjkpdkmhfaa
