/- Files: equality by the reference. -/
import Derived.Test.YtanmcjkpdkmhfaaWMb
import Derived.Test.YtanmcjkpdkmhfaaZt
namespace Go.Proofs.Ytanmcjkpdkmhfaa
open Go Go.RowKit Rdn Rdn.Dp
set_option linter.unusedVariables false
set_option linter.unusedSimpArgs false
def m_samec : MC := .seq (.reg [⟨(some 4), none, (.p (.mov (.c (.bool false))))⟩])
 (.seq (.seq (.reg [⟨(some 6), none, (.p (.mov (.t 0)))⟩, ⟨(some 7), none, (.p (.len (.t 6)))⟩, ⟨(some 8), none, (.p (.mov (.t 1)))⟩, ⟨(some 9), none, (.p (.len (.t 8)))⟩, ⟨(some 10), none, (.p (.bin 0 .neq (.t 7) (.t 9)))⟩])
 (.cond (.t 10) (.seq (.reg [⟨(some 4), none, (.p (.mov (.c (.bool false))))⟩])
 (.ret)) (.skip)))
 (.seq (.seq (.reg [⟨(some 11), none, (.p (.mov (.t 0)))⟩, ⟨(some 12), none, (.p (.len (.t 11)))⟩, ⟨(some 13), none, (.p (.mov (.c (.int .i64 0))))⟩])
 (.block 0 (.loop (.seq (.reg [⟨(some 14), none, (.p (.bin 0 .lss (.t 13) (.t 12)))⟩])
 (.seq (.cond (.t 14) (.skip) (.exit 0))
 (.seq (.block 1 (.seq (.reg [⟨(some 15), none, (.p (.mov (.t 13)))⟩, ⟨(some 5), none, (.p (.mov (.t 15)))⟩])
 (.seq (.dreg [⟨(some 16), none, (.p (.mov (.t 0)))⟩, ⟨(some 17), none, (.p (.mov (.t 5)))⟩, ⟨(some 18), none, (.p (.idxA 4 (.t 16) (.t 17)))⟩, ⟨(some 19), none, (.p (.load true 4 (.t 18)))⟩, ⟨(some 20), none, (.p (.mov (.t 1)))⟩, ⟨(some 21), none, (.p (.mov (.t 5)))⟩, ⟨(some 22), none, (.p (.idxA 4 (.t 20) (.t 21)))⟩, ⟨(some 23), none, (.p (.load true 4 (.t 22)))⟩, ⟨(some 24), none, (.p (.eqs true [(some .u8), (some .u16), (some .i64), (some .i64)] (.t 19) (.t 23)))⟩] [[], [], [0, 1], [0, 1, 2], [], [], [4, 5], [4, 5, 6], [0, 1, 2, 3, 4, 5, 6, 7]])
 (.cond (.t 24) (.seq (.reg [⟨(some 4), none, (.p (.mov (.c (.bool false))))⟩])
 (.ret)) (.skip)))))
 (.reg [⟨(some 25), none, (.p (.bin 0 .add (.t 13) (.c (.int .i64 1))))⟩, ⟨(some 13), none, (.p (.mov (.t 25)))⟩])))))))
 (.seq (.reg [⟨(some 4), none, (.p (.mov (.c (.bool true))))⟩])
 (.ret))))
theorem m_samec_ok : compF Try.prog 12 = some (26, m_samec, [.mov (.t 4)]) := by kernel_rfl
def m_rsamf : MC := .seq (.reg [⟨(some 2), none, (.m (.box 26 (.t 0)))⟩, ⟨(some 3), none, (.m (.box 26 (.t 1)))⟩, ⟨(some 4), none, (.p (.mov (.c (.bool false))))⟩])
 (.seq (.seq (.reg [⟨(some 7), none, (.p (.fieldA 0 0 (.t 2)))⟩, ⟨(some 8), none, (.p (.load false 1 (.t 7)))⟩, ⟨(some 9), none, (.p (.len (.t 8)))⟩, ⟨(some 10), none, (.p (.fieldA 0 0 (.t 3)))⟩, ⟨(some 11), none, (.p (.load false 1 (.t 10)))⟩, ⟨(some 12), none, (.p (.len (.t 11)))⟩, ⟨(some 13), none, (.p (.bin 0 .neq (.t 9) (.t 12)))⟩, ⟨(some 14), none, (.p (.mov (.t 13)))⟩, ⟨(some 15), (some (14, false)), (.p (.fieldA 1 1 (.t 2)))⟩, ⟨(some 16), (some (14, false)), (.p (.load false 1 (.t 15)))⟩, ⟨(some 17), (some (14, false)), (.p (.len (.t 16)))⟩, ⟨(some 18), (some (14, false)), (.p (.fieldA 1 1 (.t 3)))⟩, ⟨(some 19), (some (14, false)), (.p (.load false 1 (.t 18)))⟩, ⟨(some 20), (some (14, false)), (.p (.len (.t 19)))⟩, ⟨(some 21), (some (14, false)), (.p (.bin 0 .neq (.t 17) (.t 20)))⟩, ⟨(some 22), none, (.p (.pick (.t 14) (.c (.bool true)) (.t 21)))⟩])
 (.cond (.t 22) (.seq (.reg [⟨(some 4), none, (.p (.mov (.c (.bool false))))⟩])
 (.ret)) (.skip)))
 (.seq (.seq (.reg [⟨(some 23), none, (.p (.fieldA 0 0 (.t 2)))⟩, ⟨(some 24), none, (.p (.load false 1 (.t 23)))⟩, ⟨(some 25), none, (.p (.len (.t 24)))⟩, ⟨(some 26), none, (.p (.mov (.c (.int .i64 0))))⟩])
 (.block 0 (.loop (.seq (.reg [⟨(some 27), none, (.p (.bin 0 .lss (.t 26) (.t 25)))⟩])
 (.seq (.cond (.t 27) (.skip) (.exit 0))
 (.seq (.block 1 (.seq (.reg [⟨(some 28), none, (.p (.mov (.t 26)))⟩, ⟨(some 5), none, (.p (.mov (.t 28)))⟩])
 (.seq (.dreg [⟨(some 29), none, (.p (.fieldA 0 0 (.t 2)))⟩, ⟨(some 30), none, (.p (.load false 1 (.t 29)))⟩, ⟨(some 31), none, (.p (.mov (.t 5)))⟩, ⟨(some 32), none, (.p (.idxA 1 (.t 30) (.t 31)))⟩, ⟨(some 33), none, (.p (.load false 1 (.t 32)))⟩, ⟨(some 34), none, (.p (.fieldA 0 0 (.t 3)))⟩, ⟨(some 35), none, (.p (.load false 1 (.t 34)))⟩, ⟨(some 36), none, (.p (.mov (.t 5)))⟩, ⟨(some 37), none, (.p (.idxA 1 (.t 35) (.t 36)))⟩, ⟨(some 38), none, (.p (.load false 1 (.t 37)))⟩, ⟨(some 39), none, (.call 12 [(.t 33), (.t 38)])⟩, ⟨(some 40), none, (.p (.un .not (.t 39)))⟩] [[], [0], [], [0, 1, 2], [0, 1, 2, 3], [], [5], [], [5, 6, 7], [5, 6, 7, 8], [0, 1, 2, 3, 4, 5, 6, 7, 8, 9], [0, 1, 2, 3, 4, 5, 6, 7, 8, 9, 10]])
 (.cond (.t 40) (.seq (.reg [⟨(some 4), none, (.p (.mov (.c (.bool false))))⟩])
 (.ret)) (.skip)))))
 (.reg [⟨(some 41), none, (.p (.bin 0 .add (.t 26) (.c (.int .i64 1))))⟩, ⟨(some 26), none, (.p (.mov (.t 41)))⟩])))))))
 (.seq (.seq (.reg [⟨(some 42), none, (.p (.fieldA 1 1 (.t 2)))⟩, ⟨(some 43), none, (.p (.load false 1 (.t 42)))⟩, ⟨(some 44), none, (.p (.len (.t 43)))⟩, ⟨(some 45), none, (.p (.mov (.c (.int .i64 0))))⟩])
 (.block 2 (.loop (.seq (.reg [⟨(some 46), none, (.p (.bin 0 .lss (.t 45) (.t 44)))⟩])
 (.seq (.cond (.t 46) (.skip) (.exit 2))
 (.seq (.block 3 (.seq (.reg [⟨(some 47), none, (.p (.mov (.t 45)))⟩, ⟨(some 6), none, (.p (.mov (.t 47)))⟩])
 (.seq (.dreg [⟨(some 48), none, (.p (.fieldA 1 1 (.t 2)))⟩, ⟨(some 49), none, (.p (.load false 1 (.t 48)))⟩, ⟨(some 50), none, (.p (.mov (.t 6)))⟩, ⟨(some 51), none, (.p (.idxA 3 (.t 49) (.t 50)))⟩, ⟨(some 52), none, (.p (.load true 3 (.t 51)))⟩, ⟨(some 53), none, (.p (.fieldA 1 1 (.t 3)))⟩, ⟨(some 54), none, (.p (.load false 1 (.t 53)))⟩, ⟨(some 55), none, (.p (.mov (.t 6)))⟩, ⟨(some 56), none, (.p (.idxA 3 (.t 54) (.t 55)))⟩, ⟨(some 57), none, (.p (.load true 3 (.t 56)))⟩, ⟨(some 58), none, (.p (.eqs true [(some .i64), (some .i64), none] (.t 52) (.t 57)))⟩] [[], [0], [], [0, 1, 2], [0, 1, 2, 3], [], [5], [], [5, 6, 7], [5, 6, 7, 8], [0, 1, 2, 3, 4, 5, 6, 7, 8, 9]])
 (.cond (.t 58) (.seq (.reg [⟨(some 4), none, (.p (.mov (.c (.bool false))))⟩])
 (.ret)) (.skip)))))
 (.reg [⟨(some 59), none, (.p (.bin 0 .add (.t 45) (.c (.int .i64 1))))⟩, ⟨(some 45), none, (.p (.mov (.t 59)))⟩])))))))
 (.seq (.reg [⟨(some 4), none, (.p (.mov (.c (.bool true))))⟩])
 (.ret)))))
theorem m_rsamf_ok : compF Try.prog 15 = some (60, m_rsamf, [.mov (.t 4)]) := by kernel_rfl
set_option maxHeartbeats 4000000 in
theorem samec_fn (a b : List Canon) : Fnc Try.prog 12 [.sl false 4 (a.map canonV), .sl false 4 (b.map canonV)] (fun x obs => x = .bool (decide (a = b)) ∧ obs = []) := by
  refine Fnc.wf fun hw => ?_
  simp only [V.wfs, V.wf, wfs_map, List.length_map] at hw
  have hm := hw.1.2
  have hm' := hw.2.1.2
  by_cases hl : a.length = b.length
  · skip
    refine Fnc.intro m_samec_ok (by simp) fun W S => ?_
    unfold m_samec
    simp only [ents, Nat.zero_add, Nat.reduceAdd]
    refine zst ?_
    refine ev_loopK [0, 1, 12] (fun p : {p : Nat // p ≤ a.length ∧ a.take p = b.take p} => [(13, .int .i64 p.1)]) (fun _ => []) (fun p => a.length - p.1) (⟨0, by simp⟩) 0 (by simp only [go_sem]; rfl) ?_ (by first | rfl | (simp only [go_sem]; done)) (by simp) (by first | rfl | (simp only [go_sem]; done)) (by first | rfl | (simp only [go_sem]; done)) (by first | rfl | (simp only [go_sem]; done)) ?_
    · (simp only [go_sem]; (try simp []); done)
    intro J hJ
    rintro ⟨k, hk0, hk1⟩
    by_cases hlt : k < a.length
    · by_cases e : a[k]! = b[k]!
      · skip
        refine zst ?_
        refine ev_next 0 (hJ _ (⟨k + 1, hlt, by rw [take_snoc hlt, take_snoc (by omega), hk1, e]⟩) (by first | omega | (dsimp only; omega) | (simp; omega))) rfl (by simp) ?_ (by first | rfl | (simp only [go_sem]; done)) (by first | rfl | (simp only [go_sem]; done) | (simp only [hlt]; (try simp only [go_sem]); first | done | rfl)) ?_
        · (first | rfl | (simp only [go_sem]; done) | (simp only [go_sem]; simp only [hlt]; done) | (simp only [hlt]; done) | (simp only [go_sem]; simp [hlt]; done) | (simp [hlt]; done))
        · (simp only [go_sem]; (repeat' (refine And.intro ?_ ?_)) <;> first | exact trivial | with_reducible rfl | (simp only [hlt]; done) | (simp only [hlt]; with_reducible rfl) | (simp [hlt]; done) | (simp [hlt]; omega) | (simp only [hlt]; rfl) | skip)
      · have hne : a ≠ b := fun h => e (at_of_eq h k)
        refine zst ?_
        refine ret m_samec_ok [] ?_; (first | (simp only [go_sem]; done) | (simp only [go_sem]; exact ⟨rfl, rfl⟩))
    · have hab := eq_of_take (by omega) (by omega) hk1
      refine zst ?_
      refine ret m_samec_ok [] ?_; (first | (simp only [go_sem]; done) | (simp only [go_sem]; exact ⟨rfl, rfl⟩))
  · have hne : a ≠ b := fun h => hl (by rw [h])
    refine Fnc.intro m_samec_ok (by simp) fun W S => ?_
    unfold m_samec
    simp only [ents, Nat.zero_add, Nat.reduceAdd]
    refine zst ?_
    refine ret m_samec_ok [] ?_; (first | (simp only [go_sem]; done) | (simp only [go_sem]; exact ⟨rfl, rfl⟩))
theorem opn_ext {a b : Opn} (h1 : a.file = b.file) (h2 : a.offset = b.offset) (h3 : a.write = b.write) : a = b := by
  obtain ⟨a1, a2, a3⟩ := a
  obtain ⟨b1, b2, b3⟩ := b
  simp only at h1 h2 h3
  rw [h1, h2, h3]
theorem opn_eqs (a b : Opn) : (a.file == b.file && (a.offset == b.offset && a.write == b.write)) = decide (a = b) := by
  by_cases e : a = b
  · subst e; simp
  · rw [decF e]
    by_cases h1 : a.file = b.file
    · by_cases h2 : a.offset = b.offset
      · have h3 : a.write ≠ b.write := fun h3 => e (opn_ext h1 h2 h3)
        simp [h1, h2, h3]
      · simp [h2]
    · simp [h1]
theorem files_ext {a b : Files} (h1 : a.data = b.data) (h2 : a.opens = b.opens) : a = b := by
  obtain ⟨a1, a2⟩ := a
  obtain ⟨b1, b2⟩ := b
  simp only at h1 h2
  rw [h1, h2]
set_option maxHeartbeats 8000000 in
theorem rsamf_fn (a b : Files) : Fnc Try.prog 15 [filV a, filV b] (fun x obs => x = .bool (decide (a = b)) ∧ obs = []) := by
  refine Fnc.wf fun hw => ?_
  simp only [V.wfs, V.wf, List.length_map] at hw
  have m1 := hw.1.1.2
  have m2 := hw.1.2.1.2
  have m3 := hw.2.1.1.2
  have m4 := hw.2.1.2.1.2
  clear hw
  by_cases hl : a.data.length = b.data.length
  · by_cases ho : a.opens.length = b.opens.length
    · skip
      refine Fnc.intro m_rsamf_ok (by simp) fun W S => ?_
      unfold m_rsamf
      simp only [ents, Nat.zero_add, Nat.reduceAdd]
      refine zst ?_
      refine ev_loopK [2, 3, 25] (fun p : {p : Nat // p ≤ a.data.length ∧ a.data.take p = b.data.take p} => [(26, .int .i64 p.1)]) (fun _ => [⟨.box false 26, true, 0, filV a⟩, ⟨.box false 26, true, 0, filV b⟩]) (fun p => a.data.length - p.1) (⟨0, by simp⟩) 2 (by simp only [go_sem]; rfl) ?_ (by first | rfl | (simp only [go_sem]; done)) (by simp) (by first | rfl | (simp only [go_sem]; done)) (by first | rfl | (simp only [go_sem]; done)) (by first | rfl | (simp only [go_sem]; done)) ?_
      · (simp only [go_sem]; (try simp []); done)
      intro J hJ
      rintro ⟨k, hk0, hk1⟩
      by_cases hlt : k < a.data.length
      · by_cases e : a.data[k]! = b.data[k]!
        · have hd : decide (a.data[k]! = b.data[k]!) = true := decT e
          refine zst ?_
          (first | refine callD (samec_fn a.data[k]! b.data[k]!) ?_ | refine callDw (samec_fn a.data[k]! b.data[k]!) ?_); simp only [go_sem, hd]
          refine zst ?_
          refine ev_next 2 (hJ _ (⟨k + 1, hlt, by rw [take_snoc hlt, take_snoc (by omega), hk1, e]⟩) (by first | omega | (dsimp only; omega) | (simp; omega))) rfl (by simp) ?_ (by first | rfl | (simp only [go_sem]; done)) (by first | rfl | (simp only [go_sem]; done) | (simp only [hlt]; (try simp only [go_sem]); first | done | rfl)) ?_
          · (first | rfl | (simp only [go_sem]; done) | (simp only [go_sem]; simp only [hlt]; done) | (simp only [hlt]; done) | (simp only [go_sem]; simp [hlt]; done) | (simp [hlt]; done))
          · (simp only [go_sem]; (repeat' (refine And.intro ?_ ?_)) <;> first | exact trivial | with_reducible rfl | (simp only [hlt]; done) | (simp only [hlt]; with_reducible rfl) | (simp [hlt]; done) | (simp [hlt]; omega) | (simp only [hlt]; rfl) | skip)
        · have hd : decide (a.data[k]! = b.data[k]!) = false := decF e
          have hr : decide (a = b) = false := decF fun h => e (by rw [h])
          refine zst ?_
          (first | refine callD (samec_fn a.data[k]! b.data[k]!) ?_ | refine callDw (samec_fn a.data[k]! b.data[k]!) ?_); simp only [go_sem, hd]
          refine zst ?_
          refine ret m_rsamf_ok [] ?_; (first | (simp only [go_sem]; done) | (simp only [go_sem]; ((try dsimp only); (repeat' (refine And.intro ?_ ?_)) <;> first | with_reducible rfl | (simp only [go_sem]; done) | (simp only [go_sem]; rfl) | (simp only [go_sem, hr]; done) | (simp only [hr]; (try simp only [go_sem]); first | done | rfl) | (simp only [go_sem]; simp [hr]; done) | (simp [hr]; done) | rfl)))
      · have hab := eq_of_take (by omega) (by omega) hk1
        refine zst ?_
        refine ev_loopK [2, 3, 44] (fun p : {p : Nat // p ≤ a.opens.length ∧ a.opens.take p = b.opens.take p} => [(45, .int .i64 p.1)]) (fun _ => [⟨.box false 26, true, 0, filV a⟩, ⟨.box false 26, true, 0, filV b⟩]) (fun p => a.opens.length - p.1) (⟨0, by simp⟩) 2 (by simp only [go_sem]; rfl) ?_ (by first | rfl | (simp only [go_sem]; done)) (by simp) (by first | rfl | (simp only [go_sem]; done)) (by first | rfl | (simp only [go_sem]; done)) (by first | rfl | (simp only [go_sem]; done)) ?_
        · (simp only [go_sem]; (try simp []); done)
        intro J hJ
        rintro ⟨i, hi0, hi1⟩
        by_cases hlt2 : i < a.opens.length
        · by_cases e : a.opens[i]! = b.opens[i]!
          · have hd : decide (a.opens[i]! = b.opens[i]!) = true := decT e
            repeat (first | (simp only [opn_eqs, hd]; try simp only [go_sem]) | refine And.intro (by omega) ?_ | refine And.intro rfl ?_ | refine ev_ctl rfl rfl ?_ | refine evr_nil ?_ | refine evw_nil (by kernel_rfl) ?_ | (simp (disch := omega) only [takeAll, Nat.min_eq_left, Nat.min_eq_right, if_pos, if_neg, getD_map, wrapI64, modIn, fdivE, tmodE, tdivE, decT, decF, beqT, beqF, bneT, bneF, Int.toNat_natCast]; try simp only [go_sem]) | (refine ev_condTb rfl ?_ ?_; · (simp <;> omega)) | (refine ev_condFb rfl ?_ ?_; · (simp <;> omega)) | ((first | refine ev_region ?_ | refine evr_go rfl ?_ | refine evw_go rfl ?_ | refine ev_dr0 mixed rfl (by kernel_rfl) ?_ | refine ev_dr1 mixed rfl (by kernel_rfl) ?_ | refine ev_dr2 mixed rfl (by kernel_rfl) ?_); simp only [go_sem]))
            refine ev_next 2 (hJ _ (⟨i + 1, hlt2, by rw [take_snoc hlt2, take_snoc (by omega), hi1, e]⟩) (by first | omega | (dsimp only; omega) | (simp; omega))) rfl (by simp) ?_ (by first | rfl | (simp only [go_sem]; done)) (by first | rfl | (simp only [go_sem]; done) | (simp only [hlt2]; (try simp only [go_sem]); first | done | rfl)) ?_
            · (first | rfl | (simp only [go_sem]; done) | (simp only [go_sem]; simp only [hlt2]; done) | (simp only [hlt2]; done) | (simp only [go_sem]; simp [hlt2]; done) | (simp [hlt2]; done))
            · (simp only [go_sem]; (repeat' (refine And.intro ?_ ?_)) <;> first | exact trivial | with_reducible rfl | (simp only [hlt2]; done) | (simp only [hlt2]; with_reducible rfl) | (simp [hlt2]; done) | (simp [hlt2]; omega) | (simp only [hlt2]; rfl) | skip)
          · have hd : decide (a.opens[i]! = b.opens[i]!) = false := decF e
            have hr : decide (a = b) = false := decF fun h => e (by rw [h])
            repeat (first | (simp only [opn_eqs, hd]; try simp only [go_sem]) | refine And.intro (by omega) ?_ | refine And.intro rfl ?_ | refine ev_ctl rfl rfl ?_ | refine evr_nil ?_ | refine evw_nil (by kernel_rfl) ?_ | (simp (disch := omega) only [takeAll, Nat.min_eq_left, Nat.min_eq_right, if_pos, if_neg, getD_map, wrapI64, modIn, fdivE, tmodE, tdivE, decT, decF, beqT, beqF, bneT, bneF, Int.toNat_natCast]; try simp only [go_sem]) | (refine ev_condTb rfl ?_ ?_; · (simp <;> omega)) | (refine ev_condFb rfl ?_ ?_; · (simp <;> omega)) | ((first | refine ev_region ?_ | refine evr_go rfl ?_ | refine evw_go rfl ?_ | refine ev_dr0 mixed rfl (by kernel_rfl) ?_ | refine ev_dr1 mixed rfl (by kernel_rfl) ?_ | refine ev_dr2 mixed rfl (by kernel_rfl) ?_); simp only [go_sem]))
            refine ret m_rsamf_ok [] ?_; (first | (simp only [go_sem]; done) | (simp only [go_sem]; ((try dsimp only); (repeat' (refine And.intro ?_ ?_)) <;> first | with_reducible rfl | (simp only [go_sem]; done) | (simp only [go_sem]; rfl) | (simp only [go_sem, hr]; done) | (simp only [hr]; (try simp only [go_sem]); first | done | rfl) | (simp only [go_sem]; simp [hr]; done) | (simp [hr]; done) | rfl)))
        · have hr : decide (a = b) = true := decT (files_ext hab (eq_of_take (by omega) (by omega) hi1))
          refine zst ?_
          refine ret m_rsamf_ok [] ?_; (first | (simp only [go_sem]; done) | (simp only [go_sem]; ((try dsimp only); (repeat' (refine And.intro ?_ ?_)) <;> first | with_reducible rfl | (simp only [go_sem]; done) | (simp only [go_sem]; rfl) | (simp only [go_sem, hr]; done) | (simp only [hr]; (try simp only [go_sem]); first | done | rfl) | (simp only [go_sem]; simp [hr]; done) | (simp [hr]; done) | rfl)))
    · have hr : decide (a = b) = false := decF fun h => ho (by rw [h])
      refine Fnc.intro m_rsamf_ok (by simp) fun W S => ?_
      unfold m_rsamf
      simp only [ents, Nat.zero_add, Nat.reduceAdd]
      refine zst ?_
      refine ret m_rsamf_ok [] ?_; (first | (simp only [go_sem]; done) | (simp only [go_sem]; ((try dsimp only); (repeat' (refine And.intro ?_ ?_)) <;> first | with_reducible rfl | (simp only [go_sem]; done) | (simp only [go_sem]; rfl) | (simp only [go_sem, hr]; done) | (simp only [hr]; (try simp only [go_sem]); first | done | rfl) | (simp only [go_sem]; simp [hr]; done) | (simp [hr]; done) | rfl)))
  · have hr : decide (a = b) = false := decF fun h => hl (by rw [h])
    refine Fnc.intro m_rsamf_ok (by simp) fun W S => ?_
    unfold m_rsamf
    simp only [ents, Nat.zero_add, Nat.reduceAdd]
    refine zst ?_
    refine ret m_rsamf_ok [] ?_; (first | (simp only [go_sem]; done) | (simp only [go_sem]; ((try dsimp only); (repeat' (refine And.intro ?_ ?_)) <;> first | with_reducible rfl | (simp only [go_sem]; done) | (simp only [go_sem]; rfl) | (simp only [go_sem, hr]; done) | (simp only [hr]; (try simp only [go_sem]); first | done | rfl) | (simp only [go_sem]; simp [hr]; done) | (simp [hr]; done) | rfl)))
end Go.Proofs.Ytanmcjkpdkmhfaa
