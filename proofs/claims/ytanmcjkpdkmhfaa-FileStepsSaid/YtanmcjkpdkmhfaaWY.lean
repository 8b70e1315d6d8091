/- W10, W11, WX, W16, W17, W18, Cut, in one text. -/
import Derived.Test.YtanmcjkpdkmhfaaWMb
import Derived.Test.YtanmcjkpdkmhfaaZt
/- Files: equality by the reference. -/
namespace Go.Proofs.Ytanmcjkpdkmhfaa
open Go Go.RowKit Rdn Rdn.Dp
set_option linter.unusedVariables false
set_option linter.unusedSimpArgs false
def m_samec : MC := .seq (.reg [⟨(some 4), none, (.p (.mov (.c (.bool false))))⟩])
 (.seq (.seq (.reg [⟨(some 6), none, (.p (.mov (.t 0)))⟩, ⟨(some 7), none, (.p (.len (.t 6)))⟩, ⟨(some 8), none, (.p (.mov (.t 1)))⟩, ⟨(some 9), none, (.p (.len (.t 8)))⟩, ⟨(some 10), none, (.p (.bin 0 .neq (.t 7) (.t 9)))⟩])
 (.cond (.t 10) (.seq (.reg [⟨(some 4), none, (.p (.mov (.c (.bool false))))⟩])
 (.ret)) (.skip)))
 (.seq (.seq (.reg [⟨(some 11), none, (.p (.mov (.t 0)))⟩, ⟨(some 12), none, (.p (.len (.t 11)))⟩, ⟨(some 13), none, (.p (.mov (.c (.int .i64 0))))⟩])
 (.block 0 (.loop (.seq (.reg [⟨(some 14), none, (.p (.bin 0 .lss (.t 13) (.t 12)))⟩])
 (.seq (.cond (.t 14) (.skip) (.exit 0))
 (.seq (.block 1 (.seq (.reg [⟨(some 15), none, (.p (.mov (.t 13)))⟩, ⟨(some 5), none, (.p (.mov (.t 15)))⟩])
 (.seq (.dreg [⟨(some 16), none, (.p (.mov (.t 0)))⟩, ⟨(some 17), none, (.p (.mov (.t 5)))⟩, ⟨(some 18), none, (.p (.idxA 4 (.t 16) (.t 17)))⟩, ⟨(some 19), none, (.p (.load true 4 (.t 18)))⟩, ⟨(some 20), none, (.p (.mov (.t 1)))⟩, ⟨(some 21), none, (.p (.mov (.t 5)))⟩, ⟨(some 22), none, (.p (.idxA 4 (.t 20) (.t 21)))⟩, ⟨(some 23), none, (.p (.load true 4 (.t 22)))⟩, ⟨(some 24), none, (.p (.eqs true [(some .u8), (some .u16), (some .i64), (some .i64)] (.t 19) (.t 23)))⟩] [[], [], [0, 1], [0, 1, 2], [], [], [4, 5], [4, 5, 6], [0, 1, 2, 3, 4, 5, 6, 7]])
 (.cond (.t 24) (.seq (.reg [⟨(some 4), none, (.p (.mov (.c (.bool false))))⟩])
 (.ret)) (.skip)))))
 (.reg [⟨(some 25), none, (.p (.bin 0 .add (.t 13) (.c (.int .i64 1))))⟩, ⟨(some 13), none, (.p (.mov (.t 25)))⟩])))))))
 (.seq (.reg [⟨(some 4), none, (.p (.mov (.c (.bool true))))⟩])
 (.ret))))
theorem m_samec_ok : compF Try.prog 12 = some (26, m_samec, [.mov (.t 4)]) := by kernel_rfl
def m_rsamf : MC := .seq (.reg [⟨(some 2), none, (.m (.box 26 (.t 0)))⟩, ⟨(some 3), none, (.m (.box 26 (.t 1)))⟩, ⟨(some 4), none, (.p (.mov (.c (.bool false))))⟩])
 (.seq (.seq (.reg [⟨(some 7), none, (.p (.fieldA 0 0 (.t 2)))⟩, ⟨(some 8), none, (.p (.load false 1 (.t 7)))⟩, ⟨(some 9), none, (.p (.len (.t 8)))⟩, ⟨(some 10), none, (.p (.fieldA 0 0 (.t 3)))⟩, ⟨(some 11), none, (.p (.load false 1 (.t 10)))⟩, ⟨(some 12), none, (.p (.len (.t 11)))⟩, ⟨(some 13), none, (.p (.bin 0 .neq (.t 9) (.t 12)))⟩, ⟨(some 14), none, (.p (.mov (.t 13)))⟩, ⟨(some 15), (some (14, false)), (.p (.fieldA 1 1 (.t 2)))⟩, ⟨(some 16), (some (14, false)), (.p (.load false 1 (.t 15)))⟩, ⟨(some 17), (some (14, false)), (.p (.len (.t 16)))⟩, ⟨(some 18), (some (14, false)), (.p (.fieldA 1 1 (.t 3)))⟩, ⟨(some 19), (some (14, false)), (.p (.load false 1 (.t 18)))⟩, ⟨(some 20), (some (14, false)), (.p (.len (.t 19)))⟩, ⟨(some 21), (some (14, false)), (.p (.bin 0 .neq (.t 17) (.t 20)))⟩, ⟨(some 22), none, (.p (.pick (.t 14) (.c (.bool true)) (.t 21)))⟩])
 (.cond (.t 22) (.seq (.reg [⟨(some 4), none, (.p (.mov (.c (.bool false))))⟩])
 (.ret)) (.skip)))
 (.seq (.seq (.reg [⟨(some 23), none, (.p (.fieldA 0 0 (.t 2)))⟩, ⟨(some 24), none, (.p (.load false 1 (.t 23)))⟩, ⟨(some 25), none, (.p (.len (.t 24)))⟩, ⟨(some 26), none, (.p (.mov (.c (.int .i64 0))))⟩])
 (.block 0 (.loop (.seq (.reg [⟨(some 27), none, (.p (.bin 0 .lss (.t 26) (.t 25)))⟩])
 (.seq (.cond (.t 27) (.skip) (.exit 0))
 (.seq (.block 1 (.seq (.reg [⟨(some 28), none, (.p (.mov (.t 26)))⟩, ⟨(some 5), none, (.p (.mov (.t 28)))⟩])
 (.seq (.dreg [⟨(some 29), none, (.p (.fieldA 0 0 (.t 2)))⟩, ⟨(some 30), none, (.p (.load false 1 (.t 29)))⟩, ⟨(some 31), none, (.p (.mov (.t 5)))⟩, ⟨(some 32), none, (.p (.idxA 1 (.t 30) (.t 31)))⟩, ⟨(some 33), none, (.p (.load false 1 (.t 32)))⟩, ⟨(some 34), none, (.p (.fieldA 0 0 (.t 3)))⟩, ⟨(some 35), none, (.p (.load false 1 (.t 34)))⟩, ⟨(some 36), none, (.p (.mov (.t 5)))⟩, ⟨(some 37), none, (.p (.idxA 1 (.t 35) (.t 36)))⟩, ⟨(some 38), none, (.p (.load false 1 (.t 37)))⟩, ⟨(some 39), none, (.call 12 [(.t 33), (.t 38)])⟩, ⟨(some 40), none, (.p (.un .not (.t 39)))⟩] [[], [0], [], [0, 1, 2], [0, 1, 2, 3], [], [5], [], [5, 6, 7], [5, 6, 7, 8], [0, 1, 2, 3, 4, 5, 6, 7, 8, 9], [0, 1, 2, 3, 4, 5, 6, 7, 8, 9, 10]])
 (.cond (.t 40) (.seq (.reg [⟨(some 4), none, (.p (.mov (.c (.bool false))))⟩])
 (.ret)) (.skip)))))
 (.reg [⟨(some 41), none, (.p (.bin 0 .add (.t 26) (.c (.int .i64 1))))⟩, ⟨(some 26), none, (.p (.mov (.t 41)))⟩])))))))
 (.seq (.seq (.reg [⟨(some 42), none, (.p (.fieldA 1 1 (.t 2)))⟩, ⟨(some 43), none, (.p (.load false 1 (.t 42)))⟩, ⟨(some 44), none, (.p (.len (.t 43)))⟩, ⟨(some 45), none, (.p (.mov (.c (.int .i64 0))))⟩])
 (.block 2 (.loop (.seq (.reg [⟨(some 46), none, (.p (.bin 0 .lss (.t 45) (.t 44)))⟩])
 (.seq (.cond (.t 46) (.skip) (.exit 2))
 (.seq (.block 3 (.seq (.reg [⟨(some 47), none, (.p (.mov (.t 45)))⟩, ⟨(some 6), none, (.p (.mov (.t 47)))⟩])
 (.seq (.dreg [⟨(some 48), none, (.p (.fieldA 1 1 (.t 2)))⟩, ⟨(some 49), none, (.p (.load false 1 (.t 48)))⟩, ⟨(some 50), none, (.p (.mov (.t 6)))⟩, ⟨(some 51), none, (.p (.idxA 3 (.t 49) (.t 50)))⟩, ⟨(some 52), none, (.p (.load true 3 (.t 51)))⟩, ⟨(some 53), none, (.p (.fieldA 1 1 (.t 3)))⟩, ⟨(some 54), none, (.p (.load false 1 (.t 53)))⟩, ⟨(some 55), none, (.p (.mov (.t 6)))⟩, ⟨(some 56), none, (.p (.idxA 3 (.t 54) (.t 55)))⟩, ⟨(some 57), none, (.p (.load true 3 (.t 56)))⟩, ⟨(some 58), none, (.p (.eqs true [(some .i64), (some .i64), none] (.t 52) (.t 57)))⟩] [[], [0], [], [0, 1, 2], [0, 1, 2, 3], [], [5], [], [5, 6, 7], [5, 6, 7, 8], [0, 1, 2, 3, 4, 5, 6, 7, 8, 9]])
 (.cond (.t 58) (.seq (.reg [⟨(some 4), none, (.p (.mov (.c (.bool false))))⟩])
 (.ret)) (.skip)))))
 (.reg [⟨(some 59), none, (.p (.bin 0 .add (.t 45) (.c (.int .i64 1))))⟩, ⟨(some 45), none, (.p (.mov (.t 59)))⟩])))))))
 (.seq (.reg [⟨(some 4), none, (.p (.mov (.c (.bool true))))⟩])
 (.ret)))))
theorem m_rsamf_ok : compF Try.prog 15 = some (60, m_rsamf, [.mov (.t 4)]) := by kernel_rfl
set_option maxHeartbeats 4000000 in
theorem samec_fn (a b : List Canon) : Fnc Try.prog 12 [.sl false 4 (a.map canonV), .sl false 4 (b.map canonV)] (fun x obs => x = .bool (decide (a = b)) ∧ obs = []) := by
  refine Fnc.wf fun hw => ?_
  simp only [V.wfs, V.wf, wfs_map, List.length_map] at hw
  have hm := hw.1.2
  have hm' := hw.2.1.2
  by_cases hl : a.length = b.length
  · skip
    refine Fnc.intro m_samec_ok (by simp) fun W S => ?_
    unfold m_samec
    simp only [ents, Nat.zero_add, Nat.reduceAdd]
    refine zst ?_
    refine ev_loopK [0, 1, 12] (fun p : {p : Nat // p ≤ a.length ∧ a.take p = b.take p} => [(13, .int .i64 p.1)]) (fun _ => []) (fun p => a.length - p.1) (⟨0, by simp⟩) 0 (by simp only [go_sem]; rfl) ?_ (by first | rfl | (simp only [go_sem]; done)) (by simp) (by first | rfl | (simp only [go_sem]; done)) (by first | rfl | (simp only [go_sem]; done)) (by first | rfl | (simp only [go_sem]; done)) ?_
    · (simp only [go_sem]; (try simp []); done)
    intro J hJ
    rintro ⟨k, hk0, hk1⟩
    by_cases hlt : k < a.length
    · by_cases e : a[k]! = b[k]!
      · skip
        refine zst ?_
        refine ev_next 0 (hJ _ (⟨k + 1, hlt, by rw [take_snoc hlt, take_snoc (by omega), hk1, e]⟩) (by first | omega | (dsimp only; omega) | (simp; omega))) rfl (by simp) ?_ (by first | rfl | (simp only [go_sem]; done)) (by first | rfl | (simp only [go_sem]; done) | (simp only [hlt]; (try simp only [go_sem]); first | done | rfl)) ?_
        · (first | rfl | (simp only [go_sem]; done) | (simp only [go_sem]; simp only [hlt]; done) | (simp only [hlt]; done) | (simp only [go_sem]; simp [hlt]; done) | (simp [hlt]; done))
        · (simp only [go_sem]; (repeat' (refine And.intro ?_ ?_)) <;> first | exact trivial | with_reducible rfl | (simp only [hlt]; done) | (simp only [hlt]; with_reducible rfl) | (simp [hlt]; done) | (simp [hlt]; omega) | (simp only [hlt]; rfl) | skip)
      · have hne : a ≠ b := fun h => e (at_of_eq h k)
        refine zst ?_
        refine ret m_samec_ok [] ?_; (first | (simp only [go_sem]; done) | (simp only [go_sem]; exact ⟨rfl, rfl⟩))
    · have hab := eq_of_take (by omega) (by omega) hk1
      refine zst ?_
      refine ret m_samec_ok [] ?_; (first | (simp only [go_sem]; done) | (simp only [go_sem]; exact ⟨rfl, rfl⟩))
  · have hne : a ≠ b := fun h => hl (by rw [h])
    refine Fnc.intro m_samec_ok (by simp) fun W S => ?_
    unfold m_samec
    simp only [ents, Nat.zero_add, Nat.reduceAdd]
    refine zst ?_
    refine ret m_samec_ok [] ?_; (first | (simp only [go_sem]; done) | (simp only [go_sem]; exact ⟨rfl, rfl⟩))
theorem opn_ext {a b : Opn} (h1 : a.file = b.file) (h2 : a.offset = b.offset) (h3 : a.write = b.write) : a = b := by
  obtain ⟨a1, a2, a3⟩ := a
  obtain ⟨b1, b2, b3⟩ := b
  simp only at h1 h2 h3
  rw [h1, h2, h3]
theorem opn_eqs (a b : Opn) : (a.file == b.file && (a.offset == b.offset && a.write == b.write)) = decide (a = b) := by
  by_cases e : a = b
  · subst e; simp
  · rw [decF e]
    by_cases h1 : a.file = b.file
    · by_cases h2 : a.offset = b.offset
      · have h3 : a.write ≠ b.write := fun h3 => e (opn_ext h1 h2 h3)
        simp [h1, h2, h3]
      · simp [h2]
    · simp [h1]
theorem files_ext {a b : Files} (h1 : a.data = b.data) (h2 : a.opens = b.opens) : a = b := by
  obtain ⟨a1, a2⟩ := a
  obtain ⟨b1, b2⟩ := b
  simp only at h1 h2
  rw [h1, h2]
set_option maxHeartbeats 8000000 in
theorem rsamf_fn (a b : Files) : Fnc Try.prog 15 [filV a, filV b] (fun x obs => x = .bool (decide (a = b)) ∧ obs = []) := by
  refine Fnc.wf fun hw => ?_
  simp only [V.wfs, V.wf, List.length_map] at hw
  have m1 := hw.1.1.2
  have m2 := hw.1.2.1.2
  have m3 := hw.2.1.1.2
  have m4 := hw.2.1.2.1.2
  clear hw
  by_cases hl : a.data.length = b.data.length
  · by_cases ho : a.opens.length = b.opens.length
    · skip
      refine Fnc.intro m_rsamf_ok (by simp) fun W S => ?_
      unfold m_rsamf
      simp only [ents, Nat.zero_add, Nat.reduceAdd]
      refine zst ?_
      refine ev_loopK [2, 3, 25] (fun p : {p : Nat // p ≤ a.data.length ∧ a.data.take p = b.data.take p} => [(26, .int .i64 p.1)]) (fun _ => [⟨.box false 26, true, 0, filV a⟩, ⟨.box false 26, true, 0, filV b⟩]) (fun p => a.data.length - p.1) (⟨0, by simp⟩) 2 (by simp only [go_sem]; rfl) ?_ (by first | rfl | (simp only [go_sem]; done)) (by simp) (by first | rfl | (simp only [go_sem]; done)) (by first | rfl | (simp only [go_sem]; done)) (by first | rfl | (simp only [go_sem]; done)) ?_
      · (simp only [go_sem]; (try simp []); done)
      intro J hJ
      rintro ⟨k, hk0, hk1⟩
      by_cases hlt : k < a.data.length
      · by_cases e : a.data[k]! = b.data[k]!
        · have hd : decide (a.data[k]! = b.data[k]!) = true := decT e
          refine zst ?_
          (first | refine callD (samec_fn a.data[k]! b.data[k]!) ?_ | refine callDw (samec_fn a.data[k]! b.data[k]!) ?_); simp only [go_sem, hd]
          refine zst ?_
          refine ev_next 2 (hJ _ (⟨k + 1, hlt, by rw [take_snoc hlt, take_snoc (by omega), hk1, e]⟩) (by first | omega | (dsimp only; omega) | (simp; omega))) rfl (by simp) ?_ (by first | rfl | (simp only [go_sem]; done)) (by first | rfl | (simp only [go_sem]; done) | (simp only [hlt]; (try simp only [go_sem]); first | done | rfl)) ?_
          · (first | rfl | (simp only [go_sem]; done) | (simp only [go_sem]; simp only [hlt]; done) | (simp only [hlt]; done) | (simp only [go_sem]; simp [hlt]; done) | (simp [hlt]; done))
          · (simp only [go_sem]; (repeat' (refine And.intro ?_ ?_)) <;> first | exact trivial | with_reducible rfl | (simp only [hlt]; done) | (simp only [hlt]; with_reducible rfl) | (simp [hlt]; done) | (simp [hlt]; omega) | (simp only [hlt]; rfl) | skip)
        · have hd : decide (a.data[k]! = b.data[k]!) = false := decF e
          have hr : decide (a = b) = false := decF fun h => e (by rw [h])
          refine zst ?_
          (first | refine callD (samec_fn a.data[k]! b.data[k]!) ?_ | refine callDw (samec_fn a.data[k]! b.data[k]!) ?_); simp only [go_sem, hd]
          refine zst ?_
          refine ret m_rsamf_ok [] ?_; (first | (simp only [go_sem]; done) | (simp only [go_sem]; ((try dsimp only); (repeat' (refine And.intro ?_ ?_)) <;> first | with_reducible rfl | (simp only [go_sem]; done) | (simp only [go_sem]; rfl) | (simp only [go_sem, hr]; done) | (simp only [hr]; (try simp only [go_sem]); first | done | rfl) | (simp only [go_sem]; simp [hr]; done) | (simp [hr]; done) | rfl)))
      · have hab := eq_of_take (by omega) (by omega) hk1
        refine zst ?_
        refine ev_loopK [2, 3, 44] (fun p : {p : Nat // p ≤ a.opens.length ∧ a.opens.take p = b.opens.take p} => [(45, .int .i64 p.1)]) (fun _ => [⟨.box false 26, true, 0, filV a⟩, ⟨.box false 26, true, 0, filV b⟩]) (fun p => a.opens.length - p.1) (⟨0, by simp⟩) 2 (by simp only [go_sem]; rfl) ?_ (by first | rfl | (simp only [go_sem]; done)) (by simp) (by first | rfl | (simp only [go_sem]; done)) (by first | rfl | (simp only [go_sem]; done)) (by first | rfl | (simp only [go_sem]; done)) ?_
        · (simp only [go_sem]; (try simp []); done)
        intro J hJ
        rintro ⟨i, hi0, hi1⟩
        by_cases hlt2 : i < a.opens.length
        · by_cases e : a.opens[i]! = b.opens[i]!
          · have hd : decide (a.opens[i]! = b.opens[i]!) = true := decT e
            repeat (first | (simp only [opn_eqs, hd]; try simp only [go_sem]) | refine And.intro (by omega) ?_ | refine And.intro rfl ?_ | refine ev_ctl rfl rfl ?_ | refine evr_nil ?_ | refine evw_nil (by kernel_rfl) ?_ | (simp (disch := omega) only [takeAll, Nat.min_eq_left, Nat.min_eq_right, if_pos, if_neg, getD_map, wrapI64, modIn, fdivE, tmodE, tdivE, decT, decF, beqT, beqF, bneT, bneF, Int.toNat_natCast]; try simp only [go_sem]) | (refine ev_condTb rfl ?_ ?_; · (simp <;> omega)) | (refine ev_condFb rfl ?_ ?_; · (simp <;> omega)) | ((first | refine ev_region ?_ | refine evr_go rfl ?_ | refine evw_go rfl ?_ | refine ev_dr0 mixed rfl (by kernel_rfl) ?_ | refine ev_dr1 mixed rfl (by kernel_rfl) ?_ | refine ev_dr2 mixed rfl (by kernel_rfl) ?_); simp only [go_sem]))
            refine ev_next 2 (hJ _ (⟨i + 1, hlt2, by rw [take_snoc hlt2, take_snoc (by omega), hi1, e]⟩) (by first | omega | (dsimp only; omega) | (simp; omega))) rfl (by simp) ?_ (by first | rfl | (simp only [go_sem]; done)) (by first | rfl | (simp only [go_sem]; done) | (simp only [hlt2]; (try simp only [go_sem]); first | done | rfl)) ?_
            · (first | rfl | (simp only [go_sem]; done) | (simp only [go_sem]; simp only [hlt2]; done) | (simp only [hlt2]; done) | (simp only [go_sem]; simp [hlt2]; done) | (simp [hlt2]; done))
            · (simp only [go_sem]; (repeat' (refine And.intro ?_ ?_)) <;> first | exact trivial | with_reducible rfl | (simp only [hlt2]; done) | (simp only [hlt2]; with_reducible rfl) | (simp [hlt2]; done) | (simp [hlt2]; omega) | (simp only [hlt2]; rfl) | skip)
          · have hd : decide (a.opens[i]! = b.opens[i]!) = false := decF e
            have hr : decide (a = b) = false := decF fun h => e (by rw [h])
            repeat (first | (simp only [opn_eqs, hd]; try simp only [go_sem]) | refine And.intro (by omega) ?_ | refine And.intro rfl ?_ | refine ev_ctl rfl rfl ?_ | refine evr_nil ?_ | refine evw_nil (by kernel_rfl) ?_ | (simp (disch := omega) only [takeAll, Nat.min_eq_left, Nat.min_eq_right, if_pos, if_neg, getD_map, wrapI64, modIn, fdivE, tmodE, tdivE, decT, decF, beqT, beqF, bneT, bneF, Int.toNat_natCast]; try simp only [go_sem]) | (refine ev_condTb rfl ?_ ?_; · (simp <;> omega)) | (refine ev_condFb rfl ?_ ?_; · (simp <;> omega)) | ((first | refine ev_region ?_ | refine evr_go rfl ?_ | refine evw_go rfl ?_ | refine ev_dr0 mixed rfl (by kernel_rfl) ?_ | refine ev_dr1 mixed rfl (by kernel_rfl) ?_ | refine ev_dr2 mixed rfl (by kernel_rfl) ?_); simp only [go_sem]))
            refine ret m_rsamf_ok [] ?_; (first | (simp only [go_sem]; done) | (simp only [go_sem]; ((try dsimp only); (repeat' (refine And.intro ?_ ?_)) <;> first | with_reducible rfl | (simp only [go_sem]; done) | (simp only [go_sem]; rfl) | (simp only [go_sem, hr]; done) | (simp only [hr]; (try simp only [go_sem]); first | done | rfl) | (simp only [go_sem]; simp [hr]; done) | (simp [hr]; done) | rfl)))
        · have hr : decide (a = b) = true := decT (files_ext hab (eq_of_take (by omega) (by omega) hi1))
          refine zst ?_
          refine ret m_rsamf_ok [] ?_; (first | (simp only [go_sem]; done) | (simp only [go_sem]; ((try dsimp only); (repeat' (refine And.intro ?_ ?_)) <;> first | with_reducible rfl | (simp only [go_sem]; done) | (simp only [go_sem]; rfl) | (simp only [go_sem, hr]; done) | (simp only [hr]; (try simp only [go_sem]); first | done | rfl) | (simp only [go_sem]; simp [hr]; done) | (simp [hr]; done) | rfl)))
    · have hr : decide (a = b) = false := decF fun h => ho (by rw [h])
      refine Fnc.intro m_rsamf_ok (by simp) fun W S => ?_
      unfold m_rsamf
      simp only [ents, Nat.zero_add, Nat.reduceAdd]
      refine zst ?_
      refine ret m_rsamf_ok [] ?_; (first | (simp only [go_sem]; done) | (simp only [go_sem]; ((try dsimp only); (repeat' (refine And.intro ?_ ?_)) <;> first | with_reducible rfl | (simp only [go_sem]; done) | (simp only [go_sem]; rfl) | (simp only [go_sem, hr]; done) | (simp only [hr]; (try simp only [go_sem]); first | done | rfl) | (simp only [go_sem]; simp [hr]; done) | (simp [hr]; done) | rfl)))
  · have hr : decide (a = b) = false := decF fun h => hl (by rw [h])
    refine Fnc.intro m_rsamf_ok (by simp) fun W S => ?_
    unfold m_rsamf
    simp only [ents, Nat.zero_add, Nat.reduceAdd]
    refine zst ?_
    refine ret m_rsamf_ok [] ?_; (first | (simp only [go_sem]; done) | (simp only [go_sem]; ((try dsimp only); (repeat' (refine And.intro ?_ ?_)) <;> first | with_reducible rfl | (simp only [go_sem]; done) | (simp only [go_sem]; rfl) | (simp only [go_sem, hr]; done) | (simp only [hr]; (try simp only [go_sem]); first | done | rfl) | (simp only [go_sem]; simp [hr]; done) | (simp [hr]; done) | rfl)))
end Go.Proofs.Ytanmcjkpdkmhfaa
/- Files: opening for writing empties (FileEmpties). -/
namespace Go.Proofs.Ytanmcjkpdkmhfaa
open Go Go.RowKit Rdn Rdn.Dp
set_option linter.unusedVariables false
set_option linter.unusedSimpArgs false
def m_fem : MC := .seq (.reg [⟨(some 4), none, (.p (.mov (.c (.bool false))))⟩])
 (.seq (.reg [⟨(some 13), none, (.p (.mov (.t 0)))⟩, ⟨(some 14), none, (.call 9 [(.t 13)])⟩, ⟨(some 15), none, (.call 8 [(.t 14)])⟩, ⟨(some 5), none, (.m (.alloc 26 (.agg [.nilS, .nilS])))⟩, ⟨none, none, (.m (.store 2 (.t 5) (.t 15)))⟩])
 (.seq (.reg [⟨(some 16), none, (.p (.mov (.t 1)))⟩, ⟨(some 17), none, (.p (.fieldA 0 0 (.t 5)))⟩, ⟨(some 18), none, (.p (.load false 1 (.t 17)))⟩, ⟨(some 19), none, (.p (.len (.t 18)))⟩, ⟨(some 20), none, (.call 10 [(.t 16), (.t 19)])⟩, ⟨(some 6), none, (.p (.mov (.t 20)))⟩])
 (.seq (.seq (.reg [⟨(some 21), none, (.p (.mov (.c (.int .i64 0))))⟩])
 (.block 0 (.loop (.seq (.reg [⟨(some 22), none, (.p (.bin 0 .lss (.t 21) (.c (.int .i64 3))))⟩])
 (.seq (.cond (.t 22) (.skip) (.exit 0))
 (.seq (.block 1 (.seq (.reg [⟨(some 23), none, (.p (.mov (.t 21)))⟩, ⟨(some 7), none, (.p (.mov (.t 23)))⟩])
 (.seq (.reg [⟨(some 25), none, (.p (.load true 2 (.t 5)))⟩, ⟨(some 26), none, (.p (.mov (.t 6)))⟩, ⟨(some 27), none, (.p (.mov (.t 7)))⟩, ⟨(some 28), none, (.call 11 [(.t 25), (.t 26), (.t 27)])⟩, ⟨(some 24), none, (.p (.mov (.t 28)))⟩, ⟨(some 29), none, (.p (.ext (.t 24) 0))⟩, ⟨(some 30), none, (.p (.ext (.t 24) 1))⟩, ⟨(some 8), none, (.m (.alloc 26 (.agg [.nilS, .nilS])))⟩, ⟨none, none, (.m (.store 2 (.t 8) (.t 29)))⟩, ⟨(some 9), none, (.p (.mov (.t 30)))⟩])
 (.seq (.seq (.reg [⟨(some 31), none, (.p (.mov (.t 9)))⟩, ⟨(some 32), none, (.p (.bin 0 .lss (.t 31) (.c (.int .i64 0))))⟩])
 (.cond (.t 32) (.exit 1) (.skip)))
 (.seq (.seq (.reg [⟨(some 33), none, (.p (.fieldA 0 0 (.t 8)))⟩, ⟨(some 34), none, (.p (.load false 1 (.t 33)))⟩, ⟨(some 35), none, (.p (.len (.t 34)))⟩, ⟨(some 36), none, (.p (.fieldA 0 0 (.t 5)))⟩, ⟨(some 37), none, (.p (.load false 1 (.t 36)))⟩, ⟨(some 38), none, (.p (.len (.t 37)))⟩, ⟨(some 39), none, (.p (.bin 0 .neq (.t 35) (.t 38)))⟩, ⟨(some 40), none, (.p (.mov (.t 39)))⟩, ⟨(some 41), (some (40, false)), (.p (.fieldA 1 1 (.t 8)))⟩, ⟨(some 42), (some (40, false)), (.p (.load false 1 (.t 41)))⟩, ⟨(some 43), (some (40, false)), (.p (.len (.t 42)))⟩, ⟨(some 44), (some (40, false)), (.p (.bin 0 .neq (.t 43) (.c (.int .i64 8))))⟩, ⟨(some 45), none, (.p (.pick (.t 40) (.c (.bool true)) (.t 44)))⟩])
 (.cond (.t 45) (.seq (.reg [⟨(some 4), none, (.p (.mov (.c (.bool false))))⟩])
 (.ret)) (.skip)))
 (.seq (.seq (.reg [⟨(some 46), none, (.p (.fieldA 0 0 (.t 8)))⟩, ⟨(some 47), none, (.p (.load false 1 (.t 46)))⟩, ⟨(some 48), none, (.p (.len (.t 47)))⟩, ⟨(some 49), none, (.p (.mov (.c (.int .i64 0))))⟩])
 (.block 2 (.loop (.seq (.reg [⟨(some 50), none, (.p (.bin 0 .lss (.t 49) (.t 48)))⟩])
 (.seq (.cond (.t 50) (.skip) (.exit 2))
 (.seq (.block 3 (.seq (.reg [⟨(some 51), none, (.p (.mov (.t 49)))⟩, ⟨(some 10), none, (.p (.mov (.t 51)))⟩])
 (.seq (.reg [⟨(some 52), none, (.p (.mov (.t 10)))⟩, ⟨(some 53), none, (.p (.mov (.t 6)))⟩, ⟨(some 54), none, (.p (.bin 0 .eql (.t 52) (.t 53)))⟩, ⟨(some 55), none, (.p (.mov (.t 54)))⟩, ⟨(some 56), (some (55, true)), (.p (.mov (.t 7)))⟩, ⟨(some 57), (some (55, true)), (.p (.bin 0 .eql (.t 56) (.c (.int .i64 1))))⟩, ⟨(some 58), none, (.p (.pick (.t 55) (.t 57) (.c (.bool false))))⟩])
 (.cond (.t 58) (.seq (.reg [⟨(some 59), none, (.p (.fieldA 0 0 (.t 8)))⟩, ⟨(some 60), none, (.p (.load false 1 (.t 59)))⟩, ⟨(some 61), none, (.p (.mov (.t 10)))⟩, ⟨(some 62), none, (.p (.idxA 1 (.t 60) (.t 61)))⟩, ⟨(some 63), none, (.p (.load false 1 (.t 62)))⟩, ⟨(some 64), none, (.p (.len (.t 63)))⟩, ⟨(some 65), none, (.p (.bin 0 .neq (.t 64) (.c (.int .i64 0))))⟩])
 (.cond (.t 65) (.seq (.reg [⟨(some 4), none, (.p (.mov (.c (.bool false))))⟩])
 (.ret)) (.skip))) (.seq (.dreg [⟨(some 66), none, (.p (.fieldA 0 0 (.t 8)))⟩, ⟨(some 67), none, (.p (.load false 1 (.t 66)))⟩, ⟨(some 68), none, (.p (.mov (.t 10)))⟩, ⟨(some 69), none, (.p (.idxA 1 (.t 67) (.t 68)))⟩, ⟨(some 70), none, (.p (.load false 1 (.t 69)))⟩, ⟨(some 71), none, (.p (.fieldA 0 0 (.t 5)))⟩, ⟨(some 72), none, (.p (.load false 1 (.t 71)))⟩, ⟨(some 73), none, (.p (.mov (.t 10)))⟩, ⟨(some 74), none, (.p (.idxA 1 (.t 72) (.t 73)))⟩, ⟨(some 75), none, (.p (.load false 1 (.t 74)))⟩, ⟨(some 76), none, (.call 12 [(.t 70), (.t 75)])⟩, ⟨(some 77), none, (.p (.un .not (.t 76)))⟩] [[], [0], [], [0, 1, 2], [0, 1, 2, 3], [], [5], [], [5, 6, 7], [5, 6, 7, 8], [0, 1, 2, 3, 4, 5, 6, 7, 8, 9], [0, 1, 2, 3, 4, 5, 6, 7, 8, 9, 10]])
 (.cond (.t 77) (.seq (.reg [⟨(some 4), none, (.p (.mov (.c (.bool false))))⟩])
 (.ret)) (.skip)))))))
 (.reg [⟨(some 78), none, (.p (.bin 0 .add (.t 49) (.c (.int .i64 1))))⟩, ⟨(some 49), none, (.p (.mov (.t 78)))⟩])))))))
 (.seq (.reg [⟨(some 79), none, (.p (.fieldA 1 1 (.t 8)))⟩, ⟨(some 80), none, (.p (.load false 1 (.t 79)))⟩, ⟨(some 81), none, (.p (.len (.t 80)))⟩, ⟨(some 82), none, (.p (.mov (.c (.int .i64 0))))⟩])
 (.block 4 (.loop (.seq (.reg [⟨(some 83), none, (.p (.bin 0 .lss (.t 82) (.t 81)))⟩])
 (.seq (.cond (.t 83) (.skip) (.exit 4))
 (.seq (.block 5 (.seq (.reg [⟨(some 84), none, (.p (.mov (.t 82)))⟩, ⟨(some 85), none, (.p (.idxA 3 (.t 80) (.t 82)))⟩, ⟨(some 86), none, (.p (.load true 3 (.t 85)))⟩, ⟨(some 12), none, (.m (.alloc 36 (.agg [.int .i64 0, .int .i64 0, .bool false])))⟩, ⟨(some 11), none, (.p (.mov (.t 84)))⟩, ⟨none, none, (.m (.store 3 (.t 12) (.t 86)))⟩])
 (.seq (.dreg [⟨(some 87), none, (.p (.mov (.t 11)))⟩, ⟨(some 88), none, (.p (.mov (.t 9)))⟩, ⟨(some 89), none, (.p (.bin 0 .neq (.t 87) (.t 88)))⟩, ⟨(some 90), none, (.p (.mov (.t 89)))⟩, ⟨(some 91), (some (90, true)), (.p (.fieldA 0 0 (.t 12)))⟩, ⟨(some 92), (some (90, true)), (.p (.load false 1 (.t 91)))⟩, ⟨(some 93), (some (90, true)), (.p (.mov (.t 6)))⟩, ⟨(some 94), (some (90, true)), (.p (.bin 0 .eql (.t 92) (.t 93)))⟩, ⟨(some 95), none, (.p (.pick (.t 90) (.t 94) (.c (.bool false))))⟩, ⟨(some 96), none, (.p (.mov (.t 95)))⟩, ⟨(some 97), (some (96, true)), (.p (.mov (.t 7)))⟩, ⟨(some 98), (some (96, true)), (.p (.bin 0 .eql (.t 97) (.c (.int .i64 1))))⟩, ⟨(some 99), none, (.p (.pick (.t 96) (.t 98) (.c (.bool false))))⟩, ⟨(some 100), none, (.p (.mov (.t 99)))⟩, ⟨(some 101), (some (100, true)), (.p (.fieldA 1 1 (.t 12)))⟩, ⟨(some 102), (some (100, true)), (.p (.load false 1 (.t 101)))⟩, ⟨(some 103), (some (100, true)), (.p (.bin 0 .neq (.t 102) (.c (.int .i64 0))))⟩, ⟨(some 104), none, (.p (.pick (.t 100) (.t 103) (.c (.bool false))))⟩, ⟨(some 105), none, (.p (.mov (.t 104)))⟩, ⟨(some 106), (some (105, false)), (.p (.mov (.t 11)))⟩, ⟨(some 107), (some (105, false)), (.p (.mov (.t 9)))⟩, ⟨(some 108), (some (105, false)), (.p (.bin 0 .neq (.t 106) (.t 107)))⟩, ⟨(some 109), (some (105, false)), (.p (.mov (.t 108)))⟩, ⟨(some 110), (some (109, true)), (.p (.fieldA 0 0 (.t 12)))⟩, ⟨(some 111), (some (109, true)), (.p (.load false 1 (.t 110)))⟩, ⟨(some 112), (some (109, true)), (.p (.mov (.t 6)))⟩, ⟨(some 113), (some (109, true)), (.p (.bin 0 .neq (.t 111) (.t 112)))⟩, ⟨(some 114), (some (109, true)), (.p (.mov (.t 113)))⟩, ⟨(some 115), (some (114, false)), (.p (.mov (.t 7)))⟩, ⟨(some 116), (some (114, false)), (.p (.bin 0 .neq (.t 115) (.c (.int .i64 1))))⟩, ⟨(some 117), (some (109, true)), (.p (.pick (.t 114) (.c (.bool true)) (.t 116)))⟩, ⟨(some 118), (some (105, false)), (.p (.pick (.t 109) (.t 117) (.c (.bool false))))⟩, ⟨(some 119), (some (105, false)), (.p (.mov (.t 118)))⟩, ⟨(some 120), (some (119, true)), (.p (.load true 3 (.t 12)))⟩, ⟨(some 121), (some (119, true)), (.p (.fieldA 1 1 (.t 5)))⟩, ⟨(some 122), (some (119, true)), (.p (.load false 1 (.t 121)))⟩, ⟨(some 123), (some (119, true)), (.p (.mov (.t 11)))⟩, ⟨(some 124), (some (119, true)), (.p (.idxA 3 (.t 122) (.t 123)))⟩, ⟨(some 125), (some (119, true)), (.p (.load true 3 (.t 124)))⟩, ⟨(some 126), (some (119, true)), (.p (.eqs true [(some .i64), (some .i64), none] (.t 120) (.t 125)))⟩, ⟨(some 127), (some (105, false)), (.p (.pick (.t 119) (.t 126) (.c (.bool false))))⟩, ⟨(some 128), none, (.p (.pick (.t 105) (.c (.bool true)) (.t 127)))⟩] [[], [], [0, 1], [0, 1, 2], [0, 1, 2, 3], [0, 1, 2, 3, 4], [0, 1, 2, 3], [0, 1, 2, 3, 4, 5, 6], [0, 1, 2, 3, 4, 5, 6, 7], [0, 1, 2, 3, 4, 5, 6, 7, 8], [0, 1, 2, 3, 4, 5, 6, 7, 8, 9], [0, 1, 2, 3, 4, 5, 6, 7, 8, 9, 10], [0, 1, 2, 3, 4, 5, 6, 7, 8, 9, 10, 11], [0, 1, 2, 3, 4, 5, 6, 7, 8, 9, 10, 11, 12], [0, 1, 2, 3, 4, 5, 6, 7, 8, 9, 10, 11, 12, 13], [0, 1, 2, 3, 4, 5, 6, 7, 8, 9, 10, 11, 12, 13, 14], [0, 1, 2, 3, 4, 5, 6, 7, 8, 9, 10, 11, 12, 13, 14, 15], [0, 1, 2, 3, 4, 5, 6, 7, 8, 9, 10, 11, 12, 13, 14, 15, 16], [0, 1, 2, 3, 4, 5, 6, 7, 8, 9, 10, 11, 12, 13, 14, 15, 16, 17], [0, 1, 2, 3, 4, 5, 6, 7, 8, 9, 10, 11, 12, 13, 14, 15, 16, 17, 18], [0, 1, 2, 3, 4, 5, 6, 7, 8, 9, 10, 11, 12, 13, 14, 15, 16, 17, 18], [0, 1, 2, 3, 4, 5, 6, 7, 8, 9, 10, 11, 12, 13, 14, 15, 16, 17, 18, 19, 20], [0, 1, 2, 3, 4, 5, 6, 7, 8, 9, 10, 11, 12, 13, 14, 15, 16, 17, 18, 19, 20, 21], [0, 1, 2, 3, 4, 5, 6, 7, 8, 9, 10, 11, 12, 13, 14, 15, 16, 17, 18, 19, 20, 21, 22], [0, 1, 2, 3, 4, 5, 6, 7, 8, 9, 10, 11, 12, 13, 14, 15, 16, 17, 18, 19, 20, 21, 22, 23], [0, 1, 2, 3, 4, 5, 6, 7, 8, 9, 10, 11, 12, 13, 14, 15, 16, 17, 18, 19, 20, 21, 22], [0, 1, 2, 3, 4, 5, 6, 7, 8, 9, 10, 11, 12, 13, 14, 15, 16, 17, 18, 19, 20, 21, 22, 23, 24, 25], [0, 1, 2, 3, 4, 5, 6, 7, 8, 9, 10, 11, 12, 13, 14, 15, 16, 17, 18, 19, 20, 21, 22, 23, 24, 25, 26], [0, 1, 2, 3, 4, 5, 6, 7, 8, 9, 10, 11, 12, 13, 14, 15, 16, 17, 18, 19, 20, 21, 22, 23, 24, 25, 26, 27], [0, 1, 2, 3, 4, 5, 6, 7, 8, 9, 10, 11, 12, 13, 14, 15, 16, 17, 18, 19, 20, 21, 22, 23, 24, 25, 26, 27, 28], [0, 1, 2, 3, 4, 5, 6, 7, 8, 9, 10, 11, 12, 13, 14, 15, 16, 17, 18, 19, 20, 21, 22, 23, 24, 25, 26, 27, 28, 29], [0, 1, 2, 3, 4, 5, 6, 7, 8, 9, 10, 11, 12, 13, 14, 15, 16, 17, 18, 19, 20, 21, 22, 23, 24, 25, 26, 27, 28, 29, 30], [0, 1, 2, 3, 4, 5, 6, 7, 8, 9, 10, 11, 12, 13, 14, 15, 16, 17, 18, 19, 20, 21, 22, 23, 24, 25, 26, 27, 28, 29, 30, 31], [0, 1, 2, 3, 4, 5, 6, 7, 8, 9, 10, 11, 12, 13, 14, 15, 16, 17, 18, 19, 20, 21, 22, 23, 24, 25, 26, 27, 28, 29, 30, 31, 32], [0, 1, 2, 3, 4, 5, 6, 7, 8, 9, 10, 11, 12, 13, 14, 15, 16, 17, 18, 19, 20, 21, 22, 23, 24, 25, 26, 27, 28, 29, 30, 31, 32], [0, 1, 2, 3, 4, 5, 6, 7, 8, 9, 10, 11, 12, 13, 14, 15, 16, 17, 18, 19, 20, 21, 22, 23, 24, 25, 26, 27, 28, 29, 30, 31, 32, 34], [0, 1, 2, 3, 4, 5, 6, 7, 8, 9, 10, 11, 12, 13, 14, 15, 16, 17, 18, 19, 20, 21, 22, 23, 24, 25, 26, 27, 28, 29, 30, 31, 32], [0, 1, 2, 3, 4, 5, 6, 7, 8, 9, 10, 11, 12, 13, 14, 15, 16, 17, 18, 19, 20, 21, 22, 23, 24, 25, 26, 27, 28, 29, 30, 31, 32, 34, 35, 36], [0, 1, 2, 3, 4, 5, 6, 7, 8, 9, 10, 11, 12, 13, 14, 15, 16, 17, 18, 19, 20, 21, 22, 23, 24, 25, 26, 27, 28, 29, 30, 31, 32, 34, 35, 36, 37], [0, 1, 2, 3, 4, 5, 6, 7, 8, 9, 10, 11, 12, 13, 14, 15, 16, 17, 18, 19, 20, 21, 22, 23, 24, 25, 26, 27, 28, 29, 30, 31, 32, 33, 34, 35, 36, 37, 38], [0, 1, 2, 3, 4, 5, 6, 7, 8, 9, 10, 11, 12, 13, 14, 15, 16, 17, 18, 19, 20, 21, 22, 23, 24, 25, 26, 27, 28, 29, 30, 31, 32, 33, 34, 35, 36, 37, 38, 39], [0, 1, 2, 3, 4, 5, 6, 7, 8, 9, 10, 11, 12, 13, 14, 15, 16, 17, 18, 19, 20, 21, 22, 23, 24, 25, 26, 27, 28, 29, 30, 31, 32, 33, 34, 35, 36, 37, 38, 39, 40]])
 (.cond (.t 128) (.seq (.reg [⟨(some 4), none, (.p (.mov (.c (.bool false))))⟩])
 (.ret)) (.skip)))))
 (.reg [⟨(some 129), none, (.p (.bin 0 .add (.t 82) (.c (.int .i64 1))))⟩, ⟨(some 82), none, (.p (.mov (.t 129)))⟩])))))))))))))
 (.reg [⟨(some 130), none, (.p (.bin 0 .add (.t 21) (.c (.int .i64 1))))⟩, ⟨(some 21), none, (.p (.mov (.t 130)))⟩])))))))
 (.seq (.reg [⟨(some 131), none, (.call 13 [])⟩, ⟨(some 4), none, (.p (.mov (.t 131)))⟩])
 (.ret)))))
theorem m_fem_ok : compF Try.prog 3 = some (132, m_fem, [.mov (.t 4)]) := by kernel_rfl
theorem stF_dlen (l : List Int) (f : Files) (k : Nat) : (stF l f k).1.data.length = f.data.length := by
  unfold stF sOpen sClose sSeek sRead sWrite
  repeat' split
  all_goals simp
theorem stsF_dlen (l : List Int) (f : Files) (k : Nat) : ∀ n, (stsF l f k n).1.data.length = f.data.length
  | 0 => rfl
  | n + 1 => (stF_dlen _ _ _).trans (stsF_dlen l f k n)
theorem fls_dlen (l : List Int) (k : Nat) : (fls l k).1.data.length = 2 := stsF_dlen _ _ _ _
theorem map_at {α β : Type} [Inhabited α] [Inhabited β] (g : α → β) (l : List α) {i : Nat} (h : i < l.length) : (l.map g)[i]! = g l[i]! := by
  rw [getElem!_pos _ i (by simpa using h), getElem!_pos l i h, List.getElem_map]
/-- What an opening may have done. -/
theorem open_no {f : Files} (F : FitF f) {k m : Int} (h : (sOpen f k m).2 < 0) : (sOpen f k m) = (f, -1) := by
  unfold sOpen at h ⊢
  split at h
  · rename_i c; rw [if_pos c]
  · rename_i c
    repeat' split at h
    all_goals (simp only at h; omega)
structure Opd (f a : Files) (k : Nat) (m h : Int) : Prop where
  h0 : 0 ≤ h
  h1 : h < 8
  dl : a.data.length = f.data.length
  ol : a.opens.length = 8
  d1 : m = 1 → a.data[k]! = []
  d2 : ∀ i : Nat, i < f.data.length → (i : Int) ≠ k ∨ m ≠ 1 → a.data[i]! = f.data[i]!
  o1 : ∀ i : Nat, i < 8 → (i : Int) ≠ h → m = 1 → a.opens[i]!.file = k → a.opens[i]!.offset = 0
  o2 : ∀ i : Nat, i < 8 → (i : Int) ≠ h → (a.opens[i]!.file ≠ k ∨ m ≠ 1) → a.opens[i]! = f.opens[i]!
theorem open_yes {f : Files} (F : FitF f) {k : Nat} {m : Int} (h : 0 ≤ (sOpen f k m).2) : Opd f (sOpen f k m).1 k m (sOpen f k m).2 := by
  have hO := F.o
  have hh := hdl_le f
  unfold sOpen at h ⊢
  split
  · rename_i c; rw [if_pos c] at h; exact absurd h (fun h => by simp only at h; omega)
  rename_i c
  have hlt : hdl f < 8 := by omega
  have hk : k < f.data.length := by omega
  split
  · rename_i m0
    refine ⟨by dsimp only; omega, by dsimp only; omega, rfl, by simp [hO], fun h => by omega, fun i hi _ => rfl, fun i _ _ h => by omega, fun i hi hne _ => ?_⟩
    dsimp only at hne ⊢
    rw [set_at (by omega), if_neg (by omega)]
  split
  · rename_i m1
    refine ⟨by dsimp only; omega, by dsimp only; omega, by simp, by simp [hO], fun _ => ?_, fun i hi hc => ?_, fun i hi hne _ hf => ?_, fun i hi hne hc => ?_⟩
    · dsimp only
      rw [set_at (by omega), if_pos (by omega)]
    · dsimp only
      rw [set_at (by omega), if_neg (by omega)]
    · dsimp only at hne hf ⊢
      rw [set_at (by simp [hO]; omega), if_neg (by omega)] at hf ⊢
      rw [map_at _ _ (by omega)] at hf ⊢
      unfold zr at hf ⊢
      split
      · rfl
      · rename_i hx; rw [if_neg hx] at hf; exact absurd hf hx
    · dsimp only at hne hc ⊢
      rw [set_at (by simp [hO]; omega), if_neg (by omega)] at hc ⊢
      rw [map_at _ _ (by omega)] at hc ⊢
      unfold zr at hc ⊢
      split
      · rename_i hx
        rw [if_pos hx] at hc
        rcases hc with hc | hc
        · exact absurd hx hc
        · omega
      · rfl
  · rename_i m0 m1
    refine ⟨by dsimp only; omega, by dsimp only; omega, rfl, by simp [hO], fun h => by omega, fun i hi _ => rfl, fun i _ _ h => by omega, fun i hi hne _ => ?_⟩
    dsimp only at hne ⊢
    rw [set_at (by omega), if_neg (by omega)]
attribute [local irreducible] fls sOpen
set_option maxHeartbeats 16000000 in
theorem fem_fn (l : List Int) (num : Int) : Fnc Try.prog 3 [.sl false 1 (i64s l), .int .i64 num] (fun x obs => x = .bool true) := by
  have fo := files_fn l 0 (by omega)
  obtain ⟨F, hk⟩ := fls_fit (l := l) (k := 0) (by omega)
  have hd := fls_dlen l 0
  generalize fls l 0 = q at fo F hk hd
  obtain ⟨f, kk⟩ := q
  dsimp only at fo F hk hd
  have fm := mmod_fn num f.data.length (by omega)
  have hb := Int.emod_nonneg num (b := (f.data.length : Int)) (by omega)
  have hb2 := Int.emod_lt_of_pos num (b := (f.data.length : Int)) (by omega)
  generalize num % (f.data.length : Int) = K0 at fm hb hb2
  obtain ⟨K, rfl⟩ : ∃ K : Nat, (K : Int) = K0 := ⟨K0.toNat, by omega⟩
  have hfo := F.o
  refine Fnc.intro m_fem_ok (by simp) fun W S => ?_
  unfold m_fem
  simp only [ents, Nat.zero_add, Nat.reduceAdd]
  refine zst ?_
  (first | refine callX (new_fn l) ?_ | refine callXw (new_fn l) ?_); simp only [go_sem]
  refine zst ?_
  (first | apply st_callMD (fo) rfl | apply evw_callM (fo) rfl)
  · (simp only [go_sem]; rfl)
  · rfl
  · (first | rfl | (simp only [go_sem]; done))
  · (first | rfl | (simp only [go_sem]; done) | (simp only [go_sem]; rfl))
  · (first | rfl | (simp only [go_sem]; done))
  · (first | rfl | (simp only [go_sem]; done) | (simp only [go_sem]; rfl))
  · (first | rfl | simp [V.pureT, V.pure, V.pures, pures_lo, pures_sls])
  (first | refine ev_all (fu := [(), (), (), (), (), (), (), ()]) ?_ | refine evw_all (md := []) (fu := [(), (), (), (), (), (), (), ()]) ?_); refine zev ?_
  refine zst ?_
  (first | refine callD (fm) ?_ | refine callDw (fm) ?_); simp only [go_sem]
  refine zst ?_
  refine ev_loopK [5, 6] (fun p : {p : Nat // p ≤ 3} => [(21, .int .i64 p.1)]) (fun _ => [⟨.box false 66, true, 0, deckV l kk⟩, ⟨.box false 26, true, 0, filV f⟩]) (fun p => 3 - p.1) (⟨0, by omega⟩) 2 (by simp only [go_sem]; rfl) ?_ (by first | rfl | (simp only [go_sem]; done)) (by simp) (by first | rfl | (simp only [go_sem]; done)) (by first | rfl | (simp only [go_sem]; done)) (by first | rfl | (simp only [go_sem]; done)) ?_
  · (simp only [go_sem]; (try simp []); done)
  intro J hJ
  rintro ⟨m, hm⟩
  by_cases hlt : m < 3
  · have fO := wopen_fn f F K m
    by_cases c : (sOpen f K m).2 < 0
    · rw [open_no F c] at fO
      refine zst ?_
      (first | refine callD (fO) ?_ | refine callDw (fO) ?_); simp only [go_sem]
      refine zst ?_
      refine ev_next 2 (hJ _ (⟨m + 1, hlt⟩) (by first | omega | (dsimp only; omega) | (simp; omega))) rfl (by simp) ?_ (by first | rfl | (simp only [go_sem]; done)) (by first | rfl | (simp only [go_sem]; done) | (simp only [hlt]; (try simp only [go_sem]); first | done | rfl)) ?_
      · (first | rfl | (simp only [go_sem]; done) | (simp only [go_sem]; simp only [hlt]; done) | (simp only [hlt]; done) | (simp only [go_sem]; simp [hlt]; done) | (simp [hlt]; done))
      · (simp only [go_sem]; (repeat' (refine And.intro ?_ ?_)) <;> first | exact trivial | with_reducible rfl | (simp only [hlt]; done) | (simp only [hlt]; with_reducible rfl) | (simp [hlt]; done) | (simp [hlt]; omega) | (simp only [hlt]; rfl) | skip)
    · have hO := open_yes F (k := K) (m := m) (by omega)
      generalize sOpen f K m = r at fO c hO
      obtain ⟨a, h⟩ := r
      dsimp only at fO c hO
      have hO1 := hO.h1
      have hO2 := hO.dl
      have hO3 := hO.ol
      refine zst ?_
      (first | refine callD (fO) ?_ | refine callDw (fO) ?_); simp only [go_sem]
      refine zst ?_
      have hJ0 := hJ
      refine ev_loopK [5, 6, 7, 8, 9, 21, 48] (fun p : {p : Nat // p ≤ 2} => [(49, .int .i64 p.1)]) (fun _ => [⟨.box false 66, true, 0, deckV l kk⟩, ⟨.box false 26, true, 0, filV f⟩, ⟨.box false 26, true, 0, filV a⟩]) (fun p => 2 - p.1) (⟨0, by omega⟩) 3 (by simp only [go_sem]; rfl) ?_ (by first | rfl | (simp only [go_sem]; done)) (by simp) (by first | rfl | (simp only [go_sem]; done)) (by first | rfl | (simp only [go_sem]; done)) (by first | rfl | (simp only [go_sem]; done)) ?_
      · (simp only [go_sem]; (try simp []); done)
      intro J hJ
      rintro ⟨i, hi⟩
      by_cases hl2 : i < 2
      · by_cases c1 : i = K
        · subst c1
          by_cases c2 : m = 1
          · have he : a.data[i]!.length = 0 := by rw [hO.d1 (by omega)]; rfl
            refine zst ?_
            refine ev_next 3 (hJ _ (⟨i + 1, hl2⟩) (by first | omega | (dsimp only; omega) | (simp; omega))) rfl (by simp) ?_ (by first | rfl | (simp only [go_sem]; done)) (by first | rfl | (simp only [go_sem]; done) | (simp only [hl2]; (try simp only [go_sem]); first | done | rfl)) ?_
            · (first | rfl | (simp only [go_sem]; done) | (simp only [go_sem]; simp only [hl2]; done) | (simp only [hl2]; done) | (simp only [go_sem]; simp [hl2]; done) | (simp [hl2]; done))
            · (simp only [go_sem]; (repeat' (refine And.intro ?_ ?_)) <;> first | exact trivial | with_reducible rfl | (simp only [hl2]; done) | (simp only [hl2]; with_reducible rfl) | (simp [hl2]; done) | (simp [hl2]; omega) | (simp only [hl2]; rfl) | skip)
          · have he := hO.d2 i (by omega) (.inr (by omega))
            have hd2 : decide (a.data[i]! = f.data[i]!) = true := decT he
            refine zst ?_
            (first | refine callD (samec_fn a.data[i]! f.data[i]!) ?_ | refine callDw (samec_fn a.data[i]! f.data[i]!) ?_); simp only [go_sem, hd2]
            refine zst ?_
            refine ev_next 3 (hJ _ (⟨i + 1, hl2⟩) (by first | omega | (dsimp only; omega) | (simp; omega))) rfl (by simp) ?_ (by first | rfl | (simp only [go_sem]; done)) (by first | rfl | (simp only [go_sem]; done) | (simp only [hl2]; (try simp only [go_sem]); first | done | rfl)) ?_
            · (first | rfl | (simp only [go_sem]; done) | (simp only [go_sem]; simp only [hl2]; done) | (simp only [hl2]; done) | (simp only [go_sem]; simp [hl2]; done) | (simp [hl2]; done))
            · (simp only [go_sem]; (repeat' (refine And.intro ?_ ?_)) <;> first | exact trivial | with_reducible rfl | (simp only [hl2]; done) | (simp only [hl2]; with_reducible rfl) | (simp [hl2]; done) | (simp [hl2]; omega) | (simp only [hl2]; rfl) | skip)
        · have he := hO.d2 i (by omega) (.inl (by omega))
          have hd2 : decide (a.data[i]! = f.data[i]!) = true := decT he
          refine zst ?_
          (first | refine callD (samec_fn a.data[i]! f.data[i]!) ?_ | refine callDw (samec_fn a.data[i]! f.data[i]!) ?_); simp only [go_sem, hd2]
          refine zst ?_
          refine ev_next 3 (hJ _ (⟨i + 1, hl2⟩) (by first | omega | (dsimp only; omega) | (simp; omega))) rfl (by simp) ?_ (by first | rfl | (simp only [go_sem]; done)) (by first | rfl | (simp only [go_sem]; done) | (simp only [hl2]; (try simp only [go_sem]); first | done | rfl)) ?_
          · (first | rfl | (simp only [go_sem]; done) | (simp only [go_sem]; simp only [hl2]; done) | (simp only [hl2]; done) | (simp only [go_sem]; simp [hl2]; done) | (simp [hl2]; done))
          · (simp only [go_sem]; (repeat' (refine And.intro ?_ ?_)) <;> first | exact trivial | with_reducible rfl | (simp only [hl2]; done) | (simp only [hl2]; with_reducible rfl) | (simp [hl2]; done) | (simp [hl2]; omega) | (simp only [hl2]; rfl) | skip)
      · skip
        refine zst ?_
        refine ev_loopK [5, 6, 7, 9, 21, 80, 81] (fun p : {p : Nat // p ≤ 8} => [(82, .int .i64 p.1)]) (fun _ => [⟨.box false 66, true, 0, deckV l kk⟩, ⟨.box false 26, true, 0, filV f⟩, ⟨.box false 26, true, 0, filV a⟩]) (fun p => 8 - p.1) (⟨0, by omega⟩) 3 (by simp only [go_sem]; rfl) ?_ (by first | rfl | (simp only [go_sem]; done)) (by simp) (by first | rfl | (simp only [go_sem]; done)) (by first | rfl | (simp only [go_sem]; done)) (by first | rfl | (simp only [go_sem]; done)) ?_
        · (simp only [go_sem]; (try simp []); done)
        intro J hJ
        rintro ⟨j, hj⟩
        by_cases hl3 : j < 8
        · by_cases c1 : (j : Int) = h
          · skip
            refine zst ?_
            refine ev_next 3 (hJ _ (⟨j + 1, hl3⟩) (by first | omega | (dsimp only; omega) | (simp; omega))) rfl (by simp) ?_ (by first | rfl | (simp only [go_sem]; done)) (by first | rfl | (simp only [go_sem]; done) | (simp only [hl3]; (try simp only [go_sem]); first | done | rfl)) ?_
            · (first | rfl | (simp only [go_sem]; done) | (simp only [go_sem]; simp only [hl3]; done) | (simp only [hl3]; done) | (simp only [go_sem]; simp [hl3]; done) | (simp [hl3]; done))
            · (simp only [go_sem]; (repeat' (refine And.intro ?_ ?_)) <;> first | exact trivial | with_reducible rfl | (simp only [hl3]; done) | (simp only [hl3]; with_reducible rfl) | (simp [hl3]; done) | (simp [hl3]; omega) | (simp only [hl3]; rfl) | skip)
          · by_cases c2 : m = 1
            · by_cases c3 : a.opens[j]!.file = K
              · have he := hO.o1 j hl3 c1 (by omega) c3
                refine zst ?_
                refine ev_next 3 (hJ _ (⟨j + 1, hl3⟩) (by first | omega | (dsimp only; omega) | (simp; omega))) rfl (by simp) ?_ (by first | rfl | (simp only [go_sem]; done)) (by first | rfl | (simp only [go_sem]; done) | (simp only [hl3]; (try simp only [go_sem]); first | done | rfl)) ?_
                · (first | rfl | (simp only [go_sem]; done) | (simp only [go_sem]; simp only [hl3]; done) | (simp only [hl3]; done) | (simp only [go_sem]; simp [hl3]; done) | (simp [hl3]; done))
                · (simp only [go_sem]; (repeat' (refine And.intro ?_ ?_)) <;> first | exact trivial | with_reducible rfl | (simp only [hl3]; done) | (simp only [hl3]; with_reducible rfl) | (simp [hl3]; done) | (simp [hl3]; omega) | (simp only [hl3]; rfl) | skip)
              · have he := hO.o2 j hl3 c1 (.inl c3)
                have hd3 : decide (a.opens[j]! = f.opens[j]!) = true := decT he
                repeat (first | (simp only [opn_eqs, hd3]; try simp only [go_sem]) | refine And.intro (by omega) ?_ | refine And.intro rfl ?_ | refine ev_ctl rfl rfl ?_ | refine evr_nil ?_ | refine evw_nil (by kernel_rfl) ?_ | (simp (disch := omega) only [takeAll, Nat.min_eq_left, Nat.min_eq_right, if_pos, if_neg, getD_map, wrapI64, modIn, fdivE, tmodE, tdivE, decT, decF, beqT, beqF, bneT, bneF, Int.toNat_natCast]; try simp only [go_sem]) | (refine ev_condTb rfl ?_ ?_; · (simp <;> omega)) | (refine ev_condFb rfl ?_ ?_; · (simp <;> omega)) | ((first | refine ev_region ?_ | refine evr_go rfl ?_ | refine evw_go rfl ?_ | refine ev_dr0 mixed rfl (by kernel_rfl) ?_ | refine ev_dr1 mixed rfl (by kernel_rfl) ?_ | refine ev_dr2 mixed rfl (by kernel_rfl) ?_); simp only [go_sem]))
                refine ev_next 3 (hJ _ (⟨j + 1, hl3⟩) (by first | omega | (dsimp only; omega) | (simp; omega))) rfl (by simp) ?_ (by first | rfl | (simp only [go_sem]; done)) (by first | rfl | (simp only [go_sem]; done) | (simp only [hl3]; (try simp only [go_sem]); first | done | rfl)) ?_
                · (first | rfl | (simp only [go_sem]; done) | (simp only [go_sem]; simp only [hl3]; done) | (simp only [hl3]; done) | (simp only [go_sem]; simp [hl3]; done) | (simp [hl3]; done))
                · (simp only [go_sem]; (repeat' (refine And.intro ?_ ?_)) <;> first | exact trivial | with_reducible rfl | (simp only [hl3]; done) | (simp only [hl3]; with_reducible rfl) | (simp [hl3]; done) | (simp [hl3]; omega) | (simp only [hl3]; rfl) | skip)
            · have he := hO.o2 j hl3 c1 (.inr (by omega))
              have hd3 : decide (a.opens[j]! = f.opens[j]!) = true := decT he
              by_cases c3 : a.opens[j]!.file = K
              · skip
                repeat (first | (simp only [opn_eqs, hd3]; try simp only [go_sem]) | refine And.intro (by omega) ?_ | refine And.intro rfl ?_ | refine ev_ctl rfl rfl ?_ | refine evr_nil ?_ | refine evw_nil (by kernel_rfl) ?_ | (simp (disch := omega) only [takeAll, Nat.min_eq_left, Nat.min_eq_right, if_pos, if_neg, getD_map, wrapI64, modIn, fdivE, tmodE, tdivE, decT, decF, beqT, beqF, bneT, bneF, Int.toNat_natCast]; try simp only [go_sem]) | (refine ev_condTb rfl ?_ ?_; · (simp <;> omega)) | (refine ev_condFb rfl ?_ ?_; · (simp <;> omega)) | ((first | refine ev_region ?_ | refine evr_go rfl ?_ | refine evw_go rfl ?_ | refine ev_dr0 mixed rfl (by kernel_rfl) ?_ | refine ev_dr1 mixed rfl (by kernel_rfl) ?_ | refine ev_dr2 mixed rfl (by kernel_rfl) ?_); simp only [go_sem]))
                refine ev_next 3 (hJ _ (⟨j + 1, hl3⟩) (by first | omega | (dsimp only; omega) | (simp; omega))) rfl (by simp) ?_ (by first | rfl | (simp only [go_sem]; done)) (by first | rfl | (simp only [go_sem]; done) | (simp only [hl3]; (try simp only [go_sem]); first | done | rfl)) ?_
                · (first | rfl | (simp only [go_sem]; done) | (simp only [go_sem]; simp only [hl3]; done) | (simp only [hl3]; done) | (simp only [go_sem]; simp [hl3]; done) | (simp [hl3]; done))
                · (simp only [go_sem]; (repeat' (refine And.intro ?_ ?_)) <;> first | exact trivial | with_reducible rfl | (simp only [hl3]; done) | (simp only [hl3]; with_reducible rfl) | (simp [hl3]; done) | (simp [hl3]; omega) | (simp only [hl3]; rfl) | skip)
              · skip
                repeat (first | (simp only [opn_eqs, hd3]; try simp only [go_sem]) | refine And.intro (by omega) ?_ | refine And.intro rfl ?_ | refine ev_ctl rfl rfl ?_ | refine evr_nil ?_ | refine evw_nil (by kernel_rfl) ?_ | (simp (disch := omega) only [takeAll, Nat.min_eq_left, Nat.min_eq_right, if_pos, if_neg, getD_map, wrapI64, modIn, fdivE, tmodE, tdivE, decT, decF, beqT, beqF, bneT, bneF, Int.toNat_natCast]; try simp only [go_sem]) | (refine ev_condTb rfl ?_ ?_; · (simp <;> omega)) | (refine ev_condFb rfl ?_ ?_; · (simp <;> omega)) | ((first | refine ev_region ?_ | refine evr_go rfl ?_ | refine evw_go rfl ?_ | refine ev_dr0 mixed rfl (by kernel_rfl) ?_ | refine ev_dr1 mixed rfl (by kernel_rfl) ?_ | refine ev_dr2 mixed rfl (by kernel_rfl) ?_); simp only [go_sem]))
                refine ev_next 3 (hJ _ (⟨j + 1, hl3⟩) (by first | omega | (dsimp only; omega) | (simp; omega))) rfl (by simp) ?_ (by first | rfl | (simp only [go_sem]; done)) (by first | rfl | (simp only [go_sem]; done) | (simp only [hl3]; (try simp only [go_sem]); first | done | rfl)) ?_
                · (first | rfl | (simp only [go_sem]; done) | (simp only [go_sem]; simp only [hl3]; done) | (simp only [hl3]; done) | (simp only [go_sem]; simp [hl3]; done) | (simp [hl3]; done))
                · (simp only [go_sem]; (repeat' (refine And.intro ?_ ?_)) <;> first | exact trivial | with_reducible rfl | (simp only [hl3]; done) | (simp only [hl3]; with_reducible rfl) | (simp [hl3]; done) | (simp [hl3]; omega) | (simp only [hl3]; rfl) | skip)
        · have hJ := hJ0
          refine zst ?_
          refine ev_next 2 (hJ _ (⟨m + 1, hlt⟩) (by first | omega | (dsimp only; omega) | (simp; omega))) rfl (by simp) ?_ (by first | rfl | (simp only [go_sem]; done)) (by first | rfl | (simp only [go_sem]; done) | (simp only [hlt]; (try simp only [go_sem]); first | done | rfl)) ?_
          · (first | rfl | (simp only [go_sem]; done) | (simp only [go_sem]; simp only [hlt]; done) | (simp only [hlt]; done) | (simp only [go_sem]; simp [hlt]; done) | (simp [hlt]; done))
          · (simp only [go_sem]; (repeat' (refine And.intro ?_ ?_)) <;> first | exact trivial | with_reducible rfl | (simp only [hlt]; done) | (simp only [hlt]; with_reducible rfl) | (simp [hlt]; done) | (simp [hlt]; omega) | (simp only [hlt]; rfl) | skip)
  · skip
    refine zst ?_
    (first | refine callD (awake17_fn) ?_ | refine callDw (awake17_fn) ?_); simp only [go_sem]
    refine zst ?_
    refine ret m_fem_ok [] ?_; (first | (simp only [go_sem]; done) | (simp only [go_sem]; ((try dsimp only); (repeat' (refine And.intro ?_ ?_)) <;> first | with_reducible rfl | (simp only [go_sem]; done) | (simp only [go_sem]; rfl) | (simp only []; (try simp only [go_sem]); first | done | rfl) | (simp only [go_sem]; simp []; done) | (simp []; done) | rfl)))
theorem fem_law {a0 : List Int} {v0 : Value} {a1 : Int} {v1 : Value} (W : World) (e0 : (Sh.slice (Sh.int .i64)).rd (old W) W a0 [v0]) (e1 : (Sh.int .i64).rd (old W) W a1 [v1]) :
    Calls Try.prog 3 #[v0, v1] W fun e w' => e = .returned (.bool true) ∧ Below W.heap.size W w' :=
  Fnc.law (fem_fn a0 a1) (RdTs.slice enc_i64s e0 (RdTs.int e1 RdTs.nil'))
end Go.Proofs.Ytanmcjkpdkmhfaa
/- W12, W13, in one text. -/
/- Files: validity by the reference. -/
namespace Go.Proofs.Ytanmcjkpdkmhfaa
open Go Go.RowKit Rdn Rdn.Dp
set_option linter.unusedVariables false
set_option linter.unusedSimpArgs false
def m_rvalf : MC := .seq (.reg [⟨(some 1), none, (.m (.box 26 (.t 0)))⟩, ⟨(some 2), none, (.p (.mov (.c (.bool false))))⟩])
 (.seq (.seq (.reg [⟨(some 7), none, (.p (.fieldA 0 0 (.t 1)))⟩, ⟨(some 8), none, (.p (.load false 1 (.t 7)))⟩, ⟨(some 9), none, (.p (.len (.t 8)))⟩, ⟨(some 10), none, (.p (.bin 0 .gtr (.t 9) (.c (.int .i64 4))))⟩, ⟨(some 11), none, (.p (.mov (.t 10)))⟩, ⟨(some 12), (some (11, false)), (.p (.fieldA 1 1 (.t 1)))⟩, ⟨(some 13), (some (11, false)), (.p (.load false 1 (.t 12)))⟩, ⟨(some 14), (some (11, false)), (.p (.len (.t 13)))⟩, ⟨(some 15), (some (11, false)), (.p (.bin 0 .neq (.t 14) (.c (.int .i64 8))))⟩, ⟨(some 16), none, (.p (.pick (.t 11) (.c (.bool true)) (.t 15)))⟩])
 (.cond (.t 16) (.seq (.reg [⟨(some 2), none, (.p (.mov (.c (.bool false))))⟩])
 (.ret)) (.skip)))
 (.seq (.seq (.reg [⟨(some 17), none, (.p (.fieldA 0 0 (.t 1)))⟩, ⟨(some 18), none, (.p (.load false 1 (.t 17)))⟩, ⟨(some 19), none, (.p (.len (.t 18)))⟩, ⟨(some 20), none, (.p (.mov (.c (.int .i64 0))))⟩])
 (.block 0 (.loop (.seq (.reg [⟨(some 21), none, (.p (.bin 0 .lss (.t 20) (.t 19)))⟩])
 (.seq (.cond (.t 21) (.skip) (.exit 0))
 (.seq (.block 1 (.seq (.reg [⟨(some 22), none, (.p (.idxA 1 (.t 18) (.t 20)))⟩, ⟨(some 23), none, (.p (.load false 1 (.t 22)))⟩, ⟨(some 4), none, (.p (.mov (.t 23)))⟩])
 (.seq (.reg [⟨(some 24), none, (.p (.mov (.t 4)))⟩, ⟨(some 25), none, (.call 40 [(.t 24), (.c (.int .i64 64))])⟩, ⟨(some 26), none, (.p (.un .not (.t 25)))⟩])
 (.cond (.t 26) (.seq (.reg [⟨(some 2), none, (.p (.mov (.c (.bool false))))⟩])
 (.ret)) (.skip)))))
 (.reg [⟨(some 27), none, (.p (.bin 0 .add (.t 20) (.c (.int .i64 1))))⟩, ⟨(some 20), none, (.p (.mov (.t 27)))⟩])))))))
 (.seq (.seq (.reg [⟨(some 28), none, (.p (.fieldA 1 1 (.t 1)))⟩, ⟨(some 29), none, (.p (.load false 1 (.t 28)))⟩, ⟨(some 30), none, (.p (.len (.t 29)))⟩, ⟨(some 31), none, (.p (.mov (.c (.int .i64 0))))⟩])
 (.block 2 (.loop (.seq (.reg [⟨(some 32), none, (.p (.bin 0 .lss (.t 31) (.t 30)))⟩])
 (.seq (.cond (.t 32) (.skip) (.exit 2))
 (.seq (.block 3 (.seq (.reg [⟨(some 33), none, (.p (.idxA 3 (.t 29) (.t 31)))⟩, ⟨(some 34), none, (.p (.load true 3 (.t 33)))⟩, ⟨(some 6), none, (.m (.alloc 36 (.agg [.int .i64 0, .int .i64 0, .bool false])))⟩, ⟨none, none, (.m (.store 3 (.t 6) (.t 34)))⟩])
 (.seq (.dreg [⟨(some 35), none, (.p (.fieldA 0 0 (.t 6)))⟩, ⟨(some 36), none, (.p (.load false 1 (.t 35)))⟩, ⟨(some 37), none, (.p (.bin 0 .eql (.t 36) (.c (.int .i64 (-1)))))⟩, ⟨(some 38), none, (.p (.mov (.t 37)))⟩, ⟨(some 39), (some (38, true)), (.p (.fieldA 1 1 (.t 6)))⟩, ⟨(some 40), (some (38, true)), (.p (.load false 1 (.t 39)))⟩, ⟨(some 41), (some (38, true)), (.p (.bin 0 .neq (.t 40) (.c (.int .i64 0))))⟩, ⟨(some 42), (some (38, true)), (.p (.mov (.t 41)))⟩, ⟨(some 43), (some (42, false)), (.p (.fieldA 2 2 (.t 6)))⟩, ⟨(some 44), (some (42, false)), (.p (.load false 1 (.t 43)))⟩, ⟨(some 45), (some (38, true)), (.p (.pick (.t 42) (.c (.bool true)) (.t 44)))⟩, ⟨(some 46), none, (.p (.pick (.t 38) (.t 45) (.c (.bool false))))⟩, ⟨(some 47), none, (.p (.mov (.t 46)))⟩, ⟨(some 48), (some (47, false)), (.p (.fieldA 0 0 (.t 6)))⟩, ⟨(some 49), (some (47, false)), (.p (.load false 1 (.t 48)))⟩, ⟨(some 50), (some (47, false)), (.p (.bin 0 .lss (.t 49) (.c (.int .i64 (-1)))))⟩, ⟨(some 51), none, (.p (.pick (.t 47) (.c (.bool true)) (.t 50)))⟩, ⟨(some 52), none, (.p (.mov (.t 51)))⟩, ⟨(some 53), (some (52, false)), (.p (.fieldA 0 0 (.t 6)))⟩, ⟨(some 54), (some (52, false)), (.p (.load false 1 (.t 53)))⟩, ⟨(some 55), (some (52, false)), (.p (.fieldA 0 0 (.t 1)))⟩, ⟨(some 56), (some (52, false)), (.p (.load false 1 (.t 55)))⟩, ⟨(some 57), (some (52, false)), (.p (.len (.t 56)))⟩, ⟨(some 58), (some (52, false)), (.p (.bin 0 .geq (.t 54) (.t 57)))⟩, ⟨(some 59), none, (.p (.pick (.t 52) (.c (.bool true)) (.t 58)))⟩, ⟨(some 60), none, (.p (.mov (.t 59)))⟩, ⟨(some 61), (some (60, false)), (.p (.fieldA 0 0 (.t 6)))⟩, ⟨(some 62), (some (60, false)), (.p (.load false 1 (.t 61)))⟩, ⟨(some 63), (some (60, false)), (.p (.bin 0 .geq (.t 62) (.c (.int .i64 0))))⟩, ⟨(some 64), (some (60, false)), (.p (.mov (.t 63)))⟩, ⟨(some 65), (some (64, true)), (.p (.fieldA 1 1 (.t 6)))⟩, ⟨(some 66), (some (64, true)), (.p (.load false 1 (.t 65)))⟩, ⟨(some 67), (some (64, true)), (.p (.bin 0 .lss (.t 66) (.c (.int .i64 0))))⟩, ⟨(some 68), (some (64, true)), (.p (.mov (.t 67)))⟩, ⟨(some 69), (some (68, false)), (.p (.fieldA 1 1 (.t 6)))⟩, ⟨(some 70), (some (68, false)), (.p (.load false 1 (.t 69)))⟩, ⟨(some 71), (some (68, false)), (.p (.fieldA 0 0 (.t 1)))⟩, ⟨(some 72), (some (68, false)), (.p (.load false 1 (.t 71)))⟩, ⟨(some 73), (some (68, false)), (.p (.fieldA 0 0 (.t 6)))⟩, ⟨(some 74), (some (68, false)), (.p (.load false 1 (.t 73)))⟩, ⟨(some 75), (some (68, false)), (.p (.idxA 1 (.t 72) (.t 74)))⟩, ⟨(some 76), (some (68, false)), (.p (.load false 1 (.t 75)))⟩, ⟨(some 77), (some (68, false)), (.p (.len (.t 76)))⟩, ⟨(some 78), (some (68, false)), (.p (.bin 0 .gtr (.t 70) (.t 77)))⟩, ⟨(some 79), (some (64, true)), (.p (.pick (.t 68) (.c (.bool true)) (.t 78)))⟩, ⟨(some 80), (some (60, false)), (.p (.pick (.t 64) (.t 79) (.c (.bool false))))⟩, ⟨(some 81), none, (.p (.pick (.t 60) (.c (.bool true)) (.t 80)))⟩] [[], [0], [0, 1], [0, 1, 2], [0, 1, 2, 3], [0, 1, 2, 3, 4], [0, 1, 2, 3, 4, 5], [0, 1, 2, 3, 4, 5, 6], [0, 1, 2, 3, 4, 5, 6, 7], [0, 1, 2, 3, 4, 5, 6, 7, 8], [0, 1, 2, 3, 4, 5, 6, 7, 8, 9], [0, 1, 2, 3, 4, 5, 6, 7, 8, 9, 10], [0, 1, 2, 3, 4, 5, 6, 7, 8, 9, 10, 11], [0, 1, 2, 3, 4, 5, 6, 7, 8, 9, 10, 11, 12], [0, 1, 2, 3, 4, 5, 6, 7, 8, 9, 10, 11, 12, 13], [0, 1, 2, 3, 4, 5, 6, 7, 8, 9, 10, 11, 12, 13, 14], [0, 1, 2, 3, 4, 5, 6, 7, 8, 9, 10, 11, 12, 13, 14, 15], [0, 1, 2, 3, 4, 5, 6, 7, 8, 9, 10, 11, 12, 13, 14, 15, 16], [0, 1, 2, 3, 4, 5, 6, 7, 8, 9, 10, 11, 12, 13, 14, 15, 16, 17], [0, 1, 2, 3, 4, 5, 6, 7, 8, 9, 10, 11, 12, 13, 14, 15, 16, 17, 18], [0, 1, 2, 3, 4, 5, 6, 7, 8, 9, 10, 11, 12, 13, 14, 15, 16, 17], [0, 1, 2, 3, 4, 5, 6, 7, 8, 9, 10, 11, 12, 13, 14, 15, 16, 17, 20], [0, 1, 2, 3, 4, 5, 6, 7, 8, 9, 10, 11, 12, 13, 14, 15, 16, 17, 20, 21], [0, 1, 2, 3, 4, 5, 6, 7, 8, 9, 10, 11, 12, 13, 14, 15, 16, 17, 18, 19, 20, 21, 22], [0, 1, 2, 3, 4, 5, 6, 7, 8, 9, 10, 11, 12, 13, 14, 15, 16, 17, 18, 19, 20, 21, 22, 23], [0, 1, 2, 3, 4, 5, 6, 7, 8, 9, 10, 11, 12, 13, 14, 15, 16, 17, 18, 19, 20, 21, 22, 23, 24], [0, 1, 2, 3, 4, 5, 6, 7, 8, 9, 10, 11, 12, 13, 14, 15, 16, 17, 18, 19, 20, 21, 22, 23, 24, 25], [0, 1, 2, 3, 4, 5, 6, 7, 8, 9, 10, 11, 12, 13, 14, 15, 16, 17, 18, 19, 20, 21, 22, 23, 24, 25, 26], [0, 1, 2, 3, 4, 5, 6, 7, 8, 9, 10, 11, 12, 13, 14, 15, 16, 17, 18, 19, 20, 21, 22, 23, 24, 25, 26, 27], [0, 1, 2, 3, 4, 5, 6, 7, 8, 9, 10, 11, 12, 13, 14, 15, 16, 17, 18, 19, 20, 21, 22, 23, 24, 25, 26, 27, 28], [0, 1, 2, 3, 4, 5, 6, 7, 8, 9, 10, 11, 12, 13, 14, 15, 16, 17, 18, 19, 20, 21, 22, 23, 24, 25, 26, 27, 28, 29], [0, 1, 2, 3, 4, 5, 6, 7, 8, 9, 10, 11, 12, 13, 14, 15, 16, 17, 18, 19, 20, 21, 22, 23, 24, 25, 26, 27, 28, 29, 30], [0, 1, 2, 3, 4, 5, 6, 7, 8, 9, 10, 11, 12, 13, 14, 15, 16, 17, 18, 19, 20, 21, 22, 23, 24, 25, 26, 27, 28, 29, 30, 31], [0, 1, 2, 3, 4, 5, 6, 7, 8, 9, 10, 11, 12, 13, 14, 15, 16, 17, 18, 19, 20, 21, 22, 23, 24, 25, 26, 27, 28, 29, 30, 31, 32], [0, 1, 2, 3, 4, 5, 6, 7, 8, 9, 10, 11, 12, 13, 14, 15, 16, 17, 18, 19, 20, 21, 22, 23, 24, 25, 26, 27, 28, 29, 30, 31, 32, 33], [0, 1, 2, 3, 4, 5, 6, 7, 8, 9, 10, 11, 12, 13, 14, 15, 16, 17, 18, 19, 20, 21, 22, 23, 24, 25, 26, 27, 28, 29, 30, 31, 32, 33, 34], [0, 1, 2, 3, 4, 5, 6, 7, 8, 9, 10, 11, 12, 13, 14, 15, 16, 17, 18, 19, 20, 21, 22, 23, 24, 25, 26, 27, 28, 29, 30, 31, 32, 33], [0, 1, 2, 3, 4, 5, 6, 7, 8, 9, 10, 11, 12, 13, 14, 15, 16, 17, 18, 19, 20, 21, 22, 23, 24, 25, 26, 27, 28, 29, 30, 31, 32, 33, 36], [0, 1, 2, 3, 4, 5, 6, 7, 8, 9, 10, 11, 12, 13, 14, 15, 16, 17, 18, 19, 20, 21, 22, 23, 24, 25, 26, 27, 28, 29, 30, 31, 32, 33], [0, 1, 2, 3, 4, 5, 6, 7, 8, 9, 10, 11, 12, 13, 14, 15, 16, 17, 18, 19, 20, 21, 22, 23, 24, 25, 26, 27, 28, 29, 30, 31, 32, 33, 38], [0, 1, 2, 3, 4, 5, 6, 7, 8, 9, 10, 11, 12, 13, 14, 15, 16, 17, 18, 19, 20, 21, 22, 23, 24, 25, 26, 27, 28, 29, 30, 31, 32, 33, 36, 37, 38, 39], [0, 1, 2, 3, 4, 5, 6, 7, 8, 9, 10, 11, 12, 13, 14, 15, 16, 17, 18, 19, 20, 21, 22, 23, 24, 25, 26, 27, 28, 29, 30, 31, 32, 33, 36, 37, 38, 39, 40], [0, 1, 2, 3, 4, 5, 6, 7, 8, 9, 10, 11, 12, 13, 14, 15, 16, 17, 18, 19, 20, 21, 22, 23, 24, 25, 26, 27, 28, 29, 30, 31, 32, 33, 36, 37, 38, 39, 40, 41], [0, 1, 2, 3, 4, 5, 6, 7, 8, 9, 10, 11, 12, 13, 14, 15, 16, 17, 18, 19, 20, 21, 22, 23, 24, 25, 26, 27, 28, 29, 30, 31, 32, 33, 34, 35, 36, 37, 38, 39, 40, 41, 42], [0, 1, 2, 3, 4, 5, 6, 7, 8, 9, 10, 11, 12, 13, 14, 15, 16, 17, 18, 19, 20, 21, 22, 23, 24, 25, 26, 27, 28, 29, 30, 31, 32, 33, 34, 35, 36, 37, 38, 39, 40, 41, 42, 43], [0, 1, 2, 3, 4, 5, 6, 7, 8, 9, 10, 11, 12, 13, 14, 15, 16, 17, 18, 19, 20, 21, 22, 23, 24, 25, 26, 27, 28, 29, 30, 31, 32, 33, 34, 35, 36, 37, 38, 39, 40, 41, 42, 43, 44], [0, 1, 2, 3, 4, 5, 6, 7, 8, 9, 10, 11, 12, 13, 14, 15, 16, 17, 18, 19, 20, 21, 22, 23, 24, 25, 26, 27, 28, 29, 30, 31, 32, 33, 34, 35, 36, 37, 38, 39, 40, 41, 42, 43, 44, 45]])
 (.cond (.t 81) (.seq (.reg [⟨(some 2), none, (.p (.mov (.c (.bool false))))⟩])
 (.ret)) (.skip)))))
 (.reg [⟨(some 82), none, (.p (.bin 0 .add (.t 31) (.c (.int .i64 1))))⟩, ⟨(some 31), none, (.p (.mov (.t 82)))⟩])))))))
 (.seq (.reg [⟨(some 2), none, (.p (.mov (.c (.bool true))))⟩])
 (.ret)))))
theorem m_rvalf_ok : compF Try.prog 16 = some (83, m_rvalf, [.mov (.t 2)]) := by kernel_rfl
/-- Whether files are valid. -/
noncomputable def valF (f : Files) : Bool := @decide (FitF f) (Classical.propDecidable _)
theorem valF_T {f : Files} (h : FitF f) : valF f = true := by unfold valF; exact @decide_eq_true _ (Classical.propDecidable _) h
theorem valF_F {f : Files} (h : ¬ FitF f) : valF f = false := by unfold valF; exact @decide_eq_false _ (Classical.propDecidable _) h
theorem cellsB_F {f : Files} {k : Nat} (hk : k < f.data.length) (h : cellsB f.data[k]! 64 = false) : ¬ FitF f := fun F => by
  have h1 := F.len _ (mem_at hk)
  have h2 := F.cell _ (mem_at hk)
  unfold cellsB at h
  rw [h2, decT (by omega)] at h
  exact absurd h (by decide)
theorem okO_F {f : Files} {i : Nat} (hi : i < f.opens.length) (h : ¬ okO f f.opens[i]!) : ¬ FitF f := fun F => h (F.ok _ (mem_at hi))
set_option maxHeartbeats 16000000 in
theorem rvalf_fn (f : Files) : Fnc Try.prog 16 [filV f] (fun x obs => x = .bool (valF f) ∧ obs = []) := by
  refine Fnc.wf fun hw => ?_
  have hm : ∀ k, k < f.data.length → f.data[k]!.length ≤ 140737488355328 := fun k hk => by
    have := hw.1
    simp only [V.wf, V.wfs, wfs_map] at this
    have := this.1.1 _ (mem_at hk)
    simp only [slV', V.wf, List.length_map] at this
    exact this.2
  simp only [V.wfs, V.wf, List.length_map] at hw
  have m1 := hw.1.1.2
  have m2 := hw.1.2.1.2
  clear hw
  by_cases hl : f.data.length ≤ 4
  · by_cases ho : f.opens.length = 8
    · skip
      refine Fnc.intro m_rvalf_ok (by simp) fun W S => ?_
      unfold m_rvalf
      simp only [ents, Nat.zero_add, Nat.reduceAdd]
      refine zst ?_
      refine ev_loopK [1, 18, 19] (fun p : {p : Nat // p ≤ f.data.length ∧ ∀ j, j < p → cellsB f.data[j]! 64 = true} => [(20, .int .i64 p.1)]) (fun _ => [⟨.box false 26, true, 0, filV f⟩]) (fun p => f.data.length - p.1) (⟨0, by simp⟩) 1 (by simp only [go_sem]; rfl) ?_ (by first | rfl | (simp only [go_sem]; done)) (by simp) (by first | rfl | (simp only [go_sem]; done)) (by first | rfl | (simp only [go_sem]; done)) (by first | rfl | (simp only [go_sem]; done)) ?_
      · (simp only [go_sem]; (try simp []); done)
      intro J hJ
      rintro ⟨k, hk0, hk1⟩
      by_cases hlt : k < f.data.length
      · have h3 := hm k hlt
        have fc := rcels_fn f.data[k]! 64
        by_cases e : cellsB f.data[k]! 64 = true
        · rw [e] at fc
          have hS : ∀ j, j < k + 1 → cellsB f.data[j]! 64 = true := fun j hj => by
            by_cases e' : j = k
            · subst e'; exact e
            · exact hk1 j (by omega)
          refine zst ?_
          (first | refine callD (fc) ?_ | refine callDw (fc) ?_); simp only [go_sem]
          refine zst ?_
          refine ev_next 1 (hJ _ (⟨k + 1, hlt, hS⟩) (by first | omega | (dsimp only; omega) | (simp; omega))) rfl (by simp) ?_ (by first | rfl | (simp only [go_sem]; done)) (by first | rfl | (simp only [go_sem]; done) | (simp only [hlt]; (try simp only [go_sem]); first | done | rfl)) ?_
          · (first | rfl | (simp only [go_sem]; done) | (simp only [go_sem]; simp only [hlt]; done) | (simp only [hlt]; done) | (simp only [go_sem]; simp [hlt]; done) | (simp [hlt]; done))
          · (simp only [go_sem]; (repeat' (refine And.intro ?_ ?_)) <;> first | exact trivial | with_reducible rfl | (simp only [hlt]; done) | (simp only [hlt]; with_reducible rfl) | (simp [hlt]; done) | (simp [hlt]; omega) | (simp only [hlt]; rfl) | skip)
        · rw [Bool.not_eq_true] at e
          rw [e] at fc
          rw [valF_F (cellsB_F hlt e)]
          refine zst ?_
          (first | refine callD (fc) ?_ | refine callDw (fc) ?_); simp only [go_sem]
          refine zst ?_
          refine ret m_rvalf_ok [] ?_; (first | (simp only [go_sem]; done) | (simp only [go_sem]; ((try dsimp only); (repeat' (refine And.intro ?_ ?_)) <;> first | with_reducible rfl | (simp only [go_sem]; done) | (simp only [go_sem]; rfl) | (simp only []; (try simp only [go_sem]); first | done | rfl) | (simp only [go_sem]; simp []; done) | (simp []; done) | rfl)))
      · obtain rfl : k = f.data.length := by omega
        refine zst ?_
        refine ev_loopK [1, 29, 30] (fun p : {p : Nat // p ≤ 8 ∧ ∀ j, j < p → okO f f.opens[j]!} => [(31, .int .i64 p.1)]) (fun _ => [⟨.box false 26, true, 0, filV f⟩]) (fun p => 8 - p.1) (⟨0, by simp⟩) 1 (by simp only [go_sem]; rfl) ?_ (by first | rfl | (simp only [go_sem]; done)) (by simp) (by first | rfl | (simp only [go_sem]; done)) (by first | rfl | (simp only [go_sem]; done)) (by first | rfl | (simp only [go_sem]; done)) ?_
        · (simp only [go_sem]; (try simp []); done)
        intro J hJ
        rintro ⟨i, hi0, hi1⟩
        by_cases hlt2 : i < 8
        · have hS (h : okO f f.opens[i]!) : ∀ j, j < i + 1 → okO f f.opens[j]! := fun j hj => by
            by_cases e' : j = i
            · subst e'; exact h
            · exact hi1 j (by omega)
          have hF := fun h => okO_F (f := f) (i := i) (by omega) h
          generalize ho' : f.opens[i]! = o at hS hF
          by_cases c1 : o.file = -1
          · by_cases c2 : o.offset = 0
            · cases c3 : o.write
              · have hS := hS (.inl ⟨c1, c2, c3⟩)
                repeat (first | (simp only [ho', c3]; try simp only [go_sem]) | refine And.intro (by omega) ?_ | refine And.intro rfl ?_ | refine ev_ctl rfl rfl ?_ | refine evr_nil ?_ | refine evw_nil (by kernel_rfl) ?_ | (simp (disch := omega) only [takeAll, Nat.min_eq_left, Nat.min_eq_right, if_pos, if_neg, getD_map, wrapI64, modIn, fdivE, tmodE, tdivE, decT, decF, beqT, beqF, bneT, bneF, Int.toNat_natCast]; try simp only [go_sem]) | (refine ev_condTb rfl ?_ ?_; · (simp <;> omega)) | (refine ev_condFb rfl ?_ ?_; · (simp <;> omega)) | ((first | refine ev_region ?_ | refine evr_go rfl ?_ | refine evw_go rfl ?_ | refine ev_dr0 mixed rfl (by kernel_rfl) ?_ | refine ev_dr1 mixed rfl (by kernel_rfl) ?_ | refine ev_dr2 mixed rfl (by kernel_rfl) ?_); simp only [go_sem]))
                refine ev_next 1 (hJ _ (⟨i + 1, hlt2, hS⟩) (by first | omega | (dsimp only; omega) | (simp; omega))) rfl (by simp) ?_ (by first | rfl | (simp only [go_sem]; done)) (by first | rfl | (simp only [go_sem]; done) | (simp only [hlt2]; (try simp only [go_sem]); first | done | rfl)) ?_
                · (first | rfl | (simp only [go_sem]; done) | (simp only [go_sem]; simp only [hlt2]; done) | (simp only [hlt2]; done) | (simp only [go_sem]; simp [hlt2]; done) | (simp [hlt2]; done))
                · (simp only [go_sem]; (repeat' (refine And.intro ?_ ?_)) <;> first | exact trivial | with_reducible rfl | (simp only [hlt2]; done) | (simp only [hlt2]; with_reducible rfl) | (simp [hlt2]; done) | (simp [hlt2]; omega) | (simp only [hlt2]; rfl) | skip)
              · rw [valF_F (hF fun h => by
                  rcases h with h | h
                  · rw [c3] at h; exact absurd h.2.2 (by decide)
                  · omega)]
                repeat (first | (simp only [ho', c3]; try simp only [go_sem]) | refine And.intro (by omega) ?_ | refine And.intro rfl ?_ | refine ev_ctl rfl rfl ?_ | refine evr_nil ?_ | refine evw_nil (by kernel_rfl) ?_ | (simp (disch := omega) only [takeAll, Nat.min_eq_left, Nat.min_eq_right, if_pos, if_neg, getD_map, wrapI64, modIn, fdivE, tmodE, tdivE, decT, decF, beqT, beqF, bneT, bneF, Int.toNat_natCast]; try simp only [go_sem]) | (refine ev_condTb rfl ?_ ?_; · (simp <;> omega)) | (refine ev_condFb rfl ?_ ?_; · (simp <;> omega)) | ((first | refine ev_region ?_ | refine evr_go rfl ?_ | refine evw_go rfl ?_ | refine ev_dr0 mixed rfl (by kernel_rfl) ?_ | refine ev_dr1 mixed rfl (by kernel_rfl) ?_ | refine ev_dr2 mixed rfl (by kernel_rfl) ?_); simp only [go_sem]))
                refine ret m_rvalf_ok [] ?_; (first | (simp only [go_sem]; done) | (simp only [go_sem]; ((try dsimp only); (repeat' (refine And.intro ?_ ?_)) <;> first | with_reducible rfl | (simp only [go_sem]; done) | (simp only [go_sem]; rfl) | (simp only []; (try simp only [go_sem]); first | done | rfl) | (simp only [go_sem]; simp []; done) | (simp []; done) | rfl)))
            · rw [valF_F (hF fun h => by rcases h with h | h <;> omega)]
              repeat (first | (simp only [ho']; try simp only [go_sem]) | refine And.intro (by omega) ?_ | refine And.intro rfl ?_ | refine ev_ctl rfl rfl ?_ | refine evr_nil ?_ | refine evw_nil (by kernel_rfl) ?_ | (simp (disch := omega) only [takeAll, Nat.min_eq_left, Nat.min_eq_right, if_pos, if_neg, getD_map, wrapI64, modIn, fdivE, tmodE, tdivE, decT, decF, beqT, beqF, bneT, bneF, Int.toNat_natCast]; try simp only [go_sem]) | (refine ev_condTb rfl ?_ ?_; · (simp <;> omega)) | (refine ev_condFb rfl ?_ ?_; · (simp <;> omega)) | ((first | refine ev_region ?_ | refine evr_go rfl ?_ | refine evw_go rfl ?_ | refine ev_dr0 mixed rfl (by kernel_rfl) ?_ | refine ev_dr1 mixed rfl (by kernel_rfl) ?_ | refine ev_dr2 mixed rfl (by kernel_rfl) ?_); simp only [go_sem]))
              refine ret m_rvalf_ok [] ?_; (first | (simp only [go_sem]; done) | (simp only [go_sem]; ((try dsimp only); (repeat' (refine And.intro ?_ ?_)) <;> first | with_reducible rfl | (simp only [go_sem]; done) | (simp only [go_sem]; rfl) | (simp only []; (try simp only [go_sem]); first | done | rfl) | (simp only [go_sem]; simp []; done) | (simp []; done) | rfl)))
          by_cases c2 : o.file < -1
          · rw [valF_F (hF fun h => by rcases h with h | h <;> omega)]
            repeat (first | (simp only [ho']; try simp only [go_sem]) | refine And.intro (by omega) ?_ | refine And.intro rfl ?_ | refine ev_ctl rfl rfl ?_ | refine evr_nil ?_ | refine evw_nil (by kernel_rfl) ?_ | (simp (disch := omega) only [takeAll, Nat.min_eq_left, Nat.min_eq_right, if_pos, if_neg, getD_map, wrapI64, modIn, fdivE, tmodE, tdivE, decT, decF, beqT, beqF, bneT, bneF, Int.toNat_natCast]; try simp only [go_sem]) | (refine ev_condTb rfl ?_ ?_; · (simp <;> omega)) | (refine ev_condFb rfl ?_ ?_; · (simp <;> omega)) | ((first | refine ev_region ?_ | refine evr_go rfl ?_ | refine evw_go rfl ?_ | refine ev_dr0 mixed rfl (by kernel_rfl) ?_ | refine ev_dr1 mixed rfl (by kernel_rfl) ?_ | refine ev_dr2 mixed rfl (by kernel_rfl) ?_); simp only [go_sem]))
            refine ret m_rvalf_ok [] ?_; (first | (simp only [go_sem]; done) | (simp only [go_sem]; ((try dsimp only); (repeat' (refine And.intro ?_ ?_)) <;> first | with_reducible rfl | (simp only [go_sem]; done) | (simp only [go_sem]; rfl) | (simp only []; (try simp only [go_sem]); first | done | rfl) | (simp only [go_sem]; simp []; done) | (simp []; done) | rfl)))
          by_cases c3 : f.data.length ≤ o.file
          · rw [valF_F (hF fun h => by rcases h with h | h <;> omega)]
            repeat (first | (simp only [ho']; try simp only [go_sem]) | refine And.intro (by omega) ?_ | refine And.intro rfl ?_ | refine ev_ctl rfl rfl ?_ | refine evr_nil ?_ | refine evw_nil (by kernel_rfl) ?_ | (simp (disch := omega) only [takeAll, Nat.min_eq_left, Nat.min_eq_right, if_pos, if_neg, getD_map, wrapI64, modIn, fdivE, tmodE, tdivE, decT, decF, beqT, beqF, bneT, bneF, Int.toNat_natCast]; try simp only [go_sem]) | (refine ev_condTb rfl ?_ ?_; · (simp <;> omega)) | (refine ev_condFb rfl ?_ ?_; · (simp <;> omega)) | ((first | refine ev_region ?_ | refine evr_go rfl ?_ | refine evw_go rfl ?_ | refine ev_dr0 mixed rfl (by kernel_rfl) ?_ | refine ev_dr1 mixed rfl (by kernel_rfl) ?_ | refine ev_dr2 mixed rfl (by kernel_rfl) ?_); simp only [go_sem]))
            refine ret m_rvalf_ok [] ?_; (first | (simp only [go_sem]; done) | (simp only [go_sem]; ((try dsimp only); (repeat' (refine And.intro ?_ ?_)) <;> first | with_reducible rfl | (simp only [go_sem]; done) | (simp only [go_sem]; rfl) | (simp only []; (try simp only [go_sem]); first | done | rfl) | (simp only [go_sem]; simp []; done) | (simp []; done) | rfl)))
          by_cases c4 : o.offset < 0
          · rw [valF_F (hF fun h => by rcases h with h | h <;> omega)]
            repeat (first | (simp only [ho']; try simp only [go_sem]) | refine And.intro (by omega) ?_ | refine And.intro rfl ?_ | refine ev_ctl rfl rfl ?_ | refine evr_nil ?_ | refine evw_nil (by kernel_rfl) ?_ | (simp (disch := omega) only [takeAll, Nat.min_eq_left, Nat.min_eq_right, if_pos, if_neg, getD_map, wrapI64, modIn, fdivE, tmodE, tdivE, decT, decF, beqT, beqF, bneT, bneF, Int.toNat_natCast]; try simp only [go_sem]) | (refine ev_condTb rfl ?_ ?_; · (simp <;> omega)) | (refine ev_condFb rfl ?_ ?_; · (simp <;> omega)) | ((first | refine ev_region ?_ | refine evr_go rfl ?_ | refine evw_go rfl ?_ | refine ev_dr0 mixed rfl (by kernel_rfl) ?_ | refine ev_dr1 mixed rfl (by kernel_rfl) ?_ | refine ev_dr2 mixed rfl (by kernel_rfl) ?_); simp only [go_sem]))
            refine ret m_rvalf_ok [] ?_; (first | (simp only [go_sem]; done) | (simp only [go_sem]; ((try dsimp only); (repeat' (refine And.intro ?_ ?_)) <;> first | with_reducible rfl | (simp only [go_sem]; done) | (simp only [go_sem]; rfl) | (simp only []; (try simp only [go_sem]); first | done | rfl) | (simp only [go_sem]; simp []; done) | (simp []; done) | rfl)))
          by_cases c5 : o.offset ≤ f.data[o.file.toNat]!.length
          · have hS := hS (.inr ⟨by omega, by omega, by omega, c5⟩)
            repeat (first | (simp only [ho']; try simp only [go_sem]) | refine And.intro (by omega) ?_ | refine And.intro rfl ?_ | refine ev_ctl rfl rfl ?_ | refine evr_nil ?_ | refine evw_nil (by kernel_rfl) ?_ | (simp (disch := omega) only [takeAll, Nat.min_eq_left, Nat.min_eq_right, if_pos, if_neg, getD_map, wrapI64, modIn, fdivE, tmodE, tdivE, decT, decF, beqT, beqF, bneT, bneF, Int.toNat_natCast]; try simp only [go_sem]) | (refine ev_condTb rfl ?_ ?_; · (simp <;> omega)) | (refine ev_condFb rfl ?_ ?_; · (simp <;> omega)) | ((first | refine ev_region ?_ | refine evr_go rfl ?_ | refine evw_go rfl ?_ | refine ev_dr0 mixed rfl (by kernel_rfl) ?_ | refine ev_dr1 mixed rfl (by kernel_rfl) ?_ | refine ev_dr2 mixed rfl (by kernel_rfl) ?_); simp only [go_sem]))
            refine ev_next 1 (hJ _ (⟨i + 1, hlt2, hS⟩) (by first | omega | (dsimp only; omega) | (simp; omega))) rfl (by simp) ?_ (by first | rfl | (simp only [go_sem]; done)) (by first | rfl | (simp only [go_sem]; done) | (simp only [hlt2]; (try simp only [go_sem]); first | done | rfl)) ?_
            · (first | rfl | (simp only [go_sem]; done) | (simp only [go_sem]; simp only [hlt2]; done) | (simp only [hlt2]; done) | (simp only [go_sem]; simp [hlt2]; done) | (simp [hlt2]; done))
            · (simp only [go_sem]; (repeat' (refine And.intro ?_ ?_)) <;> first | exact trivial | with_reducible rfl | (simp only [hlt2]; done) | (simp only [hlt2]; with_reducible rfl) | (simp [hlt2]; done) | (simp [hlt2]; omega) | (simp only [hlt2]; rfl) | skip)
          · rw [valF_F (hF fun h => by rcases h with h | h <;> omega)]
            repeat (first | (simp only [ho']; try simp only [go_sem]) | refine And.intro (by omega) ?_ | refine And.intro rfl ?_ | refine ev_ctl rfl rfl ?_ | refine evr_nil ?_ | refine evw_nil (by kernel_rfl) ?_ | (simp (disch := omega) only [takeAll, Nat.min_eq_left, Nat.min_eq_right, if_pos, if_neg, getD_map, wrapI64, modIn, fdivE, tmodE, tdivE, decT, decF, beqT, beqF, bneT, bneF, Int.toNat_natCast]; try simp only [go_sem]) | (refine ev_condTb rfl ?_ ?_; · (simp <;> omega)) | (refine ev_condFb rfl ?_ ?_; · (simp <;> omega)) | ((first | refine ev_region ?_ | refine evr_go rfl ?_ | refine evw_go rfl ?_ | refine ev_dr0 mixed rfl (by kernel_rfl) ?_ | refine ev_dr1 mixed rfl (by kernel_rfl) ?_ | refine ev_dr2 mixed rfl (by kernel_rfl) ?_); simp only [go_sem]))
            refine ret m_rvalf_ok [] ?_; (first | (simp only [go_sem]; done) | (simp only [go_sem]; ((try dsimp only); (repeat' (refine And.intro ?_ ?_)) <;> first | with_reducible rfl | (simp only [go_sem]; done) | (simp only [go_sem]; rfl) | (simp only []; (try simp only [go_sem]); first | done | rfl) | (simp only [go_sem]; simp []; done) | (simp []; done) | rfl)))
        · rw [valF_T ⟨hl, ho, fun x hx => by
            obtain ⟨j, hj, rfl⟩ := at_mem hx
            have := hk1 j hj; unfold cellsB at this; simp only [Bool.and_eq_true, decide_eq_true_eq] at this; omega, fun x hx => by
            obtain ⟨j, hj, rfl⟩ := at_mem hx
            have := hk1 j hj; unfold cellsB at this; simp only [Bool.and_eq_true] at this; exact this.1, fun o h => by
            obtain ⟨j, hj, rfl⟩ := at_mem h
            exact hi1 j (by omega)⟩]
          refine zst ?_
          refine ret m_rvalf_ok [] ?_; (first | (simp only [go_sem]; done) | (simp only [go_sem]; ((try dsimp only); (repeat' (refine And.intro ?_ ?_)) <;> first | with_reducible rfl | (simp only [go_sem]; done) | (simp only [go_sem]; rfl) | (simp only []; (try simp only [go_sem]); first | done | rfl) | (simp only [go_sem]; simp []; done) | (simp []; done) | rfl)))
    · rw [valF_F fun F => ho F.o]
      refine Fnc.intro m_rvalf_ok (by simp) fun W S => ?_
      unfold m_rvalf
      simp only [ents, Nat.zero_add, Nat.reduceAdd]
      refine zst ?_
      refine ret m_rvalf_ok [] ?_; (first | (simp only [go_sem]; done) | (simp only [go_sem]; ((try dsimp only); (repeat' (refine And.intro ?_ ?_)) <;> first | with_reducible rfl | (simp only [go_sem]; done) | (simp only [go_sem]; rfl) | (simp only []; (try simp only [go_sem]); first | done | rfl) | (simp only [go_sem]; simp []; done) | (simp []; done) | rfl)))
  · rw [valF_F fun F => hl F.d]
    refine Fnc.intro m_rvalf_ok (by simp) fun W S => ?_
    unfold m_rvalf
    simp only [ents, Nat.zero_add, Nat.reduceAdd]
    refine zst ?_
    refine ret m_rvalf_ok [] ?_; (first | (simp only [go_sem]; done) | (simp only [go_sem]; ((try dsimp only); (repeat' (refine And.intro ?_ ?_)) <;> first | with_reducible rfl | (simp only [go_sem]; done) | (simp only [go_sem]; rfl) | (simp only []; (try simp only [go_sem]); first | done | rfl) | (simp only [go_sem]; simp []; done) | (simp []; done) | rfl)))
end Go.Proofs.Ytanmcjkpdkmhfaa
/- Files: reading in two parts (FileParts). -/
namespace Go.Proofs.Ytanmcjkpdkmhfaa
open Go Go.RowKit Rdn Rdn.Dp
set_option linter.unusedVariables false
set_option linter.unusedSimpArgs false
def m_fpa : MC := .seq (.reg [⟨(some 8), none, (.p (.mov (.c (.bool false))))⟩])
 (.seq (.reg [⟨(some 19), none, (.p (.mov (.t 0)))⟩, ⟨(some 20), none, (.call 9 [(.t 19)])⟩, ⟨(some 21), none, (.call 8 [(.t 20)])⟩, ⟨(some 9), none, (.m (.alloc 26 (.agg [.nilS, .nilS])))⟩, ⟨none, none, (.m (.store 2 (.t 9) (.t 21)))⟩])
 (.seq (.reg [⟨(some 22), none, (.p (.mov (.t 1)))⟩, ⟨(some 23), none, (.call 10 [(.t 22), (.c (.int .i64 5))])⟩, ⟨(some 24), none, (.p (.mov (.t 2)))⟩, ⟨(some 25), none, (.call 10 [(.t 24), (.c (.int .i64 6))])⟩, ⟨(some 26), none, (.p (.mov (.t 3)))⟩, ⟨(some 27), none, (.call 10 [(.t 26), (.c (.int .i64 6))])⟩, ⟨(some 1), none, (.p (.mov (.t 23)))⟩, ⟨(some 2), none, (.p (.mov (.t 25)))⟩, ⟨(some 3), none, (.p (.mov (.t 27)))⟩])
 (.seq (.reg [⟨(some 29), none, (.p (.load true 2 (.t 9)))⟩, ⟨(some 30), none, (.p (.mov (.t 1)))⟩, ⟨(some 31), none, (.p (.mov (.t 2)))⟩, ⟨(some 32), none, (.call 14 [(.t 29), (.t 30), (.t 31)])⟩, ⟨(some 28), none, (.p (.mov (.t 32)))⟩, ⟨(some 33), none, (.p (.ext (.t 28) 0))⟩, ⟨(some 34), none, (.p (.ext (.t 28) 1))⟩, ⟨(some 35), none, (.p (.ext (.t 28) 2))⟩, ⟨(some 10), none, (.m (.alloc 26 (.agg [.nilS, .nilS])))⟩, ⟨none, none, (.m (.store 2 (.t 10) (.t 33)))⟩, ⟨(some 11), none, (.p (.mov (.t 34)))⟩, ⟨(some 12), none, (.p (.mov (.t 35)))⟩])
 (.seq (.reg [⟨(some 37), none, (.p (.load true 2 (.t 10)))⟩, ⟨(some 38), none, (.p (.mov (.t 1)))⟩, ⟨(some 39), none, (.p (.mov (.t 3)))⟩, ⟨(some 40), none, (.call 14 [(.t 37), (.t 38), (.t 39)])⟩, ⟨(some 36), none, (.p (.mov (.t 40)))⟩, ⟨(some 41), none, (.p (.ext (.t 36) 0))⟩, ⟨(some 42), none, (.p (.ext (.t 36) 1))⟩, ⟨(some 43), none, (.p (.ext (.t 36) 2))⟩, ⟨(some 13), none, (.m (.alloc 26 (.agg [.nilS, .nilS])))⟩, ⟨none, none, (.m (.store 2 (.t 13) (.t 41)))⟩, ⟨(some 14), none, (.p (.mov (.t 42)))⟩, ⟨(some 15), none, (.p (.mov (.t 43)))⟩])
 (.seq (.reg [⟨(some 45), none, (.p (.load true 2 (.t 9)))⟩, ⟨(some 46), none, (.p (.mov (.t 1)))⟩, ⟨(some 47), none, (.p (.mov (.t 2)))⟩, ⟨(some 48), none, (.p (.mov (.t 3)))⟩, ⟨(some 49), none, (.p (.bin 0 .add (.t 47) (.t 48)))⟩, ⟨(some 50), none, (.call 14 [(.t 45), (.t 46), (.t 49)])⟩, ⟨(some 44), none, (.p (.mov (.t 50)))⟩, ⟨(some 51), none, (.p (.ext (.t 44) 0))⟩, ⟨(some 52), none, (.p (.ext (.t 44) 1))⟩, ⟨(some 53), none, (.p (.ext (.t 44) 2))⟩, ⟨(some 16), none, (.m (.alloc 26 (.agg [.nilS, .nilS])))⟩, ⟨none, none, (.m (.store 2 (.t 16) (.t 51)))⟩, ⟨(some 17), none, (.p (.mov (.t 52)))⟩, ⟨(some 18), none, (.p (.mov (.t 53)))⟩])
 (.seq (.seq (.reg [⟨(some 54), none, (.p (.mov (.t 12)))⟩, ⟨(some 55), none, (.p (.mov (.t 15)))⟩, ⟨(some 56), none, (.p (.bin 1 .neq (.t 54) (.t 55)))⟩, ⟨(some 57), none, (.p (.mov (.t 56)))⟩, ⟨(some 58), (some (57, false)), (.p (.mov (.t 12)))⟩, ⟨(some 59), (some (57, false)), (.p (.mov (.t 18)))⟩, ⟨(some 60), (some (57, false)), (.p (.bin 1 .neq (.t 58) (.t 59)))⟩, ⟨(some 61), none, (.p (.pick (.t 57) (.c (.bool true)) (.t 60)))⟩])
 (.cond (.t 61) (.seq (.reg [⟨(some 8), none, (.p (.mov (.c (.bool false))))⟩])
 (.ret)) (.skip)))
 (.seq (.reg [⟨(some 62), none, (.p (.load true 2 (.t 13)))⟩, ⟨(some 63), none, (.p (.load true 2 (.t 16)))⟩, ⟨(some 64), none, (.call 15 [(.t 62), (.t 63)])⟩, ⟨(some 65), none, (.p (.mov (.t 64)))⟩, ⟨(some 66), (some (65, true)), (.p (.mov (.t 11)))⟩, ⟨(some 67), (some (65, true)), (.m (.app 71 4 24 (.c (.nilS)) (.t 66)))⟩, ⟨(some 68), (some (65, true)), (.p (.mov (.t 14)))⟩, ⟨(some 69), (some (65, true)), (.m (.app 71 4 24 (.t 67) (.t 68)))⟩, ⟨(some 70), (some (65, true)), (.p (.mov (.t 17)))⟩, ⟨(some 71), (some (65, true)), (.call 12 [(.t 69), (.t 70)])⟩, ⟨(some 72), none, (.p (.pick (.t 65) (.t 71) (.c (.bool false))))⟩, ⟨(some 73), none, (.p (.mov (.t 72)))⟩, ⟨(some 74), (some (73, true)), (.p (.mov (.t 11)))⟩, ⟨(some 75), (some (73, true)), (.p (.len (.t 74)))⟩, ⟨(some 76), (some (73, true)), (.p (.mov (.t 2)))⟩, ⟨(some 77), (some (73, true)), (.p (.bin 0 .leq (.t 75) (.t 76)))⟩, ⟨(some 78), none, (.p (.pick (.t 73) (.t 77) (.c (.bool false))))⟩, ⟨(some 79), none, (.p (.mov (.t 78)))⟩, ⟨(some 80), (some (79, true)), (.p (.mov (.t 12)))⟩, ⟨(some 81), (some (79, true)), (.p (.mov (.t 80)))⟩, ⟨(some 82), (some (81, false)), (.p (.load true 2 (.t 16)))⟩, ⟨(some 83), (some (81, false)), (.p (.load true 2 (.t 9)))⟩, ⟨(some 84), (some (81, false)), (.call 15 [(.t 82), (.t 83)])⟩, ⟨(some 85), (some (79, true)), (.p (.pick (.t 81) (.c (.bool true)) (.t 84)))⟩, ⟨(some 86), none, (.p (.pick (.t 79) (.t 85) (.c (.bool false))))⟩, ⟨(some 87), none, (.p (.mov (.t 86)))⟩, ⟨(some 88), (some (87, true)), (.call 13 [])⟩, ⟨(some 89), none, (.p (.pick (.t 87) (.t 88) (.c (.bool false))))⟩, ⟨(some 8), none, (.p (.mov (.t 89)))⟩])
 (.ret))))))))
theorem m_fpa_ok : compF Try.prog 4 = some (90, m_fpa, [.mov (.t 8)]) := by kernel_rfl
theorem read_F {f : Files} {h n : Int} (c : ¬ (opd f h ∧ f.opens[h.toNat]!.write = false)) : sRead f h n = (f, [], false) := by
  unfold sRead
  rw [if_neg fun x => c ⟨x.1, x.2.2⟩]
theorem read_T {f : Files} {h n : Int} (c : opd f h ∧ f.opens[h.toNat]!.write = false) (hn : 0 ≤ n) : sRead f h n = (⟨f.data, setOff f h (f.opens[h.toNat]!.offset + rdn f h n)⟩, ((dat f h).drop f.opens[h.toNat]!.offset.toNat).take (rdn f h n).toNat, true) := by
  unfold sRead
  rw [if_pos ⟨c.1, hn, c.2⟩]
theorem setOff_at {f : Files} {h x : Int} (c : opd f h) : (setOff f h x)[h.toNat]! = ⟨f.opens[h.toNat]!.file, x, f.opens[h.toNat]!.write⟩ := by
  obtain ⟨c1, c2, _⟩ := c
  unfold setOff
  rw [set_at (by omega), if_pos rfl]
theorem setOff_opd {f : Files} {h x : Int} (c : opd f h) : opd ⟨f.data, setOff f h x⟩ h := by
  refine ⟨c.1, ?_, ?_⟩
  · show h < ((setOff f h x).length : Int)
    unfold setOff
    rw [List.length_set]
    exact c.2.1
  · show (setOff f h x)[h.toNat]!.file ≠ -1
    rw [setOff_at c]
    exact c.2.2
theorem setOff_dat {f : Files} {h x : Int} (c : opd f h) : dat ⟨f.data, setOff f h x⟩ h = dat f h := by
  unfold dat
  dsimp only
  rw [setOff_at c]
theorem setOff_two {f : Files} {h x y : Int} (c : opd f h) : setOff ⟨f.data, setOff f h x⟩ h y = setOff f h y := by
  rw [setOff]
  dsimp only
  rw [setOff_at c]
  dsimp only
  unfold setOff
  rw [List.set_set]
theorem take_take_drop {α : Type} (l : List α) (a b c : Nat) : (l.drop a).take b ++ (l.drop (a + b)).take c = (l.drop a).take (b + c) := by
  rw [List.take_add, List.drop_drop]
structure Parts (f a b c : Files) (x y z : List Canon) (ok is whole : Bool) (n k : Int) : Prop where
  bc : b = c
  xy : x ++ y = z
  is : is = ok
  whole : whole = ok
  le : (x.length : Int) ≤ n
  yl : (y.length : Int) ≤ k
  no : ok = false → c = f ∧ x = [] ∧ y = [] ∧ z = []
theorem parts {f : Files} (F : FitF f) {h n k : Int} (hn : 0 ≤ n) (hk : 0 ≤ k) : Parts f (sRead f h n).1 (sRead (sRead f h n).1 h k).1 (sRead f h (n + k)).1 (sRead f h n).2.1 (sRead (sRead f h n).1 h k).2.1 (sRead f h (n + k)).2.1 (sRead f h n).2.2 (sRead (sRead f h n).1 h k).2.2 (sRead f h (n + k)).2.2 n k := by
  by_cases c : opd f h ∧ f.opens[h.toNat]!.write = false
  · obtain ⟨_, _, a1, a2, _⟩ := F.at c.1
    have r0 : 0 ≤ rdn f h n ∧ rdn f h n ≤ n := by unfold rdn; omega
    rw [read_T c hn, read_T c (by omega), read_T (f := ⟨f.data, setOff f h _⟩) ⟨setOff_opd c.1, by dsimp only; rw [setOff_at c.1]; exact c.2⟩ hk]
    dsimp only
    rw [setOff_dat c.1, setOff_two c.1, setOff_at c.1]
    dsimp only
    have e : rdn f h n + rdn ⟨f.data, setOff f h (f.opens[h.toNat]!.offset + rdn f h n)⟩ h k = rdn f h (n + k) := by
      unfold rdn
      rw [setOff_dat c.1]
      dsimp only
      rw [setOff_at c.1]
      dsimp only
      omega
    have r1 : 0 ≤ rdn ⟨f.data, setOff f h (f.opens[h.toNat]!.offset + rdn f h n)⟩ h k ∧ rdn ⟨f.data, setOff f h (f.opens[h.toNat]!.offset + rdn f h n)⟩ h k ≤ k := by
      unfold rdn
      rw [setOff_dat c.1]
      dsimp only
      rw [setOff_at c.1]
      dsimp only
      omega
    refine ⟨by rw [Int.add_assoc, e], ?_, rfl, rfl, ?_, ?_, fun h => absurd h (by decide)⟩
    · rw [← e, Int.toNat_add a1 r0.1, take_take_drop, ← Int.toNat_add r0.1 r1.1]
    · rw [List.length_take]; omega
    · rw [List.length_take]; omega
  · rw [read_F c, read_F c]
    dsimp only
    rw [read_F c]
    exact ⟨rfl, rfl, rfl, rfl, by simpa using hn, by simpa using hk, fun _ => ⟨rfl, rfl, rfl, rfl⟩⟩
attribute [local irreducible] fls sRead
set_option maxHeartbeats 16000000 in
theorem fpa_fn (l : List Int) (h0 n0 k0 : Int) : Fnc Try.prog 4 [.sl false 1 (i64s l), .int .i64 h0, .int .i64 n0, .int .i64 k0] (fun x obs => x = .bool true) := by
  have fo := files_fn l 0 (by omega)
  obtain ⟨F, hk⟩ := fls_fit (l := l) (k := 0) (by omega)
  generalize fls l 0 = q at fo F hk
  obtain ⟨f, kk⟩ := q
  dsimp only at fo F hk
  have g1 := mmod_fn h0 5 (by omega)
  have g2 := mmod_fn n0 6 (by omega)
  have g3 := mmod_fn k0 6 (by omega)
  have b1 := Int.emod_nonneg h0 (b := 5) (by omega)
  have b2 := Int.emod_nonneg n0 (b := 6) (by omega)
  have b3 := Int.emod_nonneg k0 (b := 6) (by omega)
  have b4 := Int.emod_lt_of_pos n0 (b := 6) (by omega)
  have b5 := Int.emod_lt_of_pos k0 (b := 6) (by omega)
  generalize h0 % 5 = h at g1 b1
  generalize n0 % 6 = n at g2 b2 b4
  generalize k0 % 6 = k at g3 b3 b5
  have P := parts F (h := h) b2 b3
  have f1 := wread_fn f F h n
  have f2 := wread_fn _ (F.read h n) h k
  have f3 := wread_fn f F h (n + k)
  generalize sRead f h n = r1 at P f1 f2
  obtain ⟨a, x, ok⟩ := r1
  dsimp only at P f1 f2
  generalize sRead a h k = r2 at P f2
  obtain ⟨b, y, is⟩ := r2
  generalize sRead f h (n + k) = r3 at P f3
  obtain ⟨c, z, whole⟩ := r3
  dsimp only at P f1 f2 f3
  obtain ⟨rfl, rfl, rfl, rfl, hle, hyl, hno⟩ := P
  have f4 := rsamf_fn b b
  rw [decT rfl] at f4
  have f5 := samec_fn (x ++ y) (x ++ y)
  rw [decT rfl] at f5
  rename Bool => ok
  cases ok
  · obtain ⟨rfl, rfl, rfl, _⟩ := hno rfl
    refine Fnc.intro m_fpa_ok (by simp) fun W S => ?_
    unfold m_fpa
    simp only [ents, Nat.zero_add, Nat.reduceAdd]
    refine zst ?_
    (first | refine callX (new_fn l) ?_ | refine callXw (new_fn l) ?_); simp only [go_sem]
    refine zst ?_
    (first | apply st_callMD (fo) rfl | apply evw_callM (fo) rfl)
    · (simp only [go_sem]; rfl)
    · rfl
    · (first | rfl | (simp only [go_sem]; done))
    · (first | rfl | (simp only [go_sem]; done) | (simp only [go_sem]; rfl))
    · (first | rfl | (simp only [go_sem]; done))
    · (first | rfl | (simp only [go_sem]; done) | (simp only [go_sem]; rfl))
    · (first | rfl | simp [V.pureT, V.pure, V.pures, pures_lo, pures_sls])
    (first | refine ev_all (fu := [(), (), (), (), (), (), (), ()]) ?_ | refine evw_all (md := []) (fu := [(), (), (), (), (), (), (), ()]) ?_); refine zev ?_
    refine zst ?_
    (first | refine callD (g1) ?_ | refine callDw (g1) ?_); simp only [go_sem]
    refine zst ?_
    (first | refine callD (g2) ?_ | refine callDw (g2) ?_); simp only [go_sem]
    refine zst ?_
    (first | refine callD (g3) ?_ | refine callDw (g3) ?_); simp only [go_sem]
    refine zst ?_
    (first | refine callD (f1) ?_ | refine callDw (f1) ?_); simp only [go_sem]
    refine zst ?_
    (first | refine callD (f2) ?_ | refine callDw (f2) ?_); simp only [go_sem]
    refine zst ?_
    (first | refine callD (f3) ?_ | refine callDw (f3) ?_); simp only [go_sem]
    refine zst ?_
    (first | refine callD (f4) ?_ | refine callDw (f4) ?_); simp only [go_sem]
    refine zst ?_
    (first | refine callD (f5) ?_ | refine callDw (f5) ?_); simp only [go_sem]
    refine zst ?_
    (first | refine callD (f4) ?_ | refine callDw (f4) ?_); simp only [go_sem]
    refine zst ?_
    (first | refine callD (awake17_fn) ?_ | refine callDw (awake17_fn) ?_); simp only [go_sem]
    refine zst ?_
    refine ret m_fpa_ok [] ?_; (first | (simp only [go_sem]; done) | (simp only [go_sem]; ((try dsimp only); (repeat' (refine And.intro ?_ ?_)) <;> first | with_reducible rfl | (simp only [go_sem]; done) | (simp only [go_sem]; rfl) | (simp only []; (try simp only [go_sem]); first | done | rfl) | (simp only [go_sem]; simp []; done) | (simp []; done) | rfl)))
  · skip
    refine Fnc.intro m_fpa_ok (by simp) fun W S => ?_
    unfold m_fpa
    simp only [ents, Nat.zero_add, Nat.reduceAdd]
    refine zst ?_
    (first | refine callX (new_fn l) ?_ | refine callXw (new_fn l) ?_); simp only [go_sem]
    refine zst ?_
    (first | apply st_callMD (fo) rfl | apply evw_callM (fo) rfl)
    · (simp only [go_sem]; rfl)
    · rfl
    · (first | rfl | (simp only [go_sem]; done))
    · (first | rfl | (simp only [go_sem]; done) | (simp only [go_sem]; rfl))
    · (first | rfl | (simp only [go_sem]; done))
    · (first | rfl | (simp only [go_sem]; done) | (simp only [go_sem]; rfl))
    · (first | rfl | simp [V.pureT, V.pure, V.pures, pures_lo, pures_sls])
    (first | refine ev_all (fu := [(), (), (), (), (), (), (), ()]) ?_ | refine evw_all (md := []) (fu := [(), (), (), (), (), (), (), ()]) ?_); refine zev ?_
    refine zst ?_
    (first | refine callD (g1) ?_ | refine callDw (g1) ?_); simp only [go_sem]
    refine zst ?_
    (first | refine callD (g2) ?_ | refine callDw (g2) ?_); simp only [go_sem]
    refine zst ?_
    (first | refine callD (g3) ?_ | refine callDw (g3) ?_); simp only [go_sem]
    refine zst ?_
    (first | refine callD (f1) ?_ | refine callDw (f1) ?_); simp only [go_sem]
    refine zst ?_
    (first | refine callD (f2) ?_ | refine callDw (f2) ?_); simp only [go_sem]
    refine zst ?_
    (first | refine callD (f3) ?_ | refine callDw (f3) ?_); simp only [go_sem]
    refine zst ?_
    (first | refine callD (f4) ?_ | refine callDw (f4) ?_); simp only [go_sem]
    refine zst ?_
    (first | refine callD (f5) ?_ | refine callDw (f5) ?_); simp only [go_sem]
    refine zst ?_
    (first | refine callD (awake17_fn) ?_ | refine callDw (awake17_fn) ?_); simp only [go_sem]
    refine zst ?_
    refine ret m_fpa_ok [] ?_; (first | (simp only [go_sem]; done) | (simp only [go_sem]; ((try dsimp only); (repeat' (refine And.intro ?_ ?_)) <;> first | with_reducible rfl | (simp only [go_sem]; done) | (simp only [go_sem]; rfl) | (simp only []; (try simp only [go_sem]); first | done | rfl) | (simp only [go_sem]; simp []; done) | (simp []; done) | rfl)))
theorem fpa_law {a0 : List Int} {v0 : Value} {a1 : Int} {v1 : Value} {a2 : Int} {v2 : Value} {a3 : Int} {v3 : Value} (W : World) (e0 : (Sh.slice (Sh.int .i64)).rd (old W) W a0 [v0]) (e1 : (Sh.int .i64).rd (old W) W a1 [v1]) (e2 : (Sh.int .i64).rd (old W) W a2 [v2]) (e3 : (Sh.int .i64).rd (old W) W a3 [v3]) :
    Calls Try.prog 4 #[v0, v1, v2, v3] W fun e w' => e = .returned (.bool true) ∧ Below W.heap.size W w' :=
  Fnc.law (fpa_fn a0 a1 a2 a3) (RdTs.slice enc_i64s e0 (RdTs.int e1 (RdTs.int e2 (RdTs.int e3 RdTs.nil'))))
end Go.Proofs.Ytanmcjkpdkmhfaa
/- Files: validity and equality by the program, of any files. -/
namespace Go.Proofs.Ytanmcjkpdkmhfaa
open Go Go.RowKit Rdn Rdn.Dp
set_option linter.unusedVariables false
set_option linter.unusedSimpArgs false
def m_vd1 : MC := .seq (.reg [⟨(some 2), none, (.p (.mov (.c (.bool false))))⟩])
 (.seq (.reg [⟨(some 3), none, (.p (.mov (.t 0)))⟩, ⟨(some 4), none, (.call 42 [(.t 3), (.c (.int .i64 64))])⟩, ⟨(some 5), none, (.p (.un .not (.t 4)))⟩, ⟨(some 2), none, (.p (.mov (.t 5)))⟩])
 (.ret))
theorem m_vd1_ok : compF Try.prog 45 = some (6, m_vd1, [.mov (.t 2)]) := by kernel_rfl
def m_vd2 : MC := .seq (.reg [⟨(some 2), none, (.m (.box 36 (.t 0)))⟩, ⟨(some 3), none, (.p (.mov (.c (.bool false))))⟩])
 (.seq (.seq (.reg [⟨(some 4), none, (.p (.fieldA 0 0 (.t 2)))⟩, ⟨(some 5), none, (.p (.load false 1 (.t 4)))⟩, ⟨(some 6), none, (.p (.bin 0 .eql (.t 5) (.c (.int .i64 (-1)))))⟩])
 (.cond (.t 6) (.seq (.reg [⟨(some 7), none, (.p (.load true 3 (.t 2)))⟩, ⟨(some 8), none, (.m (.build none [.int .i64 0, .int .i64 0, .bool false] [(0, (.c (.int .i64 (-1))))]))⟩, ⟨(some 9), none, (.p (.eqs true [(some .i64), (some .i64), none] (.t 7) (.t 8)))⟩, ⟨(some 3), none, (.p (.mov (.t 9)))⟩])
 (.ret)) (.skip)))
 (.seq (.dreg [⟨(some 10), none, (.p (.fieldA 0 0 (.t 2)))⟩, ⟨(some 11), none, (.p (.load false 1 (.t 10)))⟩, ⟨(some 12), none, (.p (.bin 0 .lss (.t 11) (.c (.int .i64 0))))⟩, ⟨(some 13), none, (.p (.mov (.t 12)))⟩, ⟨(some 14), (some (13, false)), (.p (.fieldA 0 0 (.t 2)))⟩, ⟨(some 15), (some (13, false)), (.p (.load false 1 (.t 14)))⟩, ⟨(some 16), (some (13, false)), (.p (.fieldA 0 0 (.t 1)))⟩, ⟨(some 17), (some (13, false)), (.p (.load false 1 (.t 16)))⟩, ⟨(some 18), (some (13, false)), (.p (.len (.t 17)))⟩, ⟨(some 19), (some (13, false)), (.p (.bin 0 .geq (.t 15) (.t 18)))⟩, ⟨(some 20), none, (.p (.pick (.t 13) (.c (.bool true)) (.t 19)))⟩, ⟨(some 21), none, (.p (.mov (.t 20)))⟩, ⟨(some 22), (some (21, false)), (.p (.fieldA 1 1 (.t 2)))⟩, ⟨(some 23), (some (21, false)), (.p (.load false 1 (.t 22)))⟩, ⟨(some 24), (some (21, false)), (.p (.bin 0 .lss (.t 23) (.c (.int .i64 0))))⟩, ⟨(some 25), none, (.p (.pick (.t 21) (.c (.bool true)) (.t 24)))⟩, ⟨(some 26), none, (.p (.mov (.t 25)))⟩, ⟨(some 27), (some (26, false)), (.p (.fieldA 1 1 (.t 2)))⟩, ⟨(some 28), (some (26, false)), (.p (.load false 1 (.t 27)))⟩, ⟨(some 29), (some (26, false)), (.p (.fieldA 0 0 (.t 1)))⟩, ⟨(some 30), (some (26, false)), (.p (.load false 1 (.t 29)))⟩, ⟨(some 31), (some (26, false)), (.p (.fieldA 0 0 (.t 2)))⟩, ⟨(some 32), (some (26, false)), (.p (.load false 1 (.t 31)))⟩, ⟨(some 33), (some (26, false)), (.p (.idxA 1 (.t 30) (.t 32)))⟩, ⟨(some 34), (some (26, false)), (.p (.load false 1 (.t 33)))⟩, ⟨(some 35), (some (26, false)), (.p (.len (.t 34)))⟩, ⟨(some 36), (some (26, false)), (.p (.bin 0 .gtr (.t 28) (.t 35)))⟩, ⟨(some 37), none, (.p (.pick (.t 26) (.c (.bool true)) (.t 36)))⟩, ⟨(some 3), none, (.p (.mov (.t 37)))⟩] [[], [0], [0, 1], [0, 1, 2], [0, 1, 2, 3], [0, 1, 2, 3, 4], [0, 1, 2, 3], [0, 1, 2, 3, 6], [0, 1, 2, 3, 6, 7], [0, 1, 2, 3, 4, 5, 6, 7, 8], [0, 1, 2, 3, 4, 5, 6, 7, 8, 9], [0, 1, 2, 3, 4, 5, 6, 7, 8, 9, 10], [0, 1, 2, 3, 4, 5, 6, 7, 8, 9, 10, 11], [0, 1, 2, 3, 4, 5, 6, 7, 8, 9, 10, 11, 12], [0, 1, 2, 3, 4, 5, 6, 7, 8, 9, 10, 11, 12, 13], [0, 1, 2, 3, 4, 5, 6, 7, 8, 9, 10, 11, 12, 13, 14], [0, 1, 2, 3, 4, 5, 6, 7, 8, 9, 10, 11, 12, 13, 14, 15], [0, 1, 2, 3, 4, 5, 6, 7, 8, 9, 10, 11, 12, 13, 14, 15, 16], [0, 1, 2, 3, 4, 5, 6, 7, 8, 9, 10, 11, 12, 13, 14, 15, 16, 17], [0, 1, 2, 3, 4, 5, 6, 7, 8, 9, 10, 11, 12, 13, 14, 15, 16], [0, 1, 2, 3, 4, 5, 6, 7, 8, 9, 10, 11, 12, 13, 14, 15, 16, 19], [0, 1, 2, 3, 4, 5, 6, 7, 8, 9, 10, 11, 12, 13, 14, 15, 16], [0, 1, 2, 3, 4, 5, 6, 7, 8, 9, 10, 11, 12, 13, 14, 15, 16, 21], [0, 1, 2, 3, 4, 5, 6, 7, 8, 9, 10, 11, 12, 13, 14, 15, 16, 19, 20, 21, 22], [0, 1, 2, 3, 4, 5, 6, 7, 8, 9, 10, 11, 12, 13, 14, 15, 16, 19, 20, 21, 22, 23], [0, 1, 2, 3, 4, 5, 6, 7, 8, 9, 10, 11, 12, 13, 14, 15, 16, 19, 20, 21, 22, 23, 24], [0, 1, 2, 3, 4, 5, 6, 7, 8, 9, 10, 11, 12, 13, 14, 15, 16, 17, 18, 19, 20, 21, 22, 23, 24, 25], [0, 1, 2, 3, 4, 5, 6, 7, 8, 9, 10, 11, 12, 13, 14, 15, 16, 17, 18, 19, 20, 21, 22, 23, 24, 25, 26], [0, 1, 2, 3, 4, 5, 6, 7, 8, 9, 10, 11, 12, 13, 14, 15, 16, 17, 18, 19, 20, 21, 22, 23, 24, 25, 26, 27]])
 (.ret)))
theorem m_vd2_ok : compF Try.prog 47 = some (38, m_vd2, [.mov (.t 3)]) := by kernel_rfl
def m_idxd : MC := .seq (.reg [⟨(some 4), none, (.p (.mov (.c (.int .i64 0))))⟩])
 (.seq (.seq (.reg [⟨(some 6), none, (.p (.mov (.t 0)))⟩, ⟨(some 7), none, (.p (.len (.t 6)))⟩, ⟨(some 8), none, (.p (.mov (.c (.int .i64 0))))⟩])
 (.block 0 (.loop (.seq (.reg [⟨(some 9), none, (.p (.bin 0 .lss (.t 8) (.t 7)))⟩])
 (.seq (.cond (.t 9) (.skip) (.exit 0))
 (.seq (.block 1 (.seq (.reg [⟨(some 10), none, (.p (.mov (.t 8)))⟩, ⟨(some 5), none, (.p (.mov (.t 10)))⟩])
 (.seq (.reg [⟨(some 11), none, (.p (.mov (.t 1)))⟩, ⟨(some 12), none, (.p (.mov (.t 0)))⟩, ⟨(some 13), none, (.p (.mov (.t 5)))⟩, ⟨(some 14), none, (.p (.idxA 1 (.t 12) (.t 13)))⟩, ⟨(some 15), none, (.p (.load false 1 (.t 14)))⟩, ⟨(some 16), none, (.callv (.t 11) [(.t 15)])⟩])
 (.cond (.t 16) (.seq (.reg [⟨(some 17), none, (.p (.mov (.t 5)))⟩, ⟨(some 4), none, (.p (.mov (.t 17)))⟩])
 (.ret)) (.skip)))))
 (.reg [⟨(some 18), none, (.p (.bin 0 .add (.t 8) (.c (.int .i64 1))))⟩, ⟨(some 8), none, (.p (.mov (.t 18)))⟩])))))))
 (.seq (.reg [⟨(some 4), none, (.p (.mov (.c (.int .i64 (-1)))))⟩])
 (.ret)))
theorem m_idxd_ok : compF Try.prog 64 = some (19, m_idxd, [.mov (.t 4)]) := by kernel_rfl
def m_cond : MC := .seq (.reg [⟨(some 4), none, (.p (.mov (.c (.bool false))))⟩])
 (.seq (.reg [⟨(some 5), none, (.p (.mov (.t 0)))⟩, ⟨(some 6), none, (.p (.mov (.t 1)))⟩, ⟨(some 7), none, (.call 64 [(.t 5), (.t 6)])⟩, ⟨(some 8), none, (.p (.bin 0 .geq (.t 7) (.c (.int .i64 0))))⟩, ⟨(some 4), none, (.p (.mov (.t 8)))⟩])
 (.ret))
theorem m_cond_ok : compF Try.prog 44 = some (9, m_cond, [.mov (.t 4)]) := by kernel_rfl
def m_cono : MC := .seq (.reg [⟨(some 4), none, (.p (.mov (.c (.bool false))))⟩])
 (.seq (.reg [⟨(some 5), none, (.p (.mov (.t 0)))⟩, ⟨(some 6), none, (.p (.mov (.t 1)))⟩, ⟨(some 7), none, (.call 36 [(.t 5), (.t 6)])⟩, ⟨(some 8), none, (.p (.bin 0 .geq (.t 7) (.c (.int .i64 0))))⟩, ⟨(some 4), none, (.p (.mov (.t 8)))⟩])
 (.ret))
theorem m_cono_ok : compF Try.prog 46 = some (9, m_cono, [.mov (.t 4)]) := by kernel_rfl
def m_wvalf : MC := .seq (.reg [⟨(some 1), none, (.m (.box 26 (.t 0)))⟩, ⟨(some 2), none, (.p (.mov (.c (.bool false))))⟩])
 (.seq (.seq (.reg [⟨(some 3), none, (.p (.fieldA 0 0 (.t 1)))⟩, ⟨(some 4), none, (.p (.load false 1 (.t 3)))⟩, ⟨(some 5), none, (.p (.len (.t 4)))⟩, ⟨(some 6), none, (.p (.bin 0 .gtr (.t 5) (.c (.int .i64 4))))⟩, ⟨(some 7), none, (.p (.mov (.t 6)))⟩, ⟨(some 8), (some (7, false)), (.p (.fieldA 1 1 (.t 1)))⟩, ⟨(some 9), (some (7, false)), (.p (.load false 1 (.t 8)))⟩, ⟨(some 10), (some (7, false)), (.p (.len (.t 9)))⟩, ⟨(some 11), (some (7, false)), (.p (.bin 0 .neq (.t 10) (.c (.int .i64 8))))⟩, ⟨(some 12), none, (.p (.pick (.t 7) (.c (.bool true)) (.t 11)))⟩, ⟨(some 13), none, (.p (.mov (.t 12)))⟩, ⟨(some 14), (some (13, false)), (.p (.fieldA 0 0 (.t 1)))⟩, ⟨(some 15), (some (13, false)), (.p (.load false 1 (.t 14)))⟩, ⟨(some 16), (some (13, false)), (.call 44 [(.t 15), (.c (.fn 45))])⟩, ⟨(some 17), none, (.p (.pick (.t 13) (.c (.bool true)) (.t 16)))⟩])
 (.cond (.t 17) (.seq (.reg [⟨(some 2), none, (.p (.mov (.c (.bool false))))⟩])
 (.ret)) (.skip)))
 (.seq (.reg [⟨(some 18), none, (.p (.fieldA 1 1 (.t 1)))⟩, ⟨(some 19), none, (.p (.load false 1 (.t 18)))⟩, ⟨(some 20), none, (.p (.mkf 47 [(.t 1)]))⟩, ⟨(some 21), none, (.call 46 [(.t 19), (.t 20)])⟩, ⟨(some 22), none, (.p (.un .not (.t 21)))⟩, ⟨(some 2), none, (.p (.mov (.t 22)))⟩])
 (.ret)))
theorem m_wvalf_ok : compF Try.prog 23 = some (23, m_wvalf, [.mov (.t 2)]) := by kernel_rfl
instance (f : Files) (o : Opn) : Decidable (okO f o) := by unfold okO; exact inferInstance
def badD (d : List Canon) : Bool := !cellsB d 64
def badO (f : Files) (o : Opn) : Bool := decide (¬ okO f o)
set_option maxHeartbeats 4000000 in
theorem vd1_fn (d : List Canon) : Fnc Try.prog 45 [.sl false 4 (d.map canonV)] (fun x obs => x = .bool (badD d) ∧ obs = []) := by
  have hr : badD d = !cellsB d 64 := rfl
  refine Fnc.intro m_vd1_ok (by simp) fun W S => ?_
  unfold m_vd1
  simp only [ents, Nat.zero_add, Nat.reduceAdd]
  refine zst ?_
  (first | refine callD (wcels_fn d 64) ?_ | refine callDw (wcels_fn d 64) ?_); simp only [go_sem]
  refine zst ?_
  refine ret m_vd1_ok [] ?_; (first | (simp only [go_sem]; done) | (simp only [go_sem]; ((try dsimp only); (repeat' (refine And.intro ?_ ?_)) <;> first | with_reducible rfl | (simp only [go_sem]; done) | (simp only [go_sem]; rfl) | (simp only [go_sem, hr]; done) | (simp only [hr]; (try simp only [go_sem]); first | done | rfl) | (simp only [go_sem]; simp [hr]; done) | (simp [hr]; done) | rfl)))
set_option maxHeartbeats 4000000 in
theorem idxd_fn (l : List (List Canon)) : Fnc Try.prog 64 [.sl false 1 (l.map (slV' false 4 canonV)), .fn 45] (fun x obs => x = .int .i64 (fnd badD l) ∧ obs = []) := by
  refine Fnc.wf fun hw => ?_
  have hm : l.length ≤ 140737488355328 := by
    have := hw.1
    simp only [V.wf, List.length_map] at this
    exact this.2
  clear hw
  refine Fnc.intro m_idxd_ok (by simp) fun W S => ?_
  unfold m_idxd
  simp only [ents, Nat.zero_add, Nat.reduceAdd]
  refine zst ?_
  refine ev_loopK [0, 1, 7] (fun p : {p : Nat // p ≤ l.length ∧ ∀ j, j < p → badD l[j]! = false} => [(8, .int .i64 p.1)]) (fun _ => []) (fun p => l.length - p.1) (⟨0, by simp⟩) 0 (by simp only [go_sem]; rfl) ?_ (by first | rfl | (simp only [go_sem]; done)) (by simp) (by first | rfl | (simp only [go_sem]; done)) (by first | rfl | (simp only [go_sem]; done)) (by first | rfl | (simp only [go_sem]; done)) ?_
  · (simp only [go_sem]; (try simp []); done)
  intro J hJ
  rintro ⟨k, hk0, hk1⟩
  by_cases hlt : k < l.length
  · have hc := vd1_fn l[k]!
    cases hb : badD l[k]! with
    | true =>
      rw [hb] at hc
      have hr := fnd_at (p := badD) hlt hk1 hb
      refine zst ?_
      refine callDv (hc) (by kernel_rfl) rfl ?_; simp only [go_sem]
      refine zst ?_
      refine ret m_idxd_ok [] ?_; (first | (simp only [go_sem]; done) | (simp only [go_sem]; ((try dsimp only); (repeat' (refine And.intro ?_ ?_)) <;> first | with_reducible rfl | (simp only [go_sem]; done) | (simp only [go_sem]; rfl) | (simp only [go_sem, hr]; done) | (simp only [hr]; (try simp only [go_sem]); first | done | rfl) | (simp only [go_sem]; simp [hr]; done) | (simp [hr]; done) | rfl)))
    | false =>
      rw [hb] at hc
      have hS : ∀ j, j < k + 1 → badD l[j]! = false := fun j hj => by
        by_cases e : j = k
        · subst e; exact hb
        · exact hk1 j (by omega)
      refine zst ?_
      refine callDv (hc) (by kernel_rfl) rfl ?_; simp only [go_sem]
      refine zst ?_
      refine ev_next 0 (hJ _ (⟨k + 1, hlt, hS⟩) (by first | omega | (dsimp only; omega) | (simp; omega))) rfl (by simp) ?_ (by first | rfl | (simp only [go_sem]; done)) (by first | rfl | (simp only [go_sem]; done) | (simp only [hlt]; (try simp only [go_sem]); first | done | rfl)) ?_
      · (first | rfl | (simp only [go_sem]; done) | (simp only [go_sem]; simp only [hlt]; done) | (simp only [hlt]; done) | (simp only [go_sem]; simp [hlt]; done) | (simp [hlt]; done))
      · (simp only [go_sem]; (repeat' (refine And.intro ?_ ?_)) <;> first | exact trivial | with_reducible rfl | (simp only [hlt]; done) | (simp only [hlt]; with_reducible rfl) | (simp [hlt]; done) | (simp [hlt]; omega) | (simp only [hlt]; rfl) | skip)
  · obtain rfl : k = l.length := by omega
    have hr := fnd_no (p := badD) hk1
    refine zst ?_
    refine ret m_idxd_ok [] ?_; (first | (simp only [go_sem]; done) | (simp only [go_sem]; ((try dsimp only); (repeat' (refine And.intro ?_ ?_)) <;> first | with_reducible rfl | (simp only [go_sem]; done) | (simp only [go_sem]; rfl) | (simp only [go_sem, hr]; done) | (simp only [hr]; (try simp only [go_sem]); first | done | rfl) | (simp only [go_sem]; simp [hr]; done) | (simp [hr]; done) | rfl)))
set_option maxHeartbeats 4000000 in
theorem cond_fn (l : List (List Canon)) : Fnc Try.prog 44 [.sl false 1 (l.map (slV' false 4 canonV)), .fn 45] (fun x obs => x = .bool (l.any badD) ∧ obs = []) := by
  have hr := fnd_ge badD l
  refine Fnc.intro m_cond_ok (by simp) fun W S => ?_
  unfold m_cond
  simp only [ents, Nat.zero_add, Nat.reduceAdd]
  refine zst ?_
  (first | refine callD (idxd_fn l) ?_ | refine callDw (idxd_fn l) ?_); simp only [go_sem]
  refine zst ?_
  refine ret m_cond_ok [] ?_; (first | (simp only [go_sem]; done) | (simp only [go_sem]; ((try dsimp only); (repeat' (refine And.intro ?_ ?_)) <;> first | with_reducible rfl | (simp only [go_sem]; done) | (simp only [go_sem]; rfl) | (simp only [go_sem, hr]; done) | (simp only [hr]; (try simp only [go_sem]); first | done | rfl) | (simp only [go_sem]; simp [hr]; done) | (simp [hr]; done) | rfl)))
theorem shut_eqs (o : Opn) : (o.file == -1 && (o.offset == 0 && o.write == false)) = decide (o = shut) := opn_eqs o shut
theorem badO_T {f : Files} {o : Opn} (h : ¬ okO f o) : badO f o = true := decT h
theorem badO_F {f : Files} {o : Opn} (h : okO f o) : badO f o = false := decF fun x => x h
set_option maxHeartbeats 8000000 in
theorem vd2_fn (f : Files) (o : Opn) (h1 : f.data.length ≤ 4) : Fnc Try.prog 47 [opnV o, .rp (filV f)] (fun x obs => x = .bool (badO f o) ∧ obs = []) := by
  by_cases c1 : o.file = -1
  · have hs : decide (o = shut) = !badO f o := by
      by_cases c : o = shut
      · rw [badO_F (.inl (by rw [c]; exact ⟨rfl, rfl, rfl⟩)), decT c]; rfl
      · rw [badO_T (fun h => by
          rcases h with h | h
          · exact c (opn_ext h.1 h.2.1 h.2.2)
          · omega), decF c]; rfl
    have hs2 : (o.offset == 0 && o.write == false) = !badO f o := by
      have h := shut_eqs o
      rw [show (o.file == -1) = true by simp [c1], Bool.true_and] at h
      exact h.trans hs
    refine Fnc.intro m_vd2_ok (by simp) fun W S => ?_
    unfold m_vd2
    simp only [ents, Nat.zero_add, Nat.reduceAdd]
    refine zst ?_
    refine ret m_vd2_ok [] ?_; (first | (simp only [go_sem]; done) | (simp only [go_sem]; ((try dsimp only); (repeat' (refine And.intro ?_ ?_)) <;> first | with_reducible rfl | (simp only [go_sem]; done) | (simp only [go_sem]; rfl) | (simp only [go_sem, hs2, Bool.not_not]; done) | (simp only [hs2, Bool.not_not]; (try simp only [go_sem]); first | done | rfl) | (simp only [go_sem]; simp [hs2, Bool.not_not]; done) | (simp [hs2, Bool.not_not]; done) | rfl)))
  by_cases c2 : o.file < 0
  · rw [badO_T (fun h => by rcases h with h | h <;> omega)]
    refine Fnc.intro m_vd2_ok (by simp) fun W S => ?_
    unfold m_vd2
    simp only [ents, Nat.zero_add, Nat.reduceAdd]
    refine zst ?_
    refine ret m_vd2_ok [] ?_; (first | (simp only [go_sem]; done) | (simp only [go_sem]; ((try dsimp only); (repeat' (refine And.intro ?_ ?_)) <;> first | with_reducible rfl | (simp only [go_sem]; done) | (simp only [go_sem]; rfl) | (simp only []; (try simp only [go_sem]); first | done | rfl) | (simp only [go_sem]; simp []; done) | (simp []; done) | rfl)))
  by_cases c3 : f.data.length ≤ o.file
  · rw [badO_T (fun h => by rcases h with h | h <;> omega)]
    refine Fnc.intro m_vd2_ok (by simp) fun W S => ?_
    unfold m_vd2
    simp only [ents, Nat.zero_add, Nat.reduceAdd]
    refine zst ?_
    refine ret m_vd2_ok [] ?_; (first | (simp only [go_sem]; done) | (simp only [go_sem]; ((try dsimp only); (repeat' (refine And.intro ?_ ?_)) <;> first | with_reducible rfl | (simp only [go_sem]; done) | (simp only [go_sem]; rfl) | (simp only []; (try simp only [go_sem]); first | done | rfl) | (simp only [go_sem]; simp []; done) | (simp []; done) | rfl)))
  by_cases c4 : o.offset < 0
  · rw [badO_T (fun h => by rcases h with h | h <;> omega)]
    refine Fnc.intro m_vd2_ok (by simp) fun W S => ?_
    unfold m_vd2
    simp only [ents, Nat.zero_add, Nat.reduceAdd]
    refine zst ?_
    refine ret m_vd2_ok [] ?_; (first | (simp only [go_sem]; done) | (simp only [go_sem]; ((try dsimp only); (repeat' (refine And.intro ?_ ?_)) <;> first | with_reducible rfl | (simp only [go_sem]; done) | (simp only [go_sem]; rfl) | (simp only []; (try simp only [go_sem]); first | done | rfl) | (simp only [go_sem]; simp []; done) | (simp []; done) | rfl)))
  by_cases c5 : o.offset ≤ f.data[o.file.toNat]!.length
  · rw [badO_F (.inr ⟨by omega, by omega, by omega, c5⟩)]
    refine Fnc.intro m_vd2_ok (by simp) fun W S => ?_
    unfold m_vd2
    simp only [ents, Nat.zero_add, Nat.reduceAdd]
    refine zst ?_
    refine ret m_vd2_ok [] ?_; (first | (simp only [go_sem]; done) | (simp only [go_sem]; ((try dsimp only); (repeat' (refine And.intro ?_ ?_)) <;> first | with_reducible rfl | (simp only [go_sem]; done) | (simp only [go_sem]; rfl) | (simp only []; (try simp only [go_sem]); first | done | rfl) | (simp only [go_sem]; simp []; done) | (simp []; done) | rfl)))
  · rw [badO_T (fun h => by rcases h with h | h <;> omega)]
    refine Fnc.intro m_vd2_ok (by simp) fun W S => ?_
    unfold m_vd2
    simp only [ents, Nat.zero_add, Nat.reduceAdd]
    refine zst ?_
    refine ret m_vd2_ok [] ?_; (first | (simp only [go_sem]; done) | (simp only [go_sem]; ((try dsimp only); (repeat' (refine And.intro ?_ ?_)) <;> first | with_reducible rfl | (simp only [go_sem]; done) | (simp only [go_sem]; rfl) | (simp only []; (try simp only [go_sem]); first | done | rfl) | (simp only [go_sem]; simp []; done) | (simp []; done) | rfl)))
set_option maxHeartbeats 4000000 in
theorem idv_fn (f : Files) (l : List Opn) (h1 : f.data.length ≤ 4): Fnc Try.prog 36 [.sl false 3 (l.map opnV), .clo 47 [.rp (filV f)]] (fun x obs => x = .int .i64 (fnd (badO f) l) ∧ obs = []) := by
  refine Fnc.wf fun hw => ?_
  have hm : l.length ≤ 140737488355328 := by
    have := hw.1
    simp only [V.wf, List.length_map] at this
    exact this.2
  clear hw
  refine Fnc.intro m_idxo_ok (by simp) fun W S => ?_
  unfold m_idxo
  simp only [ents, Nat.zero_add, Nat.reduceAdd]
  refine zst ?_
  refine ev_loopK [0, 1, 7] (fun p : {p : Nat // p ≤ l.length ∧ ∀ j, j < p → (badO f) l[j]! = false} => [(8, .int .i64 p.1)]) (fun _ => []) (fun p => l.length - p.1) (⟨0, by simp⟩) 0 (by simp only [go_sem]; rfl) ?_ (by first | rfl | (simp only [go_sem]; done)) (by simp) (by first | rfl | (simp only [go_sem]; done)) (by first | rfl | (simp only [go_sem]; done)) (by first | rfl | (simp only [go_sem]; done)) ?_
  · (simp only [go_sem]; (try simp []); done)
  intro J hJ
  rintro ⟨k, hk0, hk1⟩
  by_cases hlt : k < l.length
  · have hc := vd2_fn f l[k]! h1
    cases hb : (badO f) l[k]! with
    | true =>
      rw [hb] at hc
      have hr := fnd_at (p := (badO f)) hlt hk1 hb
      refine zst ?_
      refine callDv (hc) (by kernel_rfl) rfl ?_; simp only [go_sem]
      refine zst ?_
      refine ret m_idxo_ok [] ?_; (first | (simp only [go_sem]; done) | (simp only [go_sem]; ((try dsimp only); (repeat' (refine And.intro ?_ ?_)) <;> first | with_reducible rfl | (simp only [go_sem]; done) | (simp only [go_sem]; rfl) | (simp only [go_sem, hr]; done) | (simp only [hr]; (try simp only [go_sem]); first | done | rfl) | (simp only [go_sem]; simp [hr]; done) | (simp [hr]; done) | rfl)))
    | false =>
      rw [hb] at hc
      have hS : ∀ j, j < k + 1 → (badO f) l[j]! = false := fun j hj => by
        by_cases e : j = k
        · subst e; exact hb
        · exact hk1 j (by omega)
      refine zst ?_
      refine callDv (hc) (by kernel_rfl) rfl ?_; simp only [go_sem]
      refine zst ?_
      refine ev_next 0 (hJ _ (⟨k + 1, hlt, hS⟩) (by first | omega | (dsimp only; omega) | (simp; omega))) rfl (by simp) ?_ (by first | rfl | (simp only [go_sem]; done)) (by first | rfl | (simp only [go_sem]; done) | (simp only [hlt]; (try simp only [go_sem]); first | done | rfl)) ?_
      · (first | rfl | (simp only [go_sem]; done) | (simp only [go_sem]; simp only [hlt]; done) | (simp only [hlt]; done) | (simp only [go_sem]; simp [hlt]; done) | (simp [hlt]; done))
      · (simp only [go_sem]; (repeat' (refine And.intro ?_ ?_)) <;> first | exact trivial | with_reducible rfl | (simp only [hlt]; done) | (simp only [hlt]; with_reducible rfl) | (simp [hlt]; done) | (simp [hlt]; omega) | (simp only [hlt]; rfl) | skip)
  · obtain rfl : k = l.length := by omega
    have hr := fnd_no (p := (badO f)) hk1
    refine zst ?_
    refine ret m_idxo_ok [] ?_; (first | (simp only [go_sem]; done) | (simp only [go_sem]; ((try dsimp only); (repeat' (refine And.intro ?_ ?_)) <;> first | with_reducible rfl | (simp only [go_sem]; done) | (simp only [go_sem]; rfl) | (simp only [go_sem, hr]; done) | (simp only [hr]; (try simp only [go_sem]); first | done | rfl) | (simp only [go_sem]; simp [hr]; done) | (simp [hr]; done) | rfl)))
set_option maxHeartbeats 4000000 in
theorem cov_fn (f : Files) (l : List Opn) (h1 : f.data.length ≤ 4): Fnc Try.prog 46 [.sl false 3 (l.map opnV), .clo 47 [.rp (filV f)]] (fun x obs => x = .bool (l.any (badO f)) ∧ obs = []) := by
  have hr := fnd_ge (badO f) l
  refine Fnc.intro m_cono_ok (by simp) fun W S => ?_
  unfold m_cono
  simp only [ents, Nat.zero_add, Nat.reduceAdd]
  refine zst ?_
  (first | refine callD (idv_fn f l h1) ?_ | refine callDw (idv_fn f l h1) ?_); simp only [go_sem]
  refine zst ?_
  refine ret m_cono_ok [] ?_; (first | (simp only [go_sem]; done) | (simp only [go_sem]; ((try dsimp only); (repeat' (refine And.intro ?_ ?_)) <;> first | with_reducible rfl | (simp only [go_sem]; done) | (simp only [go_sem]; rfl) | (simp only [go_sem, hr]; done) | (simp only [hr]; (try simp only [go_sem]); first | done | rfl) | (simp only [go_sem]; simp [hr]; done) | (simp [hr]; done) | rfl)))
theorem badD_no {d : List Canon} (h : badD d = false) : d.all cellB = true ∧ d.length ≤ 64 := by
  have h' : (d.all cellB && decide ((d.length : Int) ≤ 64)) = true := by
    unfold badD cellsB at h
    cases hh : (d.all cellB && decide ((d.length : Int) ≤ 64))
    · rw [hh] at h; exact absurd h (by decide)
    · rfl
  rw [Bool.and_eq_true] at h'
  exact ⟨h'.1, by have := of_decide_eq_true h'.2; omega⟩
theorem valF_iff {f : Files} (h1 : f.data.length ≤ 4) (h2 : f.opens.length = 8) : valF f = (!f.data.any badD && !f.opens.any (badO f)) := by
  by_cases F : FitF f
  · rw [valF_T F]
    have a : f.data.any badD = false := by
      rw [List.any_eq_false]
      intro x hx
      have := F.len x hx
      unfold badD cellsB
      rw [F.cell x hx, decT (by omega)]
      decide
    have b : f.opens.any (badO f) = false := by
      rw [List.any_eq_false]
      intro x hx
      rw [badO_F (F.ok x hx)]
      decide
    rw [a, b]; rfl
  · rw [valF_F F]
    cases a : f.data.any badD
    · cases b : f.opens.any (badO f)
      · rw [List.any_eq_false] at a b
        refine absurd ⟨h1, h2, fun x hx => ?_, fun x hx => ?_, fun o ho => ?_⟩ F
        · exact (badD_no (Bool.not_eq_true _ ▸ a x hx)).2
        · exact (badD_no (Bool.not_eq_true _ ▸ a x hx)).1
        · have := b o ho
          exact Classical.byContradiction fun h => this (badO_T h)
      · rfl
    · rfl
attribute [local irreducible] badD badO
set_option maxHeartbeats 8000000 in
theorem wvalf_fn (f : Files) : Fnc Try.prog 23 [filV f] (fun x obs => x = .bool (valF f) ∧ obs = []) := by
  by_cases h1 : f.data.length ≤ 4
  · by_cases h2 : f.opens.length = 8
    · rw [valF_iff h1 h2]
      have fd := cond_fn f.data
      cases a : f.data.any badD
      · rw [a] at fd
        refine Fnc.intro m_wvalf_ok (by simp) fun W S => ?_
        unfold m_wvalf
        simp only [ents, Nat.zero_add, Nat.reduceAdd]
        refine zst ?_
        (first | refine callD (fd) ?_ | refine callDw (fd) ?_); simp only [go_sem]
        refine zst ?_
        refine zst ?_
        refine evr_cloB 20 rfl rfl (by simp only [go_sem]) ?_
        (first | refine callD (cov_fn f f.opens h1) ?_ | refine callDw (cov_fn f f.opens h1) ?_); simp only [go_sem]
        refine zst ?_
        refine ret m_wvalf_ok [] ?_; (first | (simp only [go_sem]; done) | (simp only [go_sem]; ((try dsimp only); (repeat' (refine And.intro ?_ ?_)) <;> first | with_reducible rfl | (simp only [go_sem]; done) | (simp only [go_sem]; rfl) | (simp only []; (try simp only [go_sem]); first | done | rfl) | (simp only [go_sem]; simp []; done) | (simp []; done) | rfl)))
      · rw [a] at fd
        refine Fnc.intro m_wvalf_ok (by simp) fun W S => ?_
        unfold m_wvalf
        simp only [ents, Nat.zero_add, Nat.reduceAdd]
        refine zst ?_
        (first | refine callD (fd) ?_ | refine callDw (fd) ?_); simp only [go_sem]
        refine zst ?_
        refine ret m_wvalf_ok [] ?_; (first | (simp only [go_sem]; done) | (simp only [go_sem]; ((try dsimp only); (repeat' (refine And.intro ?_ ?_)) <;> first | with_reducible rfl | (simp only [go_sem]; done) | (simp only [go_sem]; rfl) | (simp only []; (try simp only [go_sem]); first | done | rfl) | (simp only [go_sem]; simp []; done) | (simp []; done) | rfl)))
    · rw [valF_F fun F => h2 F.o]
      refine Fnc.intro m_wvalf_ok (by simp) fun W S => ?_
      unfold m_wvalf
      simp only [ents, Nat.zero_add, Nat.reduceAdd]
      refine zst ?_
      refine ret m_wvalf_ok [] ?_; (first | (simp only [go_sem]; done) | (simp only [go_sem]; ((try dsimp only); (repeat' (refine And.intro ?_ ?_)) <;> first | with_reducible rfl | (simp only [go_sem]; done) | (simp only [go_sem]; rfl) | (simp only []; (try simp only [go_sem]); first | done | rfl) | (simp only [go_sem]; simp []; done) | (simp []; done) | rfl)))
  · rw [valF_F fun F => h1 F.d]
    refine Fnc.intro m_wvalf_ok (by simp) fun W S => ?_
    unfold m_wvalf
    simp only [ents, Nat.zero_add, Nat.reduceAdd]
    refine zst ?_
    refine ret m_wvalf_ok [] ?_; (first | (simp only [go_sem]; done) | (simp only [go_sem]; ((try dsimp only); (repeat' (refine And.intro ?_ ?_)) <;> first | with_reducible rfl | (simp only [go_sem]; done) | (simp only [go_sem]; rfl) | (simp only []; (try simp only [go_sem]); first | done | rfl) | (simp only [go_sem]; simp []; done) | (simp []; done) | rfl)))
end Go.Proofs.Ytanmcjkpdkmhfaa
/- Files: equality by the program, of any files. -/
namespace Go.Proofs.Ytanmcjkpdkmhfaa
open Go Go.RowKit Rdn Rdn.Dp
set_option linter.unusedVariables false
set_option linter.unusedSimpArgs false
def m_slight : MC := .seq (.reg [⟨(some 1), none, (.m (.box 26 (.t 0)))⟩, ⟨(some 2), none, (.p (.mov (.c (.bool false))))⟩])
 (.seq (.seq (.reg [⟨(some 5), none, (.p (.fieldA 0 0 (.t 1)))⟩, ⟨(some 6), none, (.p (.load false 1 (.t 5)))⟩, ⟨(some 7), none, (.p (.len (.t 6)))⟩, ⟨(some 8), none, (.p (.mov (.c (.int .i64 0))))⟩])
 (.block 0 (.loop (.seq (.reg [⟨(some 9), none, (.p (.bin 0 .lss (.t 8) (.t 7)))⟩])
 (.seq (.cond (.t 9) (.skip) (.exit 0))
 (.seq (.block 1 (.seq (.reg [⟨(some 10), none, (.p (.idxA 1 (.t 6) (.t 8)))⟩, ⟨(some 11), none, (.p (.load false 1 (.t 10)))⟩, ⟨(some 4), none, (.p (.mov (.t 11)))⟩])
 (.seq (.reg [⟨(some 12), none, (.p (.mov (.t 4)))⟩, ⟨(some 13), none, (.p (.len (.t 12)))⟩, ⟨(some 14), none, (.p (.bin 0 .gtr (.t 13) (.c (.int .i64 100))))⟩])
 (.cond (.t 14) (.seq (.reg [⟨(some 2), none, (.p (.mov (.c (.bool false))))⟩])
 (.ret)) (.skip)))))
 (.reg [⟨(some 15), none, (.p (.bin 0 .add (.t 8) (.c (.int .i64 1))))⟩, ⟨(some 8), none, (.p (.mov (.t 15)))⟩])))))))
 (.seq (.reg [⟨(some 16), none, (.p (.fieldA 0 0 (.t 1)))⟩, ⟨(some 17), none, (.p (.load false 1 (.t 16)))⟩, ⟨(some 18), none, (.p (.len (.t 17)))⟩, ⟨(some 19), none, (.p (.bin 0 .leq (.t 18) (.c (.int .i64 20))))⟩, ⟨(some 20), none, (.p (.mov (.t 19)))⟩, ⟨(some 21), (some (20, true)), (.p (.fieldA 1 1 (.t 1)))⟩, ⟨(some 22), (some (20, true)), (.p (.load false 1 (.t 21)))⟩, ⟨(some 23), (some (20, true)), (.p (.len (.t 22)))⟩, ⟨(some 24), (some (20, true)), (.p (.bin 0 .leq (.t 23) (.c (.int .i64 40))))⟩, ⟨(some 25), none, (.p (.pick (.t 20) (.t 24) (.c (.bool false))))⟩, ⟨(some 2), none, (.p (.mov (.t 25)))⟩])
 (.ret)))
theorem m_slight_ok : compF Try.prog 21 = some (26, m_slight, [.mov (.t 2)]) := by kernel_rfl
def m_eqo : MC := .seq (.reg [⟨(some 4), none, (.p (.mov (.c (.bool false))))⟩])
 (.seq (.seq (.reg [⟨(some 6), none, (.p (.mov (.t 0)))⟩, ⟨(some 7), none, (.p (.len (.t 6)))⟩, ⟨(some 8), none, (.p (.mov (.t 1)))⟩, ⟨(some 9), none, (.p (.len (.t 8)))⟩, ⟨(some 10), none, (.p (.bin 0 .neq (.t 7) (.t 9)))⟩])
 (.cond (.t 10) (.seq (.reg [⟨(some 4), none, (.p (.mov (.c (.bool false))))⟩])
 (.ret)) (.skip)))
 (.seq (.seq (.reg [⟨(some 11), none, (.p (.mov (.t 0)))⟩, ⟨(some 12), none, (.p (.len (.t 11)))⟩, ⟨(some 13), none, (.p (.mov (.c (.int .i64 0))))⟩])
 (.block 0 (.loop (.seq (.reg [⟨(some 14), none, (.p (.bin 0 .lss (.t 13) (.t 12)))⟩])
 (.seq (.cond (.t 14) (.skip) (.exit 0))
 (.seq (.block 1 (.seq (.reg [⟨(some 15), none, (.p (.mov (.t 13)))⟩, ⟨(some 5), none, (.p (.mov (.t 15)))⟩])
 (.seq (.dreg [⟨(some 16), none, (.p (.mov (.t 0)))⟩, ⟨(some 17), none, (.p (.mov (.t 5)))⟩, ⟨(some 18), none, (.p (.idxA 3 (.t 16) (.t 17)))⟩, ⟨(some 19), none, (.p (.load true 3 (.t 18)))⟩, ⟨(some 20), none, (.p (.mov (.t 1)))⟩, ⟨(some 21), none, (.p (.mov (.t 5)))⟩, ⟨(some 22), none, (.p (.idxA 3 (.t 20) (.t 21)))⟩, ⟨(some 23), none, (.p (.load true 3 (.t 22)))⟩, ⟨(some 24), none, (.p (.eqs true [(some .i64), (some .i64), none] (.t 19) (.t 23)))⟩] [[], [], [0, 1], [0, 1, 2], [], [], [4, 5], [4, 5, 6], [0, 1, 2, 3, 4, 5, 6, 7]])
 (.cond (.t 24) (.seq (.reg [⟨(some 4), none, (.p (.mov (.c (.bool false))))⟩])
 (.ret)) (.skip)))))
 (.reg [⟨(some 25), none, (.p (.bin 0 .add (.t 13) (.c (.int .i64 1))))⟩, ⟨(some 13), none, (.p (.mov (.t 25)))⟩])))))))
 (.seq (.reg [⟨(some 4), none, (.p (.mov (.c (.bool true))))⟩])
 (.ret))))
theorem m_eqo_ok : compF Try.prog 48 = some (26, m_eqo, [.mov (.t 4)]) := by kernel_rfl
def m_eqc : MC := .seq (.reg [⟨(some 4), none, (.p (.mov (.c (.bool false))))⟩])
 (.seq (.seq (.reg [⟨(some 6), none, (.p (.mov (.t 0)))⟩, ⟨(some 7), none, (.p (.len (.t 6)))⟩, ⟨(some 8), none, (.p (.mov (.t 1)))⟩, ⟨(some 9), none, (.p (.len (.t 8)))⟩, ⟨(some 10), none, (.p (.bin 0 .neq (.t 7) (.t 9)))⟩])
 (.cond (.t 10) (.seq (.reg [⟨(some 4), none, (.p (.mov (.c (.bool false))))⟩])
 (.ret)) (.skip)))
 (.seq (.seq (.reg [⟨(some 11), none, (.p (.mov (.t 0)))⟩, ⟨(some 12), none, (.p (.len (.t 11)))⟩, ⟨(some 13), none, (.p (.mov (.c (.int .i64 0))))⟩])
 (.block 0 (.loop (.seq (.reg [⟨(some 14), none, (.p (.bin 0 .lss (.t 13) (.t 12)))⟩])
 (.seq (.cond (.t 14) (.skip) (.exit 0))
 (.seq (.block 1 (.seq (.reg [⟨(some 15), none, (.p (.mov (.t 13)))⟩, ⟨(some 5), none, (.p (.mov (.t 15)))⟩])
 (.seq (.dreg [⟨(some 16), none, (.p (.mov (.t 0)))⟩, ⟨(some 17), none, (.p (.mov (.t 5)))⟩, ⟨(some 18), none, (.p (.idxA 4 (.t 16) (.t 17)))⟩, ⟨(some 19), none, (.p (.load true 4 (.t 18)))⟩, ⟨(some 20), none, (.p (.mov (.t 1)))⟩, ⟨(some 21), none, (.p (.mov (.t 5)))⟩, ⟨(some 22), none, (.p (.idxA 4 (.t 20) (.t 21)))⟩, ⟨(some 23), none, (.p (.load true 4 (.t 22)))⟩, ⟨(some 24), none, (.p (.eqs true [(some .u8), (some .u16), (some .i64), (some .i64)] (.t 19) (.t 23)))⟩] [[], [], [0, 1], [0, 1, 2], [], [], [4, 5], [4, 5, 6], [0, 1, 2, 3, 4, 5, 6, 7]])
 (.cond (.t 24) (.seq (.reg [⟨(some 4), none, (.p (.mov (.c (.bool false))))⟩])
 (.ret)) (.skip)))))
 (.reg [⟨(some 25), none, (.p (.bin 0 .add (.t 13) (.c (.int .i64 1))))⟩, ⟨(some 13), none, (.p (.mov (.t 25)))⟩])))))))
 (.seq (.reg [⟨(some 4), none, (.p (.mov (.c (.bool true))))⟩])
 (.ret))))
theorem m_eqc_ok : compF Try.prog 50 = some (26, m_eqc, [.mov (.t 4)]) := by kernel_rfl
def m_eqfc : MC := .seq (.reg [⟨(some 6), none, (.p (.mov (.c (.bool false))))⟩])
 (.seq (.seq (.reg [⟨(some 10), none, (.p (.mov (.t 0)))⟩, ⟨(some 11), none, (.p (.len (.t 10)))⟩, ⟨(some 12), none, (.p (.mov (.t 1)))⟩, ⟨(some 13), none, (.p (.len (.t 12)))⟩, ⟨(some 14), none, (.p (.bin 0 .neq (.t 11) (.t 13)))⟩])
 (.cond (.t 14) (.seq (.reg [⟨(some 6), none, (.p (.mov (.c (.bool false))))⟩])
 (.ret)) (.skip)))
 (.seq (.seq (.reg [⟨(some 15), none, (.p (.mov (.t 0)))⟩, ⟨(some 16), none, (.p (.len (.t 15)))⟩, ⟨(some 17), none, (.p (.mov (.c (.int .i64 0))))⟩])
 (.block 0 (.loop (.seq (.reg [⟨(some 18), none, (.p (.bin 0 .lss (.t 17) (.t 16)))⟩])
 (.seq (.cond (.t 18) (.skip) (.exit 0))
 (.seq (.block 1 (.seq (.reg [⟨(some 19), none, (.p (.mov (.t 17)))⟩, ⟨(some 20), none, (.p (.idxA 1 (.t 15) (.t 17)))⟩, ⟨(some 21), none, (.p (.load false 1 (.t 20)))⟩, ⟨(some 7), none, (.p (.mov (.t 19)))⟩, ⟨(some 8), none, (.p (.mov (.t 21)))⟩])
 (.seq (.reg [⟨(some 22), none, (.p (.mov (.t 1)))⟩, ⟨(some 23), none, (.p (.mov (.t 7)))⟩, ⟨(some 24), none, (.p (.idxA 1 (.t 22) (.t 23)))⟩, ⟨(some 25), none, (.p (.load false 1 (.t 24)))⟩, ⟨(some 9), none, (.p (.mov (.t 25)))⟩])
 (.seq (.reg [⟨(some 26), none, (.p (.mov (.t 2)))⟩, ⟨(some 27), none, (.p (.mov (.t 8)))⟩, ⟨(some 28), none, (.p (.mov (.t 9)))⟩, ⟨(some 29), none, (.callv (.t 26) [(.t 27), (.t 28)])⟩, ⟨(some 30), none, (.p (.un .not (.t 29)))⟩])
 (.cond (.t 30) (.seq (.reg [⟨(some 6), none, (.p (.mov (.c (.bool false))))⟩])
 (.ret)) (.skip))))))
 (.reg [⟨(some 31), none, (.p (.bin 0 .add (.t 17) (.c (.int .i64 1))))⟩, ⟨(some 17), none, (.p (.mov (.t 31)))⟩])))))))
 (.seq (.reg [⟨(some 6), none, (.p (.mov (.c (.bool true))))⟩])
 (.ret))))
theorem m_eqfc_ok : compF Try.prog 49 = some (32, m_eqfc, [.mov (.t 6)]) := by kernel_rfl
def m_wsamf : MC := .seq (.reg [⟨(some 2), none, (.m (.box 26 (.t 0)))⟩, ⟨(some 3), none, (.m (.box 26 (.t 1)))⟩, ⟨(some 4), none, (.p (.mov (.c (.bool false))))⟩])
 (.seq (.reg [⟨(some 5), none, (.p (.fieldA 1 1 (.t 2)))⟩, ⟨(some 6), none, (.p (.load false 1 (.t 5)))⟩, ⟨(some 7), none, (.p (.fieldA 1 1 (.t 3)))⟩, ⟨(some 8), none, (.p (.load false 1 (.t 7)))⟩, ⟨(some 9), none, (.call 48 [(.t 6), (.t 8)])⟩, ⟨(some 10), none, (.p (.mov (.t 9)))⟩, ⟨(some 11), (some (10, true)), (.p (.fieldA 0 0 (.t 2)))⟩, ⟨(some 12), (some (10, true)), (.p (.load false 1 (.t 11)))⟩, ⟨(some 13), (some (10, true)), (.p (.fieldA 0 0 (.t 3)))⟩, ⟨(some 14), (some (10, true)), (.p (.load false 1 (.t 13)))⟩, ⟨(some 15), (some (10, true)), (.call 49 [(.t 12), (.t 14), (.c (.fn 50))])⟩, ⟨(some 16), none, (.p (.pick (.t 10) (.t 15) (.c (.bool false))))⟩, ⟨(some 4), none, (.p (.mov (.t 16)))⟩])
 (.ret))
theorem m_wsamf_ok : compF Try.prog 24 = some (17, m_wsamf, [.mov (.t 4)]) := by kernel_rfl
set_option maxHeartbeats 4000000 in
theorem eqc_fn (a b : List Canon) : Fnc Try.prog 50 [.sl false 4 (a.map canonV), .sl false 4 (b.map canonV)] (fun x obs => x = .bool (decide (a = b)) ∧ obs = []) := by
  refine Fnc.wf fun hw => ?_
  simp only [V.wfs, V.wf, wfs_map, List.length_map] at hw
  have hm := hw.1.2
  have hm' := hw.2.1.2
  by_cases hl : a.length = b.length
  · skip
    refine Fnc.intro m_eqc_ok (by simp) fun W S => ?_
    unfold m_eqc
    simp only [ents, Nat.zero_add, Nat.reduceAdd]
    refine zst ?_
    refine ev_loopK [0, 1, 12] (fun p : {p : Nat // p ≤ a.length ∧ a.take p = b.take p} => [(13, .int .i64 p.1)]) (fun _ => []) (fun p => a.length - p.1) (⟨0, by simp⟩) 0 (by simp only [go_sem]; rfl) ?_ (by first | rfl | (simp only [go_sem]; done)) (by simp) (by first | rfl | (simp only [go_sem]; done)) (by first | rfl | (simp only [go_sem]; done)) (by first | rfl | (simp only [go_sem]; done)) ?_
    · (simp only [go_sem]; (try simp []); done)
    intro J hJ
    rintro ⟨k, hk0, hk1⟩
    by_cases hlt : k < a.length
    · by_cases e : a[k]! = b[k]!
      · skip
        refine zst ?_
        refine ev_next 0 (hJ _ (⟨k + 1, hlt, by rw [take_snoc hlt, take_snoc (by omega), hk1, e]⟩) (by first | omega | (dsimp only; omega) | (simp; omega))) rfl (by simp) ?_ (by first | rfl | (simp only [go_sem]; done)) (by first | rfl | (simp only [go_sem]; done) | (simp only [hlt]; (try simp only [go_sem]); first | done | rfl)) ?_
        · (first | rfl | (simp only [go_sem]; done) | (simp only [go_sem]; simp only [hlt]; done) | (simp only [hlt]; done) | (simp only [go_sem]; simp [hlt]; done) | (simp [hlt]; done))
        · (simp only [go_sem]; (repeat' (refine And.intro ?_ ?_)) <;> first | exact trivial | with_reducible rfl | (simp only [hlt]; done) | (simp only [hlt]; with_reducible rfl) | (simp [hlt]; done) | (simp [hlt]; omega) | (simp only [hlt]; rfl) | skip)
      · have hne : a ≠ b := fun h => e (at_of_eq h k)
        refine zst ?_
        refine ret m_eqc_ok [] ?_; (first | (simp only [go_sem]; done) | (simp only [go_sem]; exact ⟨rfl, rfl⟩))
    · have hab := eq_of_take (by omega) (by omega) hk1
      refine zst ?_
      refine ret m_eqc_ok [] ?_; (first | (simp only [go_sem]; done) | (simp only [go_sem]; exact ⟨rfl, rfl⟩))
  · have hne : a ≠ b := fun h => hl (by rw [h])
    refine Fnc.intro m_eqc_ok (by simp) fun W S => ?_
    unfold m_eqc
    simp only [ents, Nat.zero_add, Nat.reduceAdd]
    refine zst ?_
    refine ret m_eqc_ok [] ?_; (first | (simp only [go_sem]; done) | (simp only [go_sem]; exact ⟨rfl, rfl⟩))
set_option maxHeartbeats 8000000 in
theorem eqo_fn (a b : List Opn) : Fnc Try.prog 48 [.sl false 3 (a.map opnV), .sl false 3 (b.map opnV)] (fun x obs => x = .bool (decide (a = b)) ∧ obs = []) := by
  refine Fnc.wf fun hw => ?_
  simp only [V.wfs, V.wf, List.length_map] at hw
  have hm := hw.1.2
  have hm' := hw.2.1.2
  clear hw
  by_cases hl : a.length = b.length
  · skip
    refine Fnc.intro m_eqo_ok (by simp) fun W S => ?_
    unfold m_eqo
    simp only [ents, Nat.zero_add, Nat.reduceAdd]
    refine zst ?_
    refine ev_loopK [0, 1, 12] (fun p : {p : Nat // p ≤ a.length ∧ a.take p = b.take p} => [(13, .int .i64 p.1)]) (fun _ => []) (fun p => a.length - p.1) (⟨0, by simp⟩) 0 (by simp only [go_sem]; rfl) ?_ (by first | rfl | (simp only [go_sem]; done)) (by simp) (by first | rfl | (simp only [go_sem]; done)) (by first | rfl | (simp only [go_sem]; done)) (by first | rfl | (simp only [go_sem]; done)) ?_
    · (simp only [go_sem]; (try simp []); done)
    intro J hJ
    rintro ⟨k, hk0, hk1⟩
    by_cases hlt : k < a.length
    · by_cases e : a[k]! = b[k]!
      · have hd : decide (a[k]! = b[k]!) = true := decT e
        repeat (first | (simp only [opn_eqs, hd]; try simp only [go_sem]) | refine And.intro (by omega) ?_ | refine And.intro rfl ?_ | refine ev_ctl rfl rfl ?_ | refine evr_nil ?_ | refine evw_nil (by kernel_rfl) ?_ | (simp (disch := omega) only [takeAll, Nat.min_eq_left, Nat.min_eq_right, if_pos, if_neg, getD_map, wrapI64, modIn, fdivE, tmodE, tdivE, decT, decF, beqT, beqF, bneT, bneF, Int.toNat_natCast]; try simp only [go_sem]) | (refine ev_condTb rfl ?_ ?_; · (simp <;> omega)) | (refine ev_condFb rfl ?_ ?_; · (simp <;> omega)) | ((first | refine ev_region ?_ | refine evr_go rfl ?_ | refine evw_go rfl ?_ | refine ev_dr0 mixed rfl (by kernel_rfl) ?_ | refine ev_dr1 mixed rfl (by kernel_rfl) ?_ | refine ev_dr2 mixed rfl (by kernel_rfl) ?_); simp only [go_sem]))
        refine ev_next 0 (hJ _ (⟨k + 1, hlt, by rw [take_snoc hlt, take_snoc (by omega), hk1, e]⟩) (by first | omega | (dsimp only; omega) | (simp; omega))) rfl (by simp) ?_ (by first | rfl | (simp only [go_sem]; done)) (by first | rfl | (simp only [go_sem]; done) | (simp only [hlt]; (try simp only [go_sem]); first | done | rfl)) ?_
        · (first | rfl | (simp only [go_sem]; done) | (simp only [go_sem]; simp only [hlt]; done) | (simp only [hlt]; done) | (simp only [go_sem]; simp [hlt]; done) | (simp [hlt]; done))
        · (simp only [go_sem]; (repeat' (refine And.intro ?_ ?_)) <;> first | exact trivial | with_reducible rfl | (simp only [hlt]; done) | (simp only [hlt]; with_reducible rfl) | (simp [hlt]; done) | (simp [hlt]; omega) | (simp only [hlt]; rfl) | skip)
      · have hd : decide (a[k]! = b[k]!) = false := decF e
        have hr : decide (a = b) = false := decF fun h => e (by rw [h])
        repeat (first | (simp only [opn_eqs, hd]; try simp only [go_sem]) | refine And.intro (by omega) ?_ | refine And.intro rfl ?_ | refine ev_ctl rfl rfl ?_ | refine evr_nil ?_ | refine evw_nil (by kernel_rfl) ?_ | (simp (disch := omega) only [takeAll, Nat.min_eq_left, Nat.min_eq_right, if_pos, if_neg, getD_map, wrapI64, modIn, fdivE, tmodE, tdivE, decT, decF, beqT, beqF, bneT, bneF, Int.toNat_natCast]; try simp only [go_sem]) | (refine ev_condTb rfl ?_ ?_; · (simp <;> omega)) | (refine ev_condFb rfl ?_ ?_; · (simp <;> omega)) | ((first | refine ev_region ?_ | refine evr_go rfl ?_ | refine evw_go rfl ?_ | refine ev_dr0 mixed rfl (by kernel_rfl) ?_ | refine ev_dr1 mixed rfl (by kernel_rfl) ?_ | refine ev_dr2 mixed rfl (by kernel_rfl) ?_); simp only [go_sem]))
        refine ret m_eqo_ok [] ?_; (first | (simp only [go_sem]; done) | (simp only [go_sem]; ((try dsimp only); (repeat' (refine And.intro ?_ ?_)) <;> first | with_reducible rfl | (simp only [go_sem]; done) | (simp only [go_sem]; rfl) | (simp only [go_sem, hr]; done) | (simp only [hr]; (try simp only [go_sem]); first | done | rfl) | (simp only [go_sem]; simp [hr]; done) | (simp [hr]; done) | rfl)))
    · have hab := eq_of_take (by omega) (by omega) hk1
      have hr : decide (a = b) = true := decT hab
      refine zst ?_
      refine ret m_eqo_ok [] ?_; (first | (simp only [go_sem]; done) | (simp only [go_sem]; ((try dsimp only); (repeat' (refine And.intro ?_ ?_)) <;> first | with_reducible rfl | (simp only [go_sem]; done) | (simp only [go_sem]; rfl) | (simp only [go_sem, hr]; done) | (simp only [hr]; (try simp only [go_sem]); first | done | rfl) | (simp only [go_sem]; simp [hr]; done) | (simp [hr]; done) | rfl)))
  · have hr : decide (a = b) = false := decF fun h => hl (by rw [h])
    refine Fnc.intro m_eqo_ok (by simp) fun W S => ?_
    unfold m_eqo
    simp only [ents, Nat.zero_add, Nat.reduceAdd]
    refine zst ?_
    refine ret m_eqo_ok [] ?_; (first | (simp only [go_sem]; done) | (simp only [go_sem]; ((try dsimp only); (repeat' (refine And.intro ?_ ?_)) <;> first | with_reducible rfl | (simp only [go_sem]; done) | (simp only [go_sem]; rfl) | (simp only [go_sem, hr]; done) | (simp only [hr]; (try simp only [go_sem]); first | done | rfl) | (simp only [go_sem]; simp [hr]; done) | (simp [hr]; done) | rfl)))
set_option maxHeartbeats 8000000 in
theorem eqfc_fn (a b : List (List Canon)) : Fnc Try.prog 49 [.sl false 1 (a.map (slV' false 4 canonV)), .sl false 1 (b.map (slV' false 4 canonV)), .fn 50] (fun x obs => x = .bool (decide (a = b)) ∧ obs = []) := by
  refine Fnc.wf fun hw => ?_
  simp only [V.wfs, V.wf, List.length_map] at hw
  have hm := hw.1.2
  have hm' := hw.2.1.2
  clear hw
  by_cases hl : a.length = b.length
  · skip
    refine Fnc.intro m_eqfc_ok (by simp) fun W S => ?_
    unfold m_eqfc
    simp only [ents, Nat.zero_add, Nat.reduceAdd]
    refine zst ?_
    refine ev_loopK [1, 2, 15, 16] (fun p : {p : Nat // p ≤ a.length ∧ a.take p = b.take p} => [(17, .int .i64 p.1)]) (fun _ => []) (fun p => a.length - p.1) (⟨0, by simp⟩) 0 (by simp only [go_sem]; rfl) ?_ (by first | rfl | (simp only [go_sem]; done)) (by simp) (by first | rfl | (simp only [go_sem]; done)) (by first | rfl | (simp only [go_sem]; done)) (by first | rfl | (simp only [go_sem]; done)) ?_
    · (simp only [go_sem]; (try simp []); done)
    intro J hJ
    rintro ⟨k, hk0, hk1⟩
    by_cases hlt : k < a.length
    · by_cases e : a[k]! = b[k]!
      · have hd : decide (a[k]! = b[k]!) = true := decT e
        refine zst ?_
        refine callDv (eqc_fn a[k]! b[k]!) (by kernel_rfl) rfl ?_; simp only [go_sem, hd]
        refine zst ?_
        refine ev_next 0 (hJ _ (⟨k + 1, hlt, by rw [take_snoc hlt, take_snoc (by omega), hk1, e]⟩) (by first | omega | (dsimp only; omega) | (simp; omega))) rfl (by simp) ?_ (by first | rfl | (simp only [go_sem]; done)) (by first | rfl | (simp only [go_sem]; done) | (simp only [hlt]; (try simp only [go_sem]); first | done | rfl)) ?_
        · (first | rfl | (simp only [go_sem]; done) | (simp only [go_sem]; simp only [hlt]; done) | (simp only [hlt]; done) | (simp only [go_sem]; simp [hlt]; done) | (simp [hlt]; done))
        · (simp only [go_sem]; (repeat' (refine And.intro ?_ ?_)) <;> first | exact trivial | with_reducible rfl | (simp only [hlt]; done) | (simp only [hlt]; with_reducible rfl) | (simp [hlt]; done) | (simp [hlt]; omega) | (simp only [hlt]; rfl) | skip)
      · have hd : decide (a[k]! = b[k]!) = false := decF e
        have hr : decide (a = b) = false := decF fun h => e (by rw [h])
        refine zst ?_
        refine callDv (eqc_fn a[k]! b[k]!) (by kernel_rfl) rfl ?_; simp only [go_sem, hd]
        refine zst ?_
        refine ret m_eqfc_ok [] ?_; (first | (simp only [go_sem]; done) | (simp only [go_sem]; ((try dsimp only); (repeat' (refine And.intro ?_ ?_)) <;> first | with_reducible rfl | (simp only [go_sem]; done) | (simp only [go_sem]; rfl) | (simp only [go_sem, hr]; done) | (simp only [hr]; (try simp only [go_sem]); first | done | rfl) | (simp only [go_sem]; simp [hr]; done) | (simp [hr]; done) | rfl)))
    · have hab := eq_of_take (by omega) (by omega) hk1
      have hr : decide (a = b) = true := decT hab
      refine zst ?_
      refine ret m_eqfc_ok [] ?_; (first | (simp only [go_sem]; done) | (simp only [go_sem]; ((try dsimp only); (repeat' (refine And.intro ?_ ?_)) <;> first | with_reducible rfl | (simp only [go_sem]; done) | (simp only [go_sem]; rfl) | (simp only [go_sem, hr]; done) | (simp only [hr]; (try simp only [go_sem]); first | done | rfl) | (simp only [go_sem]; simp [hr]; done) | (simp [hr]; done) | rfl)))
  · have hr : decide (a = b) = false := decF fun h => hl (by rw [h])
    refine Fnc.intro m_eqfc_ok (by simp) fun W S => ?_
    unfold m_eqfc
    simp only [ents, Nat.zero_add, Nat.reduceAdd]
    refine zst ?_
    refine ret m_eqfc_ok [] ?_; (first | (simp only [go_sem]; done) | (simp only [go_sem]; ((try dsimp only); (repeat' (refine And.intro ?_ ?_)) <;> first | with_reducible rfl | (simp only [go_sem]; done) | (simp only [go_sem]; rfl) | (simp only [go_sem, hr]; done) | (simp only [hr]; (try simp only [go_sem]); first | done | rfl) | (simp only [go_sem]; simp [hr]; done) | (simp [hr]; done) | rfl)))
set_option maxHeartbeats 8000000 in
theorem wsamf_fn (a b : Files) : Fnc Try.prog 24 [filV a, filV b] (fun x obs => x = .bool (decide (a = b)) ∧ obs = []) := by
  have f1 := eqo_fn a.opens b.opens
  have f2 := eqfc_fn a.data b.data
  by_cases h1 : a.opens = b.opens
  · rw [decT h1] at f1
    have hr : decide (a.data = b.data) = decide (a = b) := by
      by_cases h2 : a.data = b.data
      · rw [decT h2, decT (files_ext h2 h1)]
      · rw [decF h2, decF fun h => h2 (by rw [h])]
    rw [hr] at f2
    refine Fnc.intro m_wsamf_ok (by simp) fun W S => ?_
    unfold m_wsamf
    simp only [ents, Nat.zero_add, Nat.reduceAdd]
    refine zst ?_
    (first | refine callD (f1) ?_ | refine callDw (f1) ?_); simp only [go_sem]
    refine zst ?_
    (first | refine callD (f2) ?_ | refine callDw (f2) ?_); simp only [go_sem]
    refine zst ?_
    refine ret m_wsamf_ok [] ?_; (first | (simp only [go_sem]; done) | (simp only [go_sem]; ((try dsimp only); (repeat' (refine And.intro ?_ ?_)) <;> first | with_reducible rfl | (simp only [go_sem]; done) | (simp only [go_sem]; rfl) | (simp only []; (try simp only [go_sem]); first | done | rfl) | (simp only [go_sem]; simp []; done) | (simp []; done) | rfl)))
  · rw [decF h1] at f1
    have hr : decide (a = b) = false := decF fun h => h1 (by rw [h])
    refine Fnc.intro m_wsamf_ok (by simp) fun W S => ?_
    unfold m_wsamf
    simp only [ents, Nat.zero_add, Nat.reduceAdd]
    refine zst ?_
    (first | refine callD (f1) ?_ | refine callDw (f1) ?_); simp only [go_sem]
    refine zst ?_
    refine ret m_wsamf_ok [] ?_; (first | (simp only [go_sem]; done) | (simp only [go_sem]; ((try dsimp only); (repeat' (refine And.intro ?_ ?_)) <;> first | with_reducible rfl | (simp only [go_sem]; done) | (simp only [go_sem]; rfl) | (simp only [go_sem, hr]; done) | (simp only [hr]; (try simp only [go_sem]); first | done | rfl) | (simp only [go_sem]; simp [hr]; done) | (simp [hr]; done) | rfl)))
def slightB (f : Files) : Bool := f.data.all (fun d => decide (d.length ≤ 100)) && (decide (f.data.length ≤ 20) && decide (f.opens.length ≤ 40))
theorem slight_no {f : Files} {k : Nat} (hk : k < f.data.length) (h : ¬ f.data[k]!.length ≤ 100) : slightB f = false := by
  have : f.data.all (fun d => decide (d.length ≤ 100)) = false := by
    rw [List.all_eq_false]
    exact ⟨_, mem_at hk, by simpa using h⟩
  unfold slightB
  rw [this, Bool.false_and]
theorem slight_yes {f : Files} (h : ∀ j, j < f.data.length → f.data[j]!.length ≤ 100) : slightB f = (decide (f.data.length ≤ 20) && decide (f.opens.length ≤ 40)) := by
  have : f.data.all (fun d => decide (d.length ≤ 100)) = true := by
    rw [List.all_eq_true]
    intro x hx
    obtain ⟨j, hj, rfl⟩ := at_mem hx
    exact decT (h j hj)
  unfold slightB
  rw [this, Bool.true_and]
theorem slight_to {f : Files} (h : slightB f = true) : f.data.length ≤ 20 ∧ f.opens.length ≤ 40 ∧ ∀ x ∈ f.data, x.length ≤ 100 := by
  unfold slightB at h
  simp only [Bool.and_eq_true, decide_eq_true_eq, List.all_eq_true] at h
  exact ⟨h.2.1, h.2.2, h.1⟩
set_option maxHeartbeats 8000000 in
theorem slight_fn (f : Files) : Fnc Try.prog 21 [filV f] (fun x obs => x = .bool (slightB f) ∧ obs = []) := by
  refine Fnc.wf fun hw => ?_
  have hm : ∀ k, k < f.data.length → f.data[k]!.length ≤ 140737488355328 := fun k hk => by
    have := hw.1
    simp only [V.wf, V.wfs, wfs_map] at this
    have := this.1.1 _ (mem_at hk)
    simp only [slV', V.wf, List.length_map] at this
    exact this.2
  simp only [V.wfs, V.wf, List.length_map] at hw
  have m1 := hw.1.1.2
  have m2 := hw.1.2.1.2
  clear hw
  refine Fnc.intro m_slight_ok (by simp) fun W S => ?_
  unfold m_slight
  simp only [ents, Nat.zero_add, Nat.reduceAdd]
  refine zst ?_
  refine ev_loopK [1, 6, 7] (fun p : {p : Nat // p ≤ f.data.length ∧ ∀ j, j < p → f.data[j]!.length ≤ 100} => [(8, .int .i64 p.1)]) (fun _ => [⟨.box false 26, true, 0, filV f⟩]) (fun p => f.data.length - p.1) (⟨0, by simp⟩) 1 (by simp only [go_sem]; rfl) ?_ (by first | rfl | (simp only [go_sem]; done)) (by simp) (by first | rfl | (simp only [go_sem]; done)) (by first | rfl | (simp only [go_sem]; done)) (by first | rfl | (simp only [go_sem]; done)) ?_
  · (simp only [go_sem]; (try simp []); done)
  intro J hJ
  rintro ⟨k, hk0, hk1⟩
  by_cases hlt : k < f.data.length
  · have h3 := hm k hlt
    by_cases c : f.data[k]!.length ≤ 100
    · have hS : ∀ j, j < k + 1 → f.data[j]!.length ≤ 100 := fun j hj => by
        by_cases e : j = k
        · subst e; exact c
        · exact hk1 j (by omega)
      refine zst ?_
      refine ev_next 1 (hJ _ (⟨k + 1, hlt, hS⟩) (by first | omega | (dsimp only; omega) | (simp; omega))) rfl (by simp) ?_ (by first | rfl | (simp only [go_sem]; done)) (by first | rfl | (simp only [go_sem]; done) | (simp only [hlt]; (try simp only [go_sem]); first | done | rfl)) ?_
      · (first | rfl | (simp only [go_sem]; done) | (simp only [go_sem]; simp only [hlt]; done) | (simp only [hlt]; done) | (simp only [go_sem]; simp [hlt]; done) | (simp [hlt]; done))
      · (simp only [go_sem]; (repeat' (refine And.intro ?_ ?_)) <;> first | exact trivial | with_reducible rfl | (simp only [hlt]; done) | (simp only [hlt]; with_reducible rfl) | (simp [hlt]; done) | (simp [hlt]; omega) | (simp only [hlt]; rfl) | skip)
    · rw [slight_no hlt c]
      refine zst ?_
      refine ret m_slight_ok [] ?_; (first | (simp only [go_sem]; done) | (simp only [go_sem]; ((try dsimp only); (repeat' (refine And.intro ?_ ?_)) <;> first | with_reducible rfl | (simp only [go_sem]; done) | (simp only [go_sem]; rfl) | (simp only []; (try simp only [go_sem]); first | done | rfl) | (simp only [go_sem]; simp []; done) | (simp []; done) | rfl)))
  · obtain rfl : k = f.data.length := by omega
    rw [slight_yes hk1]
    by_cases c1 : f.data.length ≤ 20
    · rw [decT c1, Bool.true_and]
      by_cases c2 : f.opens.length ≤ 40
      · rw [decT c2]
        refine zst ?_
        refine ret m_slight_ok [] ?_; (first | (simp only [go_sem]; done) | (simp only [go_sem]; ((try dsimp only); (repeat' (refine And.intro ?_ ?_)) <;> first | with_reducible rfl | (simp only [go_sem]; done) | (simp only [go_sem]; rfl) | (simp only []; (try simp only [go_sem]); first | done | rfl) | (simp only [go_sem]; simp []; done) | (simp []; done) | rfl)))
      · rw [decF c2]
        refine zst ?_
        refine ret m_slight_ok [] ?_; (first | (simp only [go_sem]; done) | (simp only [go_sem]; ((try dsimp only); (repeat' (refine And.intro ?_ ?_)) <;> first | with_reducible rfl | (simp only [go_sem]; done) | (simp only [go_sem]; rfl) | (simp only []; (try simp only [go_sem]); first | done | rfl) | (simp only [go_sem]; simp []; done) | (simp []; done) | rfl)))
    · rw [decF c1, Bool.false_and]
      refine zst ?_
      refine ret m_slight_ok [] ?_; (first | (simp only [go_sem]; done) | (simp only [go_sem]; ((try dsimp only); (repeat' (refine And.intro ?_ ?_)) <;> first | with_reducible rfl | (simp only [go_sem]; done) | (simp only [go_sem]; rfl) | (simp only []; (try simp only [go_sem]); first | done | rfl) | (simp only [go_sem]; simp []; done) | (simp []; done) | rfl)))
end Go.Proofs.Ytanmcjkpdkmhfaa
/- Files: New by the reference, of any words. -/
namespace Go.Proofs.Ytanmcjkpdkmhfaa
open Go Go.RowKit Rdn Rdn.Dp
set_option linter.unusedVariables false
set_option linter.unusedSimpArgs false
def m_rnew : MC := .seq (.reg [⟨(some 2), none, (.m (.alloc 26 (.agg [.nilS, .nilS])))⟩, ⟨(some 3), none, (.p (.mov (.c (.int .i64 0))))⟩])
 (.seq (.reg [⟨(some 11), none, (.m (.mkS 36 3 24 (.agg [.int .i64 0, .int .i64 0, .bool false]) (.c (.int .i64 8)) (.c (.int .i64 8))))⟩, ⟨(some 12), none, (.m (.build none [.nilS, .nilS] [(1, (.t 11))]))⟩, ⟨(some 4), none, (.m (.alloc 26 (.agg [.nilS, .nilS])))⟩, ⟨none, none, (.m (.store 2 (.t 4) (.t 12)))⟩])
 (.seq (.seq (.reg [⟨(some 13), none, (.p (.fieldA 1 1 (.t 4)))⟩, ⟨(some 14), none, (.p (.load false 1 (.t 13)))⟩, ⟨(some 15), none, (.p (.len (.t 14)))⟩, ⟨(some 16), none, (.p (.mov (.c (.int .i64 0))))⟩])
 (.block 0 (.loop (.seq (.reg [⟨(some 17), none, (.p (.bin 0 .lss (.t 16) (.t 15)))⟩])
 (.seq (.cond (.t 17) (.skip) (.exit 0))
 (.seq (.block 1 (.seq (.reg [⟨(some 18), none, (.p (.mov (.t 16)))⟩, ⟨(some 5), none, (.p (.mov (.t 18)))⟩])
 (.reg [⟨(some 19), none, (.p (.fieldA 1 1 (.t 4)))⟩, ⟨(some 20), none, (.p (.load false 1 (.t 19)))⟩, ⟨(some 21), none, (.p (.mov (.t 5)))⟩, ⟨(some 22), none, (.p (.idxA 3 (.t 20) (.t 21)))⟩, ⟨(some 23), none, (.p (.fieldA 0 0 (.t 22)))⟩, ⟨none, none, (.m (.store 1 (.t 23) (.c (.int .i64 (-1)))))⟩])))
 (.reg [⟨(some 24), none, (.p (.bin 0 .add (.t 16) (.c (.int .i64 1))))⟩, ⟨(some 16), none, (.p (.mov (.t 24)))⟩])))))))
 (.seq (.seq (.reg [⟨(some 25), none, (.p (.mov (.t 0)))⟩, ⟨(some 26), none, (.p (.len (.t 25)))⟩, ⟨(some 27), none, (.p (.mov (.c (.int .i64 0))))⟩])
 (.block 2 (.loop (.seq (.reg [⟨(some 28), none, (.p (.bin 0 .lss (.t 27) (.t 26)))⟩])
 (.seq (.cond (.t 28) (.skip) (.exit 2))
 (.seq (.block 3 (.seq (.reg [⟨(some 29), none, (.p (.idxA 1 (.t 25) (.t 27)))⟩, ⟨(some 30), none, (.p (.load false 1 (.t 29)))⟩, ⟨(some 7), none, (.p (.mov (.t 30)))⟩])
 (.seq (.reg [⟨(some 8), none, (.p (.mov (.c (.nilS))))⟩])
 (.seq (.seq (.reg [⟨(some 31), none, (.p (.mov (.t 7)))⟩, ⟨(some 32), none, (.p (.len (.t 31)))⟩, ⟨(some 33), none, (.p (.mov (.c (.int .i64 0))))⟩])
 (.block 4 (.loop (.seq (.reg [⟨(some 34), none, (.p (.bin 0 .lss (.t 33) (.t 32)))⟩])
 (.seq (.cond (.t 34) (.skip) (.exit 4))
 (.seq (.block 5 (.seq (.reg [⟨(some 35), none, (.p (.idxA 1 (.t 31) (.t 33)))⟩, ⟨(some 36), none, (.p (.load false 1 (.t 35)))⟩, ⟨(some 10), none, (.p (.mov (.t 36)))⟩])
 (.reg [⟨(some 37), none, (.p (.mov (.t 8)))⟩, ⟨(some 38), none, (.p (.mov (.t 10)))⟩, ⟨(some 39), none, (.m (.build none [.int .u8 0, .int .u16 0, .int .i64 0, .int .i64 0] [(1, (.t 38))]))⟩, ⟨(some 40), none, (.m (.buildS 71 4 (.agg [.int .u8 0, .int .u16 0, .int .i64 0, .int .i64 0]) 1 [(0, (.t 39))]))⟩, ⟨(some 41), none, (.m (.app 71 4 24 (.t 37) (.t 40)))⟩, ⟨(some 8), none, (.p (.mov (.t 41)))⟩])))
 (.reg [⟨(some 42), none, (.p (.bin 0 .add (.t 33) (.c (.int .i64 1))))⟩, ⟨(some 33), none, (.p (.mov (.t 42)))⟩])))))))
 (.reg [⟨(some 43), none, (.p (.fieldA 0 0 (.t 4)))⟩, ⟨(some 44), none, (.p (.load false 1 (.t 43)))⟩, ⟨(some 45), none, (.p (.mov (.t 8)))⟩, ⟨(some 46), none, (.m (.buildS 33 1 (.nilS) 1 [(0, (.t 45))]))⟩, ⟨(some 47), none, (.m (.app 33 1 24 (.t 44) (.t 46)))⟩, ⟨(some 48), none, (.p (.fieldA 0 0 (.t 4)))⟩, ⟨none, none, (.m (.store 1 (.t 48) (.t 47)))⟩])))))
 (.reg [⟨(some 49), none, (.p (.bin 0 .add (.t 27) (.c (.int .i64 1))))⟩, ⟨(some 27), none, (.p (.mov (.t 49)))⟩])))))))
 (.seq (.seq (.reg [⟨(some 50), none, (.p (.load true 2 (.t 4)))⟩, ⟨(some 51), none, (.call 16 [(.t 50)])⟩, ⟨(some 52), none, (.p (.un .not (.t 51)))⟩])
 (.cond (.t 52) (.seq (.reg [⟨(some 53), none, (.m (.build none [.nilS, .nilS] []))⟩, ⟨none, none, (.m (.store 2 (.t 2) (.t 53)))⟩, ⟨(some 3), none, (.p (.mov (.c (.int .i64 3))))⟩])
 (.ret)) (.skip)))
 (.seq (.reg [⟨(some 54), none, (.p (.load true 2 (.t 4)))⟩, ⟨none, none, (.m (.store 2 (.t 2) (.t 54)))⟩, ⟨(some 3), none, (.p (.mov (.c (.int .i64 0))))⟩])
 (.ret))))))
theorem m_rnew_ok : compF Try.prog 26 = some (55, m_rnew, [.load true 2 (.t 2), .mov (.t 3)]) := by kernel_rfl
theorem new_fit {data : List (List Int)} (h : okNew data) : FitF ⟨data.map numC, eight⟩ := by
  have h' : data.length ≤ 4 ∧ ∀ x ∈ data, x.length ≤ 64 := by
    rcases h with rfl | h
    · exact ⟨by simp, by simp⟩
    · exact h
  refine ⟨by simpa using h'.1, rfl, fun x hx => ?_, fun x hx => ?_, fun o ho => ?_⟩
  · obtain ⟨w, hw, rfl⟩ := List.mem_map.1 hx
    rw [numC_len]; exact h'.2 w hw
  · obtain ⟨w, hw, rfl⟩ := List.mem_map.1 hx
    exact numC_cell w
  · simp [eight] at ho; subst ho; exact .inl ⟨rfl, rfl, rfl⟩
theorem new_unfit {data : List (List Int)} (h : ¬ okNew data) : ¬ FitF ⟨data.map numC, eight⟩ := fun F => h (.inr ⟨by simpa using F.d, fun x hx => by have := F.len (numC x) (List.mem_map.2 ⟨x, hx, rfl⟩); rwa [numC_len] at this⟩)
attribute [local irreducible] eight numC sNew
set_option maxHeartbeats 16000000 in
theorem rnew_fn (data : List (List Int)) (hd : data.length ≤ 1000) (hx : ∀ x ∈ data, x.length ≤ 1000000) : Fnc Try.prog 26 [.sl false 1 (data.map (slV' false 1 (V.int .u16)))] (fun x obs => x = .tup [filV (sNew data).1, .int .i64 (sNew data).2] ∧ obs = []) := by
  refine Fnc.low ?_
  have h8 := eight_V
  have fv := rvalf_fn ⟨data.map numC, eight⟩
  refine Fnc.intro m_rnew_ok (by simp) fun W S => ?_
  unfold m_rnew
  simp only [ents, Nat.zero_add, Nat.reduceAdd]
  refine zst ?_
  refine ev_unroll 9 ?_
  refine zst ?_
  refine ev_adoptB 2 0 33 1 rfl rfl (by decide) rfl ?_
  refine ev_loopK [2, 4, 25, 26] (fun p : {p : Nat // p ≤ data.length} => [(27, .int .i64 p.1)]) (fun p => [⟨.box false 26, true, 0, .agg [.nilS, .nilS]⟩, ⟨.row 36, true, 0, .arr 3 (eight.map opnV)⟩, ⟨.box false 26, true, 0, .agg [.own 3 p.1, .own 1 0]⟩, ⟨.row 33, true, p.1, .arr 1 (((data.take p.1).map numC).map (slV' true 4 canonV))⟩]) (fun p => data.length - p.1) (⟨0, by simp⟩) 4 (by simp only [go_sem]; rfl) ?_ (by first | rfl | (simp only [go_sem]; done) | (simp only [go_sem]; simp [h8]; done)) (by simp) (by first | rfl | (simp only [go_sem]; done)) (by first | rfl | (simp only [go_sem]; done)) (by first | rfl | (simp only [go_sem]; done) | (simp only [h8]; (try simp only [go_sem]); first | done | rfl)) ?_
  · (simp only [go_sem]; (try simp [h8]); done)
  intro J hJ
  rintro ⟨k, hk0⟩
  by_cases hlt : k < data.length
  · have h3 := hx _ (mem_at hlt)
    have h2 : ((data.take k).map numC).length = k := by rw [List.length_map, List.length_take]; omega
    have hs : ((data.take k).map numC) ++ [numC data[k]!] = (data.take (k + 1)).map numC := by rw [take_snoc hlt, List.map_append]; rfl
    refine zst ?_
    have hJ0 := hJ
    refine ev_adopt (i := 8) (e := 71) (s := 4) rfl (by decide) ?_
    refine ev_loopK [2, 4, 25, 26, 27, 31, 32] (fun p : {p : Nat // p ≤ data[k]!.length} => [(8, .own 4 p.1), (33, .int .i64 p.1)]) (fun p => [⟨.box false 26, true, 0, .agg [.nilS, .nilS]⟩, ⟨.row 36, true, 0, .arr 3 (eight.map opnV)⟩, ⟨.box false 26, true, 0, .agg [.own 3 k, .own 1 0]⟩, ⟨.row 33, true, k, .arr 1 (((data.take k).map numC).map (slV' true 4 canonV))⟩, ⟨.row 71, true, p.1, .arr 4 ((numC (data[k]!.take p.1)).map canonV)⟩]) (fun p => data[k]!.length - p.1) (⟨0, by simp⟩) 5 (by simp only [go_sem]; rfl) ?_ (by first | rfl | (simp only [go_sem]; done) | (simp only [go_sem]; simp [numC_zero]; done)) (by simp) (by first | rfl | (simp only [go_sem]; done)) (by first | rfl | (simp only [go_sem]; done)) (by first | rfl | (simp only [go_sem]; done) | (simp only [numC_zero]; (try simp only [go_sem]); first | done | rfl)) ?_
    · (simp only [go_sem]; (try simp [numC_zero]); done)
    intro J hJ
    rintro ⟨i, hi0⟩
    by_cases hl2 : i < data[k]!.length
    · have q1 := numC_len (data[k]!.take i)
      have q2 : (data[k]!.take i).length = i := by rw [List.length_take]; omega
      have q3 := numC_snoc hl2
      refine zst ?_
      refine ev_next 5 (hJ _ (⟨i + 1, hl2⟩) (by first | omega | (dsimp only; omega) | (simp; omega))) rfl (by simp) ?_ (by first | rfl | (simp only [go_sem]; done)) (by first | rfl | (simp only [go_sem]; done) | (simp only [q3]; (try simp only [go_sem]); first | done | rfl)) ?_
      · (first | rfl | (simp only [go_sem]; done) | (simp only [go_sem]; simp only [q3]; done) | (simp only [q3]; done) | (simp only [go_sem]; simp [q3]; done) | (simp [q3]; done))
      · (simp only [go_sem]; (repeat' (refine And.intro ?_ ?_)) <;> first | exact trivial | with_reducible rfl | (simp only [q3]; done) | (simp only [q3]; with_reducible rfl) | (simp [q3]; done) | (simp [q3]; omega) | (simp only [q3]; rfl) | skip)
    · obtain rfl : i = data[k]!.length := by omega
      have hJ := hJ0
      refine ev_freeze 8 rfl rfl ?_
      have hT : data[k]!.take data[k]!.length = data[k]! := List.take_length
      repeat (first | (simp only [hT]; try simp only [go_sem]) | refine And.intro (by omega) ?_ | refine And.intro rfl ?_ | refine ev_ctl rfl rfl ?_ | refine evr_nil ?_ | refine evw_nil (by kernel_rfl) ?_ | (simp (disch := omega) only [takeAll, Nat.min_eq_left, Nat.min_eq_right, if_pos, if_neg, getD_map, wrapI64, modIn, fdivE, tmodE, tdivE, decT, decF, beqT, beqF, bneT, bneF, Int.toNat_natCast]; try simp only [go_sem]) | (refine ev_condTb rfl ?_ ?_; · (simp <;> omega)) | (refine ev_condFb rfl ?_ ?_; · (simp <;> omega)) | ((first | refine ev_region ?_ | refine evr_go rfl ?_ | refine evw_go rfl ?_ | refine ev_dr0 mixed rfl (by kernel_rfl) ?_ | refine ev_dr1 mixed rfl (by kernel_rfl) ?_ | refine ev_dr2 mixed rfl (by kernel_rfl) ?_); simp only [go_sem]))
      refine ev_next 4 (hJ _ (⟨k + 1, hlt⟩) (by first | omega | (dsimp only; omega) | (simp; omega))) rfl (by simp) ?_ (by first | rfl | (simp only [go_sem]; done)) (by first | rfl | (simp only [go_sem]; done) | (simp only [hs]; (try simp only [go_sem]); first | done | rfl)) ?_
      · (first | rfl | (simp only [go_sem]; done) | (simp only [go_sem]; simp only [hs]; done) | (simp only [hs]; done) | (simp only [go_sem]; simp [hs]; done) | (simp [hs]; done))
      · (simp only [go_sem]; (repeat' (refine And.intro ?_ ?_)) <;> first | exact trivial | with_reducible rfl | (simp only [hs]; done) | (simp only [hs]; with_reducible rfl) | (simp [hs]; done) | (simp [hs]; omega) | (simp only [hs]; rfl) | skip)
  · obtain rfl : k = data.length := by omega
    have hT : data.take data.length = data := List.take_length
    by_cases c : okNew data
    · rw [valF_T (new_fit c)] at fv
      rw [sNew_T c]
      repeat (first | (simp only [hT]; try simp only [go_sem]) | refine And.intro (by omega) ?_ | refine And.intro rfl ?_ | refine ev_ctl rfl rfl ?_ | refine evr_nil ?_ | refine evw_nil (by kernel_rfl) ?_ | (simp (disch := omega) only [takeAll, Nat.min_eq_left, Nat.min_eq_right, if_pos, if_neg, getD_map, wrapI64, modIn, fdivE, tmodE, tdivE, decT, decF, beqT, beqF, bneT, bneF, Int.toNat_natCast]; try simp only [go_sem]) | (refine ev_condTb rfl ?_ ?_; · (simp <;> omega)) | (refine ev_condFb rfl ?_ ?_; · (simp <;> omega)) | ((first | refine ev_region ?_ | refine evr_go rfl ?_ | refine evw_go rfl ?_ | refine ev_dr0 mixed rfl (by kernel_rfl) ?_ | refine ev_dr1 mixed rfl (by kernel_rfl) ?_ | refine ev_dr2 mixed rfl (by kernel_rfl) ?_); simp only [go_sem]))
      refine evr_calmA ?_; (refine zev ?_); (first | refine callD (fv) ?_ | refine callDw (fv) ?_); simp only [go_sem]
      refine zst ?_
      refine ret m_rnew_ok [] ?_; (first | (simp only [go_sem]; done) | (simp only [go_sem]; ((try dsimp only); (repeat' (refine And.intro ?_ ?_)) <;> first | with_reducible rfl | (simp only [go_sem]; done) | (simp only [go_sem]; rfl) | (simp only []; (try simp only [go_sem]); first | done | rfl) | (simp only [go_sem]; simp []; done) | (simp []; done) | rfl)))
    · rw [valF_F (new_unfit c)] at fv
      rw [sNew_F c]
      repeat (first | (simp only [hT]; try simp only [go_sem]) | refine And.intro (by omega) ?_ | refine And.intro rfl ?_ | refine ev_ctl rfl rfl ?_ | refine evr_nil ?_ | refine evw_nil (by kernel_rfl) ?_ | (simp (disch := omega) only [takeAll, Nat.min_eq_left, Nat.min_eq_right, if_pos, if_neg, getD_map, wrapI64, modIn, fdivE, tmodE, tdivE, decT, decF, beqT, beqF, bneT, bneF, Int.toNat_natCast]; try simp only [go_sem]) | (refine ev_condTb rfl ?_ ?_; · (simp <;> omega)) | (refine ev_condFb rfl ?_ ?_; · (simp <;> omega)) | ((first | refine ev_region ?_ | refine evr_go rfl ?_ | refine evw_go rfl ?_ | refine ev_dr0 mixed rfl (by kernel_rfl) ?_ | refine ev_dr1 mixed rfl (by kernel_rfl) ?_ | refine ev_dr2 mixed rfl (by kernel_rfl) ?_); simp only [go_sem]))
      refine evr_calmA ?_; (refine zev ?_); (first | refine callD (fv) ?_ | refine callDw (fv) ?_); simp only [go_sem]
      refine zst ?_
      refine ev_obSub 0 (.agg [.sl false 1 [], .sl false 3 []]) rfl (SubV.agg ⟨SubV.nil _ _, SubV.nil _ _, trivial⟩) rfl ?_
      refine ret m_rnew_ok [] ?_; (first | (simp only [go_sem]; done) | (simp only [go_sem]; ((try dsimp only); (repeat' (refine And.intro ?_ ?_)) <;> first | with_reducible rfl | (simp only [go_sem]; done) | (simp only [go_sem]; rfl) | (simp only []; (try simp only [go_sem]); first | done | rfl) | (simp only [go_sem]; simp []; done) | (simp []; done) | rfl)))
end Go.Proofs.Ytanmcjkpdkmhfaa
/- A piece of code is walked up to a state that is told apart; what follows is walked from there, once. -/
namespace Rdn.Dp
open Go Go.RowKit Rdn
set_option linter.unusedVariables false
section
variable {P : Program} {cx : Cx} {N : Nat} {Q : Exit → Act → World → Prop} {k : List It} {σ : AS} {n : Nat} {t : List (Nat × V)} {ob : List Ob}
theorem ev_cut {J : AS → Prop} {x : MC} (rest : ∀ σ', J σ' → Ev P cx N Q k σ') (h : Ev P cx N Q (.code x :: .goal J :: k) σ) : Ev P cx N Q (.code x :: k) σ := by
  refine ⟨fun hn E a w R => ?_⟩
  have h1 := h.h hn E a w R
  rw [wpS_code] at h1 ⊢
  intro c hc
  refine wp_mono (h1 c hc) fun e a w hq => ?_
  cases e with
  | normal =>
    simp only [onX, wpS] at hq ⊢
    obtain ⟨E1, σ1, hJ, hn1, R1⟩ := hq
    exact (rest σ1 hJ).h hn1 E1 _ _ R1
  | exit id => simpa only [onX, exitS] using hq
  | goto l => exact hq
  | ret => exact hq
  | panic c => exact hq
  | outgrown => exact hq
/-- As a loop's rule, without a loop: U: the slots that change, ks: those that stay, O: the objects. -/
theorem ev_cutK {ι : Type} (ks : List Nat) (U : ι → List (Nat × V)) (O : ι → List Ob) {tk : List (Nat × V)} {x : MC} (htk : keepT t ks = tk)
    (rest : ∀ y, Ev P cx N Q k ⟨n, U y ++ tk, O y⟩)
    (h : ∀ J : Unit → AS → Prop, (∀ i y, 0 < 1 → J i ⟨n, U y ++ tk, O y⟩) → Ev P cx N Q (.code x :: .goal (J ()) :: k) ⟨n, t, ob⟩) : Ev P cx N Q (.code x :: k) ⟨n, t, ob⟩ :=
  ev_cut (J := fun σ' => ∃ y, σ' = ⟨n, U y ++ tk, O y⟩) (fun σ' hJ => by obtain ⟨y, rfl⟩ := hJ; exact rest y) (h (fun _ σ' => ∃ y, σ' = ⟨n, U y ++ tk, O y⟩) fun _ y _ => ⟨y, rfl⟩)
end
section
variable {P : Program} {cx : Cx} {E E' : Env} {a : Act} {w w' : World} {N : Nat} {Q : Exit → Act → World → Prop} {k : List It} {l : List RO} {n : Nat} {t : List (Nat × V)} {ob : List Ob}
/-- A row that a variable's field holds is not written any more. -/
theorem Rel.frzBox (R : Rel cx E ⟨n, t, ob⟩ a w) {r j g r' g' e' s' : Nat} {qb : Bool} {T : TypeId} {q q' : List V} (hr : ob[r]? = some ⟨.box qb T, true, g, .agg q⟩) (hj : q[j]? = some (.own r' g')) (hr' : ob[r']? = some ⟨.row e', true, g', .arr s' q'⟩) : ∃ E', Rel cx E' ⟨n, t, (ob.set r' ⟨.row e', false, g', .arr s' q'⟩).set r ⟨.box qb T, true, g, .agg (q.set j (.sl true s' q'))⟩⟩ a w := by
  have hne : r' ≠ r := by
    rintro rfl
    rw [hr] at hr'
    cases hr'
  obtain ⟨u, k1, k2⟩ := R.ob r' _ hr'
  obtain ⟨L, R1⟩ := R.freeze (r := r') hr' k1 (fun b hb => ⟨k2.wrRow (e := e') rfl hb, trivial⟩)
  have hup : ((⟨n, t, ob⟩ : AS).upd r' Ob.freeze) = ⟨n, t, ob.set r' ⟨.row e', false, g', .arr s' q'⟩⟩ := by simp [AS.upd, hr', Ob.freeze]
  rw [hup] at R1
  have rl' : r' < ob.length := (List.getElem?_eq_some_iff.1 hr').1
  have hjl := (List.getElem?_eq_some_iff.1 hj).1
  have hjv : q[j] = .own r' g' := (List.getElem?_eq_some_iff.1 hj).2
  refine ⟨_, R1.kind (r := r) (o := ⟨.box qb T, true, g, .agg q⟩) (by rw [List.getElem?_set_ne hne]; exact hr) rfl rfl fun u h => ?_⟩
  unfold OkO at h ⊢
  obtain ⟨b, cs, h1, h2, h3, h4, h5⟩ := h
  simp only [RdV] at h3
  obtain ⟨ys, c, zs, p1, p2, p3, p4⟩ := h3.part hjl
  rw [hjv] at p3
  have p3' := p3
  simp only [RdV] at p3'
  obtain ⟨v, rfl, _⟩ := p3'
  have hv := own_calm R1 (r := r') (g := g') (v := v) (by simpa only [RdT] using p3) (by simp [rowV, List.getElem?_set_self rl']) (fun o ho => by
    have ho : (ob.set r' ⟨.row e', false, g', .arr s' q'⟩)[r']? = some o := ho
    rw [List.getElem?_set_self rl'] at ho
    cases ho; rfl)
  have e1 : (rowV ⟨n, t, ob.set r' ⟨.row e', false, g', .arr s' q'⟩⟩ r' g').1 = s' := by simp [rowV, List.getElem?_set_self rl']
  have e2 : (rowV ⟨n, t, ob.set r' ⟨.row e', false, g', .arr s' q'⟩⟩ r' g').2.1 = q' := by simp [rowV, List.getElem?_set_self rl']
  rw [e1, e2] at hv
  refine ⟨b, cs, h1, h2, ?_, h4, h5⟩
  simp only [RdV]
  rw [p1]
  exact p4 (fun _ _ h => h) _ _ hv
theorem ev_frzBox (r j r' : Nat) {g g' e' s' : Nat} {qb : Bool} {T : TypeId} {q q' : List V} (hr : ob[r]? = some ⟨.box qb T, true, g, .agg q⟩) (hr' : ob[r']? = some ⟨.row e', true, g', .arr s' q'⟩) (hj : q[j]? = some (.own r' g')) (h : Ev P cx N Q k ⟨n, t, (ob.set r' ⟨.row e', false, g', .arr s' q'⟩).set r ⟨.box qb T, true, g, .agg (q.set j (.sl true s' q'))⟩⟩) : Ev P cx N Q k ⟨n, t, ob⟩ := by
  refine ⟨fun hn E a w R => ?_⟩
  obtain ⟨E', R'⟩ := R.frzBox hr hj hr'
  exact h.h hn E' a w R'
theorem evr_frzBox (r j r' : Nat) {g g' e' s' : Nat} {qb : Bool} {T : TypeId} {q q' : List V} (hr : ob[r]? = some ⟨.box qb T, true, g, .agg q⟩) (hr' : ob[r']? = some ⟨.row e', true, g', .arr s' q'⟩) (hj : q[j]? = some (.own r' g')) (h : EvR P cx N Q k l ⟨n, t, (ob.set r' ⟨.row e', false, g', .arr s' q'⟩).set r ⟨.box qb T, true, g, .agg (q.set j (.sl true s' q'))⟩⟩) : EvR P cx N Q k l ⟨n, t, ob⟩ := by
  refine ⟨fun hn E a w R => ?_⟩
  obtain ⟨E', R'⟩ := R.frzBox hr hj hr'
  exact h.h hn E' a w R'
end
end Rdn.Dp
