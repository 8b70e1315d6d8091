/- The outside: the law OutsideBegins. -/
import Derived.Test.YtkfpcgkmemfdaaaU9
import Derived.Test.YtkfpcgkmemfdaaaZt
import Derived.Test.YtkfpcgkmemfdaaaReads
namespace Go.Proofs.Ytkfpcgkmemfdaaa
open Go Go.RowKit Rdn Rdn.Dp
set_option linter.unusedVariables false
set_option linter.unusedSimpArgs false
def m_awake19 : MC := .seq (.reg [⟨(some 0), none, (.p (.mov (.c (.bool false))))⟩])
 (.seq (.reg [⟨(some 7), none, (.m (.buildS 45 1 (.int .u16 0) 2 [(0, (.c (.int .u16 5))), (1, (.c (.int .u16 9)))]))⟩, ⟨(some 8), none, (.call 8 [(.c (.nilS)), (.c (.nilS)), (.t 7), (.c (.nilS))])⟩, ⟨(some 6), none, (.p (.mov (.t 8)))⟩, ⟨(some 9), none, (.p (.ext (.t 6) 0))⟩, ⟨(some 10), none, (.p (.ext (.t 6) 1))⟩, ⟨(some 1), none, (.m (.alloc 31 (.agg [.nilS, .nilS, .nilS, .agg [.nilS, .nilS], .nilS])))⟩, ⟨none, none, (.m (.store 6 (.t 1) (.t 9)))⟩, ⟨(some 2), none, (.p (.mov (.t 10)))⟩])
 (.seq (.reg [⟨(some 12), none, (.p (.load true 6 (.t 1)))⟩, ⟨(some 13), none, (.m (.build none [.int .i64 0, .int .i64 0, .int .i64 0, .int .i64 0, .int .i64 0, .int .i64 0, .nilS, .nilS] [(1, (.c (.int .i64 1))), (5, (.c (.int .i64 6)))]))⟩, ⟨(some 14), none, (.call 14 [(.t 12), (.t 13)])⟩, ⟨(some 11), none, (.p (.mov (.t 14)))⟩, ⟨(some 15), none, (.p (.ext (.t 11) 0))⟩, ⟨(some 16), none, (.p (.ext (.t 11) 1))⟩, ⟨(some 17), none, (.p (.ext (.t 11) 2))⟩, ⟨(some 3), none, (.m (.alloc 31 (.agg [.nilS, .nilS, .nilS, .agg [.nilS, .nilS], .nilS])))⟩, ⟨(some 4), none, (.m (.alloc 49 (.agg [.agg [.int .u8 0, .int .u16 0, .int .i64 0, .int .i64 0], .nilS, .int .i64 0, .bool false])))⟩, ⟨none, none, (.m (.store 6 (.t 3) (.t 15)))⟩, ⟨none, none, (.m (.store 7 (.t 4) (.t 16)))⟩, ⟨(some 5), none, (.p (.mov (.t 17)))⟩])
 (.seq (.reg [⟨(some 18), none, (.p (.mov (.t 2)))⟩, ⟨(some 19), none, (.p (.bin 0 .eql (.t 18) (.c (.int .i64 0))))⟩, ⟨(some 20), none, (.p (.mov (.t 19)))⟩, ⟨(some 21), (some (20, true)), (.p (.mov (.t 5)))⟩, ⟨(some 22), (some (20, true)), (.p (.bin 0 .eql (.t 21) (.c (.int .i64 0))))⟩, ⟨(some 23), none, (.p (.pick (.t 20) (.t 22) (.c (.bool false))))⟩, ⟨(some 24), none, (.p (.mov (.t 23)))⟩, ⟨(some 25), (some (24, true)), (.p (.fieldA 0 0 (.t 4)))⟩, ⟨(some 26), (some (24, true)), (.p (.fieldA 1 1 (.t 25)))⟩, ⟨(some 27), (some (24, true)), (.p (.load false 1 (.t 26)))⟩, ⟨(some 28), (some (24, true)), (.p (.bin 0 .eql (.t 27) (.c (.int .u16 5))))⟩, ⟨(some 29), none, (.p (.pick (.t 24) (.t 28) (.c (.bool false))))⟩, ⟨(some 30), none, (.p (.mov (.t 29)))⟩, ⟨(some 31), (some (30, true)), (.p (.fieldA 5 2 (.t 4)))⟩, ⟨(some 32), (some (30, true)), (.p (.load false 1 (.t 31)))⟩, ⟨(some 33), (some (30, true)), (.p (.bin 0 .eql (.t 32) (.c (.int .i64 (-1)))))⟩, ⟨(some 34), none, (.p (.pick (.t 30) (.t 33) (.c (.bool false))))⟩, ⟨(some 35), none, (.p (.mov (.t 34)))⟩, ⟨(some 36), (some (35, true)), (.p (.fieldA 0 0 (.t 3)))⟩, ⟨(some 37), (some (35, true)), (.p (.load false 1 (.t 36)))⟩, ⟨(some 38), (some (35, true)), (.p (.len (.t 37)))⟩, ⟨(some 39), (some (35, true)), (.p (.bin 0 .eql (.t 38) (.c (.int .i64 1))))⟩, ⟨(some 40), none, (.p (.pick (.t 35) (.t 39) (.c (.bool false))))⟩, ⟨(some 41), none, (.p (.mov (.t 40)))⟩, ⟨(some 42), (some (41, true)), (.call 22 [(.c (.int .i64 13))])⟩, ⟨(some 43), none, (.p (.pick (.t 41) (.t 42) (.c (.bool false))))⟩, ⟨(some 44), none, (.p (.mov (.t 43)))⟩, ⟨(some 45), (some (44, true)), (.call 22 [(.c (.int .i64 8))])⟩, ⟨(some 46), (some (44, true)), (.p (.un .not (.t 45)))⟩, ⟨(some 47), none, (.p (.pick (.t 44) (.t 46) (.c (.bool false))))⟩, ⟨(some 0), none, (.p (.mov (.t 47)))⟩])
 (.ret))))
theorem m_awake19_ok : compF Try.prog 7 = some (48, m_awake19, [.mov (.t 0)]) := by kernel_rfl
def m_obl : MC := .seq (.reg [⟨(some 8), none, (.p (.mov (.c (.bool false))))⟩])
 (.seq (.seq (.reg [⟨(some 15), none, (.p (.mov (.t 0)))⟩, ⟨(some 16), none, (.p (.len (.t 15)))⟩, ⟨(some 17), none, (.p (.bin 0 .gtr (.t 16) (.c (.int .i64 20))))⟩, ⟨(some 18), none, (.p (.mov (.t 17)))⟩, ⟨(some 19), (some (18, false)), (.p (.mov (.t 1)))⟩, ⟨(some 20), (some (18, false)), (.p (.len (.t 19)))⟩, ⟨(some 21), (some (18, false)), (.p (.bin 0 .gtr (.t 20) (.c (.int .i64 20))))⟩, ⟨(some 22), none, (.p (.pick (.t 18) (.c (.bool true)) (.t 21)))⟩, ⟨(some 23), none, (.p (.mov (.t 22)))⟩, ⟨(some 24), (some (23, false)), (.p (.mov (.t 2)))⟩, ⟨(some 25), (some (23, false)), (.p (.len (.t 24)))⟩, ⟨(some 26), (some (23, false)), (.p (.bin 0 .gtr (.t 25) (.c (.int .i64 200))))⟩, ⟨(some 27), none, (.p (.pick (.t 23) (.c (.bool true)) (.t 26)))⟩, ⟨(some 28), none, (.p (.mov (.t 27)))⟩, ⟨(some 29), (some (28, false)), (.p (.mov (.t 3)))⟩, ⟨(some 30), (some (28, false)), (.p (.len (.t 29)))⟩, ⟨(some 31), (some (28, false)), (.p (.bin 0 .gtr (.t 30) (.c (.int .i64 200))))⟩, ⟨(some 32), none, (.p (.pick (.t 28) (.c (.bool true)) (.t 31)))⟩])
 (.cond (.t 32) (.seq (.reg [⟨(some 33), none, (.call 7 [])⟩, ⟨(some 8), none, (.p (.mov (.t 33)))⟩])
 (.ret)) (.skip)))
 (.seq (.seq (.reg [⟨(some 34), none, (.p (.mov (.t 0)))⟩, ⟨(some 35), none, (.m (.app 23 1 24 (.c (.nilS)) (.t 34)))⟩, ⟨(some 36), none, (.p (.mov (.t 1)))⟩, ⟨(some 37), none, (.m (.app 23 1 24 (.t 35) (.t 36)))⟩, ⟨(some 38), none, (.p (.len (.t 37)))⟩, ⟨(some 39), none, (.p (.mov (.c (.int .i64 0))))⟩])
 (.block 0 (.loop (.seq (.reg [⟨(some 40), none, (.p (.bin 0 .lss (.t 39) (.t 38)))⟩])
 (.seq (.cond (.t 40) (.skip) (.exit 0))
 (.seq (.block 1 (.seq (.reg [⟨(some 41), none, (.p (.idxA 1 (.t 37) (.t 39)))⟩, ⟨(some 42), none, (.p (.load false 1 (.t 41)))⟩, ⟨(some 10), none, (.p (.mov (.t 42)))⟩])
 (.seq (.reg [⟨(some 43), none, (.p (.mov (.t 10)))⟩, ⟨(some 44), none, (.p (.len (.t 43)))⟩, ⟨(some 45), none, (.p (.bin 0 .gtr (.t 44) (.c (.int .i64 200))))⟩])
 (.cond (.t 45) (.seq (.reg [⟨(some 46), none, (.call 7 [])⟩, ⟨(some 8), none, (.p (.mov (.t 46)))⟩])
 (.ret)) (.skip)))))
 (.reg [⟨(some 47), none, (.p (.bin 0 .add (.t 39) (.c (.int .i64 1))))⟩, ⟨(some 39), none, (.p (.mov (.t 47)))⟩])))))))
 (.seq (.reg [⟨(some 49), none, (.p (.mov (.t 0)))⟩, ⟨(some 50), none, (.p (.mov (.t 1)))⟩, ⟨(some 51), none, (.p (.mov (.t 2)))⟩, ⟨(some 52), none, (.p (.mov (.t 3)))⟩, ⟨(some 53), none, (.call 8 [(.t 49), (.t 50), (.t 51), (.t 52)])⟩, ⟨(some 48), none, (.p (.mov (.t 53)))⟩, ⟨(some 54), none, (.p (.ext (.t 48) 0))⟩, ⟨(some 55), none, (.p (.ext (.t 48) 1))⟩, ⟨(some 11), none, (.m (.alloc 31 (.agg [.nilS, .nilS, .nilS, .agg [.nilS, .nilS], .nilS])))⟩, ⟨none, none, (.m (.store 6 (.t 11) (.t 54)))⟩, ⟨(some 12), none, (.p (.mov (.t 55)))⟩])
 (.seq (.reg [⟨(some 57), none, (.p (.mov (.t 0)))⟩, ⟨(some 58), none, (.p (.mov (.t 1)))⟩, ⟨(some 59), none, (.p (.mov (.t 2)))⟩, ⟨(some 60), none, (.p (.mov (.t 3)))⟩, ⟨(some 61), none, (.call 9 [(.t 57), (.t 58), (.t 59), (.t 60)])⟩, ⟨(some 56), none, (.p (.mov (.t 61)))⟩, ⟨(some 62), none, (.p (.ext (.t 56) 0))⟩, ⟨(some 63), none, (.p (.ext (.t 56) 1))⟩, ⟨(some 13), none, (.m (.alloc 31 (.agg [.nilS, .nilS, .nilS, .agg [.nilS, .nilS], .nilS])))⟩, ⟨none, none, (.m (.store 6 (.t 13) (.t 62)))⟩, ⟨(some 14), none, (.p (.mov (.t 63)))⟩])
 (.seq (.reg [⟨(some 64), none, (.p (.mov (.t 12)))⟩, ⟨(some 65), none, (.p (.mov (.t 14)))⟩, ⟨(some 66), none, (.p (.bin 0 .eql (.t 64) (.t 65)))⟩, ⟨(some 67), none, (.p (.mov (.t 66)))⟩, ⟨(some 68), (some (67, true)), (.p (.load true 6 (.t 11)))⟩, ⟨(some 69), (some (67, true)), (.p (.load true 6 (.t 13)))⟩, ⟨(some 70), (some (67, true)), (.call 10 [(.t 68), (.t 69)])⟩, ⟨(some 71), none, (.p (.pick (.t 67) (.t 70) (.c (.bool false))))⟩, ⟨(some 72), none, (.p (.mov (.t 71)))⟩, ⟨(some 73), (some (72, true)), (.call 7 [])⟩, ⟨(some 74), none, (.p (.pick (.t 72) (.t 73) (.c (.bool false))))⟩, ⟨(some 8), none, (.p (.mov (.t 74)))⟩])
 (.ret))))))
theorem m_obl_ok : compF Try.prog 3 = some (75, m_obl, [.mov (.t 8)]) := by kernel_rfl
theorem fit_aw : FitO ⟨[5, 9], [], [], ⟨[].map numC, eight⟩, []⟩ := ⟨by decide, by decide, by decide, by simp, by
  refine new_fit (data := []) (.inl rfl), by decide, fun j hj => absurd hj (Nat.not_lt_zero j), by simp⟩
theorem aw_beg : sBegin [] [] [5, 9] [] = (⟨[5, 9], [], [], ⟨[].map numC, eight⟩, []⟩, 0) := sBegin_T (.inl rfl) (valO_T fit_aw)
def qT : Request := ⟨0, 1, 0, 0, 0, 6, [], []⟩
theorem asks_aw : asksB qT = true := by
  have h : valQ qT = true := valQ_T ⟨by decide, by decide, by decide, by decide, by decide, by decide, rfl, rfl⟩
  unfold asksB
  rw [h]
  rfl
theorem aw_first : sFirst [5, 9] = ([9], ⟨0, 5, 0, 0⟩, true) := rfl
attribute [local irreducible] sFirst sBegin eight
set_option maxHeartbeats 8000000 in
theorem awake19_fn : Fnc Try.prog 7 [] (fun x obs => x = .bool true ∧ obs = []) := by
  have f1 := wbeg_fn [] [] [5, 9] [] (by decide)
  rw [aw_beg] at f1
  have f2 := wdot_fn _ qT fit_aw asks_aw rfl (by decide)
  dsimp only at f2
  rw [aw_first] at f2
  rw [if_pos rfl] at f2
  have f3 := wact_fn 13
  have f4 := wact_fn 8
  rw [show actB 13 = true from rfl] at f3
  rw [show actB 8 = false from rfl] at f4
  refine Fnc.intro m_awake19_ok (by simp) fun W S => ?_
  unfold m_awake19
  simp only [ents, Nat.zero_add, Nat.reduceAdd]
  refine zst ?_
  refine evr_calmA ?_; (refine zev ?_); (first | refine callD (f1) ?_ | refine callDw (f1) ?_); simp only [go_sem, slV', wssV, owV]
  refine zst ?_
  (first | refine callD (f2) ?_ | refine callDw (f2) ?_); simp only [go_sem, qT, wssV, owV, outsV, reqV, filV, resV, okR]
  refine zst ?_
  (first | refine callD (f3) ?_ | refine callDw (f3) ?_); simp only [go_sem]
  refine zst ?_
  (first | refine callD (f4) ?_ | refine callDw (f4) ?_); simp only [go_sem]
  refine zst ?_
  refine ret m_awake19_ok [] ?_; exact zfn
set_option maxHeartbeats 8000000 in
theorem obl_fn (fs ins : List (List Int)) (c r : List Int) : Fnc Try.prog 3 [wssV fs, wssV ins, owV c, owV r] (fun x _ => x = .bool true) := by
  refine Fnc.wf fun hw => ?_
  have hm1 : ∀ k, k < fs.length → fs[k]!.length ≤ 140737488355328 := fun k hk => by
    have := hw.1
    simp only [V.wf, V.wfs, wfs_map] at this
    have := this.1 _ (mem_at hk)
    simp only [slV', V.wf, List.length_map] at this
    exact this.2
  have hm2 : ∀ k, k < ins.length → ins[k]!.length ≤ 140737488355328 := fun k hk => by
    have := hw.2.1
    simp only [V.wf, V.wfs, wfs_map] at this
    have := this.1 _ (mem_at hk)
    simp only [slV', V.wf, List.length_map] at this
    exact this.2
  simp only [V.wfs, V.wf, wfs_map, List.length_map] at hw
  have m1 := hw.1.2
  have m2 := hw.2.1.2
  have m3 := hw.2.2.1.2
  have m4 := hw.2.2.2.1.2
  clear hw
  by_cases c1 : fs.length ≤ 20
  rotate_left
  · skip
    refine Fnc.intro m_obl_ok (by simp) fun W S => ?_
    unfold m_obl
    simp only [ents, Nat.zero_add, Nat.reduceAdd]
    refine zst ?_
    (first | refine callD (awake19_fn) ?_ | refine callDw (awake19_fn) ?_); simp only [go_sem]
    refine zst ?_
    refine ret m_obl_ok [] ?_; exact zfn
  by_cases c2 : ins.length ≤ 20
  rotate_left
  · skip
    refine Fnc.intro m_obl_ok (by simp) fun W S => ?_
    unfold m_obl
    simp only [ents, Nat.zero_add, Nat.reduceAdd]
    refine zst ?_
    (first | refine callD (awake19_fn) ?_ | refine callDw (awake19_fn) ?_); simp only [go_sem]
    refine zst ?_
    refine ret m_obl_ok [] ?_; exact zfn
  by_cases c3 : c.length ≤ 200
  rotate_left
  · skip
    refine Fnc.intro m_obl_ok (by simp) fun W S => ?_
    unfold m_obl
    simp only [ents, Nat.zero_add, Nat.reduceAdd]
    refine zst ?_
    (first | refine callD (awake19_fn) ?_ | refine callDw (awake19_fn) ?_); simp only [go_sem]
    refine zst ?_
    refine ret m_obl_ok [] ?_; exact zfn
  by_cases c4 : r.length ≤ 200
  rotate_left
  · skip
    refine Fnc.intro m_obl_ok (by simp) fun W S => ?_
    unfold m_obl
    simp only [ents, Nat.zero_add, Nat.reduceAdd]
    refine zst ?_
    (first | refine callD (awake19_fn) ?_ | refine callDw (awake19_fn) ?_); simp only [go_sem]
    refine zst ?_
    refine ret m_obl_ok [] ?_; exact zfn
  have hm : ∀ k, k < (fs ++ ins).length → (fs ++ ins)[k]!.length ≤ 140737488355328 := fun k hk => by
    have h := mem_at hk
    rcases List.mem_append.1 h with h | h
    · obtain ⟨j, hj, e⟩ := at_mem h
      rw [← e]; exact hm1 j hj
    · obtain ⟨j, hj, e⟩ := at_mem h
      rw [← e]; exact hm2 j hj
  have hl : (fs ++ ins).length ≤ 40 := by rw [List.length_append]; omega
  obtain ⟨all, ha⟩ : ∃ all, fs ++ ins = all := ⟨_, rfl⟩
  have hal : (fs ++ ins).length = fs.length + ins.length := List.length_append
  rw [ha] at hm hl hal
  refine Fnc.intro m_obl_ok (by simp) fun W S => ?_
  unfold m_obl
  simp only [ents, Nat.zero_add, Nat.reduceAdd]
  refine zst ?_
  refine ev_freeze 37 rfl rfl ?_
  repeat (first | (simp only [ha]; try simp only [go_sem]) | refine And.intro (by omega) ?_ | refine And.intro rfl ?_ | refine ev_ctl rfl rfl ?_ | refine evr_nil ?_ | refine evw_nil (by kernel_rfl) ?_ | (simp (disch := omega) only [takeAll, Nat.min_eq_left, Nat.min_eq_right, if_pos, if_neg, getD_map, wrapI64, modIn, fdivE, tmodE, tdivE, decT, decF, beqT, beqF, bneT, bneF, Int.toNat_natCast]; try simp only [go_sem]) | (refine ev_condTb rfl ?_ ?_; · (simp <;> omega)) | (refine ev_condFb rfl ?_ ?_; · (simp <;> omega)) | ((first | refine ev_region ?_ | refine evr_go rfl ?_ | refine evw_go rfl ?_ | refine ev_dr0 mixed rfl (by kernel_rfl) ?_ | refine ev_dr1 mixed rfl (by kernel_rfl) ?_ | refine ev_dr2 mixed rfl (by kernel_rfl) ?_); simp only [go_sem]))
  refine ev_loopK [0, 1, 2, 3, 37, 38] (fun p : {p : Nat // p ≤ all.length ∧ ∀ j, j < p → all[j]!.length ≤ 200} => [(39, .int .i64 p.1)]) (fun _ => []) (fun p => all.length - p.1) (⟨0, by simp⟩) 0 (by simp only [go_sem]; rfl) ?_ (by first | rfl | (simp only [go_sem]; done)) (by simp) (by first | rfl | (simp only [go_sem]; done)) (by first | rfl | (simp only [go_sem]; done)) (by first | rfl | (simp only [go_sem]; done)) ?_
  · (simp only [go_sem]; (try simp []); done)
  intro J hJ
  rintro ⟨k, hk0, hk1⟩
  by_cases hlt : k < all.length
  · have h3 := hm k hlt
    by_cases d : all[k]!.length ≤ 200
    · have hS : ∀ j, j < k + 1 → all[j]!.length ≤ 200 := fun j hj => by
        by_cases e' : j = k
        · subst e'; exact d
        · exact hk1 j (by omega)
      refine zst ?_
      refine ev_next 0 (hJ _ (⟨k + 1, hlt, hS⟩) (by first | omega | (dsimp only; omega) | (simp; omega))) rfl (by simp) ?_ (by first | rfl | (simp only [go_sem]; done)) (by first | rfl | (simp only [go_sem]; done) | (simp only [hlt]; (try simp only [go_sem]); first | done | rfl)) ?_
      · exact zna hlt
      · exact znb hlt
    · skip
      refine zst ?_
      (first | refine callD (awake19_fn) ?_ | refine callDw (awake19_fn) ?_); simp only [go_sem]
      refine zst ?_
      refine ret m_obl_ok [] ?_; exact zfn
  · obtain rfl : k = all.length := by omega
    have hx : ∀ x ∈ all, x.length ≤ 200 := fun x hx => by
      obtain ⟨j, hj, rfl⟩ := at_mem hx
      exact hk1 j hj
    have f1 := wbeg_fn fs ins c r (by omega)
    have f2 := rbeg_fn fs ins c r (by omega) (fun x h => by have := hx x (by rw [← ha]; exact List.mem_append_left _ h); omega) (by omega) (fun x h => by have := hx x (by rw [← ha]; exact List.mem_append_right _ h); omega) (by omega) (by omega)
    have f3 := rsao_eq (sBegin fs ins c r).1
    refine zst ?_
    (first | refine callD (f1) ?_ | refine callDw (f1) ?_); simp only [go_sem]
    refine zst ?_
    (first | refine callD (f2) ?_ | refine callDw (f2) ?_); simp only [go_sem]
    refine zst ?_
    (first | refine callD (f3) ?_ | refine callDw (f3) ?_); simp only [go_sem]
    refine zst ?_
    (first | refine callD (awake19_fn) ?_ | refine callDw (awake19_fn) ?_); simp only [go_sem]
    refine zst ?_
    refine ret m_obl_ok [] ?_; exact zfn
theorem enc_wordss : Enc (Sh.slice (Sh.slice (Sh.int .u16))) (fun l => .sl false (Sh.slice (Sh.int .u16)).size (l.map (slV' false 1 (V.int .u16)))) := Enc.slice enc_u16s (fun _ => rfl) (fun _ => rfl)
theorem obl_law {a0 : List (List Int)} {v0 : Value} {a1 : List (List Int)} {v1 : Value} {a2 : List Int} {v2 : Value} {a3 : List Int} {v3 : Value} (W : World) (e0 : (Sh.slice (Sh.slice (Sh.int .u16))).rd (old W) W a0 [v0]) (e1 : (Sh.slice (Sh.slice (Sh.int .u16))).rd (old W) W a1 [v1]) (e2 : (Sh.slice (Sh.int .u16)).rd (old W) W a2 [v2]) (e3 : (Sh.slice (Sh.int .u16)).rd (old W) W a3 [v3]) :
    Calls Try.prog 3 #[v0, v1, v2, v3] W fun e w' => e = .returned (.bool true) ∧ Below W.heap.size W w' :=
  Fnc.law (obl_fn a0 a1 a2 a3) (RdTs.slice enc_wordss e0 (RdTs.slice enc_wordss e1 (RdTs.slice enc_u16s e2 (RdTs.slice enc_u16s e3 RdTs.nil'))))
end Go.Proofs.Ytkfpcgkmemfdaaa
