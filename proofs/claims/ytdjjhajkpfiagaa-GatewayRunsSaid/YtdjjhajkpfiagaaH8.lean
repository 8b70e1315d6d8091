/- The law GatewayRuns. -/
import Derived.Test.YtdjjhajkpfiagaaH6
import Derived.Test.YtdjjhajkpfiagaaF9
import Derived.Test.YtdjjhajkpfiagaaF10
import Derived.Test.YtdjjhajkpfiagaaDb
namespace Go.Proofs.Ytdjjhajkpfiagaa
open Go Go.RowKit Rdn Rdn.Dp
set_option linter.unusedVariables false
set_option linter.unusedSimpArgs false
def m_runs : MC := .seq (.reg [⟨(some 2), none, (.p (.mov (.c (.bool false))))⟩])
 (.seq (.seq (.reg [⟨(some 12), none, (.p (.mov (.t 0)))⟩, ⟨(some 13), none, (.call 12 [(.t 12)])⟩, ⟨(some 14), none, (.p (.un .not (.t 13)))⟩])
 (.cond (.t 14) (.seq (.reg [⟨(some 15), none, (.call 22 [])⟩, ⟨(some 2), none, (.p (.mov (.t 15)))⟩])
 (.ret)) (.skip)))
 (.seq (.reg [⟨(some 16), none, (.p (.mov (.t 0)))⟩, ⟨(some 17), none, (.call 15 [(.t 16)])⟩, ⟨(some 3), none, (.p (.mov (.t 17)))⟩])
 (.seq (.reg [⟨(some 4), none, (.m (.alloc 44 (.agg [.int .i64 0, .int .i64 0, .int .i64 0, .nilS])))⟩])
 (.seq (.reg [⟨(some 5), none, (.m (.alloc 47 (.agg [.int .i64 0, .int .i64 0, .nilS])))⟩])
 (.seq (.seq (.reg [⟨(some 6), none, (.p (.mov (.c (.int .i64 0))))⟩])
 (.block 0 (.loop (.seq (.seq (.reg [⟨(some 18), none, (.p (.mov (.t 6)))⟩, ⟨(some 19), none, (.p (.bin 0 .lss (.t 18) (.c (.int .i64 80))))⟩, ⟨(some 20), none, (.p (.mov (.t 19)))⟩, ⟨(some 21), (some (20, true)), (.p (.mov (.t 3)))⟩, ⟨(some 22), (some (20, true)), (.call 25 [(.t 21)])⟩, ⟨(some 23), none, (.p (.pick (.t 20) (.t 22) (.c (.bool false))))⟩])
 (.cond (.t 23) (.skip) (.exit 0)))
 (.seq (.block 1 (.seq (.dreg [⟨(some 26), none, (.p (.mov (.t 3)))⟩, ⟨(some 27), none, (.call 26 [(.t 26), (.c (.int .i64 3))])⟩, ⟨(some 28), none, (.p (.mov (.t 3)))⟩, ⟨(some 29), none, (.call 27 [(.t 28), (.c (.int .i64 3))])⟩, ⟨(some 30), none, (.p (.fieldA 2 2 (.t 4)))⟩, ⟨(some 31), none, (.p (.load false 1 (.t 30)))⟩, ⟨(some 32), none, (.p (.mov (.t 3)))⟩, ⟨(some 33), none, (.call 26 [(.t 32), (.c (.int .i64 5))])⟩, ⟨(some 34), none, (.p (.bin 0 .add (.t 31) (.t 33)))⟩, ⟨(some 35), none, (.p (.bin 0 .sub (.t 34) (.c (.int .i64 1))))⟩, ⟨(some 7), none, (.p (.mov (.t 27)))⟩, ⟨(some 8), none, (.p (.mov (.t 29)))⟩, ⟨(some 9), none, (.p (.mov (.t 35)))⟩] [[], [0], [], [0, 1, 2], [], [4], [], [0, 1, 2, 3, 6], [0, 1, 2, 3, 4, 5, 6, 7], [0, 1, 2, 3, 4, 5, 6, 7, 8], [0, 1, 2, 3, 6, 7], [0, 1, 2, 3, 6, 7, 10], [0, 1, 2, 3, 4, 5, 6, 7, 8, 9, 10, 11]])
 (.seq (.seq (.reg [⟨(some 36), none, (.p (.load true 4 (.t 4)))⟩, ⟨(some 37), none, (.p (.mov (.t 7)))⟩, ⟨(some 38), none, (.p (.mov (.t 8)))⟩, ⟨(some 39), none, (.p (.mov (.t 9)))⟩, ⟨(some 40), none, (.call 23 [(.t 36), (.t 37), (.t 38), (.t 39)])⟩, ⟨(some 41), none, (.p (.un .not (.t 40)))⟩])
 (.cond (.t 41) (.seq (.reg [⟨(some 2), none, (.p (.mov (.c (.bool false))))⟩])
 (.ret)) (.skip)))
 (.seq (.reg [⟨(some 42), none, (.p (.mov (.t 3)))⟩, ⟨(some 43), none, (.call 26 [(.t 42), (.c (.int .i64 5))])⟩])
 (.block 2 (.seq (.seq (.reg [⟨(some 75), none, (.p (.bin 0 .eql (.t 43) (.c (.int .i64 0))))⟩, ⟨(some 74), none, (.p (.mov (.t 75)))⟩])
 (.cond (.t 74) (.skip) (.reg [⟨(some 76), none, (.p (.bin 0 .eql (.t 43) (.c (.int .i64 1))))⟩, ⟨(some 74), none, (.p (.mov (.t 76)))⟩])))
 (.cond (.t 74) (.reg [⟨(some 78), none, (.p (.load true 4 (.t 4)))⟩, ⟨(some 79), none, (.p (.mov (.t 7)))⟩, ⟨(some 80), none, (.p (.mov (.t 8)))⟩, ⟨(some 81), none, (.call 28 [(.t 78), (.t 79), (.t 80)])⟩, ⟨(some 77), none, (.p (.mov (.t 81)))⟩, ⟨(some 82), none, (.p (.ext (.t 77) 0))⟩, ⟨(some 83), none, (.p (.ext (.t 77) 1))⟩, ⟨(some 84), none, (.p (.ext (.t 77) 2))⟩, ⟨none, none, (.m (.store 4 (.t 4) (.t 82)))⟩]) (.seq (.reg [⟨(some 86), none, (.p (.bin 0 .eql (.t 43) (.c (.int .i64 2))))⟩, ⟨(some 85), none, (.p (.mov (.t 86)))⟩])
 (.cond (.t 85) (.reg [⟨(some 88), none, (.p (.load true 4 (.t 4)))⟩, ⟨(some 89), none, (.p (.mov (.t 9)))⟩, ⟨(some 90), none, (.call 29 [(.t 88), (.t 89)])⟩, ⟨(some 87), none, (.p (.mov (.t 90)))⟩, ⟨(some 91), none, (.p (.ext (.t 87) 0))⟩, ⟨(some 92), none, (.p (.ext (.t 87) 1))⟩, ⟨none, none, (.m (.store 4 (.t 4) (.t 91)))⟩]) (.seq (.reg [⟨(some 94), none, (.p (.bin 0 .eql (.t 43) (.c (.int .i64 3))))⟩, ⟨(some 93), none, (.p (.mov (.t 94)))⟩])
 (.cond (.t 93) (.reg [⟨(some 96), none, (.p (.load true 4 (.t 4)))⟩, ⟨(some 97), none, (.p (.mov (.t 9)))⟩, ⟨(some 98), none, (.call 30 [(.t 96), (.t 97)])⟩, ⟨(some 95), none, (.p (.mov (.t 98)))⟩, ⟨(some 99), none, (.p (.ext (.t 95) 0))⟩, ⟨(some 100), none, (.p (.ext (.t 95) 1))⟩, ⟨none, none, (.m (.store 4 (.t 4) (.t 99)))⟩]) (.seq (.reg [⟨(some 10), none, (.p (.mov (.c (.int .i64 0))))⟩])
 (.block 3 (.loop (.seq (.seq (.reg [⟨(some 44), none, (.p (.mov (.t 10)))⟩, ⟨(some 45), none, (.p (.fieldA 3 3 (.t 4)))⟩, ⟨(some 46), none, (.p (.load false 1 (.t 45)))⟩, ⟨(some 47), none, (.p (.len (.t 46)))⟩, ⟨(some 48), none, (.p (.bin 0 .lss (.t 44) (.t 47)))⟩])
 (.cond (.t 48) (.skip) (.exit 3)))
 (.seq (.block 4 (.seq (.reg [⟨(some 51), none, (.p (.mov (.t 3)))⟩, ⟨(some 52), none, (.call 26 [(.t 51), (.c (.int .i64 4))])⟩, ⟨(some 11), none, (.p (.mov (.t 52)))⟩])
 (.seq (.seq (.dreg [⟨(some 53), none, (.p (.load true 3 (.t 5)))⟩, ⟨(some 54), none, (.p (.mov (.t 11)))⟩, ⟨(some 55), none, (.p (.fieldA 3 3 (.t 4)))⟩, ⟨(some 56), none, (.p (.load false 1 (.t 55)))⟩, ⟨(some 57), none, (.p (.mov (.t 10)))⟩, ⟨(some 58), none, (.p (.idxA 3 (.t 56) (.t 57)))⟩, ⟨(some 59), none, (.p (.load true 3 (.t 58)))⟩, ⟨(some 60), none, (.call 24 [(.t 53), (.t 54), (.t 59)])⟩, ⟨(some 61), none, (.p (.un .not (.t 60)))⟩] [[], [], [], [2], [], [2, 3, 4], [2, 3, 4, 5], [0, 1, 2, 3, 4, 5, 6], [0, 1, 2, 3, 4, 5, 6, 7]])
 (.cond (.t 61) (.seq (.reg [⟨(some 2), none, (.p (.mov (.c (.bool false))))⟩])
 (.ret)) (.skip)))
 (.dreg [⟨(some 63), none, (.p (.load true 3 (.t 5)))⟩, ⟨(some 64), none, (.p (.mov (.t 11)))⟩, ⟨(some 65), none, (.p (.fieldA 3 3 (.t 4)))⟩, ⟨(some 66), none, (.p (.load false 1 (.t 65)))⟩, ⟨(some 67), none, (.p (.mov (.t 10)))⟩, ⟨(some 68), none, (.p (.idxA 3 (.t 66) (.t 67)))⟩, ⟨(some 69), none, (.p (.load true 3 (.t 68)))⟩, ⟨(some 70), none, (.call 31 [(.t 63), (.t 64), (.t 69)])⟩, ⟨(some 62), none, (.p (.mov (.t 70)))⟩, ⟨(some 71), none, (.p (.ext (.t 62) 0))⟩, ⟨(some 72), none, (.p (.ext (.t 62) 1))⟩, ⟨(some 73), none, (.p (.ext (.t 62) 2))⟩, ⟨none, none, (.m (.store 3 (.t 5) (.t 71)))⟩] [[], [], [], [2], [], [2, 3, 4], [2, 3, 4, 5], [0, 1, 2, 3, 4, 5, 6], [0, 1, 2, 3, 4, 5, 6, 7], [0, 1, 2, 3, 4, 5, 6, 7, 8], [0, 1, 2, 3, 4, 5, 6, 7, 8], [0, 1, 2, 3, 4, 5, 6, 7, 8], [0, 1, 2, 3, 4, 5, 6, 7, 8, 9]]))))
 (.reg [⟨(some 49), none, (.p (.mov (.t 10)))⟩, ⟨(some 50), none, (.p (.bin 0 .add (.t 49) (.c (.int .i64 1))))⟩, ⟨(some 10), none, (.p (.mov (.t 50)))⟩])))))))))))))))))
 (.reg [⟨(some 24), none, (.p (.mov (.t 6)))⟩, ⟨(some 25), none, (.p (.bin 0 .add (.t 24) (.c (.int .i64 1))))⟩, ⟨(some 6), none, (.p (.mov (.t 25)))⟩]))))))
 (.seq (.reg [⟨(some 101), none, (.call 22 [])⟩, ⟨(some 2), none, (.p (.mov (.t 101)))⟩])
 (.ret)))))))
theorem m_runs_ok : compF Try.prog 6 = some (102, m_runs, [.mov (.t 2)]) := by kernel_rfl
theorem at_app1 {α : Type} [Inhabited α] {l : List α} {x : α} {j : Nat} (h : j < l.length) : (l ++ [x])[j]! = l[j]! := by simp [List.getElem?_append_left h]
theorem at_app2 {α : Type} [Inhabited α] (l : List α) (x : α) : (l ++ [x])[l.length]! = x := by simp
theorem at_drop {α : Type} [Inhabited α] (l : List α) (k j : Nat) : (l.drop k)[j]! = l[k + j]! := by simp
theorem okG_off {g : Gateway} {s : Int} {d : List Canon} (h : okG g) : okG (sOff g s d).1 := by
  have hl := h.1
  unfold okN at hl
  unfold sOff
  rw [chk_T h, if_neg (by omega)]
  split
  · exact h
  · split
    · exact h
    · refine ⟨?_, fun j hj => ?_⟩
      · simp only [okN, List.length_append, List.length_cons, List.length_nil]; omega
      · simp only [List.length_append, List.length_cons, List.length_nil] at hj
        by_cases e : j < g.held.length
        · have := h.2 j e
          simp only [at_app1 e]; exact this
        · obtain rfl : j = g.held.length := by omega
          simp only [at_app2]
          exact ⟨by dsimp only; omega, by dsimp only; omega, by dsimp only; omega, by dsimp only; omega⟩
theorem okG_free {g : Gateway} {n : Int} (h : okG g) : okG (sFree g n).1 := by
  have hl := h.1
  unfold okN at hl
  unfold sFree
  rw [chk_T h, if_neg (by omega)]
  split
  · exact h
  · exact ⟨by simp only [okN]; omega, h.2⟩
theorem okG_ack {g : Gateway} {n : Int} (h : okG g) : okG (sAck g n).1 := by
  have hl := h.1
  unfold okN at hl
  unfold sAck
  rw [chk_T h, if_neg (by omega)]
  split
  · exact h
  · refine ⟨by simp only [okN, List.length_drop]; omega, fun j hj => ?_⟩
    simp only [List.length_drop] at hj
    have := h.2 ((n - g.acked).toNat + j) (by omega)
    simp only [at_drop]
    unfold okO at this ⊢
    omega
/-- A mailbox that has taken outputs in order. -/
def okM (m : Mailbox) : Prop := 0 ≤ m.next ∧ m.next ≤ 200 ∧ (m.taken.length : Int) = m.next ∧ shortO 16 m.taken
theorem okM0 : okM ⟨0, 0, []⟩ := ⟨by simp, by simp, by simp, fun o ho => by simp at ho⟩
theorem okM.fit {m : Mailbox} (h : okM m) : fitO m.taken := ⟨by have := h.2.1; have := h.2.2.1; omega, h.2.2.2.mono (by omega)⟩
theorem okM_take {m : Mailbox} {e : Int} {o : Output} (h : okM m) (ho : o.data.length ≤ 16) : okM (sTake m e o).1 := by
  obtain ⟨h1, h2, h3, h4⟩ := h
  unfold sTake
  split
  · exact ⟨h1, h2, h3, h4⟩
  · split
    · exact ⟨h1, h2, h3, h4⟩
    · split
      · exact ⟨h1, h2, h3, h4⟩
      · split
        · exact ⟨h1, h2, h3, h4⟩
        · refine ⟨by dsimp only; omega, by dsimp only; omega, by simp only [List.length_append, List.length_cons, List.length_nil]; omega, fun x hx => ?_⟩
          rcases List.mem_append.1 hx with hx | hx
          · exact h4 x hx
          · simp at hx; subst hx; exact ho
theorem gw0 : SubV (.agg [.int .i64 0, .int .i64 0, .int .i64 0, .nilS]) (.agg (gwL false ⟨0, 0, 0, []⟩)) := SubV.agg ⟨SubV.refl _, SubV.refl _, SubV.refl _, SubV.nil _ _, trivial⟩
theorem mb0 : SubV (.agg [.int .i64 0, .int .i64 0, .nilS]) (.agg (mbL false ⟨0, 0, []⟩)) := SubV.agg ⟨SubV.refl _, SubV.refl _, SubV.nil _ _, trivial⟩
attribute [local irreducible] sOff sFree sSend sAck sTake dcs
set_option maxHeartbeats 8000000 in
theorem runs_fn (l : List Int) : Fnc Try.prog 6 [.sl false 1 (i64s l)] (fun x obs => x = .bool true) := by
  by_cases h1 : l.length ≤ 400
  · skip
    refine Fnc.intro m_runs_ok (by simp) fun W S => ?_
    unfold m_runs
    simp only [ents, Nat.zero_add, Nat.reduceAdd]
    repeat (first | refine And.intro (by omega) ?_ | refine And.intro rfl ?_ | refine ev_ctl rfl rfl ?_ | refine evr_nil ?_ | refine evw_nil (by kernel_rfl) ?_ | (simp (disch := omega) only [takeAll, Nat.min_eq_left, Nat.min_eq_right, if_pos, if_neg, getD_map, wrapI64, modIn, fdivE, tmodE, tdivE, decT, decF, beqT, beqF, bneT, bneF, Int.toNat_natCast]; try simp only [go_sem]) | refine ev_condTb rfl (by simp <;> omega) ?_ | refine ev_condFb rfl (by simp <;> omega) ?_ | ((first | refine ev_region ?_ | refine evr_go rfl ?_ | refine evw_go rfl ?_ | refine ev_dr0 mixed rfl (by kernel_rfl) ?_ | refine ev_dr1 mixed rfl (by kernel_rfl) ?_ | refine ev_dr2 mixed rfl (by kernel_rfl) ?_); simp only [go_sem]))
    (first | refine callD (few_fn l) ?_ | refine callDw (few_fn l) ?_); simp only [go_sem]
    repeat (first | refine And.intro (by omega) ?_ | refine And.intro rfl ?_ | refine ev_ctl rfl rfl ?_ | refine evr_nil ?_ | refine evw_nil (by kernel_rfl) ?_ | (simp (disch := omega) only [takeAll, Nat.min_eq_left, Nat.min_eq_right, if_pos, if_neg, getD_map, wrapI64, modIn, fdivE, tmodE, tdivE, decT, decF, beqT, beqF, bneT, bneF, Int.toNat_natCast]; try simp only [go_sem]) | refine ev_condTb rfl (by simp <;> omega) ?_ | refine ev_condFb rfl (by simp <;> omega) ?_ | ((first | refine ev_region ?_ | refine evr_go rfl ?_ | refine evw_go rfl ?_ | refine ev_dr0 mixed rfl (by kernel_rfl) ?_ | refine ev_dr1 mixed rfl (by kernel_rfl) ?_ | refine ev_dr2 mixed rfl (by kernel_rfl) ?_); simp only [go_sem]))
    (first | refine callX (new_fn l) ?_ | refine callXw (new_fn l) ?_); simp only [go_sem]
    repeat (first | refine And.intro (by omega) ?_ | refine And.intro rfl ?_ | refine ev_ctl rfl rfl ?_ | refine evr_nil ?_ | refine evw_nil (by kernel_rfl) ?_ | (simp (disch := omega) only [takeAll, Nat.min_eq_left, Nat.min_eq_right, if_pos, if_neg, getD_map, wrapI64, modIn, fdivE, tmodE, tdivE, decT, decF, beqT, beqF, bneT, bneF, Int.toNat_natCast]; try simp only [go_sem]) | refine ev_condTb rfl (by simp <;> omega) ?_ | refine ev_condFb rfl (by simp <;> omega) ?_ | ((first | refine ev_region ?_ | refine evr_go rfl ?_ | refine evw_go rfl ?_ | refine ev_dr0 mixed rfl (by kernel_rfl) ?_ | refine ev_dr1 mixed rfl (by kernel_rfl) ?_ | refine ev_dr2 mixed rfl (by kernel_rfl) ?_); simp only [go_sem]))
    refine ev_obSub 1 _ rfl gw0 rfl (ev_obSub 2 _ rfl mb0 rfl ?_)
    refine ev_loopK [3, 4, 5] (fun p : {p : Gateway × Mailbox × Nat × Nat // okG p.1 ∧ okM p.2.1 ∧ p.2.2.1 ≤ l.length ∧ p.2.2.2 ≤ 80} => [(6, .int .i64 p.1.2.2.2)]) (fun p => [⟨.box false 77, true, 0, deckV l p.1.2.2.1⟩, ⟨.box false 44, true, 0, .agg (gwL false p.1.1)⟩, ⟨.box false 47, true, 0, .agg (mbL false p.1.2.1)⟩]) (fun p => 80 - p.1.2.2.2) (⟨(⟨0, 0, 0, []⟩, ⟨0, 0, []⟩, 0, 0), ok0, okM0, by simp, by simp⟩) 3 (by simp only [go_sem]; rfl) ?_ (by first | rfl | (simp only [go_sem]; done)) (by simp) (by first | rfl | (simp only [go_sem]; done)) (by first | rfl | (simp only [go_sem]; done)) (by first | rfl | (simp only [go_sem]; done)) ?_
    · (simp only [go_sem]; (try simp []); done)
    intro J hJ
    rintro ⟨⟨g, m, k, t⟩, hg, hm, hk, ht⟩
    dsimp only at hg hm hk ht ⊢
    by_cases c1 : t < 80
    · by_cases c2 : k < l.length
      · have hl := hg.1
        unfold okN at hl
        have k1 := dkx_le hk
        have a1 := dnx_ge (l := l) (k := k) (n := 3) (by omega)
        have k2 := dcs_le (l := l) k1 3
        have b1 := dnx_ge (l := l) (k := (dcs l (dkx l k) 3).2) (n := 5) (by omega)
        have b2 := dnx_lt (l := l) (k := (dcs l (dkx l k) 3).2) (n := 5) (by omega)
        have k3 := dkx_le k2
        have k4 := dkx_le k3
        have b3 := dnx_ge (l := l) (k := dkx l (dcs l (dkx l k) 3).2) (n := 5) (by omega)
        have b4 := dnx_lt (l := l) (k := dkx l (dcs l (dkx l k) 3).2) (n := 5) (by omega)
        have hfit := hg.fit
        repeat (first | refine And.intro (by omega) ?_ | refine And.intro rfl ?_ | refine ev_ctl rfl rfl ?_ | refine evr_nil ?_ | refine evw_nil (by kernel_rfl) ?_ | (simp (disch := omega) only [takeAll, Nat.min_eq_left, Nat.min_eq_right, if_pos, if_neg, getD_map, wrapI64, modIn, fdivE, tmodE, tdivE, decT, decF, beqT, beqF, bneT, bneF, Int.toNat_natCast]; try simp only [go_sem]) | refine ev_condTb rfl (by simp <;> omega) ?_ | refine ev_condFb rfl (by simp <;> omega) ?_ | ((first | refine ev_region ?_ | refine evr_go rfl ?_ | refine evw_go rfl ?_ | refine ev_dr0 mixed rfl (by kernel_rfl) ?_ | refine ev_dr1 mixed rfl (by kernel_rfl) ?_ | refine ev_dr2 mixed rfl (by kernel_rfl) ?_); simp only [go_sem]))
        (first | apply st_callMD (left_fn l k hk) rfl | apply evw_callM (left_fn l k hk) rfl)
        · (simp only [go_sem]; rfl)
        · rfl
        · (first | rfl | (simp only [go_sem]; done))
        · (first | rfl | (simp only [go_sem]; done) | (simp only [go_sem]; rfl))
        · (first | rfl | (simp only [go_sem]; done))
        · (first | rfl | (simp only [go_sem]; done) | (simp only [go_sem]; rfl))
        · (first | rfl | simp [V.pureT, V.pure, V.pures, pures_lo, pures_sls])
        (first | refine ev_all (fu := [(), (), (), (), (), (), (), ()]) ?_ | refine evw_all (md := []) (fu := [(), (), (), (), (), (), (), ()]) ?_); simp only [go_sem]; repeat (first | refine And.intro (by omega) ?_ | refine And.intro rfl ?_ | (simp (disch := omega) only [takeAll, Nat.min_eq_left, Nat.min_eq_right, if_pos, if_neg, getD_map, wrapI64, modIn, fdivE, tmodE, tdivE, decT, decF, beqT, beqF, bneT, bneF, Int.toNat_natCast]; try simp only [go_sem]))
        repeat (first | refine And.intro (by omega) ?_ | refine And.intro rfl ?_ | refine ev_ctl rfl rfl ?_ | refine evr_nil ?_ | refine evw_nil (by kernel_rfl) ?_ | (simp (disch := omega) only [takeAll, Nat.min_eq_left, Nat.min_eq_right, if_pos, if_neg, getD_map, wrapI64, modIn, fdivE, tmodE, tdivE, decT, decF, beqT, beqF, bneT, bneF, Int.toNat_natCast]; try simp only [go_sem]) | refine ev_condTb rfl (by simp <;> omega) ?_ | refine ev_condFb rfl (by simp <;> omega) ?_ | ((first | refine ev_region ?_ | refine evr_go rfl ?_ | refine evw_go rfl ?_ | refine ev_dr0 mixed rfl (by kernel_rfl) ?_ | refine ev_dr1 mixed rfl (by kernel_rfl) ?_ | refine ev_dr2 mixed rfl (by kernel_rfl) ?_); simp only [go_sem]))
        (first | apply st_callMD (next_fn l k 3 hk (by omega)) rfl | apply evw_callM (next_fn l k 3 hk (by omega)) rfl)
        · (simp only [go_sem]; rfl)
        · rfl
        · (first | rfl | (simp only [go_sem]; done))
        · (first | rfl | (simp only [go_sem]; done) | (simp only [go_sem]; rfl))
        · (first | rfl | (simp only [go_sem]; done))
        · (first | rfl | (simp only [go_sem]; done) | (simp only [go_sem]; rfl))
        · (first | rfl | simp [V.pureT, V.pure, V.pures, pures_lo, pures_sls])
        (first | refine ev_all (fu := [(), (), (), (), (), (), (), ()]) ?_ | refine evw_all (md := []) (fu := [(), (), (), (), (), (), (), ()]) ?_); simp only [go_sem]; repeat (first | refine And.intro (by omega) ?_ | refine And.intro rfl ?_ | (simp (disch := omega) only [takeAll, Nat.min_eq_left, Nat.min_eq_right, if_pos, if_neg, getD_map, wrapI64, modIn, fdivE, tmodE, tdivE, decT, decF, beqT, beqF, bneT, bneF, Int.toNat_natCast]; try simp only [go_sem]))
        repeat (first | refine And.intro (by omega) ?_ | refine And.intro rfl ?_ | refine ev_ctl rfl rfl ?_ | refine evr_nil ?_ | refine evw_nil (by kernel_rfl) ?_ | (simp (disch := omega) only [takeAll, Nat.min_eq_left, Nat.min_eq_right, if_pos, if_neg, getD_map, wrapI64, modIn, fdivE, tmodE, tdivE, decT, decF, beqT, beqF, bneT, bneF, Int.toNat_natCast]; try simp only [go_sem]) | refine ev_condTb rfl (by simp <;> omega) ?_ | refine ev_condFb rfl (by simp <;> omega) ?_ | ((first | refine ev_region ?_ | refine evr_go rfl ?_ | refine evw_go rfl ?_ | refine ev_dr0 mixed rfl (by kernel_rfl) ?_ | refine ev_dr1 mixed rfl (by kernel_rfl) ?_ | refine ev_dr2 mixed rfl (by kernel_rfl) ?_); simp only [go_sem]))
        (first | apply st_callMD (canons_sl l (dkx l k) 3 k1 (by omega) (by omega)) rfl | apply evw_callM (canons_sl l (dkx l k) 3 k1 (by omega) (by omega)) rfl)
        · (simp only [go_sem]; rfl)
        · rfl
        · (first | rfl | (simp only [go_sem]; done))
        · (first | rfl | (simp only [go_sem]; done) | (simp only [go_sem]; rfl))
        · (first | rfl | (simp only [go_sem]; done))
        · (first | rfl | (simp only [go_sem]; done) | (simp only [go_sem]; rfl))
        · (first | rfl | simp [V.pureT, V.pure, V.pures, pures_lo, pures_sls])
        (first | refine ev_all (fu := [(), (), (), (), (), (), (), ()]) ?_ | refine evw_all (md := []) (fu := [(), (), (), (), (), (), (), ()]) ?_); simp only [go_sem]; repeat (first | refine And.intro (by omega) ?_ | refine And.intro rfl ?_ | (simp (disch := omega) only [takeAll, Nat.min_eq_left, Nat.min_eq_right, if_pos, if_neg, getD_map, wrapI64, modIn, fdivE, tmodE, tdivE, decT, decF, beqT, beqF, bneT, bneF, Int.toNat_natCast]; try simp only [go_sem]))
        repeat (first | refine And.intro (by omega) ?_ | refine And.intro rfl ?_ | refine ev_ctl rfl rfl ?_ | refine evr_nil ?_ | refine evw_nil (by kernel_rfl) ?_ | (simp (disch := omega) only [takeAll, Nat.min_eq_left, Nat.min_eq_right, if_pos, if_neg, getD_map, wrapI64, modIn, fdivE, tmodE, tdivE, decT, decF, beqT, beqF, bneT, bneF, Int.toNat_natCast]; try simp only [go_sem]) | refine ev_condTb rfl (by simp <;> omega) ?_ | refine ev_condFb rfl (by simp <;> omega) ?_ | ((first | refine ev_region ?_ | refine evr_go rfl ?_ | refine evw_go rfl ?_ | refine ev_dr0 mixed rfl (by kernel_rfl) ?_ | refine ev_dr1 mixed rfl (by kernel_rfl) ?_ | refine ev_dr2 mixed rfl (by kernel_rfl) ?_); simp only [go_sem]))
        (first | apply st_callMD (next_fn l (dcs l (dkx l k) 3).2 5 k2 (by omega)) rfl | apply evw_callM (next_fn l (dcs l (dkx l k) 3).2 5 k2 (by omega)) rfl)
        · (simp only [go_sem]; rfl)
        · rfl
        · (first | rfl | (simp only [go_sem]; done))
        · (first | rfl | (simp only [go_sem]; done) | (simp only [go_sem]; rfl))
        · (first | rfl | (simp only [go_sem]; done))
        · (first | rfl | (simp only [go_sem]; done) | (simp only [go_sem]; rfl))
        · (first | rfl | simp [V.pureT, V.pure, V.pures, pures_lo, pures_sls])
        (first | refine ev_all (fu := [(), (), (), (), (), (), (), ()]) ?_ | refine evw_all (md := []) (fu := [(), (), (), (), (), (), (), ()]) ?_); simp only [go_sem]; repeat (first | refine And.intro (by omega) ?_ | refine And.intro rfl ?_ | (simp (disch := omega) only [takeAll, Nat.min_eq_left, Nat.min_eq_right, if_pos, if_neg, getD_map, wrapI64, modIn, fdivE, tmodE, tdivE, decT, decF, beqT, beqF, bneT, bneF, Int.toNat_natCast]; try simp only [go_sem]))
        repeat (first | refine And.intro (by omega) ?_ | refine And.intro rfl ?_ | refine ev_ctl rfl rfl ?_ | refine evr_nil ?_ | refine evw_nil (by kernel_rfl) ?_ | (simp (disch := omega) only [takeAll, Nat.min_eq_left, Nat.min_eq_right, if_pos, if_neg, getD_map, wrapI64, modIn, fdivE, tmodE, tdivE, decT, decF, beqT, beqF, bneT, bneF, Int.toNat_natCast]; try simp only [go_sem]) | refine ev_condTb rfl (by simp <;> omega) ?_ | refine ev_condFb rfl (by simp <;> omega) ?_ | ((first | refine ev_region ?_ | refine evr_go rfl ?_ | refine evw_go rfl ?_ | refine ev_dr0 mixed rfl (by kernel_rfl) ?_ | refine ev_dr1 mixed rfl (by kernel_rfl) ?_ | refine ev_dr2 mixed rfl (by kernel_rfl) ?_); simp only [go_sem]))
        (first | refine callD (agree_fn g (dnx l k 3) (dcs l (dkx l k) 3).1 (g.acked + dnx l (dcs l (dkx l k) 3).2 5 - 1) hfit) ?_ | refine callDw (agree_fn g (dnx l k 3) (dcs l (dkx l k) 3).1 (g.acked + dnx l (dcs l (dkx l k) 3).2 5 - 1) hfit) ?_); simp only [go_sem]
        repeat (first | refine And.intro (by omega) ?_ | refine And.intro rfl ?_ | refine ev_ctl rfl rfl ?_ | refine evr_nil ?_ | refine evw_nil (by kernel_rfl) ?_ | (simp (disch := omega) only [takeAll, Nat.min_eq_left, Nat.min_eq_right, if_pos, if_neg, getD_map, wrapI64, modIn, fdivE, tmodE, tdivE, decT, decF, beqT, beqF, bneT, bneF, Int.toNat_natCast]; try simp only [go_sem]) | refine ev_condTb rfl (by simp <;> omega) ?_ | refine ev_condFb rfl (by simp <;> omega) ?_ | ((first | refine ev_region ?_ | refine evr_go rfl ?_ | refine evw_go rfl ?_ | refine ev_dr0 mixed rfl (by kernel_rfl) ?_ | refine ev_dr1 mixed rfl (by kernel_rfl) ?_ | refine ev_dr2 mixed rfl (by kernel_rfl) ?_); simp only [go_sem]))
        (first | apply st_callMD (next_fn l (dkx l (dcs l (dkx l k) 3).2) 5 k3 (by omega)) rfl | apply evw_callM (next_fn l (dkx l (dcs l (dkx l k) 3).2) 5 k3 (by omega)) rfl)
        · (simp only [go_sem]; rfl)
        · rfl
        · (first | rfl | (simp only [go_sem]; done))
        · (first | rfl | (simp only [go_sem]; done) | (simp only [go_sem]; rfl))
        · (first | rfl | (simp only [go_sem]; done))
        · (first | rfl | (simp only [go_sem]; done) | (simp only [go_sem]; rfl))
        · (first | rfl | simp [V.pureT, V.pure, V.pures, pures_lo, pures_sls])
        (first | refine ev_all (fu := [(), (), (), (), (), (), (), ()]) ?_ | refine evw_all (md := []) (fu := [(), (), (), (), (), (), (), ()]) ?_); simp only [go_sem]; repeat (first | refine And.intro (by omega) ?_ | refine And.intro rfl ?_ | (simp (disch := omega) only [takeAll, Nat.min_eq_left, Nat.min_eq_right, if_pos, if_neg, getD_map, wrapI64, modIn, fdivE, tmodE, tdivE, decT, decF, beqT, beqF, bneT, bneF, Int.toNat_natCast]; try simp only [go_sem]))
        generalize dcs l (dkx l k) 3 = D at k2 b1 b2 b3 b4 k3 k4
        generalize dnx l k 3 = s at a1
        generalize dnx l (dkx l D.2) 5 = z at b3 b4
        generalize dkx l (dkx l D.2) = K at k4
        generalize g.acked + dnx l D.2 5 - 1 = n
        have hc : z = 0 ∨ z = 1 ∨ z = 2 ∨ z = 3 ∨ z = 4 := by omega
        rcases hc with rfl | rfl | rfl | rfl | rfl
        · skip
          repeat (first | refine And.intro (by omega) ?_ | refine And.intro rfl ?_ | refine ev_ctl rfl rfl ?_ | refine evr_nil ?_ | refine evw_nil (by kernel_rfl) ?_ | (simp (disch := omega) only [takeAll, Nat.min_eq_left, Nat.min_eq_right, if_pos, if_neg, getD_map, wrapI64, modIn, fdivE, tmodE, tdivE, decT, decF, beqT, beqF, bneT, bneF, Int.toNat_natCast]; try simp only [go_sem]) | refine ev_condTb rfl (by simp <;> omega) ?_ | refine ev_condFb rfl (by simp <;> omega) ?_ | ((first | refine ev_region ?_ | refine evr_go rfl ?_ | refine evw_go rfl ?_ | refine ev_dr0 mixed rfl (by kernel_rfl) ?_ | refine ev_dr1 mixed rfl (by kernel_rfl) ?_ | refine ev_dr2 mixed rfl (by kernel_rfl) ?_); simp only [go_sem]))
          (first | refine callD (roff_fn g s D.1) ?_ | refine callDw (roff_fn g s D.1) ?_); simp only [go_sem]
          repeat (first | refine And.intro (by omega) ?_ | refine And.intro rfl ?_ | refine ev_ctl rfl rfl ?_ | refine evr_nil ?_ | refine evw_nil (by kernel_rfl) ?_ | (simp (disch := omega) only [takeAll, Nat.min_eq_left, Nat.min_eq_right, if_pos, if_neg, getD_map, wrapI64, modIn, fdivE, tmodE, tdivE, decT, decF, beqT, beqF, bneT, bneF, Int.toNat_natCast]; try simp only [go_sem]) | refine ev_condTb rfl (by simp <;> omega) ?_ | refine ev_condFb rfl (by simp <;> omega) ?_ | ((first | refine ev_region ?_ | refine evr_go rfl ?_ | refine evw_go rfl ?_ | refine ev_dr0 mixed rfl (by kernel_rfl) ?_ | refine ev_dr1 mixed rfl (by kernel_rfl) ?_ | refine ev_dr2 mixed rfl (by kernel_rfl) ?_); simp only [go_sem]))
          refine ev_next 3 (hJ _ (⟨((sOff g s D.1).1, m, K, t + 1), okG_off hg, hm, k4, c1⟩) (by first | omega | (dsimp only; omega) | (simp; omega))) rfl (by simp) ?_ (by first | rfl | (simp only [go_sem]; done)) (by first | rfl | (simp only [go_sem]; done)) ?_
          · (first | rfl | (simp only [go_sem]; done) | (simp only [go_sem]; simp only []; done) | (simp only [go_sem]; simp []; done) | (simp []; done))
          · (simp only [go_sem]; (repeat' (refine And.intro ?_ ?_)) <;> first | exact trivial | with_reducible rfl | (simp only []; done) | (simp only []; with_reducible rfl) | (simp []; done) | (simp []; omega) | (simp only []; rfl) | skip)
        · skip
          repeat (first | refine And.intro (by omega) ?_ | refine And.intro rfl ?_ | refine ev_ctl rfl rfl ?_ | refine evr_nil ?_ | refine evw_nil (by kernel_rfl) ?_ | (simp (disch := omega) only [takeAll, Nat.min_eq_left, Nat.min_eq_right, if_pos, if_neg, getD_map, wrapI64, modIn, fdivE, tmodE, tdivE, decT, decF, beqT, beqF, bneT, bneF, Int.toNat_natCast]; try simp only [go_sem]) | refine ev_condTb rfl (by simp <;> omega) ?_ | refine ev_condFb rfl (by simp <;> omega) ?_ | ((first | refine ev_region ?_ | refine evr_go rfl ?_ | refine evw_go rfl ?_ | refine ev_dr0 mixed rfl (by kernel_rfl) ?_ | refine ev_dr1 mixed rfl (by kernel_rfl) ?_ | refine ev_dr2 mixed rfl (by kernel_rfl) ?_); simp only [go_sem]))
          (first | refine callD (roff_fn g s D.1) ?_ | refine callDw (roff_fn g s D.1) ?_); simp only [go_sem]
          repeat (first | refine And.intro (by omega) ?_ | refine And.intro rfl ?_ | refine ev_ctl rfl rfl ?_ | refine evr_nil ?_ | refine evw_nil (by kernel_rfl) ?_ | (simp (disch := omega) only [takeAll, Nat.min_eq_left, Nat.min_eq_right, if_pos, if_neg, getD_map, wrapI64, modIn, fdivE, tmodE, tdivE, decT, decF, beqT, beqF, bneT, bneF, Int.toNat_natCast]; try simp only [go_sem]) | refine ev_condTb rfl (by simp <;> omega) ?_ | refine ev_condFb rfl (by simp <;> omega) ?_ | ((first | refine ev_region ?_ | refine evr_go rfl ?_ | refine evw_go rfl ?_ | refine ev_dr0 mixed rfl (by kernel_rfl) ?_ | refine ev_dr1 mixed rfl (by kernel_rfl) ?_ | refine ev_dr2 mixed rfl (by kernel_rfl) ?_); simp only [go_sem]))
          refine ev_next 3 (hJ _ (⟨((sOff g s D.1).1, m, K, t + 1), okG_off hg, hm, k4, c1⟩) (by first | omega | (dsimp only; omega) | (simp; omega))) rfl (by simp) ?_ (by first | rfl | (simp only [go_sem]; done)) (by first | rfl | (simp only [go_sem]; done)) ?_
          · (first | rfl | (simp only [go_sem]; done) | (simp only [go_sem]; simp only []; done) | (simp only [go_sem]; simp []; done) | (simp []; done))
          · (simp only [go_sem]; (repeat' (refine And.intro ?_ ?_)) <;> first | exact trivial | with_reducible rfl | (simp only []; done) | (simp only []; with_reducible rfl) | (simp []; done) | (simp []; omega) | (simp only []; rfl) | skip)
        · skip
          repeat (first | refine And.intro (by omega) ?_ | refine And.intro rfl ?_ | refine ev_ctl rfl rfl ?_ | refine evr_nil ?_ | refine evw_nil (by kernel_rfl) ?_ | (simp (disch := omega) only [takeAll, Nat.min_eq_left, Nat.min_eq_right, if_pos, if_neg, getD_map, wrapI64, modIn, fdivE, tmodE, tdivE, decT, decF, beqT, beqF, bneT, bneF, Int.toNat_natCast]; try simp only [go_sem]) | refine ev_condTb rfl (by simp <;> omega) ?_ | refine ev_condFb rfl (by simp <;> omega) ?_ | ((first | refine ev_region ?_ | refine evr_go rfl ?_ | refine evw_go rfl ?_ | refine ev_dr0 mixed rfl (by kernel_rfl) ?_ | refine ev_dr1 mixed rfl (by kernel_rfl) ?_ | refine ev_dr2 mixed rfl (by kernel_rfl) ?_); simp only [go_sem]))
          (first | refine callD (rfree_fn g n) ?_ | refine callDw (rfree_fn g n) ?_); simp only [go_sem]
          repeat (first | refine And.intro (by omega) ?_ | refine And.intro rfl ?_ | refine ev_ctl rfl rfl ?_ | refine evr_nil ?_ | refine evw_nil (by kernel_rfl) ?_ | (simp (disch := omega) only [takeAll, Nat.min_eq_left, Nat.min_eq_right, if_pos, if_neg, getD_map, wrapI64, modIn, fdivE, tmodE, tdivE, decT, decF, beqT, beqF, bneT, bneF, Int.toNat_natCast]; try simp only [go_sem]) | refine ev_condTb rfl (by simp <;> omega) ?_ | refine ev_condFb rfl (by simp <;> omega) ?_ | ((first | refine ev_region ?_ | refine evr_go rfl ?_ | refine evw_go rfl ?_ | refine ev_dr0 mixed rfl (by kernel_rfl) ?_ | refine ev_dr1 mixed rfl (by kernel_rfl) ?_ | refine ev_dr2 mixed rfl (by kernel_rfl) ?_); simp only [go_sem]))
          refine ev_next 3 (hJ _ (⟨((sFree g n).1, m, K, t + 1), okG_free hg, hm, k4, c1⟩) (by first | omega | (dsimp only; omega) | (simp; omega))) rfl (by simp) ?_ (by first | rfl | (simp only [go_sem]; done)) (by first | rfl | (simp only [go_sem]; done)) ?_
          · (first | rfl | (simp only [go_sem]; done) | (simp only [go_sem]; simp only []; done) | (simp only [go_sem]; simp []; done) | (simp []; done))
          · (simp only [go_sem]; (repeat' (refine And.intro ?_ ?_)) <;> first | exact trivial | with_reducible rfl | (simp only []; done) | (simp only []; with_reducible rfl) | (simp []; done) | (simp []; omega) | (simp only []; rfl) | skip)
        · skip
          repeat (first | refine And.intro (by omega) ?_ | refine And.intro rfl ?_ | refine ev_ctl rfl rfl ?_ | refine evr_nil ?_ | refine evw_nil (by kernel_rfl) ?_ | (simp (disch := omega) only [takeAll, Nat.min_eq_left, Nat.min_eq_right, if_pos, if_neg, getD_map, wrapI64, modIn, fdivE, tmodE, tdivE, decT, decF, beqT, beqF, bneT, bneF, Int.toNat_natCast]; try simp only [go_sem]) | refine ev_condTb rfl (by simp <;> omega) ?_ | refine ev_condFb rfl (by simp <;> omega) ?_ | ((first | refine ev_region ?_ | refine evr_go rfl ?_ | refine evw_go rfl ?_ | refine ev_dr0 mixed rfl (by kernel_rfl) ?_ | refine ev_dr1 mixed rfl (by kernel_rfl) ?_ | refine ev_dr2 mixed rfl (by kernel_rfl) ?_); simp only [go_sem]))
          (first | refine callD (rack_fn g n) ?_ | refine callDw (rack_fn g n) ?_); simp only [go_sem]
          repeat (first | refine And.intro (by omega) ?_ | refine And.intro rfl ?_ | refine ev_ctl rfl rfl ?_ | refine evr_nil ?_ | refine evw_nil (by kernel_rfl) ?_ | (simp (disch := omega) only [takeAll, Nat.min_eq_left, Nat.min_eq_right, if_pos, if_neg, getD_map, wrapI64, modIn, fdivE, tmodE, tdivE, decT, decF, beqT, beqF, bneT, bneF, Int.toNat_natCast]; try simp only [go_sem]) | refine ev_condTb rfl (by simp <;> omega) ?_ | refine ev_condFb rfl (by simp <;> omega) ?_ | ((first | refine ev_region ?_ | refine evr_go rfl ?_ | refine evw_go rfl ?_ | refine ev_dr0 mixed rfl (by kernel_rfl) ?_ | refine ev_dr1 mixed rfl (by kernel_rfl) ?_ | refine ev_dr2 mixed rfl (by kernel_rfl) ?_); simp only [go_sem]))
          refine ev_next 3 (hJ _ (⟨((sAck g n).1, m, K, t + 1), okG_ack hg, hm, k4, c1⟩) (by first | omega | (dsimp only; omega) | (simp; omega))) rfl (by simp) ?_ (by first | rfl | (simp only [go_sem]; done)) (by first | rfl | (simp only [go_sem]; done)) ?_
          · (first | rfl | (simp only [go_sem]; done) | (simp only [go_sem]; simp only []; done) | (simp only [go_sem]; simp []; done) | (simp []; done))
          · (simp only [go_sem]; (repeat' (refine And.intro ?_ ?_)) <;> first | exact trivial | with_reducible rfl | (simp only []; done) | (simp only []; with_reducible rfl) | (simp []; done) | (simp []; omega) | (simp only []; rfl) | skip)
        · have hJ1 := hJ
          repeat (first | refine And.intro (by omega) ?_ | refine And.intro rfl ?_ | refine ev_ctl rfl rfl ?_ | refine evr_nil ?_ | refine evw_nil (by kernel_rfl) ?_ | (simp (disch := omega) only [takeAll, Nat.min_eq_left, Nat.min_eq_right, if_pos, if_neg, getD_map, wrapI64, modIn, fdivE, tmodE, tdivE, decT, decF, beqT, beqF, bneT, bneF, Int.toNat_natCast]; try simp only [go_sem]) | refine ev_condTb rfl (by simp <;> omega) ?_ | refine ev_condFb rfl (by simp <;> omega) ?_ | ((first | refine ev_region ?_ | refine evr_go rfl ?_ | refine evw_go rfl ?_ | refine ev_dr0 mixed rfl (by kernel_rfl) ?_ | refine ev_dr1 mixed rfl (by kernel_rfl) ?_ | refine ev_dr2 mixed rfl (by kernel_rfl) ?_); simp only [go_sem]))
          refine ev_loopK [3, 4, 5, 6] (fun p : {p : Mailbox × Nat × Nat // okM p.1 ∧ p.2.1 ≤ l.length ∧ p.2.2 ≤ g.held.length} => [(10, .int .i64 p.1.2.2)]) (fun p => [⟨.box false 77, true, 0, deckV l p.1.2.1⟩, ⟨.box false 44, true, 0, .agg (gwL false g)⟩, ⟨.box false 47, true, 0, .agg (mbL false p.1.1)⟩]) (fun p => g.held.length - p.1.2.2) (⟨(m, K, 0), hm, k4, by simp⟩) 3 (by simp only [go_sem]; rfl) ?_ (by first | rfl | (simp only [go_sem]; done)) (by simp) (by first | rfl | (simp only [go_sem]; done)) (by first | rfl | (simp only [go_sem]; done)) (by first | rfl | (simp only [go_sem]; done)) ?_
          · (simp only [go_sem]; (try simp []); done)
          intro J hJ
          rintro ⟨⟨m2, j, i⟩, hm2, hj, hi⟩
          dsimp only at hm2 hj hi ⊢
          by_cases c3 : i < g.held.length
          · have hd : g.held[i]!.data.length ≤ 16 := (hg.2 i c3).2.2.2
            repeat (first | refine And.intro (by omega) ?_ | refine And.intro rfl ?_ | refine ev_ctl rfl rfl ?_ | refine evr_nil ?_ | refine evw_nil (by kernel_rfl) ?_ | (simp (disch := omega) only [takeAll, Nat.min_eq_left, Nat.min_eq_right, if_pos, if_neg, getD_map, wrapI64, modIn, fdivE, tmodE, tdivE, decT, decF, beqT, beqF, bneT, bneF, Int.toNat_natCast]; try simp only [go_sem]) | refine ev_condTb rfl (by simp <;> omega) ?_ | refine ev_condFb rfl (by simp <;> omega) ?_ | ((first | refine ev_region ?_ | refine evr_go rfl ?_ | refine evw_go rfl ?_ | refine ev_dr0 mixed rfl (by kernel_rfl) ?_ | refine ev_dr1 mixed rfl (by kernel_rfl) ?_ | refine ev_dr2 mixed rfl (by kernel_rfl) ?_); simp only [go_sem]))
            (first | apply st_callMD (next_fn l j 4 hj (by omega)) rfl | apply evw_callM (next_fn l j 4 hj (by omega)) rfl)
            · (simp only [go_sem]; rfl)
            · rfl
            · (first | rfl | (simp only [go_sem]; done))
            · (first | rfl | (simp only [go_sem]; done) | (simp only [go_sem]; rfl))
            · (first | rfl | (simp only [go_sem]; done))
            · (first | rfl | (simp only [go_sem]; done) | (simp only [go_sem]; rfl))
            · (first | rfl | simp [V.pureT, V.pure, V.pures, pures_lo, pures_sls])
            (first | refine ev_all (fu := [(), (), (), (), (), (), (), ()]) ?_ | refine evw_all (md := []) (fu := [(), (), (), (), (), (), (), ()]) ?_); simp only [go_sem]; repeat (first | refine And.intro (by omega) ?_ | refine And.intro rfl ?_ | (simp (disch := omega) only [takeAll, Nat.min_eq_left, Nat.min_eq_right, if_pos, if_neg, getD_map, wrapI64, modIn, fdivE, tmodE, tdivE, decT, decF, beqT, beqF, bneT, bneF, Int.toNat_natCast]; try simp only [go_sem]))
            repeat (first | refine And.intro (by omega) ?_ | refine And.intro rfl ?_ | refine ev_ctl rfl rfl ?_ | refine evr_nil ?_ | refine evw_nil (by kernel_rfl) ?_ | (simp (disch := omega) only [takeAll, Nat.min_eq_left, Nat.min_eq_right, if_pos, if_neg, getD_map, wrapI64, modIn, fdivE, tmodE, tdivE, decT, decF, beqT, beqF, bneT, bneF, Int.toNat_natCast]; try simp only [go_sem]) | refine ev_condTb rfl (by simp <;> omega) ?_ | refine ev_condFb rfl (by simp <;> omega) ?_ | ((first | refine ev_region ?_ | refine evr_go rfl ?_ | refine evw_go rfl ?_ | refine ev_dr0 mixed rfl (by kernel_rfl) ?_ | refine ev_dr1 mixed rfl (by kernel_rfl) ?_ | refine ev_dr2 mixed rfl (by kernel_rfl) ?_); simp only [go_sem]))
            (first | refine callD (agtake_fn m2 (dnx l j 4) g.held[i]! hm2.fit (by omega)) ?_ | refine callDw (agtake_fn m2 (dnx l j 4) g.held[i]! hm2.fit (by omega)) ?_); simp only [go_sem]
            repeat (first | refine And.intro (by omega) ?_ | refine And.intro rfl ?_ | refine ev_ctl rfl rfl ?_ | refine evr_nil ?_ | refine evw_nil (by kernel_rfl) ?_ | (simp (disch := omega) only [takeAll, Nat.min_eq_left, Nat.min_eq_right, if_pos, if_neg, getD_map, wrapI64, modIn, fdivE, tmodE, tdivE, decT, decF, beqT, beqF, bneT, bneF, Int.toNat_natCast]; try simp only [go_sem]) | refine ev_condTb rfl (by simp <;> omega) ?_ | refine ev_condFb rfl (by simp <;> omega) ?_ | ((first | refine ev_region ?_ | refine evr_go rfl ?_ | refine evw_go rfl ?_ | refine ev_dr0 mixed rfl (by kernel_rfl) ?_ | refine ev_dr1 mixed rfl (by kernel_rfl) ?_ | refine ev_dr2 mixed rfl (by kernel_rfl) ?_); simp only [go_sem]))
            (first | refine callD (rtake_fn m2 (dnx l j 4) g.held[i]! hm2.fit (by omega)) ?_ | refine callDw (rtake_fn m2 (dnx l j 4) g.held[i]! hm2.fit (by omega)) ?_); simp only [go_sem]
            repeat (first | refine And.intro (by omega) ?_ | refine And.intro rfl ?_ | refine ev_ctl rfl rfl ?_ | refine evr_nil ?_ | refine evw_nil (by kernel_rfl) ?_ | (simp (disch := omega) only [takeAll, Nat.min_eq_left, Nat.min_eq_right, if_pos, if_neg, getD_map, wrapI64, modIn, fdivE, tmodE, tdivE, decT, decF, beqT, beqF, bneT, bneF, Int.toNat_natCast]; try simp only [go_sem]) | refine ev_condTb rfl (by simp <;> omega) ?_ | refine ev_condFb rfl (by simp <;> omega) ?_ | ((first | refine ev_region ?_ | refine evr_go rfl ?_ | refine evw_go rfl ?_ | refine ev_dr0 mixed rfl (by kernel_rfl) ?_ | refine ev_dr1 mixed rfl (by kernel_rfl) ?_ | refine ev_dr2 mixed rfl (by kernel_rfl) ?_); simp only [go_sem]))
            refine ev_next 3 (hJ _ (⟨((sTake m2 (dnx l j 4) g.held[i]!).1, dkx l j, i + 1), okM_take hm2 hd, dkx_le hj, c3⟩) (by first | omega | (dsimp only; omega) | (simp; omega))) rfl (by simp) ?_ (by first | rfl | (simp only [go_sem]; done)) (by first | rfl | (simp only [go_sem]; done)) ?_
            · (first | rfl | (simp only [go_sem]; done) | (simp only [go_sem]; simp only []; done) | (simp only [go_sem]; simp []; done) | (simp []; done))
            · (simp only [go_sem]; (repeat' (refine And.intro ?_ ?_)) <;> first | exact trivial | with_reducible rfl | (simp only []; done) | (simp only []; with_reducible rfl) | (simp []; done) | (simp []; omega) | (simp only []; rfl) | skip)
          · obtain rfl : i = g.held.length := by omega
            have hJ := hJ1
            repeat (first | refine And.intro (by omega) ?_ | refine And.intro rfl ?_ | refine ev_ctl rfl rfl ?_ | refine evr_nil ?_ | refine evw_nil (by kernel_rfl) ?_ | (simp (disch := omega) only [takeAll, Nat.min_eq_left, Nat.min_eq_right, if_pos, if_neg, getD_map, wrapI64, modIn, fdivE, tmodE, tdivE, decT, decF, beqT, beqF, bneT, bneF, Int.toNat_natCast]; try simp only [go_sem]) | refine ev_condTb rfl (by simp <;> omega) ?_ | refine ev_condFb rfl (by simp <;> omega) ?_ | ((first | refine ev_region ?_ | refine evr_go rfl ?_ | refine evw_go rfl ?_ | refine ev_dr0 mixed rfl (by kernel_rfl) ?_ | refine ev_dr1 mixed rfl (by kernel_rfl) ?_ | refine ev_dr2 mixed rfl (by kernel_rfl) ?_); simp only [go_sem]))
            refine ev_next 3 (hJ _ (⟨(g, m2, j, t + 1), hg, hm2, hj, c1⟩) (by first | omega | (dsimp only; omega) | (simp; omega))) rfl (by simp) ?_ (by first | rfl | (simp only [go_sem]; done)) (by first | rfl | (simp only [go_sem]; done)) ?_
            · (first | rfl | (simp only [go_sem]; done) | (simp only [go_sem]; simp only []; done) | (simp only [go_sem]; simp []; done) | (simp []; done))
            · (simp only [go_sem]; (repeat' (refine And.intro ?_ ?_)) <;> first | exact trivial | with_reducible rfl | (simp only []; done) | (simp only []; with_reducible rfl) | (simp []; done) | (simp []; omega) | (simp only []; rfl) | skip)
      · skip
        repeat (first | refine And.intro (by omega) ?_ | refine And.intro rfl ?_ | refine ev_ctl rfl rfl ?_ | refine evr_nil ?_ | refine evw_nil (by kernel_rfl) ?_ | (simp (disch := omega) only [takeAll, Nat.min_eq_left, Nat.min_eq_right, if_pos, if_neg, getD_map, wrapI64, modIn, fdivE, tmodE, tdivE, decT, decF, beqT, beqF, bneT, bneF, Int.toNat_natCast]; try simp only [go_sem]) | refine ev_condTb rfl (by simp <;> omega) ?_ | refine ev_condFb rfl (by simp <;> omega) ?_ | ((first | refine ev_region ?_ | refine evr_go rfl ?_ | refine evw_go rfl ?_ | refine ev_dr0 mixed rfl (by kernel_rfl) ?_ | refine ev_dr1 mixed rfl (by kernel_rfl) ?_ | refine ev_dr2 mixed rfl (by kernel_rfl) ?_); simp only [go_sem]))
        (first | apply st_callMD (left_fn l k hk) rfl | apply evw_callM (left_fn l k hk) rfl)
        · (simp only [go_sem]; rfl)
        · rfl
        · (first | rfl | (simp only [go_sem]; done))
        · (first | rfl | (simp only [go_sem]; done) | (simp only [go_sem]; rfl))
        · (first | rfl | (simp only [go_sem]; done))
        · (first | rfl | (simp only [go_sem]; done) | (simp only [go_sem]; rfl))
        · (first | rfl | simp [V.pureT, V.pure, V.pures, pures_lo, pures_sls])
        (first | refine ev_all (fu := [(), (), (), (), (), (), (), ()]) ?_ | refine evw_all (md := []) (fu := [(), (), (), (), (), (), (), ()]) ?_); simp only [go_sem]; repeat (first | refine And.intro (by omega) ?_ | refine And.intro rfl ?_ | (simp (disch := omega) only [takeAll, Nat.min_eq_left, Nat.min_eq_right, if_pos, if_neg, getD_map, wrapI64, modIn, fdivE, tmodE, tdivE, decT, decF, beqT, beqF, bneT, bneF, Int.toNat_natCast]; try simp only [go_sem]))
        repeat (first | refine And.intro (by omega) ?_ | refine And.intro rfl ?_ | refine ev_ctl rfl rfl ?_ | refine evr_nil ?_ | refine evw_nil (by kernel_rfl) ?_ | (simp (disch := omega) only [takeAll, Nat.min_eq_left, Nat.min_eq_right, if_pos, if_neg, getD_map, wrapI64, modIn, fdivE, tmodE, tdivE, decT, decF, beqT, beqF, bneT, bneF, Int.toNat_natCast]; try simp only [go_sem]) | refine ev_condTb rfl (by simp <;> omega) ?_ | refine ev_condFb rfl (by simp <;> omega) ?_ | ((first | refine ev_region ?_ | refine evr_go rfl ?_ | refine evw_go rfl ?_ | refine ev_dr0 mixed rfl (by kernel_rfl) ?_ | refine ev_dr1 mixed rfl (by kernel_rfl) ?_ | refine ev_dr2 mixed rfl (by kernel_rfl) ?_); simp only [go_sem]))
        (first | refine callD (awake38_fn) ?_ | refine callDw (awake38_fn) ?_); simp only [go_sem]
        repeat (first | refine And.intro (by omega) ?_ | refine And.intro rfl ?_ | refine ev_ctl rfl rfl ?_ | refine evr_nil ?_ | refine evw_nil (by kernel_rfl) ?_ | (simp (disch := omega) only [takeAll, Nat.min_eq_left, Nat.min_eq_right, if_pos, if_neg, getD_map, wrapI64, modIn, fdivE, tmodE, tdivE, decT, decF, beqT, beqF, bneT, bneF, Int.toNat_natCast]; try simp only [go_sem]) | refine ev_condTb rfl (by simp <;> omega) ?_ | refine ev_condFb rfl (by simp <;> omega) ?_ | ((first | refine ev_region ?_ | refine evr_go rfl ?_ | refine evw_go rfl ?_ | refine ev_dr0 mixed rfl (by kernel_rfl) ?_ | refine ev_dr1 mixed rfl (by kernel_rfl) ?_ | refine ev_dr2 mixed rfl (by kernel_rfl) ?_); simp only [go_sem]))
        refine ret m_runs_ok [] ?_; (first | (simp only [go_sem]; done) | (simp only [go_sem]; rfl))
    · skip
      repeat (first | refine And.intro (by omega) ?_ | refine And.intro rfl ?_ | refine ev_ctl rfl rfl ?_ | refine evr_nil ?_ | refine evw_nil (by kernel_rfl) ?_ | (simp (disch := omega) only [takeAll, Nat.min_eq_left, Nat.min_eq_right, if_pos, if_neg, getD_map, wrapI64, modIn, fdivE, tmodE, tdivE, decT, decF, beqT, beqF, bneT, bneF, Int.toNat_natCast]; try simp only [go_sem]) | refine ev_condTb rfl (by simp <;> omega) ?_ | refine ev_condFb rfl (by simp <;> omega) ?_ | ((first | refine ev_region ?_ | refine evr_go rfl ?_ | refine evw_go rfl ?_ | refine ev_dr0 mixed rfl (by kernel_rfl) ?_ | refine ev_dr1 mixed rfl (by kernel_rfl) ?_ | refine ev_dr2 mixed rfl (by kernel_rfl) ?_); simp only [go_sem]))
      (first | refine callD (awake38_fn) ?_ | refine callDw (awake38_fn) ?_); simp only [go_sem]
      repeat (first | refine And.intro (by omega) ?_ | refine And.intro rfl ?_ | refine ev_ctl rfl rfl ?_ | refine evr_nil ?_ | refine evw_nil (by kernel_rfl) ?_ | (simp (disch := omega) only [takeAll, Nat.min_eq_left, Nat.min_eq_right, if_pos, if_neg, getD_map, wrapI64, modIn, fdivE, tmodE, tdivE, decT, decF, beqT, beqF, bneT, bneF, Int.toNat_natCast]; try simp only [go_sem]) | refine ev_condTb rfl (by simp <;> omega) ?_ | refine ev_condFb rfl (by simp <;> omega) ?_ | ((first | refine ev_region ?_ | refine evr_go rfl ?_ | refine evw_go rfl ?_ | refine ev_dr0 mixed rfl (by kernel_rfl) ?_ | refine ev_dr1 mixed rfl (by kernel_rfl) ?_ | refine ev_dr2 mixed rfl (by kernel_rfl) ?_); simp only [go_sem]))
      refine ret m_runs_ok [] ?_; (first | (simp only [go_sem]; done) | (simp only [go_sem]; rfl))
  · skip
    refine Fnc.intro m_runs_ok (by simp) fun W S => ?_
    unfold m_runs
    simp only [ents, Nat.zero_add, Nat.reduceAdd]
    repeat (first | refine And.intro (by omega) ?_ | refine And.intro rfl ?_ | refine ev_ctl rfl rfl ?_ | refine evr_nil ?_ | refine evw_nil (by kernel_rfl) ?_ | (simp (disch := omega) only [takeAll, Nat.min_eq_left, Nat.min_eq_right, if_pos, if_neg, getD_map, wrapI64, modIn, fdivE, tmodE, tdivE, decT, decF, beqT, beqF, bneT, bneF, Int.toNat_natCast]; try simp only [go_sem]) | refine ev_condTb rfl (by simp <;> omega) ?_ | refine ev_condFb rfl (by simp <;> omega) ?_ | ((first | refine ev_region ?_ | refine evr_go rfl ?_ | refine evw_go rfl ?_ | refine ev_dr0 mixed rfl (by kernel_rfl) ?_ | refine ev_dr1 mixed rfl (by kernel_rfl) ?_ | refine ev_dr2 mixed rfl (by kernel_rfl) ?_); simp only [go_sem]))
    (first | refine callD (few_fn l) ?_ | refine callDw (few_fn l) ?_); simp only [go_sem]
    repeat (first | refine And.intro (by omega) ?_ | refine And.intro rfl ?_ | refine ev_ctl rfl rfl ?_ | refine evr_nil ?_ | refine evw_nil (by kernel_rfl) ?_ | (simp (disch := omega) only [takeAll, Nat.min_eq_left, Nat.min_eq_right, if_pos, if_neg, getD_map, wrapI64, modIn, fdivE, tmodE, tdivE, decT, decF, beqT, beqF, bneT, bneF, Int.toNat_natCast]; try simp only [go_sem]) | refine ev_condTb rfl (by simp <;> omega) ?_ | refine ev_condFb rfl (by simp <;> omega) ?_ | ((first | refine ev_region ?_ | refine evr_go rfl ?_ | refine evw_go rfl ?_ | refine ev_dr0 mixed rfl (by kernel_rfl) ?_ | refine ev_dr1 mixed rfl (by kernel_rfl) ?_ | refine ev_dr2 mixed rfl (by kernel_rfl) ?_); simp only [go_sem]))
    (first | refine callD (awake38_fn) ?_ | refine callDw (awake38_fn) ?_); simp only [go_sem]
    repeat (first | refine And.intro (by omega) ?_ | refine And.intro rfl ?_ | refine ev_ctl rfl rfl ?_ | refine evr_nil ?_ | refine evw_nil (by kernel_rfl) ?_ | (simp (disch := omega) only [takeAll, Nat.min_eq_left, Nat.min_eq_right, if_pos, if_neg, getD_map, wrapI64, modIn, fdivE, tmodE, tdivE, decT, decF, beqT, beqF, bneT, bneF, Int.toNat_natCast]; try simp only [go_sem]) | refine ev_condTb rfl (by simp <;> omega) ?_ | refine ev_condFb rfl (by simp <;> omega) ?_ | ((first | refine ev_region ?_ | refine evr_go rfl ?_ | refine evw_go rfl ?_ | refine ev_dr0 mixed rfl (by kernel_rfl) ?_ | refine ev_dr1 mixed rfl (by kernel_rfl) ?_ | refine ev_dr2 mixed rfl (by kernel_rfl) ?_); simp only [go_sem]))
    refine ret m_runs_ok [] ?_; (first | (simp only [go_sem]; done) | (simp only [go_sem]; rfl))
theorem runs_law {a0 : List Int} {v0 : Value} (W : World) (e0 : (Sh.slice (Sh.int .i64)).rd (old W) W a0 [v0]) :
    Calls Try.prog 6 #[v0] W fun e w' => e = .returned (.bool true) ∧ Below W.heap.size W w' :=
  Fnc.law (runs_fn a0) (RdTs.slice enc_i64s e0 RdTs.nil')
end Go.Proofs.Ytdjjhajkpfiagaa
