/- Gateways: copies of lists of outputs; checks. -/
import Derived.Test.YtdjjhajkpfiagaaH1
namespace Go.Proofs.Ytdjjhajkpfiagaa
open Go Go.RowKit Rdn Rdn.Dp
set_option linter.unusedVariables false
set_option linter.unusedSimpArgs false
def m_wouts : MC := .seq (.reg [⟨(some 2), none, (.p (.mov (.c (.nilS))))⟩])
 (.seq (.reg [⟨(some 6), none, (.p (.mov (.t 0)))⟩, ⟨(some 7), none, (.call 73 [(.t 6)])⟩, ⟨(some 3), none, (.p (.mov (.t 7)))⟩])
 (.seq (.seq (.reg [⟨(some 8), none, (.p (.mov (.t 3)))⟩, ⟨(some 9), none, (.p (.len (.t 8)))⟩, ⟨(some 10), none, (.p (.mov (.c (.int .i64 0))))⟩])
 (.block 0 (.loop (.seq (.reg [⟨(some 11), none, (.p (.bin 0 .lss (.t 10) (.t 9)))⟩])
 (.seq (.cond (.t 11) (.skip) (.exit 0))
 (.seq (.block 1 (.seq (.reg [⟨(some 12), none, (.p (.mov (.t 10)))⟩, ⟨(some 13), none, (.p (.idxA 3 (.t 8) (.t 10)))⟩, ⟨(some 14), none, (.p (.load true 3 (.t 13)))⟩, ⟨(some 5), none, (.m (.alloc 49 (.agg [.int .i64 0, .int .i64 0, .nilS])))⟩, ⟨(some 4), none, (.p (.mov (.t 12)))⟩, ⟨none, none, (.m (.store 3 (.t 5) (.t 14)))⟩])
 (.reg [⟨(some 15), none, (.p (.mov (.t 3)))⟩, ⟨(some 16), none, (.p (.mov (.t 4)))⟩, ⟨(some 17), none, (.p (.load true 3 (.t 5)))⟩, ⟨(some 18), none, (.call 63 [(.t 17)])⟩, ⟨(some 19), none, (.p (.idxA 3 (.t 15) (.t 16)))⟩, ⟨none, none, (.m (.store 3 (.t 19) (.t 18)))⟩])))
 (.reg [⟨(some 20), none, (.p (.bin 0 .add (.t 10) (.c (.int .i64 1))))⟩, ⟨(some 10), none, (.p (.mov (.t 20)))⟩])))))))
 (.seq (.reg [⟨(some 21), none, (.p (.mov (.t 3)))⟩, ⟨(some 2), none, (.p (.mov (.t 21)))⟩])
 (.ret))))
theorem m_wouts_ok : compF Try.prog 62 = some (22, m_wouts, [.mov (.t 2)]) := by kernel_rfl
def m_fits : MC := .seq (.reg [⟨(some 4), none, (.p (.mov (.c (.bool false))))⟩])
 (.seq (.reg [⟨(some 5), none, (.p (.mov (.t 0)))⟩, ⟨(some 6), none, (.p (.bin 0 .geq (.t 5) (.c (.int .i64 0))))⟩, ⟨(some 7), none, (.p (.mov (.t 6)))⟩, ⟨(some 8), (some (7, true)), (.p (.mov (.t 0)))⟩, ⟨(some 9), (some (7, true)), (.p (.bin 0 .lss (.t 8) (.c (.int .i64 2))))⟩, ⟨(some 10), none, (.p (.pick (.t 7) (.t 9) (.c (.bool false))))⟩, ⟨(some 11), none, (.p (.mov (.t 10)))⟩, ⟨(some 12), (some (11, true)), (.p (.mov (.t 1)))⟩, ⟨(some 13), (some (11, true)), (.p (.len (.t 12)))⟩, ⟨(some 14), (some (11, true)), (.p (.bin 0 .leq (.t 13) (.c (.int .i64 16))))⟩, ⟨(some 15), none, (.p (.pick (.t 11) (.t 14) (.c (.bool false))))⟩, ⟨(some 4), none, (.p (.mov (.t 15)))⟩])
 (.ret))
theorem m_fits_ok : compF Try.prog 60 = some (16, m_fits, [.mov (.t 4)]) := by kernel_rfl
def m_wchk : MC := .seq (.reg [⟨(some 1), none, (.m (.box 44 (.t 0)))⟩, ⟨(some 2), none, (.p (.mov (.c (.int .i64 0))))⟩])
 (.seq (.seq (.reg [⟨(some 5), none, (.p (.fieldA 2 2 (.t 1)))⟩, ⟨(some 6), none, (.p (.load false 1 (.t 5)))⟩, ⟨(some 7), none, (.p (.bin 0 .lss (.t 6) (.c (.int .i64 0))))⟩, ⟨(some 8), none, (.p (.mov (.t 7)))⟩, ⟨(some 9), (some (8, false)), (.p (.fieldA 2 2 (.t 1)))⟩, ⟨(some 10), (some (8, false)), (.p (.load false 1 (.t 9)))⟩, ⟨(some 11), (some (8, false)), (.p (.fieldA 1 1 (.t 1)))⟩, ⟨(some 12), (some (8, false)), (.p (.load false 1 (.t 11)))⟩, ⟨(some 13), (some (8, false)), (.p (.bin 0 .gtr (.t 10) (.t 12)))⟩, ⟨(some 14), none, (.p (.pick (.t 8) (.c (.bool true)) (.t 13)))⟩, ⟨(some 15), none, (.p (.mov (.t 14)))⟩, ⟨(some 16), (some (15, false)), (.p (.fieldA 1 1 (.t 1)))⟩, ⟨(some 17), (some (15, false)), (.p (.load false 1 (.t 16)))⟩, ⟨(some 18), (some (15, false)), (.p (.fieldA 0 0 (.t 1)))⟩, ⟨(some 19), (some (15, false)), (.p (.load false 1 (.t 18)))⟩, ⟨(some 20), (some (15, false)), (.p (.bin 0 .gtr (.t 17) (.t 19)))⟩, ⟨(some 21), none, (.p (.pick (.t 15) (.c (.bool true)) (.t 20)))⟩, ⟨(some 22), none, (.p (.mov (.t 21)))⟩, ⟨(some 23), (some (22, false)), (.p (.fieldA 0 0 (.t 1)))⟩, ⟨(some 24), (some (22, false)), (.p (.load false 1 (.t 23)))⟩, ⟨(some 25), (some (22, false)), (.p (.bin 0 .gtr (.t 24) (.c (.int .i64 200))))⟩, ⟨(some 26), none, (.p (.pick (.t 22) (.c (.bool true)) (.t 25)))⟩, ⟨(some 27), none, (.p (.mov (.t 26)))⟩, ⟨(some 28), (some (27, false)), (.p (.fieldA 3 3 (.t 1)))⟩, ⟨(some 29), (some (27, false)), (.p (.load false 1 (.t 28)))⟩, ⟨(some 30), (some (27, false)), (.p (.len (.t 29)))⟩, ⟨(some 31), (some (27, false)), (.p (.bin 0 .gtr (.t 30) (.c (.int .i64 64))))⟩, ⟨(some 32), none, (.p (.pick (.t 27) (.c (.bool true)) (.t 31)))⟩, ⟨(some 33), none, (.p (.mov (.t 32)))⟩, ⟨(some 34), (some (33, false)), (.p (.fieldA 3 3 (.t 1)))⟩, ⟨(some 35), (some (33, false)), (.p (.load false 1 (.t 34)))⟩, ⟨(some 36), (some (33, false)), (.p (.len (.t 35)))⟩, ⟨(some 37), (some (33, false)), (.p (.fieldA 0 0 (.t 1)))⟩, ⟨(some 38), (some (33, false)), (.p (.load false 1 (.t 37)))⟩, ⟨(some 39), (some (33, false)), (.p (.fieldA 2 2 (.t 1)))⟩, ⟨(some 40), (some (33, false)), (.p (.load false 1 (.t 39)))⟩, ⟨(some 41), (some (33, false)), (.p (.bin 0 .sub (.t 38) (.t 40)))⟩, ⟨(some 42), (some (33, false)), (.p (.bin 0 .neq (.t 36) (.t 41)))⟩, ⟨(some 43), none, (.p (.pick (.t 33) (.c (.bool true)) (.t 42)))⟩])
 (.cond (.t 43) (.seq (.reg [⟨(some 2), none, (.p (.mov (.c (.int .i64 1))))⟩])
 (.ret)) (.skip)))
 (.seq (.seq (.reg [⟨(some 44), none, (.p (.fieldA 3 3 (.t 1)))⟩, ⟨(some 45), none, (.p (.load false 1 (.t 44)))⟩, ⟨(some 46), none, (.p (.len (.t 45)))⟩, ⟨(some 47), none, (.p (.mov (.c (.int .i64 0))))⟩])
 (.block 0 (.loop (.seq (.reg [⟨(some 48), none, (.p (.bin 0 .lss (.t 47) (.t 46)))⟩])
 (.seq (.cond (.t 48) (.skip) (.exit 0))
 (.seq (.block 1 (.seq (.reg [⟨(some 49), none, (.p (.mov (.t 47)))⟩, ⟨(some 50), none, (.p (.idxA 3 (.t 45) (.t 47)))⟩, ⟨(some 51), none, (.p (.load true 3 (.t 50)))⟩, ⟨(some 4), none, (.m (.alloc 49 (.agg [.int .i64 0, .int .i64 0, .nilS])))⟩, ⟨(some 3), none, (.p (.mov (.t 49)))⟩, ⟨none, none, (.m (.store 3 (.t 4) (.t 51)))⟩])
 (.seq (.reg [⟨(some 52), none, (.p (.fieldA 0 0 (.t 4)))⟩, ⟨(some 53), none, (.p (.load false 1 (.t 52)))⟩, ⟨(some 54), none, (.p (.fieldA 2 2 (.t 1)))⟩, ⟨(some 55), none, (.p (.load false 1 (.t 54)))⟩, ⟨(some 56), none, (.p (.mov (.t 3)))⟩, ⟨(some 57), none, (.p (.bin 0 .add (.t 55) (.t 56)))⟩, ⟨(some 58), none, (.p (.bin 0 .neq (.t 53) (.t 57)))⟩, ⟨(some 59), none, (.p (.mov (.t 58)))⟩, ⟨(some 60), (some (59, false)), (.p (.fieldA 1 1 (.t 4)))⟩, ⟨(some 61), (some (59, false)), (.p (.load false 1 (.t 60)))⟩, ⟨(some 62), (some (59, false)), (.p (.fieldA 2 2 (.t 4)))⟩, ⟨(some 63), (some (59, false)), (.p (.load false 1 (.t 62)))⟩, ⟨(some 64), (some (59, false)), (.call 60 [(.t 61), (.t 63)])⟩, ⟨(some 65), (some (59, false)), (.p (.un .not (.t 64)))⟩, ⟨(some 66), none, (.p (.pick (.t 59) (.c (.bool true)) (.t 65)))⟩])
 (.cond (.t 66) (.seq (.reg [⟨(some 2), none, (.p (.mov (.c (.int .i64 1))))⟩])
 (.ret)) (.skip)))))
 (.reg [⟨(some 67), none, (.p (.bin 0 .add (.t 47) (.c (.int .i64 1))))⟩, ⟨(some 47), none, (.p (.mov (.t 67)))⟩])))))))
 (.seq (.reg [⟨(some 2), none, (.p (.mov (.c (.int .i64 0))))⟩])
 (.ret))))
theorem m_wchk_ok : compF Try.prog 52 = some (68, m_wchk, [.mov (.t 2)]) := by kernel_rfl
/-- Outputs, of which the first p are copies. -/
def mixO (l : List Output) (p : Nat) : List V := (l.take p).map (outputV true) ++ (l.drop p).map (outputV false)
theorem mixO_zero (l : List Output) : mixO l 0 = l.map (outputV false) := rfl
theorem mixO_all (l : List Output) : mixO l l.length = l.map (outputV true) := by simp [mixO]
theorem mixO_len (l : List Output) (p : Nat) : (mixO l p).length = l.length := by simp [mixO]; omega
theorem mixO_get {l : List Output} {p : Nat} (h : p < l.length) : (mixO l p).getD p .junk = outputV false l[p]! := by
  unfold mixO
  have h1 : ((l.take p).map (outputV true)).length = p := by simp; omega
  rw [List.getD_eq_getElem?_getD, List.getElem?_append_right (by omega), h1, Nat.sub_self]
  simp [h]
theorem mixO_set {l : List Output} {p : Nat} (h : p < l.length) : (mixO l p).set p (outputV true l[p]!) = mixO l (p + 1) := by
  unfold mixO
  have h1 : ((l.take p).map (outputV true)).length = p := by simp; omega
  rw [List.set_append_right _ _ (by omega), h1, Nat.sub_self, List.drop_eq_getElem_cons h, take_snoc h, List.map_append, List.map_cons, List.set_cons_zero, List.map_cons, List.map_nil, List.append_assoc, List.singleton_append]
theorem mixO_pure (l : List Output) (p : Nat) : V.pures (mixO l p) = true := by
  unfold mixO
  rw [pures_appE, pures_lo, pures_lo]; rfl
theorem clout_mix (l : List Output) (hb : l.length ≤ 3518437208780) : Fnc Try.prog 73 [.sl false 3 (l.map (outputV false))] (fun x obs => x = .own 0 0 ∧ obs = [⟨.row 49, true, 0, .arr 3 (mixO l 0)⟩]) := clout_own l hb
theorem mixO_shift (m : Nat) (l : List Output) (p : Nat) : V.shifts m (mixO l p) = mixO l p := V.shifts_pure _ _ (mixO_pure l p)
attribute [local irreducible] mixO
attribute [local go_sem] mixO_pure mixO_len mixO_shift
set_option maxHeartbeats 4000000 in
theorem wouts_fn (l : List Output) (hb : l.length ≤ 3518437208780) (hd : shortO 5864062014634 l) : Fnc Try.prog 62 [.sl false 3 (l.map (outputV false))] (fun x obs => x = .own 0 0 ∧ obs = [⟨.row 49, true, 0, .arr 3 (l.map (outputV true))⟩]) := by
  refine Fnc.intro m_wouts_ok (by simp) fun W S => ?_
  unfold m_wouts
  simp only [ents, Nat.zero_add, Nat.reduceAdd]
  repeat (first | refine And.intro (by omega) ?_ | refine And.intro rfl ?_ | refine ev_ctl rfl rfl ?_ | refine evr_nil ?_ | refine evw_nil (by kernel_rfl) ?_ | (simp (disch := omega) only [takeAll, Nat.min_eq_left, Nat.min_eq_right, if_pos, if_neg, getD_map, wrapI64, modIn, fdivE, tmodE, tdivE, decT, decF, beqT, beqF, bneT, bneF, Int.toNat_natCast]; try simp only [go_sem]) | refine ev_condTb rfl (by simp <;> omega) ?_ | refine ev_condFb rfl (by simp <;> omega) ?_ | ((first | refine ev_region ?_ | refine evr_go rfl ?_ | refine evw_go rfl ?_ | refine ev_dr0 mixed rfl (by kernel_rfl) ?_ | refine ev_dr1 mixed rfl (by kernel_rfl) ?_ | refine ev_dr2 mixed rfl (by kernel_rfl) ?_); simp only [go_sem]))
  (first | refine callX (clout_mix l hb) ?_ | refine callXw (clout_mix l hb) ?_); simp only [go_sem]
  repeat (first | refine And.intro (by omega) ?_ | refine And.intro rfl ?_ | refine ev_ctl rfl rfl ?_ | refine evr_nil ?_ | refine evw_nil (by kernel_rfl) ?_ | (simp (disch := omega) only [takeAll, Nat.min_eq_left, Nat.min_eq_right, if_pos, if_neg, getD_map, wrapI64, modIn, fdivE, tmodE, tdivE, decT, decF, beqT, beqF, bneT, bneF, Int.toNat_natCast]; try simp only [go_sem]) | refine ev_condTb rfl (by simp <;> omega) ?_ | refine ev_condFb rfl (by simp <;> omega) ?_ | ((first | refine ev_region ?_ | refine evr_go rfl ?_ | refine evw_go rfl ?_ | refine ev_dr0 mixed rfl (by kernel_rfl) ?_ | refine ev_dr1 mixed rfl (by kernel_rfl) ?_ | refine ev_dr2 mixed rfl (by kernel_rfl) ?_); simp only [go_sem]))
  refine ev_loopK [3, 8, 9] (fun p : {p : Nat // p ≤ l.length} => [(10, .int .i64 p.1)]) (fun p => [⟨.row 49, true, 0, .arr 3 (mixO l p.1)⟩]) (fun p => l.length - p.1) (⟨0, by simp⟩) 1 (by simp only [go_sem]; rfl) ?_ (by first | rfl | (simp only [go_sem]; done)) (by simp) (by first | rfl | (simp only [go_sem]; done)) (by first | rfl | (simp only [go_sem]; done)) (by first | rfl | (simp only [go_sem]; done)) ?_
  · (simp only [go_sem]; (try simp [mixO_len]); done)
  intro J hJ
  rintro ⟨k, hk0⟩
  by_cases hlt : k < l.length
  · have hdk : l[k]!.data.length ≤ 5864062014634 := hd _ (mem_at hlt)
    have hg := mixO_get hlt
    have hs := mixO_set hlt
    repeat (first | refine And.intro (by omega) ?_ | refine And.intro rfl ?_ | refine ev_ctl rfl rfl ?_ | refine evr_nil ?_ | refine evw_nil (by kernel_rfl) ?_ | (simp (disch := omega) only [takeAll, Nat.min_eq_left, Nat.min_eq_right, if_pos, if_neg, getD_map, wrapI64, modIn, fdivE, tmodE, tdivE, decT, decF, beqT, beqF, bneT, bneF, Int.toNat_natCast]; try simp only [go_sem]) | refine ev_condTb rfl (by simp <;> omega) ?_ | refine ev_condFb rfl (by simp <;> omega) ?_ | ((first | refine ev_region ?_ | refine evr_go rfl ?_ | refine evw_go rfl ?_ | refine ev_dr0 mixed rfl (by kernel_rfl) ?_ | refine ev_dr1 mixed rfl (by kernel_rfl) ?_ | refine ev_dr2 mixed rfl (by kernel_rfl) ?_); simp only [go_sem]))
    simp only [hg]; simp only [go_sem]; repeat (first | refine And.intro (by omega) ?_ | refine And.intro rfl ?_ | (simp (disch := omega) only [takeAll, Nat.min_eq_left, Nat.min_eq_right, if_pos, if_neg, getD_map, wrapI64, modIn, fdivE, tmodE, tdivE, decT, decF, beqT, beqF, bneT, bneF, Int.toNat_natCast]; try simp only [go_sem]))
    repeat (first | refine And.intro (by omega) ?_ | refine And.intro rfl ?_ | refine ev_ctl rfl rfl ?_ | refine evr_nil ?_ | refine evw_nil (by kernel_rfl) ?_ | (simp (disch := omega) only [takeAll, Nat.min_eq_left, Nat.min_eq_right, if_pos, if_neg, getD_map, wrapI64, modIn, fdivE, tmodE, tdivE, decT, decF, beqT, beqF, bneT, bneF, Int.toNat_natCast]; try simp only [go_sem]) | refine ev_condTb rfl (by simp <;> omega) ?_ | refine ev_condFb rfl (by simp <;> omega) ?_ | ((first | refine ev_region ?_ | refine evr_go rfl ?_ | refine evw_go rfl ?_ | refine ev_dr0 mixed rfl (by kernel_rfl) ?_ | refine ev_dr1 mixed rfl (by kernel_rfl) ?_ | refine ev_dr2 mixed rfl (by kernel_rfl) ?_); simp only [go_sem]))
    (first | refine callD (wout_fn l[k]! hdk) ?_ | refine callDw (wout_fn l[k]! hdk) ?_); simp only [go_sem]
    repeat (first | refine And.intro (by omega) ?_ | refine And.intro rfl ?_ | refine ev_ctl rfl rfl ?_ | refine evr_nil ?_ | refine evw_nil (by kernel_rfl) ?_ | (simp (disch := omega) only [takeAll, Nat.min_eq_left, Nat.min_eq_right, if_pos, if_neg, getD_map, wrapI64, modIn, fdivE, tmodE, tdivE, decT, decF, beqT, beqF, bneT, bneF, Int.toNat_natCast]; try simp only [go_sem]) | refine ev_condTb rfl (by simp <;> omega) ?_ | refine ev_condFb rfl (by simp <;> omega) ?_ | ((first | refine ev_region ?_ | refine evr_go rfl ?_ | refine evw_go rfl ?_ | refine ev_dr0 mixed rfl (by kernel_rfl) ?_ | refine ev_dr1 mixed rfl (by kernel_rfl) ?_ | refine ev_dr2 mixed rfl (by kernel_rfl) ?_); simp only [go_sem]))
    simp only [hg]; simp only [go_sem]; repeat (first | refine And.intro (by omega) ?_ | refine And.intro rfl ?_ | (simp (disch := omega) only [takeAll, Nat.min_eq_left, Nat.min_eq_right, if_pos, if_neg, getD_map, wrapI64, modIn, fdivE, tmodE, tdivE, decT, decF, beqT, beqF, bneT, bneF, Int.toNat_natCast]; try simp only [go_sem]))
    repeat (first | refine And.intro (by omega) ?_ | refine And.intro rfl ?_ | refine ev_ctl rfl rfl ?_ | refine evr_nil ?_ | refine evw_nil (by kernel_rfl) ?_ | (simp (disch := omega) only [takeAll, Nat.min_eq_left, Nat.min_eq_right, if_pos, if_neg, getD_map, wrapI64, modIn, fdivE, tmodE, tdivE, decT, decF, beqT, beqF, bneT, bneF, Int.toNat_natCast]; try simp only [go_sem]) | refine ev_condTb rfl (by simp <;> omega) ?_ | refine ev_condFb rfl (by simp <;> omega) ?_ | ((first | refine ev_region ?_ | refine evr_go rfl ?_ | refine evw_go rfl ?_ | refine ev_dr0 mixed rfl (by kernel_rfl) ?_ | refine ev_dr1 mixed rfl (by kernel_rfl) ?_ | refine ev_dr2 mixed rfl (by kernel_rfl) ?_); simp only [go_sem]))
    refine ev_next 1 (hJ _ (⟨k + 1, hlt⟩) (by first | omega | (dsimp only; omega) | (simp; omega))) rfl (by simp) ?_ (by first | rfl | (simp only [go_sem]; done)) (by first | rfl | (simp only [go_sem]; done)) ?_
    · (first | rfl | (simp only [go_sem]; done) | (simp only [go_sem]; simp only [hs]; done) | (simp only [go_sem]; simp [hs]; done) | (simp [hs]; done))
    · (simp only [go_sem]; (repeat' (refine And.intro ?_ ?_)) <;> first | exact trivial | with_reducible rfl | (simp only [hs]; done) | (simp only [hs]; with_reducible rfl) | (simp [hs]; done) | (simp [hs]; omega) | (simp only [hs]; rfl) | skip)
  · obtain rfl : k = l.length := by omega
    repeat (first | refine And.intro (by omega) ?_ | refine And.intro rfl ?_ | refine ev_ctl rfl rfl ?_ | refine evr_nil ?_ | refine evw_nil (by kernel_rfl) ?_ | (simp (disch := omega) only [takeAll, Nat.min_eq_left, Nat.min_eq_right, if_pos, if_neg, getD_map, wrapI64, modIn, fdivE, tmodE, tdivE, decT, decF, beqT, beqF, bneT, bneF, Int.toNat_natCast]; try simp only [go_sem]) | refine ev_condTb rfl (by simp <;> omega) ?_ | refine ev_condFb rfl (by simp <;> omega) ?_ | ((first | refine ev_region ?_ | refine evr_go rfl ?_ | refine evw_go rfl ?_ | refine ev_dr0 mixed rfl (by kernel_rfl) ?_ | refine ev_dr1 mixed rfl (by kernel_rfl) ?_ | refine ev_dr2 mixed rfl (by kernel_rfl) ?_); simp only [go_sem]))
    refine ret m_wouts_ok [0] ?_; (first | (simp only [go_sem]; done) | (simp only [go_sem]; ((try dsimp only); (repeat' (refine And.intro ?_ ?_)) <;> first | with_reducible rfl | (simp only [go_sem]; done) | (simp only [go_sem]; rfl) | (simp only [mixO_all]; (try simp only [go_sem]); first | done | rfl) | (simp only [go_sem]; simp [mixO_all]; done) | (simp [mixO_all]; done) | rfl)))
set_option maxHeartbeats 4000000 in
theorem fits_fn (s : Int) (d : List Canon) : Fnc Try.prog 60 [.int .i64 s, .sl false 4 (d.map canonV)] (fun x obs => x = .bool (decide (0 ≤ s ∧ s < 2 ∧ d.length ≤ 16)) ∧ obs = []) := by
  refine Fnc.wf fun hw => ?_
  simp only [V.wfs, V.wf, List.length_map] at hw
  have hm := hw.2.1.2
  clear hw
  by_cases c1 : 0 ≤ s
  · by_cases c2 : s < 2
    · have e : decide (0 ≤ s ∧ s < 2 ∧ d.length ≤ 16) = decide ((d.length : Int) ≤ 16) := by rw [Bool.eq_iff_iff]; simp only [decide_eq_true_eq]; omega
      rw [e]
      refine Fnc.intro m_fits_ok (by simp) fun W S => ?_
      unfold m_fits
      simp only [ents, Nat.zero_add, Nat.reduceAdd]
      repeat (first | refine And.intro (by omega) ?_ | refine And.intro rfl ?_ | refine ev_ctl rfl rfl ?_ | refine evr_nil ?_ | refine evw_nil (by kernel_rfl) ?_ | (simp (disch := omega) only [takeAll, Nat.min_eq_left, Nat.min_eq_right, if_pos, if_neg, getD_map, wrapI64, modIn, fdivE, tmodE, tdivE, decT, decF, beqT, beqF, bneT, bneF, Int.toNat_natCast]; try simp only [go_sem]) | refine ev_condTb rfl (by simp <;> omega) ?_ | refine ev_condFb rfl (by simp <;> omega) ?_ | ((first | refine ev_region ?_ | refine evr_go rfl ?_ | refine evw_go rfl ?_ | refine ev_dr0 mixed rfl (by kernel_rfl) ?_ | refine ev_dr1 mixed rfl (by kernel_rfl) ?_ | refine ev_dr2 mixed rfl (by kernel_rfl) ?_); simp only [go_sem]))
      refine ret m_fits_ok [] ?_; (first | (simp only [go_sem]; done) | (simp only [go_sem]; ((try dsimp only); (repeat' (refine And.intro ?_ ?_)) <;> first | with_reducible rfl | (simp only [go_sem]; done) | (simp only [go_sem]; rfl) | (simp only []; (try simp only [go_sem]); first | done | rfl) | (simp only [go_sem]; simp []; done) | (simp []; done) | rfl)))
    · have e : decide (0 ≤ s ∧ s < 2 ∧ d.length ≤ 16) = false := decF (by omega)
      rw [e]
      refine Fnc.intro m_fits_ok (by simp) fun W S => ?_
      unfold m_fits
      simp only [ents, Nat.zero_add, Nat.reduceAdd]
      repeat (first | refine And.intro (by omega) ?_ | refine And.intro rfl ?_ | refine ev_ctl rfl rfl ?_ | refine evr_nil ?_ | refine evw_nil (by kernel_rfl) ?_ | (simp (disch := omega) only [takeAll, Nat.min_eq_left, Nat.min_eq_right, if_pos, if_neg, getD_map, wrapI64, modIn, fdivE, tmodE, tdivE, decT, decF, beqT, beqF, bneT, bneF, Int.toNat_natCast]; try simp only [go_sem]) | refine ev_condTb rfl (by simp <;> omega) ?_ | refine ev_condFb rfl (by simp <;> omega) ?_ | ((first | refine ev_region ?_ | refine evr_go rfl ?_ | refine evw_go rfl ?_ | refine ev_dr0 mixed rfl (by kernel_rfl) ?_ | refine ev_dr1 mixed rfl (by kernel_rfl) ?_ | refine ev_dr2 mixed rfl (by kernel_rfl) ?_); simp only [go_sem]))
      refine ret m_fits_ok [] ?_; (first | (simp only [go_sem]; done) | (simp only [go_sem]; ((try dsimp only); (repeat' (refine And.intro ?_ ?_)) <;> first | with_reducible rfl | (simp only [go_sem]; done) | (simp only [go_sem]; rfl) | (simp only []; (try simp only [go_sem]); first | done | rfl) | (simp only [go_sem]; simp []; done) | (simp []; done) | rfl)))
  · have e : decide (0 ≤ s ∧ s < 2 ∧ d.length ≤ 16) = false := decF (by omega)
    rw [e]
    refine Fnc.intro m_fits_ok (by simp) fun W S => ?_
    unfold m_fits
    simp only [ents, Nat.zero_add, Nat.reduceAdd]
    repeat (first | refine And.intro (by omega) ?_ | refine And.intro rfl ?_ | refine ev_ctl rfl rfl ?_ | refine evr_nil ?_ | refine evw_nil (by kernel_rfl) ?_ | (simp (disch := omega) only [takeAll, Nat.min_eq_left, Nat.min_eq_right, if_pos, if_neg, getD_map, wrapI64, modIn, fdivE, tmodE, tdivE, decT, decF, beqT, beqF, bneT, bneF, Int.toNat_natCast]; try simp only [go_sem]) | refine ev_condTb rfl (by simp <;> omega) ?_ | refine ev_condFb rfl (by simp <;> omega) ?_ | ((first | refine ev_region ?_ | refine evr_go rfl ?_ | refine evw_go rfl ?_ | refine ev_dr0 mixed rfl (by kernel_rfl) ?_ | refine ev_dr1 mixed rfl (by kernel_rfl) ?_ | refine ev_dr2 mixed rfl (by kernel_rfl) ?_); simp only [go_sem]))
    refine ret m_fits_ok [] ?_; (first | (simp only [go_sem]; done) | (simp only [go_sem]; ((try dsimp only); (repeat' (refine And.intro ?_ ?_)) <;> first | with_reducible rfl | (simp only [go_sem]; done) | (simp only [go_sem]; rfl) | (simp only []; (try simp only [go_sem]); first | done | rfl) | (simp only [go_sem]; simp []; done) | (simp []; done) | rfl)))
/-- An output that stands at its place. -/
def okO (a : Int) (j : Nat) (o : Output) : Prop := o.seq = a + j ∧ 0 ≤ o.socket ∧ o.socket < 2 ∧ o.data.length ≤ 16
def okN (g : Gateway) : Prop := 0 ≤ g.acked ∧ g.acked ≤ g.free ∧ g.free ≤ g.next ∧ g.next ≤ 200 ∧ g.held.length ≤ 64 ∧ (g.held.length : Int) = g.next - g.acked
/-- A gateway that may be used. -/
def okG (g : Gateway) : Prop := okN g ∧ ∀ j, j < g.held.length → okO g.acked j g.held[j]!
noncomputable def chk (g : Gateway) : Int := @ite _ (okG g) (Classical.propDecidable _) 0 1
theorem chk_T {g : Gateway} (h : okG g) : chk g = 0 := by unfold chk; exact @if_pos _ (Classical.propDecidable _) h _ _ _
theorem chk_F {g : Gateway} (h : ¬ okG g) : chk g = 1 := by unfold chk; exact @if_neg _ (Classical.propDecidable _) h _ _ _
set_option maxHeartbeats 4000000 in
theorem wchk_fn (g : Gateway) : Fnc Try.prog 52 [.agg (gwL false g)] (fun x obs => x = .int .i64 (chk g) ∧ obs = []) := by
  refine Fnc.wf fun hw => ?_
  simp only [gwL, V.wfs, V.wf, List.length_map] at hw
  have hn := inK_i64' hw.1.1
  have hm := hw.1.2.2.2.1.2
  clear hw
  by_cases c1 : g.acked < 0
  · rw [chk_F (g := g) fun h => by have := h.1.1; omega]
    refine Fnc.intro m_wchk_ok (by simp) fun W S => ?_
    unfold m_wchk
    simp only [ents, Nat.zero_add, Nat.reduceAdd]
    repeat (first | refine And.intro (by omega) ?_ | refine And.intro rfl ?_ | refine ev_ctl rfl rfl ?_ | refine evr_nil ?_ | refine evw_nil (by kernel_rfl) ?_ | (simp (disch := omega) only [takeAll, Nat.min_eq_left, Nat.min_eq_right, if_pos, if_neg, getD_map, wrapI64, modIn, fdivE, tmodE, tdivE, decT, decF, beqT, beqF, bneT, bneF, Int.toNat_natCast]; try simp only [go_sem]) | refine ev_condTb rfl (by simp <;> omega) ?_ | refine ev_condFb rfl (by simp <;> omega) ?_ | ((first | refine ev_region ?_ | refine evr_go rfl ?_ | refine evw_go rfl ?_ | refine ev_dr0 mixed rfl (by kernel_rfl) ?_ | refine ev_dr1 mixed rfl (by kernel_rfl) ?_ | refine ev_dr2 mixed rfl (by kernel_rfl) ?_); simp only [go_sem]))
    refine ret m_wchk_ok [] ?_; (first | (simp only [go_sem]; done) | (simp only [go_sem]; ((try dsimp only); (repeat' (refine And.intro ?_ ?_)) <;> first | with_reducible rfl | (simp only [go_sem]; done) | (simp only [go_sem]; rfl) | (simp only []; (try simp only [go_sem]); first | done | rfl) | (simp only [go_sem]; simp []; done) | (simp []; done) | rfl)))
  by_cases c2 : g.acked > g.free
  · rw [chk_F (g := g) fun h => by have := h.1.2.1; omega]
    refine Fnc.intro m_wchk_ok (by simp) fun W S => ?_
    unfold m_wchk
    simp only [ents, Nat.zero_add, Nat.reduceAdd]
    repeat (first | refine And.intro (by omega) ?_ | refine And.intro rfl ?_ | refine ev_ctl rfl rfl ?_ | refine evr_nil ?_ | refine evw_nil (by kernel_rfl) ?_ | (simp (disch := omega) only [takeAll, Nat.min_eq_left, Nat.min_eq_right, if_pos, if_neg, getD_map, wrapI64, modIn, fdivE, tmodE, tdivE, decT, decF, beqT, beqF, bneT, bneF, Int.toNat_natCast]; try simp only [go_sem]) | refine ev_condTb rfl (by simp <;> omega) ?_ | refine ev_condFb rfl (by simp <;> omega) ?_ | ((first | refine ev_region ?_ | refine evr_go rfl ?_ | refine evw_go rfl ?_ | refine ev_dr0 mixed rfl (by kernel_rfl) ?_ | refine ev_dr1 mixed rfl (by kernel_rfl) ?_ | refine ev_dr2 mixed rfl (by kernel_rfl) ?_); simp only [go_sem]))
    refine ret m_wchk_ok [] ?_; (first | (simp only [go_sem]; done) | (simp only [go_sem]; ((try dsimp only); (repeat' (refine And.intro ?_ ?_)) <;> first | with_reducible rfl | (simp only [go_sem]; done) | (simp only [go_sem]; rfl) | (simp only []; (try simp only [go_sem]); first | done | rfl) | (simp only [go_sem]; simp []; done) | (simp []; done) | rfl)))
  by_cases c3 : g.free > g.next
  · rw [chk_F (g := g) fun h => by have := h.1.2.2.1; omega]
    refine Fnc.intro m_wchk_ok (by simp) fun W S => ?_
    unfold m_wchk
    simp only [ents, Nat.zero_add, Nat.reduceAdd]
    repeat (first | refine And.intro (by omega) ?_ | refine And.intro rfl ?_ | refine ev_ctl rfl rfl ?_ | refine evr_nil ?_ | refine evw_nil (by kernel_rfl) ?_ | (simp (disch := omega) only [takeAll, Nat.min_eq_left, Nat.min_eq_right, if_pos, if_neg, getD_map, wrapI64, modIn, fdivE, tmodE, tdivE, decT, decF, beqT, beqF, bneT, bneF, Int.toNat_natCast]; try simp only [go_sem]) | refine ev_condTb rfl (by simp <;> omega) ?_ | refine ev_condFb rfl (by simp <;> omega) ?_ | ((first | refine ev_region ?_ | refine evr_go rfl ?_ | refine evw_go rfl ?_ | refine ev_dr0 mixed rfl (by kernel_rfl) ?_ | refine ev_dr1 mixed rfl (by kernel_rfl) ?_ | refine ev_dr2 mixed rfl (by kernel_rfl) ?_); simp only [go_sem]))
    refine ret m_wchk_ok [] ?_; (first | (simp only [go_sem]; done) | (simp only [go_sem]; ((try dsimp only); (repeat' (refine And.intro ?_ ?_)) <;> first | with_reducible rfl | (simp only [go_sem]; done) | (simp only [go_sem]; rfl) | (simp only []; (try simp only [go_sem]); first | done | rfl) | (simp only [go_sem]; simp []; done) | (simp []; done) | rfl)))
  by_cases c4 : g.next > 200
  · rw [chk_F (g := g) fun h => by have := h.1.2.2.2.1; omega]
    refine Fnc.intro m_wchk_ok (by simp) fun W S => ?_
    unfold m_wchk
    simp only [ents, Nat.zero_add, Nat.reduceAdd]
    repeat (first | refine And.intro (by omega) ?_ | refine And.intro rfl ?_ | refine ev_ctl rfl rfl ?_ | refine evr_nil ?_ | refine evw_nil (by kernel_rfl) ?_ | (simp (disch := omega) only [takeAll, Nat.min_eq_left, Nat.min_eq_right, if_pos, if_neg, getD_map, wrapI64, modIn, fdivE, tmodE, tdivE, decT, decF, beqT, beqF, bneT, bneF, Int.toNat_natCast]; try simp only [go_sem]) | refine ev_condTb rfl (by simp <;> omega) ?_ | refine ev_condFb rfl (by simp <;> omega) ?_ | ((first | refine ev_region ?_ | refine evr_go rfl ?_ | refine evw_go rfl ?_ | refine ev_dr0 mixed rfl (by kernel_rfl) ?_ | refine ev_dr1 mixed rfl (by kernel_rfl) ?_ | refine ev_dr2 mixed rfl (by kernel_rfl) ?_); simp only [go_sem]))
    refine ret m_wchk_ok [] ?_; (first | (simp only [go_sem]; done) | (simp only [go_sem]; ((try dsimp only); (repeat' (refine And.intro ?_ ?_)) <;> first | with_reducible rfl | (simp only [go_sem]; done) | (simp only [go_sem]; rfl) | (simp only []; (try simp only [go_sem]); first | done | rfl) | (simp only [go_sem]; simp []; done) | (simp []; done) | rfl)))
  by_cases c5 : g.held.length > 64
  · rw [chk_F (g := g) fun h => by have := h.1.2.2.2.2.1; omega]
    refine Fnc.intro m_wchk_ok (by simp) fun W S => ?_
    unfold m_wchk
    simp only [ents, Nat.zero_add, Nat.reduceAdd]
    repeat (first | refine And.intro (by omega) ?_ | refine And.intro rfl ?_ | refine ev_ctl rfl rfl ?_ | refine evr_nil ?_ | refine evw_nil (by kernel_rfl) ?_ | (simp (disch := omega) only [takeAll, Nat.min_eq_left, Nat.min_eq_right, if_pos, if_neg, getD_map, wrapI64, modIn, fdivE, tmodE, tdivE, decT, decF, beqT, beqF, bneT, bneF, Int.toNat_natCast]; try simp only [go_sem]) | refine ev_condTb rfl (by simp <;> omega) ?_ | refine ev_condFb rfl (by simp <;> omega) ?_ | ((first | refine ev_region ?_ | refine evr_go rfl ?_ | refine evw_go rfl ?_ | refine ev_dr0 mixed rfl (by kernel_rfl) ?_ | refine ev_dr1 mixed rfl (by kernel_rfl) ?_ | refine ev_dr2 mixed rfl (by kernel_rfl) ?_); simp only [go_sem]))
    refine ret m_wchk_ok [] ?_; (first | (simp only [go_sem]; done) | (simp only [go_sem]; ((try dsimp only); (repeat' (refine And.intro ?_ ?_)) <;> first | with_reducible rfl | (simp only [go_sem]; done) | (simp only [go_sem]; rfl) | (simp only []; (try simp only [go_sem]); first | done | rfl) | (simp only [go_sem]; simp []; done) | (simp []; done) | rfl)))
  by_cases c6 : (g.held.length : Int) = g.next - g.acked
  · have h0 : okN g := ⟨by omega, by omega, by omega, by omega, by omega, c6⟩
    refine Fnc.intro m_wchk_ok (by simp) fun W S => ?_
    unfold m_wchk
    simp only [ents, Nat.zero_add, Nat.reduceAdd]
    repeat (first | refine And.intro (by omega) ?_ | refine And.intro rfl ?_ | refine ev_ctl rfl rfl ?_ | refine evr_nil ?_ | refine evw_nil (by kernel_rfl) ?_ | (simp (disch := omega) only [takeAll, Nat.min_eq_left, Nat.min_eq_right, if_pos, if_neg, getD_map, wrapI64, modIn, fdivE, tmodE, tdivE, decT, decF, beqT, beqF, bneT, bneF, Int.toNat_natCast]; try simp only [go_sem]) | refine ev_condTb rfl (by simp <;> omega) ?_ | refine ev_condFb rfl (by simp <;> omega) ?_ | ((first | refine ev_region ?_ | refine evr_go rfl ?_ | refine evw_go rfl ?_ | refine ev_dr0 mixed rfl (by kernel_rfl) ?_ | refine ev_dr1 mixed rfl (by kernel_rfl) ?_ | refine ev_dr2 mixed rfl (by kernel_rfl) ?_); simp only [go_sem]))
    refine ev_loopK [1, 45, 46] (fun p : {p : Nat // p ≤ g.held.length ∧ ∀ j, j < p → okO g.acked j g.held[j]!} => [(47, .int .i64 p.1)]) (fun _ => [⟨.box false 44, true, 0, .agg (gwL false g)⟩]) (fun p => g.held.length - p.1) (⟨0, by simp⟩) 1 (by simp only [go_sem]; rfl) ?_ (by first | rfl | (simp only [go_sem]; done)) (by simp) (by first | rfl | (simp only [go_sem]; done)) (by first | rfl | (simp only [go_sem]; done)) (by first | rfl | (simp only [go_sem]; done)) ?_
    · (simp only [go_sem]; (try simp []); done)
    intro J hJ
    rintro ⟨k, hk0, hk1⟩
    by_cases hlt : k < g.held.length
    · by_cases d1 : g.held[k]!.seq = g.acked + k
      · by_cases d2 : 0 ≤ g.held[k]!.socket ∧ g.held[k]!.socket < 2 ∧ g.held[k]!.data.length ≤ 16
        · have okS : ∀ j, j < k + 1 → okO g.acked j g.held[j]! := fun j hj => by
            by_cases e : j = k
            · subst e; exact ⟨d1, d2⟩
            · exact hk1 j (by omega)
          repeat (first | refine And.intro (by omega) ?_ | refine And.intro rfl ?_ | refine ev_ctl rfl rfl ?_ | refine evr_nil ?_ | refine evw_nil (by kernel_rfl) ?_ | (simp (disch := omega) only [takeAll, Nat.min_eq_left, Nat.min_eq_right, if_pos, if_neg, getD_map, wrapI64, modIn, fdivE, tmodE, tdivE, decT, decF, beqT, beqF, bneT, bneF, Int.toNat_natCast]; try simp only [go_sem]) | refine ev_condTb rfl (by simp <;> omega) ?_ | refine ev_condFb rfl (by simp <;> omega) ?_ | ((first | refine ev_region ?_ | refine evr_go rfl ?_ | refine evw_go rfl ?_ | refine ev_dr0 mixed rfl (by kernel_rfl) ?_ | refine ev_dr1 mixed rfl (by kernel_rfl) ?_ | refine ev_dr2 mixed rfl (by kernel_rfl) ?_); simp only [go_sem]))
          (first | refine callD (fits_fn g.held[k]!.socket g.held[k]!.data) ?_ | refine callDw (fits_fn g.held[k]!.socket g.held[k]!.data) ?_); simp only [go_sem]
          repeat (first | refine And.intro (by omega) ?_ | refine And.intro rfl ?_ | refine ev_ctl rfl rfl ?_ | refine evr_nil ?_ | refine evw_nil (by kernel_rfl) ?_ | (simp (disch := omega) only [takeAll, Nat.min_eq_left, Nat.min_eq_right, if_pos, if_neg, getD_map, wrapI64, modIn, fdivE, tmodE, tdivE, decT, decF, beqT, beqF, bneT, bneF, Int.toNat_natCast]; try simp only [go_sem]) | refine ev_condTb rfl (by simp <;> omega) ?_ | refine ev_condFb rfl (by simp <;> omega) ?_ | ((first | refine ev_region ?_ | refine evr_go rfl ?_ | refine evw_go rfl ?_ | refine ev_dr0 mixed rfl (by kernel_rfl) ?_ | refine ev_dr1 mixed rfl (by kernel_rfl) ?_ | refine ev_dr2 mixed rfl (by kernel_rfl) ?_); simp only [go_sem]))
          refine ev_next 1 (hJ _ (⟨k + 1, hlt, okS⟩) (by first | omega | (dsimp only; omega) | (simp; omega))) rfl (by simp) ?_ (by first | rfl | (simp only [go_sem]; done)) (by first | rfl | (simp only [go_sem]; done)) ?_
          · (first | rfl | (simp only [go_sem]; done) | (simp only [go_sem]; simp only [hlt]; done) | (simp only [go_sem]; simp [hlt]; done) | (simp [hlt]; done))
          · (simp only [go_sem]; (repeat' (refine And.intro ?_ ?_)) <;> first | exact trivial | with_reducible rfl | (simp only [hlt]; done) | (simp only [hlt]; with_reducible rfl) | (simp [hlt]; done) | (simp [hlt]; omega) | (simp only [hlt]; rfl) | skip)
        · rw [chk_F (g := g) fun h => d2 (h.2 k hlt).2]
          repeat (first | refine And.intro (by omega) ?_ | refine And.intro rfl ?_ | refine ev_ctl rfl rfl ?_ | refine evr_nil ?_ | refine evw_nil (by kernel_rfl) ?_ | (simp (disch := omega) only [takeAll, Nat.min_eq_left, Nat.min_eq_right, if_pos, if_neg, getD_map, wrapI64, modIn, fdivE, tmodE, tdivE, decT, decF, beqT, beqF, bneT, bneF, Int.toNat_natCast]; try simp only [go_sem]) | refine ev_condTb rfl (by simp <;> omega) ?_ | refine ev_condFb rfl (by simp <;> omega) ?_ | ((first | refine ev_region ?_ | refine evr_go rfl ?_ | refine evw_go rfl ?_ | refine ev_dr0 mixed rfl (by kernel_rfl) ?_ | refine ev_dr1 mixed rfl (by kernel_rfl) ?_ | refine ev_dr2 mixed rfl (by kernel_rfl) ?_); simp only [go_sem]))
          (first | refine callD (fits_fn g.held[k]!.socket g.held[k]!.data) ?_ | refine callDw (fits_fn g.held[k]!.socket g.held[k]!.data) ?_); simp only [go_sem]
          repeat (first | refine And.intro (by omega) ?_ | refine And.intro rfl ?_ | refine ev_ctl rfl rfl ?_ | refine evr_nil ?_ | refine evw_nil (by kernel_rfl) ?_ | (simp (disch := omega) only [takeAll, Nat.min_eq_left, Nat.min_eq_right, if_pos, if_neg, getD_map, wrapI64, modIn, fdivE, tmodE, tdivE, decT, decF, beqT, beqF, bneT, bneF, Int.toNat_natCast]; try simp only [go_sem]) | refine ev_condTb rfl (by simp <;> omega) ?_ | refine ev_condFb rfl (by simp <;> omega) ?_ | ((first | refine ev_region ?_ | refine evr_go rfl ?_ | refine evw_go rfl ?_ | refine ev_dr0 mixed rfl (by kernel_rfl) ?_ | refine ev_dr1 mixed rfl (by kernel_rfl) ?_ | refine ev_dr2 mixed rfl (by kernel_rfl) ?_); simp only [go_sem]))
          refine ret m_wchk_ok [] ?_; (first | (simp only [go_sem]; done) | (simp only [go_sem]; ((try dsimp only); (repeat' (refine And.intro ?_ ?_)) <;> first | with_reducible rfl | (simp only [go_sem]; done) | (simp only [go_sem]; rfl) | (simp only []; (try simp only [go_sem]); first | done | rfl) | (simp only [go_sem]; simp []; done) | (simp []; done) | rfl)))
      · rw [chk_F (g := g) fun h => d1 (h.2 k hlt).1]
        repeat (first | refine And.intro (by omega) ?_ | refine And.intro rfl ?_ | refine ev_ctl rfl rfl ?_ | refine evr_nil ?_ | refine evw_nil (by kernel_rfl) ?_ | (simp (disch := omega) only [takeAll, Nat.min_eq_left, Nat.min_eq_right, if_pos, if_neg, getD_map, wrapI64, modIn, fdivE, tmodE, tdivE, decT, decF, beqT, beqF, bneT, bneF, Int.toNat_natCast]; try simp only [go_sem]) | refine ev_condTb rfl (by simp <;> omega) ?_ | refine ev_condFb rfl (by simp <;> omega) ?_ | ((first | refine ev_region ?_ | refine evr_go rfl ?_ | refine evw_go rfl ?_ | refine ev_dr0 mixed rfl (by kernel_rfl) ?_ | refine ev_dr1 mixed rfl (by kernel_rfl) ?_ | refine ev_dr2 mixed rfl (by kernel_rfl) ?_); simp only [go_sem]))
        refine ret m_wchk_ok [] ?_; (first | (simp only [go_sem]; done) | (simp only [go_sem]; ((try dsimp only); (repeat' (refine And.intro ?_ ?_)) <;> first | with_reducible rfl | (simp only [go_sem]; done) | (simp only [go_sem]; rfl) | (simp only []; (try simp only [go_sem]); first | done | rfl) | (simp only [go_sem]; simp []; done) | (simp []; done) | rfl)))
    · obtain rfl : k = g.held.length := by omega
      rw [chk_T (g := g) ⟨h0, hk1⟩]
      repeat (first | refine And.intro (by omega) ?_ | refine And.intro rfl ?_ | refine ev_ctl rfl rfl ?_ | refine evr_nil ?_ | refine evw_nil (by kernel_rfl) ?_ | (simp (disch := omega) only [takeAll, Nat.min_eq_left, Nat.min_eq_right, if_pos, if_neg, getD_map, wrapI64, modIn, fdivE, tmodE, tdivE, decT, decF, beqT, beqF, bneT, bneF, Int.toNat_natCast]; try simp only [go_sem]) | refine ev_condTb rfl (by simp <;> omega) ?_ | refine ev_condFb rfl (by simp <;> omega) ?_ | ((first | refine ev_region ?_ | refine evr_go rfl ?_ | refine evw_go rfl ?_ | refine ev_dr0 mixed rfl (by kernel_rfl) ?_ | refine ev_dr1 mixed rfl (by kernel_rfl) ?_ | refine ev_dr2 mixed rfl (by kernel_rfl) ?_); simp only [go_sem]))
      refine ret m_wchk_ok [] ?_; (first | (simp only [go_sem]; done) | (simp only [go_sem]; ((try dsimp only); (repeat' (refine And.intro ?_ ?_)) <;> first | with_reducible rfl | (simp only [go_sem]; done) | (simp only [go_sem]; rfl) | (simp only []; (try simp only [go_sem]); first | done | rfl) | (simp only [go_sem]; simp []; done) | (simp []; done) | rfl)))
  · rw [chk_F (g := g) fun h => c6 h.1.2.2.2.2.2]
    refine Fnc.intro m_wchk_ok (by simp) fun W S => ?_
    unfold m_wchk
    simp only [ents, Nat.zero_add, Nat.reduceAdd]
    repeat (first | refine And.intro (by omega) ?_ | refine And.intro rfl ?_ | refine ev_ctl rfl rfl ?_ | refine evr_nil ?_ | refine evw_nil (by kernel_rfl) ?_ | (simp (disch := omega) only [takeAll, Nat.min_eq_left, Nat.min_eq_right, if_pos, if_neg, getD_map, wrapI64, modIn, fdivE, tmodE, tdivE, decT, decF, beqT, beqF, bneT, bneF, Int.toNat_natCast]; try simp only [go_sem]) | refine ev_condTb rfl (by simp <;> omega) ?_ | refine ev_condFb rfl (by simp <;> omega) ?_ | ((first | refine ev_region ?_ | refine evr_go rfl ?_ | refine evw_go rfl ?_ | refine ev_dr0 mixed rfl (by kernel_rfl) ?_ | refine ev_dr1 mixed rfl (by kernel_rfl) ?_ | refine ev_dr2 mixed rfl (by kernel_rfl) ?_); simp only [go_sem]))
    refine ret m_wchk_ok [] ?_; (first | (simp only [go_sem]; done) | (simp only [go_sem]; ((try dsimp only); (repeat' (refine And.intro ?_ ?_)) <;> first | with_reducible rfl | (simp only [go_sem]; done) | (simp only [go_sem]; rfl) | (simp only []; (try simp only [go_sem]); first | done | rfl) | (simp only [go_sem]; simp []; done) | (simp []; done) | rfl)))
end Go.Proofs.Ytdjjhajkpfiagaa
