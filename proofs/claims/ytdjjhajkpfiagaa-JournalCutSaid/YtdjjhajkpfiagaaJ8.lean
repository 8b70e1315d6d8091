/- Journals: what is equal; a note is read back. -/
import Derived.Test.YtdjjhajkpfiagaaJ7
namespace Go.Proofs.Ytdjjhajkpfiagaa
open Go Go.RowKit Rdn Rdn.Dp
set_option linter.unusedVariables false
set_option linter.unusedSimpArgs false
def m_same : MC := .seq (.reg [⟨(some 2), none, (.m (.box 34 (.t 0)))⟩, ⟨(some 3), none, (.m (.box 34 (.t 1)))⟩, ⟨(some 4), none, (.p (.mov (.c (.bool false))))⟩])
 (.seq (.reg [⟨(some 5), none, (.p (.fieldA 0 0 (.t 2)))⟩, ⟨(some 6), none, (.p (.load false 1 (.t 5)))⟩, ⟨(some 7), none, (.p (.fieldA 0 0 (.t 3)))⟩, ⟨(some 8), none, (.p (.load false 1 (.t 7)))⟩, ⟨(some 9), none, (.p (.bin 0 .eql (.t 6) (.t 8)))⟩, ⟨(some 10), none, (.p (.mov (.t 9)))⟩, ⟨(some 11), (some (10, true)), (.p (.fieldA 1 1 (.t 2)))⟩, ⟨(some 12), (some (10, true)), (.p (.load false 1 (.t 11)))⟩, ⟨(some 13), (some (10, true)), (.p (.fieldA 1 1 (.t 3)))⟩, ⟨(some 14), (some (10, true)), (.p (.load false 1 (.t 13)))⟩, ⟨(some 15), (some (10, true)), (.p (.bin 0 .eql (.t 12) (.t 14)))⟩, ⟨(some 16), none, (.p (.pick (.t 10) (.t 15) (.c (.bool false))))⟩, ⟨(some 17), none, (.p (.mov (.t 16)))⟩, ⟨(some 18), (some (17, true)), (.p (.fieldA 2 2 (.t 2)))⟩, ⟨(some 19), (some (17, true)), (.p (.load false 1 (.t 18)))⟩, ⟨(some 20), (some (17, true)), (.p (.fieldA 2 2 (.t 3)))⟩, ⟨(some 21), (some (17, true)), (.p (.load false 1 (.t 20)))⟩, ⟨(some 22), (some (17, true)), (.p (.bin 0 .eql (.t 19) (.t 21)))⟩, ⟨(some 23), none, (.p (.pick (.t 17) (.t 22) (.c (.bool false))))⟩, ⟨(some 24), none, (.p (.mov (.t 23)))⟩, ⟨(some 25), (some (24, true)), (.p (.fieldA 3 3 (.t 2)))⟩, ⟨(some 26), (some (24, true)), (.p (.load false 1 (.t 25)))⟩, ⟨(some 27), (some (24, true)), (.p (.b2s (.t 26)))⟩, ⟨(some 28), (some (24, true)), (.p (.fieldA 3 3 (.t 3)))⟩, ⟨(some 29), (some (24, true)), (.p (.load false 1 (.t 28)))⟩, ⟨(some 30), (some (24, true)), (.p (.b2s (.t 29)))⟩, ⟨(some 31), (some (24, true)), (.p (.bin 0 .eql (.t 27) (.t 30)))⟩, ⟨(some 32), none, (.p (.pick (.t 24) (.t 31) (.c (.bool false))))⟩, ⟨(some 4), none, (.p (.mov (.t 32)))⟩])
 (.ret))
theorem m_same_ok : compF Try.prog 20 = some (33, m_same, [.mov (.t 4)]) := by kernel_rfl
def m_sameall : MC := .seq (.reg [⟨(some 4), none, (.p (.mov (.c (.bool false))))⟩])
 (.seq (.seq (.reg [⟨(some 6), none, (.p (.mov (.t 0)))⟩, ⟨(some 7), none, (.p (.len (.t 6)))⟩, ⟨(some 8), none, (.p (.mov (.t 1)))⟩, ⟨(some 9), none, (.p (.len (.t 8)))⟩, ⟨(some 10), none, (.p (.bin 0 .neq (.t 7) (.t 9)))⟩])
 (.cond (.t 10) (.seq (.reg [⟨(some 4), none, (.p (.mov (.c (.bool false))))⟩])
 (.ret)) (.skip)))
 (.seq (.seq (.reg [⟨(some 5), none, (.p (.mov (.c (.int .i64 0))))⟩])
 (.block 0 (.loop (.seq (.seq (.reg [⟨(some 11), none, (.p (.mov (.t 5)))⟩, ⟨(some 12), none, (.p (.mov (.t 0)))⟩, ⟨(some 13), none, (.p (.len (.t 12)))⟩, ⟨(some 14), none, (.p (.bin 0 .lss (.t 11) (.t 13)))⟩])
 (.cond (.t 14) (.skip) (.exit 0)))
 (.seq (.block 1 (.seq (.dreg [⟨(some 17), none, (.p (.mov (.t 0)))⟩, ⟨(some 18), none, (.p (.mov (.t 5)))⟩, ⟨(some 19), none, (.p (.idxA 4 (.t 17) (.t 18)))⟩, ⟨(some 20), none, (.p (.load true 4 (.t 19)))⟩, ⟨(some 21), none, (.p (.mov (.t 1)))⟩, ⟨(some 22), none, (.p (.mov (.t 5)))⟩, ⟨(some 23), none, (.p (.idxA 4 (.t 21) (.t 22)))⟩, ⟨(some 24), none, (.p (.load true 4 (.t 23)))⟩, ⟨(some 25), none, (.call 20 [(.t 20), (.t 24)])⟩, ⟨(some 26), none, (.p (.un .not (.t 25)))⟩] [[], [], [0, 1], [0, 1, 2], [], [], [4, 5], [4, 5, 6], [0, 1, 2, 3, 4, 5, 6, 7], [0, 1, 2, 3, 4, 5, 6, 7, 8]])
 (.cond (.t 26) (.seq (.reg [⟨(some 4), none, (.p (.mov (.c (.bool false))))⟩])
 (.ret)) (.skip))))
 (.reg [⟨(some 15), none, (.p (.mov (.t 5)))⟩, ⟨(some 16), none, (.p (.bin 0 .add (.t 15) (.c (.int .i64 1))))⟩, ⟨(some 5), none, (.p (.mov (.t 16)))⟩]))))))
 (.seq (.reg [⟨(some 4), none, (.p (.mov (.c (.bool true))))⟩])
 (.ret))))
theorem m_sameall_ok : compF Try.prog 43 = some (27, m_sameall, [.mov (.t 4)]) := by kernel_rfl
theorem note_ext {a b : Note} (h1 : a.kind = b.kind) (h2 : a.number = b.number) (h3 : a.state = b.state) (h4 : a.bytes = b.bytes) : a = b := by
  obtain ⟨a1, a2, a3, a4⟩ := a
  obtain ⟨b1, b2, b3, b4⟩ := b
  simp only at h1 h2 h3 h4
  rw [h1, h2, h3, h4]
attribute [local go_sem] numV_u8s
set_option maxHeartbeats 4000000 in
theorem same_fn (a b : Note) : Fnc Try.prog 20 [.agg (noteL false a), .agg (noteL false b)] (fun x obs => x = .bool (decide (a = b)) ∧ obs = []) := by
  refine Fnc.wf fun hw => ?_
  simp only [noteL, V.wfs, V.wf, wfs_map, List.length_map] at hw
  have be := str_beq hw.1.2.2.2.1.1 hw.2.1.2.2.2.1.1
  clear hw
  by_cases c1 : a.kind = b.kind
  · by_cases c2 : a.number = b.number
    · by_cases c3 : a.state = b.state
      · have e : decide (a = b) = decide (a.bytes = b.bytes) := by
          by_cases h : a.bytes = b.bytes
          · rw [decT h, decT (note_ext c1 c2 c3 h)]
          · rw [decF h, decF (fun h' => h (by rw [h']))]
        rw [e, ← be]
        refine Fnc.intro m_same_ok (by simp) fun W S => ?_
        unfold m_same
        simp only [ents, Nat.zero_add, Nat.reduceAdd]
        repeat (first | refine And.intro (by omega) ?_ | refine And.intro rfl ?_ | refine ev_ctl rfl rfl ?_ | refine evr_nil ?_ | refine evw_nil (by kernel_rfl) ?_ | (simp (disch := omega) only [takeAll, Nat.min_eq_left, Nat.min_eq_right, if_pos, if_neg, getD_map, wrapI64, modIn, fdivE, tmodE, tdivE, decT, decF, beqT, beqF, bneT, bneF, Int.toNat_natCast]; try simp only [go_sem]) | refine ev_condTb rfl (by simp <;> omega) ?_ | refine ev_condFb rfl (by simp <;> omega) ?_ | ((first | refine ev_region ?_ | refine evr_go rfl ?_ | refine evw_go rfl ?_ | refine ev_dr0 mixed rfl (by kernel_rfl) ?_ | refine ev_dr1 mixed rfl (by kernel_rfl) ?_ | refine ev_dr2 mixed rfl (by kernel_rfl) ?_); simp only [go_sem]))
        refine ret m_same_ok [] ?_; (first | (simp only [go_sem]; done) | (simp only [go_sem]; ((try dsimp only); (repeat' (refine And.intro ?_ ?_)) <;> first | with_reducible rfl | (simp only [go_sem]; done) | (simp only [go_sem]; rfl) | (simp only []; (try simp only [go_sem]); first | done | rfl) | (simp only [go_sem]; simp []; done) | (simp []; done) | rfl)))
      · rw [decF (p := a = b) (fun h => c3 (by rw [h]))]
        refine Fnc.intro m_same_ok (by simp) fun W S => ?_
        unfold m_same
        simp only [ents, Nat.zero_add, Nat.reduceAdd]
        repeat (first | refine And.intro (by omega) ?_ | refine And.intro rfl ?_ | refine ev_ctl rfl rfl ?_ | refine evr_nil ?_ | refine evw_nil (by kernel_rfl) ?_ | (simp (disch := omega) only [takeAll, Nat.min_eq_left, Nat.min_eq_right, if_pos, if_neg, getD_map, wrapI64, modIn, fdivE, tmodE, tdivE, decT, decF, beqT, beqF, bneT, bneF, Int.toNat_natCast]; try simp only [go_sem]) | refine ev_condTb rfl (by simp <;> omega) ?_ | refine ev_condFb rfl (by simp <;> omega) ?_ | ((first | refine ev_region ?_ | refine evr_go rfl ?_ | refine evw_go rfl ?_ | refine ev_dr0 mixed rfl (by kernel_rfl) ?_ | refine ev_dr1 mixed rfl (by kernel_rfl) ?_ | refine ev_dr2 mixed rfl (by kernel_rfl) ?_); simp only [go_sem]))
        refine ret m_same_ok [] ?_; (first | (simp only [go_sem]; done) | (simp only [go_sem]; ((try dsimp only); (repeat' (refine And.intro ?_ ?_)) <;> first | with_reducible rfl | (simp only [go_sem]; done) | (simp only [go_sem]; rfl) | (simp only []; (try simp only [go_sem]); first | done | rfl) | (simp only [go_sem]; simp []; done) | (simp []; done) | rfl)))
    · rw [decF (p := a = b) (fun h => c2 (by rw [h]))]
      refine Fnc.intro m_same_ok (by simp) fun W S => ?_
      unfold m_same
      simp only [ents, Nat.zero_add, Nat.reduceAdd]
      repeat (first | refine And.intro (by omega) ?_ | refine And.intro rfl ?_ | refine ev_ctl rfl rfl ?_ | refine evr_nil ?_ | refine evw_nil (by kernel_rfl) ?_ | (simp (disch := omega) only [takeAll, Nat.min_eq_left, Nat.min_eq_right, if_pos, if_neg, getD_map, wrapI64, modIn, fdivE, tmodE, tdivE, decT, decF, beqT, beqF, bneT, bneF, Int.toNat_natCast]; try simp only [go_sem]) | refine ev_condTb rfl (by simp <;> omega) ?_ | refine ev_condFb rfl (by simp <;> omega) ?_ | ((first | refine ev_region ?_ | refine evr_go rfl ?_ | refine evw_go rfl ?_ | refine ev_dr0 mixed rfl (by kernel_rfl) ?_ | refine ev_dr1 mixed rfl (by kernel_rfl) ?_ | refine ev_dr2 mixed rfl (by kernel_rfl) ?_); simp only [go_sem]))
      refine ret m_same_ok [] ?_; (first | (simp only [go_sem]; done) | (simp only [go_sem]; ((try dsimp only); (repeat' (refine And.intro ?_ ?_)) <;> first | with_reducible rfl | (simp only [go_sem]; done) | (simp only [go_sem]; rfl) | (simp only []; (try simp only [go_sem]); first | done | rfl) | (simp only [go_sem]; simp []; done) | (simp []; done) | rfl)))
  · rw [decF (p := a = b) (fun h => c1 (by rw [h]))]
    refine Fnc.intro m_same_ok (by simp) fun W S => ?_
    unfold m_same
    simp only [ents, Nat.zero_add, Nat.reduceAdd]
    repeat (first | refine And.intro (by omega) ?_ | refine And.intro rfl ?_ | refine ev_ctl rfl rfl ?_ | refine evr_nil ?_ | refine evw_nil (by kernel_rfl) ?_ | (simp (disch := omega) only [takeAll, Nat.min_eq_left, Nat.min_eq_right, if_pos, if_neg, getD_map, wrapI64, modIn, fdivE, tmodE, tdivE, decT, decF, beqT, beqF, bneT, bneF, Int.toNat_natCast]; try simp only [go_sem]) | refine ev_condTb rfl (by simp <;> omega) ?_ | refine ev_condFb rfl (by simp <;> omega) ?_ | ((first | refine ev_region ?_ | refine evr_go rfl ?_ | refine evw_go rfl ?_ | refine ev_dr0 mixed rfl (by kernel_rfl) ?_ | refine ev_dr1 mixed rfl (by kernel_rfl) ?_ | refine ev_dr2 mixed rfl (by kernel_rfl) ?_); simp only [go_sem]))
    refine ret m_same_ok [] ?_; (first | (simp only [go_sem]; done) | (simp only [go_sem]; ((try dsimp only); (repeat' (refine And.intro ?_ ?_)) <;> first | with_reducible rfl | (simp only [go_sem]; done) | (simp only [go_sem]; rfl) | (simp only []; (try simp only [go_sem]); first | done | rfl) | (simp only [go_sem]; simp []; done) | (simp []; done) | rfl)))
theorem same_refl (a : Note) : Fnc Try.prog 20 [.agg (noteL false a), .agg (noteL false a)] (fun x obs => x = .bool true ∧ obs = []) := by
  have h := same_fn a a
  rwa [decT rfl] at h
set_option maxHeartbeats 4000000 in
theorem sameall_fn (a : List Note) : Fnc Try.prog 43 [.sl false 4 (a.map (noteV false)), .sl false 4 (a.map (noteV false))] (fun x obs => x = .bool true ∧ obs = []) := by
  refine Fnc.wf fun hw => ?_
  simp only [V.wfs, V.wf, List.length_map] at hw
  have hm := hw.1.2
  clear hw
  refine Fnc.intro m_sameall_ok (by simp) fun W S => ?_
  unfold m_sameall
  simp only [ents, Nat.zero_add, Nat.reduceAdd]
  repeat (first | refine And.intro (by omega) ?_ | refine And.intro rfl ?_ | refine ev_ctl rfl rfl ?_ | refine evr_nil ?_ | refine evw_nil (by kernel_rfl) ?_ | (simp (disch := omega) only [takeAll, Nat.min_eq_left, Nat.min_eq_right, if_pos, if_neg, getD_map, wrapI64, modIn, fdivE, tmodE, tdivE, decT, decF, beqT, beqF, bneT, bneF, Int.toNat_natCast]; try simp only [go_sem]) | refine ev_condTb rfl (by simp <;> omega) ?_ | refine ev_condFb rfl (by simp <;> omega) ?_ | ((first | refine ev_region ?_ | refine evr_go rfl ?_ | refine evw_go rfl ?_ | refine ev_dr0 mixed rfl (by kernel_rfl) ?_ | refine ev_dr1 mixed rfl (by kernel_rfl) ?_ | refine ev_dr2 mixed rfl (by kernel_rfl) ?_); simp only [go_sem]))
  refine ev_loopK [0, 1] (fun p : {p : Nat // p ≤ a.length} => [(5, .int .i64 p.1)]) (fun _ => []) (fun p => a.length - p.1) (⟨0, by simp⟩) 0 (by simp only [go_sem]; rfl) ?_ (by first | rfl | (simp only [go_sem]; done)) (by simp) (by first | rfl | (simp only [go_sem]; done)) (by first | rfl | (simp only [go_sem]; done)) (by first | rfl | (simp only [go_sem]; done)) ?_
  · (simp only [go_sem]; (try simp []); done)
  intro J hJ
  rintro ⟨k, hk0⟩
  by_cases hlt : k < a.length
  · skip
    repeat (first | refine And.intro (by omega) ?_ | refine And.intro rfl ?_ | refine ev_ctl rfl rfl ?_ | refine evr_nil ?_ | refine evw_nil (by kernel_rfl) ?_ | (simp (disch := omega) only [takeAll, Nat.min_eq_left, Nat.min_eq_right, if_pos, if_neg, getD_map, wrapI64, modIn, fdivE, tmodE, tdivE, decT, decF, beqT, beqF, bneT, bneF, Int.toNat_natCast]; try simp only [go_sem]) | refine ev_condTb rfl (by simp <;> omega) ?_ | refine ev_condFb rfl (by simp <;> omega) ?_ | ((first | refine ev_region ?_ | refine evr_go rfl ?_ | refine evw_go rfl ?_ | refine ev_dr0 mixed rfl (by kernel_rfl) ?_ | refine ev_dr1 mixed rfl (by kernel_rfl) ?_ | refine ev_dr2 mixed rfl (by kernel_rfl) ?_); simp only [go_sem]))
    (first | refine callD (same_refl a[k]!) ?_ | refine callDw (same_refl a[k]!) ?_); simp only [go_sem]
    repeat (first | refine And.intro (by omega) ?_ | refine And.intro rfl ?_ | refine ev_ctl rfl rfl ?_ | refine evr_nil ?_ | refine evw_nil (by kernel_rfl) ?_ | (simp (disch := omega) only [takeAll, Nat.min_eq_left, Nat.min_eq_right, if_pos, if_neg, getD_map, wrapI64, modIn, fdivE, tmodE, tdivE, decT, decF, beqT, beqF, bneT, bneF, Int.toNat_natCast]; try simp only [go_sem]) | refine ev_condTb rfl (by simp <;> omega) ?_ | refine ev_condFb rfl (by simp <;> omega) ?_ | ((first | refine ev_region ?_ | refine evr_go rfl ?_ | refine evw_go rfl ?_ | refine ev_dr0 mixed rfl (by kernel_rfl) ?_ | refine ev_dr1 mixed rfl (by kernel_rfl) ?_ | refine ev_dr2 mixed rfl (by kernel_rfl) ?_); simp only [go_sem]))
    refine ev_next 0 (hJ _ (⟨k + 1, hlt⟩) (by first | omega | (dsimp only; omega) | (simp; omega))) rfl (by simp) ?_ (by first | rfl | (simp only [go_sem]; done)) (by first | rfl | (simp only [go_sem]; done)) ?_
    · (first | rfl | (simp only [go_sem]; done) | (simp only [go_sem]; simp only [hlt]; done) | (simp only [go_sem]; simp [hlt]; done) | (simp [hlt]; done))
    · (simp only [go_sem]; (repeat' (refine And.intro ?_ ?_)) <;> first | exact trivial | with_reducible rfl | (simp only [hlt]; done) | (simp only [hlt]; with_reducible rfl) | (simp [hlt]; done) | (simp [hlt]; omega) | (simp only [hlt]; rfl) | skip)
  · obtain rfl : k = a.length := by omega
    repeat (first | refine And.intro (by omega) ?_ | refine And.intro rfl ?_ | refine ev_ctl rfl rfl ?_ | refine evr_nil ?_ | refine evw_nil (by kernel_rfl) ?_ | (simp (disch := omega) only [takeAll, Nat.min_eq_left, Nat.min_eq_right, if_pos, if_neg, getD_map, wrapI64, modIn, fdivE, tmodE, tdivE, decT, decF, beqT, beqF, bneT, bneF, Int.toNat_natCast]; try simp only [go_sem]) | refine ev_condTb rfl (by simp <;> omega) ?_ | refine ev_condFb rfl (by simp <;> omega) ?_ | ((first | refine ev_region ?_ | refine evr_go rfl ?_ | refine evw_go rfl ?_ | refine ev_dr0 mixed rfl (by kernel_rfl) ?_ | refine ev_dr1 mixed rfl (by kernel_rfl) ?_ | refine ev_dr2 mixed rfl (by kernel_rfl) ?_); simp only [go_sem]))
    refine ret m_sameall_ok [] ?_; (first | (simp only [go_sem]; done) | (simp only [go_sem]; ((try dsimp only); (repeat' (refine And.intro ?_ ?_)) <;> first | with_reducible rfl | (simp only [go_sem]; done) | (simp only [go_sem]; rfl) | (simp only []; (try simp only [go_sem]); first | done | rfl) | (simp only [go_sem]; simp []; done) | (simp []; done) | rfl)))
theorem encB_list (n : Note) : encB n = (6 + (n.bytes.length : Int)) % 256 :: (6 + (n.bytes.length : Int)) / 256 :: n.kind :: n.state :: n.number % 256 :: n.number / 256 % 256 :: n.number / 65536 % 256 :: n.number / 16777216 :: (n.bytes ++ le4 (dadd 2166136261 (core n))) := by
  simp [encB, core, le4]
/-- A note is read back from its bytes, whatever stands behind them. -/
theorem dec_enc {n : Note} (ok : chkN n = 0) (more : List Int) : sDec (encB n ++ more) = (n, 12 + (n.bytes.length : Int), 0) := by
  obtain ⟨h1, h2, h3, h4, h5, h6, h7⟩ := chkN_0 ok
  have hl : (encB n ++ more).length = 12 + n.bytes.length + more.length := by rw [List.length_append, encB_len]
  have hk : kOf (encB n ++ more) = 6 + (n.bytes.length : Int) := by
    unfold kOf
    rw [encB_list]
    simp only [List.cons_append, List.getElem!_cons_zero, List.getElem!_cons_succ]
    omega
  have hn : noteOf (encB n ++ more) = n := by
    unfold noteOf
    rw [hk, show (6 + (n.bytes.length : Int) + 2).toNat = n.bytes.length + 8 by omega, encB_list]
    simp only [List.cons_append, List.getElem!_cons_zero, List.getElem!_cons_succ, List.take_succ_cons, List.drop_succ_cons, List.drop_zero, List.append_assoc]
    rw [List.take_left' rfl]
    unfold num4
    obtain ⟨k, nu, s, by_⟩ := n
    simp only at h5 h6 ⊢
    congr 1
    omega
  unfold sDec
  rw [hn, hk, hl, if_neg (by omega), if_neg (by omega), if_neg (by omega)]
  have e : (encB n ++ more).take (6 + (n.bytes.length : Int) + 6).toNat = encB n := by
    rw [show (6 + (n.bytes.length : Int) + 6).toNat = 12 + n.bytes.length by omega]
    exact List.take_left' (encB_len n)
  rw [e, if_pos (by unfold sEnc; rw [if_pos ok]; exact ⟨rfl, rfl⟩)]
  congr 2
  omega
end Go.Proofs.Ytdjjhajkpfiagaa
