/- Sockets: what is received, of any inputs. -/
import Derived.Test.YtibfpmochioopaaK5
namespace Go.Proofs.Ytibfpmochioopaa
open Go Go.RowKit Rdn Rdn.Dp
set_option linter.unusedVariables false
set_option linter.unusedSimpArgs false
def m_rrecv : MC := .seq (.reg [⟨(some 6), none, (.p (.mov (.c (.nilS))))⟩, ⟨(some 7), none, (.p (.mov (.c (.nilS))))⟩, ⟨(some 8), none, (.p (.mov (.c (.bool false))))⟩])
 (.seq (.reg [⟨(some 14), none, (.p (.mov (.t 0)))⟩, ⟨(some 15), none, (.call 31 [(.t 14)])⟩, ⟨(some 9), none, (.p (.mov (.t 15)))⟩])
 (.seq (.seq (.reg [⟨(some 16), none, (.p (.mov (.t 1)))⟩, ⟨(some 17), none, (.p (.bin 0 .lss (.t 16) (.c (.int .i64 0))))⟩, ⟨(some 18), none, (.p (.mov (.t 17)))⟩, ⟨(some 19), (some (18, false)), (.p (.mov (.t 1)))⟩, ⟨(some 20), (some (18, false)), (.p (.mov (.t 0)))⟩, ⟨(some 21), (some (18, false)), (.p (.len (.t 20)))⟩, ⟨(some 22), (some (18, false)), (.p (.bin 0 .geq (.t 19) (.t 21)))⟩, ⟨(some 23), none, (.p (.pick (.t 18) (.c (.bool true)) (.t 22)))⟩, ⟨(some 24), none, (.p (.mov (.t 23)))⟩, ⟨(some 25), (some (24, false)), (.p (.mov (.t 2)))⟩, ⟨(some 26), (some (24, false)), (.p (.bin 0 .lss (.t 25) (.c (.int .i64 0))))⟩, ⟨(some 27), none, (.p (.pick (.t 24) (.c (.bool true)) (.t 26)))⟩])
 (.cond (.t 27) (.seq (.reg [⟨(some 28), none, (.p (.mov (.t 9)))⟩, ⟨(some 6), none, (.p (.mov (.t 28)))⟩, ⟨(some 7), none, (.p (.mov (.c (.nilS))))⟩, ⟨(some 8), none, (.p (.mov (.c (.bool false))))⟩])
 (.ret)) (.skip)))
 (.seq (.reg [⟨(some 29), none, (.p (.mov (.t 2)))⟩, ⟨(some 30), none, (.p (.mov (.t 0)))⟩, ⟨(some 31), none, (.p (.mov (.t 1)))⟩, ⟨(some 32), none, (.p (.idxA 1 (.t 30) (.t 31)))⟩, ⟨(some 33), none, (.p (.load false 1 (.t 32)))⟩, ⟨(some 34), none, (.p (.len (.t 33)))⟩, ⟨(some 35), none, (.p (.mn (.t 29) (.t 34)))⟩, ⟨(some 10), none, (.p (.mov (.t 35)))⟩])
 (.seq (.reg [⟨(some 11), none, (.p (.mov (.c (.nilS))))⟩])
 (.seq (.seq (.reg [⟨(some 36), none, (.p (.mov (.t 0)))⟩, ⟨(some 37), none, (.p (.mov (.t 1)))⟩, ⟨(some 38), none, (.p (.idxA 1 (.t 36) (.t 37)))⟩, ⟨(some 39), none, (.p (.load false 1 (.t 38)))⟩, ⟨(some 40), none, (.p (.mov (.t 10)))⟩, ⟨(some 41), none, (.m (.sl 1 (.t 39) none (some (.t 40)) none))⟩, ⟨(some 42), none, (.p (.len (.t 41)))⟩, ⟨(some 43), none, (.p (.mov (.c (.int .i64 0))))⟩])
 (.block 0 (.loop (.seq (.reg [⟨(some 44), none, (.p (.bin 0 .lss (.t 43) (.t 42)))⟩])
 (.seq (.cond (.t 44) (.skip) (.exit 0))
 (.seq (.block 1 (.seq (.reg [⟨(some 45), none, (.p (.idxA 1 (.t 41) (.t 43)))⟩, ⟨(some 46), none, (.p (.load false 1 (.t 45)))⟩, ⟨(some 13), none, (.p (.mov (.t 46)))⟩])
 (.reg [⟨(some 47), none, (.p (.mov (.t 11)))⟩, ⟨(some 48), none, (.p (.mov (.t 13)))⟩, ⟨(some 49), none, (.m (.build none [.int .u8 0, .int .u16 0, .int .i64 0, .int .i64 0] [(1, (.t 48))]))⟩, ⟨(some 50), none, (.m (.buildS 59 4 (.agg [.int .u8 0, .int .u16 0, .int .i64 0, .int .i64 0]) 1 [(0, (.t 49))]))⟩, ⟨(some 51), none, (.m (.app 59 4 24 (.t 47) (.t 50)))⟩, ⟨(some 11), none, (.p (.mov (.t 51)))⟩])))
 (.reg [⟨(some 52), none, (.p (.bin 0 .add (.t 43) (.c (.int .i64 1))))⟩, ⟨(some 43), none, (.p (.mov (.t 52)))⟩])))))))
 (.seq (.reg [⟨(some 53), none, (.p (.mov (.t 9)))⟩, ⟨(some 54), none, (.p (.mov (.t 1)))⟩, ⟨(some 55), none, (.p (.mov (.t 9)))⟩, ⟨(some 56), none, (.p (.mov (.t 1)))⟩, ⟨(some 57), none, (.p (.idxA 1 (.t 55) (.t 56)))⟩, ⟨(some 58), none, (.p (.load false 1 (.t 57)))⟩, ⟨(some 59), none, (.p (.mov (.t 10)))⟩, ⟨(some 60), none, (.m (.sl 1 (.t 58) (some (.t 59)) none none))⟩, ⟨(some 61), none, (.p (.idxA 1 (.t 53) (.t 54)))⟩, ⟨none, none, (.m (.store 1 (.t 61) (.t 60)))⟩])
 (.seq (.reg [⟨(some 62), none, (.p (.mov (.t 9)))⟩, ⟨(some 63), none, (.p (.mov (.t 11)))⟩, ⟨(some 6), none, (.p (.mov (.t 62)))⟩, ⟨(some 7), none, (.p (.mov (.t 63)))⟩, ⟨(some 8), none, (.p (.mov (.c (.bool true))))⟩])
 (.ret))))))))
theorem m_rrecv_ok : compF Try.prog 21 = some (64, m_rrecv, [.mov (.t 6), .mov (.t 7), .mov (.t 8)]) := by kernel_rfl
def sRecv (wss : List (List Int)) (s n : Int) : List (List Int) × List Canon × Bool :=
  if s < 0 ∨ s ≥ wss.length ∨ n < 0 then (wss, [], false)
  else (wss.set s.toNat ((wss[s.toNat]!).drop (min n.toNat (wss[s.toNat]!).length)), numC ((wss[s.toNat]!).take (min n.toNat (wss[s.toNat]!).length)), true)
theorem set_slV {α : Type} (t : Bool) (s : Nat) (f : α → V) (l : List (List α)) (i : Nat) (d : List α) : (l.map (slV' t s f)).set i (V.sl t s (d.map f)) = (l.set i d).map (slV' t s f) := by rw [List.map_set]
attribute [local go_sem] take_mapW drop_mapW List.take_length set_slV
set_option maxHeartbeats 8000000 in
theorem copyinG_fn (wss : List (List Int)) (hl : wss.length ≤ 1000) (hw : ∀ w ∈ wss, w.length ≤ 100000) : Fnc Try.prog 31 [.sl false 1 (wss.map (slV' false 1 (V.int .u16)))] (fun x obs => x = .own 0 0 ∧ obs = [⟨.row 29, true, 0, .arr 1 (wss.map (slV' true 1 (V.int .u16)))⟩]) := by
  refine Fnc.intro m_copyin_ok (by simp) fun W S => ?_
  unfold m_copyin
  simp only [ents, Nat.zero_add, Nat.reduceAdd]
  repeat (first | refine And.intro (by omega) ?_ | refine And.intro rfl ?_ | refine ev_ctl rfl rfl ?_ | refine evr_nil ?_ | refine evw_nil (by kernel_rfl) ?_ | (simp (disch := omega) only [takeAll, Nat.min_eq_left, Nat.min_eq_right, if_pos, if_neg, getD_map, wrapI64, modIn, fdivE, tmodE, tdivE, decT, decF, beqT, beqF, bneT, bneF, Int.toNat_natCast]; try simp only [go_sem]) | (refine ev_condTb rfl ?_ ?_; · (simp <;> omega)) | (refine ev_condFb rfl ?_ ?_; · (simp <;> omega)) | ((first | refine ev_region ?_ | refine evr_go rfl ?_ | refine evw_go rfl ?_ | refine ev_dr0 mixed rfl (by kernel_rfl) ?_ | refine ev_dr1 mixed rfl (by kernel_rfl) ?_ | refine ev_dr2 mixed rfl (by kernel_rfl) ?_); simp only [go_sem]))
  refine ev_adopt (i := 3) (e := 29) (s := 1) rfl (by decide) ?_
  refine ev_loopK [6, 7] (fun p : {p : Nat // p ≤ wss.length} => [(3, .own 0 p.1), (8, .int .i64 p.1)]) (fun p => [⟨.row 29, true, p.1, .arr 1 ((wss.take p.1).map (slV' true 1 (V.int .u16)))⟩]) (fun p => wss.length - p.1) (⟨0, by simp⟩) 1 (by simp only [go_sem]; rfl) ?_ (by first | rfl | (simp only [go_sem]; done)) (by simp) (by first | rfl | (simp only [go_sem]; done)) (by first | rfl | (simp only [go_sem]; done)) (by first | rfl | (simp only [go_sem]; done)) ?_
  · (simp only [go_sem]; (try simp []); done)
  intro J hJ
  rintro ⟨k, hk0⟩
  by_cases hlt : k < wss.length
  · have h1 := hw _ (mem_at hlt)
    have htl : (wss.take k).length = k := by rw [List.length_take]; omega
    have hs := take_snoc hlt
    repeat (first | refine And.intro (by omega) ?_ | refine And.intro rfl ?_ | refine ev_ctl rfl rfl ?_ | refine evr_nil ?_ | refine evw_nil (by kernel_rfl) ?_ | (simp (disch := omega) only [takeAll, Nat.min_eq_left, Nat.min_eq_right, if_pos, if_neg, getD_map, wrapI64, modIn, fdivE, tmodE, tdivE, decT, decF, beqT, beqF, bneT, bneF, Int.toNat_natCast]; try simp only [go_sem]) | (refine ev_condTb rfl ?_ ?_; · (simp <;> omega)) | (refine ev_condFb rfl ?_ ?_; · (simp <;> omega)) | ((first | refine ev_region ?_ | refine evr_go rfl ?_ | refine evw_go rfl ?_ | refine ev_dr0 mixed rfl (by kernel_rfl) ?_ | refine ev_dr1 mixed rfl (by kernel_rfl) ?_ | refine ev_dr2 mixed rfl (by kernel_rfl) ?_); simp only [go_sem]))
    refine ev_next 1 (hJ _ (⟨k + 1, hlt⟩) (by first | omega | (dsimp only; omega) | (simp; omega))) rfl (by simp) ?_ (by first | rfl | (simp only [go_sem]; done)) (by first | rfl | (simp only [go_sem]; done)) ?_
    · (first | rfl | (simp only [go_sem]; done) | (simp only [go_sem]; simp only [hs]; done) | (simp only [go_sem]; simp [hs]; done) | (simp [hs]; done))
    · (simp only [go_sem]; (repeat' (refine And.intro ?_ ?_)) <;> first | exact trivial | with_reducible rfl | (simp only [hs]; done) | (simp only [hs]; with_reducible rfl) | (simp [hs]; done) | (simp [hs]; omega) | (simp only [hs]; rfl) | skip)
  · obtain rfl : k = wss.length := by omega
    repeat (first | refine And.intro (by omega) ?_ | refine And.intro rfl ?_ | refine ev_ctl rfl rfl ?_ | refine evr_nil ?_ | refine evw_nil (by kernel_rfl) ?_ | (simp (disch := omega) only [takeAll, Nat.min_eq_left, Nat.min_eq_right, if_pos, if_neg, getD_map, wrapI64, modIn, fdivE, tmodE, tdivE, decT, decF, beqT, beqF, bneT, bneF, Int.toNat_natCast]; try simp only [go_sem]) | (refine ev_condTb rfl ?_ ?_; · (simp <;> omega)) | (refine ev_condFb rfl ?_ ?_; · (simp <;> omega)) | ((first | refine ev_region ?_ | refine evr_go rfl ?_ | refine evw_go rfl ?_ | refine ev_dr0 mixed rfl (by kernel_rfl) ?_ | refine ev_dr1 mixed rfl (by kernel_rfl) ?_ | refine ev_dr2 mixed rfl (by kernel_rfl) ?_); simp only [go_sem]))
    refine ret m_copyin_ok [0] ?_; (first | (simp only [go_sem]; done) | (simp only [go_sem]; ((try dsimp only); (repeat' (refine And.intro ?_ ?_)) <;> first | with_reducible rfl | (simp only [go_sem]; done) | (simp only [go_sem]; rfl) | (simp only [List.take_length]; (try simp only [go_sem]); first | done | rfl) | (simp only [go_sem]; simp [List.take_length]; done) | (simp [List.take_length]; done) | rfl)))
set_option maxHeartbeats 8000000 in
theorem recvG_fn (wss : List (List Int)) (s n : Int) (hl : wss.length ≤ 1000) (hw : ∀ w ∈ wss, w.length ≤ 100000) : Fnc Try.prog 20 [.sl false 1 (wss.map (slV' false 1 (V.int .u16))), .int .i64 s, .int .i64 n] (fun x obs => x = .tup [.sl false 1 ((sRecv wss s n).1.map (slV' false 1 (V.int .u16))), .sl false 4 ((sRecv wss s n).2.1.map canonV), .bool (sRecv wss s n).2.2] ∧ obs = []) := by
  refine Fnc.low ?_
  have fail : (s < 0 ∨ s ≥ wss.length ∨ n < 0) → sRecv wss s n = (wss, [], false) := fun h => by rw [sRecv, if_pos h]
  by_cases c1 : s < 0
  · rw [fail (.inl c1)]
    refine Fnc.intro m_recv_ok (by simp) fun W S => ?_
    unfold m_recv
    simp only [ents, Nat.zero_add, Nat.reduceAdd]
    repeat (first | refine And.intro (by omega) ?_ | refine And.intro rfl ?_ | refine ev_ctl rfl rfl ?_ | refine evr_nil ?_ | refine evw_nil (by kernel_rfl) ?_ | (simp (disch := omega) only [takeAll, Nat.min_eq_left, Nat.min_eq_right, if_pos, if_neg, getD_map, wrapI64, modIn, fdivE, tmodE, tdivE, decT, decF, beqT, beqF, bneT, bneF, Int.toNat_natCast]; try simp only [go_sem]) | (refine ev_condTb rfl ?_ ?_; · (simp <;> omega)) | (refine ev_condFb rfl ?_ ?_; · (simp <;> omega)) | ((first | refine ev_region ?_ | refine evr_go rfl ?_ | refine evw_go rfl ?_ | refine ev_dr0 mixed rfl (by kernel_rfl) ?_ | refine ev_dr1 mixed rfl (by kernel_rfl) ?_ | refine ev_dr2 mixed rfl (by kernel_rfl) ?_); simp only [go_sem]))
    refine ev_adopt (i := 9) (e := 29) (s := 1) rfl (by decide) ?_
    refine ev_loopK [0, 1, 2, 15, 16] (fun p : {p : Nat // p ≤ wss.length} => [(9, .own 0 p.1), (17, .int .i64 p.1)]) (fun p => [⟨.row 29, true, p.1, .arr 1 ((wss.take p.1).map (slV' true 1 (V.int .u16)))⟩]) (fun p => wss.length - p.1) (⟨0, by simp⟩) 1 (by simp only [go_sem]; rfl) ?_ (by first | rfl | (simp only [go_sem]; done)) (by simp) (by first | rfl | (simp only [go_sem]; done)) (by first | rfl | (simp only [go_sem]; done)) (by first | rfl | (simp only [go_sem]; done)) ?_
    · (simp only [go_sem]; (try simp []); done)
    intro J hJ
    rintro ⟨k, hk0⟩
    by_cases hlt : k < wss.length
    · have h1 := hw _ (mem_at hlt)
      have htl : (wss.take k).length = k := by rw [List.length_take]; omega
      have hs := take_snoc hlt
      repeat (first | refine And.intro (by omega) ?_ | refine And.intro rfl ?_ | refine ev_ctl rfl rfl ?_ | refine evr_nil ?_ | refine evw_nil (by kernel_rfl) ?_ | (simp (disch := omega) only [takeAll, Nat.min_eq_left, Nat.min_eq_right, if_pos, if_neg, getD_map, wrapI64, modIn, fdivE, tmodE, tdivE, decT, decF, beqT, beqF, bneT, bneF, Int.toNat_natCast]; try simp only [go_sem]) | (refine ev_condTb rfl ?_ ?_; · (simp <;> omega)) | (refine ev_condFb rfl ?_ ?_; · (simp <;> omega)) | ((first | refine ev_region ?_ | refine evr_go rfl ?_ | refine evw_go rfl ?_ | refine ev_dr0 mixed rfl (by kernel_rfl) ?_ | refine ev_dr1 mixed rfl (by kernel_rfl) ?_ | refine ev_dr2 mixed rfl (by kernel_rfl) ?_); simp only [go_sem]))
      (first | refine callD (clw_fn wss[k]! (by omega)) ?_ | refine callDw (clw_fn wss[k]! (by omega)) ?_); simp only [go_sem]
      repeat (first | refine And.intro (by omega) ?_ | refine And.intro rfl ?_ | refine ev_ctl rfl rfl ?_ | refine evr_nil ?_ | refine evw_nil (by kernel_rfl) ?_ | (simp (disch := omega) only [takeAll, Nat.min_eq_left, Nat.min_eq_right, if_pos, if_neg, getD_map, wrapI64, modIn, fdivE, tmodE, tdivE, decT, decF, beqT, beqF, bneT, bneF, Int.toNat_natCast]; try simp only [go_sem]) | (refine ev_condTb rfl ?_ ?_; · (simp <;> omega)) | (refine ev_condFb rfl ?_ ?_; · (simp <;> omega)) | ((first | refine ev_region ?_ | refine evr_go rfl ?_ | refine evw_go rfl ?_ | refine ev_dr0 mixed rfl (by kernel_rfl) ?_ | refine ev_dr1 mixed rfl (by kernel_rfl) ?_ | refine ev_dr2 mixed rfl (by kernel_rfl) ?_); simp only [go_sem]))
      refine ev_next 1 (hJ _ (⟨k + 1, hlt⟩) (by first | omega | (dsimp only; omega) | (simp; omega))) rfl (by simp) ?_ (by first | rfl | (simp only [go_sem]; done)) (by first | rfl | (simp only [go_sem]; done)) ?_
      · (first | rfl | (simp only [go_sem]; done) | (simp only [go_sem]; simp only [hs]; done) | (simp only [go_sem]; simp [hs]; done) | (simp [hs]; done))
      · (simp only [go_sem]; (repeat' (refine And.intro ?_ ?_)) <;> first | exact trivial | with_reducible rfl | (simp only [hs]; done) | (simp only [hs]; with_reducible rfl) | (simp [hs]; done) | (simp [hs]; omega) | (simp only [hs]; rfl) | skip)
    obtain rfl : k = wss.length := by omega
    repeat (first | refine And.intro (by omega) ?_ | refine And.intro rfl ?_ | refine ev_ctl rfl rfl ?_ | refine evr_nil ?_ | refine evw_nil (by kernel_rfl) ?_ | (simp (disch := omega) only [takeAll, Nat.min_eq_left, Nat.min_eq_right, if_pos, if_neg, getD_map, wrapI64, modIn, fdivE, tmodE, tdivE, decT, decF, beqT, beqF, bneT, bneF, Int.toNat_natCast]; try simp only [go_sem]) | (refine ev_condTb rfl ?_ ?_; · (simp <;> omega)) | (refine ev_condFb rfl ?_ ?_; · (simp <;> omega)) | ((first | refine ev_region ?_ | refine evr_go rfl ?_ | refine evw_go rfl ?_ | refine ev_dr0 mixed rfl (by kernel_rfl) ?_ | refine ev_dr1 mixed rfl (by kernel_rfl) ?_ | refine ev_dr2 mixed rfl (by kernel_rfl) ?_); simp only [go_sem]))
    refine ev_nil2 7 false 4 rfl ?_
    refine ret m_recv_ok [] ?_; (first | (simp only [go_sem]; done) | (simp only [go_sem]; ((try dsimp only); (repeat' (refine And.intro ?_ ?_)) <;> first | with_reducible rfl | (simp only [go_sem]; done) | (simp only [go_sem]; rfl) | (simp only [List.take_length]; (try simp only [go_sem]); first | done | rfl) | (simp only [go_sem]; simp [List.take_length]; done) | (simp [List.take_length]; done) | rfl)))
  by_cases c2 : s ≥ wss.length
  · rw [fail (.inr (.inl c2))]
    refine Fnc.intro m_recv_ok (by simp) fun W S => ?_
    unfold m_recv
    simp only [ents, Nat.zero_add, Nat.reduceAdd]
    repeat (first | refine And.intro (by omega) ?_ | refine And.intro rfl ?_ | refine ev_ctl rfl rfl ?_ | refine evr_nil ?_ | refine evw_nil (by kernel_rfl) ?_ | (simp (disch := omega) only [takeAll, Nat.min_eq_left, Nat.min_eq_right, if_pos, if_neg, getD_map, wrapI64, modIn, fdivE, tmodE, tdivE, decT, decF, beqT, beqF, bneT, bneF, Int.toNat_natCast]; try simp only [go_sem]) | (refine ev_condTb rfl ?_ ?_; · (simp <;> omega)) | (refine ev_condFb rfl ?_ ?_; · (simp <;> omega)) | ((first | refine ev_region ?_ | refine evr_go rfl ?_ | refine evw_go rfl ?_ | refine ev_dr0 mixed rfl (by kernel_rfl) ?_ | refine ev_dr1 mixed rfl (by kernel_rfl) ?_ | refine ev_dr2 mixed rfl (by kernel_rfl) ?_); simp only [go_sem]))
    refine ev_adopt (i := 9) (e := 29) (s := 1) rfl (by decide) ?_
    refine ev_loopK [0, 1, 2, 15, 16] (fun p : {p : Nat // p ≤ wss.length} => [(9, .own 0 p.1), (17, .int .i64 p.1)]) (fun p => [⟨.row 29, true, p.1, .arr 1 ((wss.take p.1).map (slV' true 1 (V.int .u16)))⟩]) (fun p => wss.length - p.1) (⟨0, by simp⟩) 1 (by simp only [go_sem]; rfl) ?_ (by first | rfl | (simp only [go_sem]; done)) (by simp) (by first | rfl | (simp only [go_sem]; done)) (by first | rfl | (simp only [go_sem]; done)) (by first | rfl | (simp only [go_sem]; done)) ?_
    · (simp only [go_sem]; (try simp []); done)
    intro J hJ
    rintro ⟨k, hk0⟩
    by_cases hlt : k < wss.length
    · have h1 := hw _ (mem_at hlt)
      have htl : (wss.take k).length = k := by rw [List.length_take]; omega
      have hs := take_snoc hlt
      repeat (first | refine And.intro (by omega) ?_ | refine And.intro rfl ?_ | refine ev_ctl rfl rfl ?_ | refine evr_nil ?_ | refine evw_nil (by kernel_rfl) ?_ | (simp (disch := omega) only [takeAll, Nat.min_eq_left, Nat.min_eq_right, if_pos, if_neg, getD_map, wrapI64, modIn, fdivE, tmodE, tdivE, decT, decF, beqT, beqF, bneT, bneF, Int.toNat_natCast]; try simp only [go_sem]) | (refine ev_condTb rfl ?_ ?_; · (simp <;> omega)) | (refine ev_condFb rfl ?_ ?_; · (simp <;> omega)) | ((first | refine ev_region ?_ | refine evr_go rfl ?_ | refine evw_go rfl ?_ | refine ev_dr0 mixed rfl (by kernel_rfl) ?_ | refine ev_dr1 mixed rfl (by kernel_rfl) ?_ | refine ev_dr2 mixed rfl (by kernel_rfl) ?_); simp only [go_sem]))
      (first | refine callD (clw_fn wss[k]! (by omega)) ?_ | refine callDw (clw_fn wss[k]! (by omega)) ?_); simp only [go_sem]
      repeat (first | refine And.intro (by omega) ?_ | refine And.intro rfl ?_ | refine ev_ctl rfl rfl ?_ | refine evr_nil ?_ | refine evw_nil (by kernel_rfl) ?_ | (simp (disch := omega) only [takeAll, Nat.min_eq_left, Nat.min_eq_right, if_pos, if_neg, getD_map, wrapI64, modIn, fdivE, tmodE, tdivE, decT, decF, beqT, beqF, bneT, bneF, Int.toNat_natCast]; try simp only [go_sem]) | (refine ev_condTb rfl ?_ ?_; · (simp <;> omega)) | (refine ev_condFb rfl ?_ ?_; · (simp <;> omega)) | ((first | refine ev_region ?_ | refine evr_go rfl ?_ | refine evw_go rfl ?_ | refine ev_dr0 mixed rfl (by kernel_rfl) ?_ | refine ev_dr1 mixed rfl (by kernel_rfl) ?_ | refine ev_dr2 mixed rfl (by kernel_rfl) ?_); simp only [go_sem]))
      refine ev_next 1 (hJ _ (⟨k + 1, hlt⟩) (by first | omega | (dsimp only; omega) | (simp; omega))) rfl (by simp) ?_ (by first | rfl | (simp only [go_sem]; done)) (by first | rfl | (simp only [go_sem]; done)) ?_
      · (first | rfl | (simp only [go_sem]; done) | (simp only [go_sem]; simp only [hs]; done) | (simp only [go_sem]; simp [hs]; done) | (simp [hs]; done))
      · (simp only [go_sem]; (repeat' (refine And.intro ?_ ?_)) <;> first | exact trivial | with_reducible rfl | (simp only [hs]; done) | (simp only [hs]; with_reducible rfl) | (simp [hs]; done) | (simp [hs]; omega) | (simp only [hs]; rfl) | skip)
    obtain rfl : k = wss.length := by omega
    repeat (first | refine And.intro (by omega) ?_ | refine And.intro rfl ?_ | refine ev_ctl rfl rfl ?_ | refine evr_nil ?_ | refine evw_nil (by kernel_rfl) ?_ | (simp (disch := omega) only [takeAll, Nat.min_eq_left, Nat.min_eq_right, if_pos, if_neg, getD_map, wrapI64, modIn, fdivE, tmodE, tdivE, decT, decF, beqT, beqF, bneT, bneF, Int.toNat_natCast]; try simp only [go_sem]) | (refine ev_condTb rfl ?_ ?_; · (simp <;> omega)) | (refine ev_condFb rfl ?_ ?_; · (simp <;> omega)) | ((first | refine ev_region ?_ | refine evr_go rfl ?_ | refine evw_go rfl ?_ | refine ev_dr0 mixed rfl (by kernel_rfl) ?_ | refine ev_dr1 mixed rfl (by kernel_rfl) ?_ | refine ev_dr2 mixed rfl (by kernel_rfl) ?_); simp only [go_sem]))
    refine ev_nil2 7 false 4 rfl ?_
    refine ret m_recv_ok [] ?_; (first | (simp only [go_sem]; done) | (simp only [go_sem]; ((try dsimp only); (repeat' (refine And.intro ?_ ?_)) <;> first | with_reducible rfl | (simp only [go_sem]; done) | (simp only [go_sem]; rfl) | (simp only [List.take_length]; (try simp only [go_sem]); first | done | rfl) | (simp only [go_sem]; simp [List.take_length]; done) | (simp [List.take_length]; done) | rfl)))
  by_cases c3 : n < 0
  · rw [fail (.inr (.inr c3))]
    refine Fnc.intro m_recv_ok (by simp) fun W S => ?_
    unfold m_recv
    simp only [ents, Nat.zero_add, Nat.reduceAdd]
    repeat (first | refine And.intro (by omega) ?_ | refine And.intro rfl ?_ | refine ev_ctl rfl rfl ?_ | refine evr_nil ?_ | refine evw_nil (by kernel_rfl) ?_ | (simp (disch := omega) only [takeAll, Nat.min_eq_left, Nat.min_eq_right, if_pos, if_neg, getD_map, wrapI64, modIn, fdivE, tmodE, tdivE, decT, decF, beqT, beqF, bneT, bneF, Int.toNat_natCast]; try simp only [go_sem]) | (refine ev_condTb rfl ?_ ?_; · (simp <;> omega)) | (refine ev_condFb rfl ?_ ?_; · (simp <;> omega)) | ((first | refine ev_region ?_ | refine evr_go rfl ?_ | refine evw_go rfl ?_ | refine ev_dr0 mixed rfl (by kernel_rfl) ?_ | refine ev_dr1 mixed rfl (by kernel_rfl) ?_ | refine ev_dr2 mixed rfl (by kernel_rfl) ?_); simp only [go_sem]))
    refine ev_adopt (i := 9) (e := 29) (s := 1) rfl (by decide) ?_
    refine ev_loopK [0, 1, 2, 15, 16] (fun p : {p : Nat // p ≤ wss.length} => [(9, .own 0 p.1), (17, .int .i64 p.1)]) (fun p => [⟨.row 29, true, p.1, .arr 1 ((wss.take p.1).map (slV' true 1 (V.int .u16)))⟩]) (fun p => wss.length - p.1) (⟨0, by simp⟩) 1 (by simp only [go_sem]; rfl) ?_ (by first | rfl | (simp only [go_sem]; done)) (by simp) (by first | rfl | (simp only [go_sem]; done)) (by first | rfl | (simp only [go_sem]; done)) (by first | rfl | (simp only [go_sem]; done)) ?_
    · (simp only [go_sem]; (try simp []); done)
    intro J hJ
    rintro ⟨k, hk0⟩
    by_cases hlt : k < wss.length
    · have h1 := hw _ (mem_at hlt)
      have htl : (wss.take k).length = k := by rw [List.length_take]; omega
      have hs := take_snoc hlt
      repeat (first | refine And.intro (by omega) ?_ | refine And.intro rfl ?_ | refine ev_ctl rfl rfl ?_ | refine evr_nil ?_ | refine evw_nil (by kernel_rfl) ?_ | (simp (disch := omega) only [takeAll, Nat.min_eq_left, Nat.min_eq_right, if_pos, if_neg, getD_map, wrapI64, modIn, fdivE, tmodE, tdivE, decT, decF, beqT, beqF, bneT, bneF, Int.toNat_natCast]; try simp only [go_sem]) | (refine ev_condTb rfl ?_ ?_; · (simp <;> omega)) | (refine ev_condFb rfl ?_ ?_; · (simp <;> omega)) | ((first | refine ev_region ?_ | refine evr_go rfl ?_ | refine evw_go rfl ?_ | refine ev_dr0 mixed rfl (by kernel_rfl) ?_ | refine ev_dr1 mixed rfl (by kernel_rfl) ?_ | refine ev_dr2 mixed rfl (by kernel_rfl) ?_); simp only [go_sem]))
      (first | refine callD (clw_fn wss[k]! (by omega)) ?_ | refine callDw (clw_fn wss[k]! (by omega)) ?_); simp only [go_sem]
      repeat (first | refine And.intro (by omega) ?_ | refine And.intro rfl ?_ | refine ev_ctl rfl rfl ?_ | refine evr_nil ?_ | refine evw_nil (by kernel_rfl) ?_ | (simp (disch := omega) only [takeAll, Nat.min_eq_left, Nat.min_eq_right, if_pos, if_neg, getD_map, wrapI64, modIn, fdivE, tmodE, tdivE, decT, decF, beqT, beqF, bneT, bneF, Int.toNat_natCast]; try simp only [go_sem]) | (refine ev_condTb rfl ?_ ?_; · (simp <;> omega)) | (refine ev_condFb rfl ?_ ?_; · (simp <;> omega)) | ((first | refine ev_region ?_ | refine evr_go rfl ?_ | refine evw_go rfl ?_ | refine ev_dr0 mixed rfl (by kernel_rfl) ?_ | refine ev_dr1 mixed rfl (by kernel_rfl) ?_ | refine ev_dr2 mixed rfl (by kernel_rfl) ?_); simp only [go_sem]))
      refine ev_next 1 (hJ _ (⟨k + 1, hlt⟩) (by first | omega | (dsimp only; omega) | (simp; omega))) rfl (by simp) ?_ (by first | rfl | (simp only [go_sem]; done)) (by first | rfl | (simp only [go_sem]; done)) ?_
      · (first | rfl | (simp only [go_sem]; done) | (simp only [go_sem]; simp only [hs]; done) | (simp only [go_sem]; simp [hs]; done) | (simp [hs]; done))
      · (simp only [go_sem]; (repeat' (refine And.intro ?_ ?_)) <;> first | exact trivial | with_reducible rfl | (simp only [hs]; done) | (simp only [hs]; with_reducible rfl) | (simp [hs]; done) | (simp [hs]; omega) | (simp only [hs]; rfl) | skip)
    obtain rfl : k = wss.length := by omega
    repeat (first | refine And.intro (by omega) ?_ | refine And.intro rfl ?_ | refine ev_ctl rfl rfl ?_ | refine evr_nil ?_ | refine evw_nil (by kernel_rfl) ?_ | (simp (disch := omega) only [takeAll, Nat.min_eq_left, Nat.min_eq_right, if_pos, if_neg, getD_map, wrapI64, modIn, fdivE, tmodE, tdivE, decT, decF, beqT, beqF, bneT, bneF, Int.toNat_natCast]; try simp only [go_sem]) | (refine ev_condTb rfl ?_ ?_; · (simp <;> omega)) | (refine ev_condFb rfl ?_ ?_; · (simp <;> omega)) | ((first | refine ev_region ?_ | refine evr_go rfl ?_ | refine evw_go rfl ?_ | refine ev_dr0 mixed rfl (by kernel_rfl) ?_ | refine ev_dr1 mixed rfl (by kernel_rfl) ?_ | refine ev_dr2 mixed rfl (by kernel_rfl) ?_); simp only [go_sem]))
    refine ev_nil2 7 false 4 rfl ?_
    refine ret m_recv_ok [] ?_; (first | (simp only [go_sem]; done) | (simp only [go_sem]; ((try dsimp only); (repeat' (refine And.intro ?_ ?_)) <;> first | with_reducible rfl | (simp only [go_sem]; done) | (simp only [go_sem]; rfl) | (simp only [List.take_length]; (try simp only [go_sem]); first | done | rfl) | (simp only [go_sem]; simp [List.take_length]; done) | (simp [List.take_length]; done) | rfl)))
  obtain ⟨S0, rfl⟩ := Int.eq_ofNat_of_zero_le (show 0 ≤ s by omega)
  have hS0 : S0 < wss.length := by omega
  obtain ⟨w, hwe⟩ : ∃ w, wss[S0]! = w := ⟨_, rfl⟩
  have hwl : w.length ≤ 100000 := by rw [← hwe]; exact hw _ (mem_at hS0)
  obtain ⟨M, hM⟩ : ∃ M, M = min n.toNat w.length := ⟨_, rfl⟩
  have hmin : (if (w.length : Int) < n then (w.length : Int) else n) = (M : Int) := by split <;> omega
  have e : sRecv wss S0 n = (wss.set S0 (w.drop M), numC (w.take M), true) := by
    rw [sRecv, if_neg (by omega), Int.toNat_natCast, hwe, ← hM]
  rw [e]
  obtain ⟨X, hXe⟩ : ∃ X, List.take M w = X := ⟨_, rfl⟩
  have hX : X.length = M := by rw [← hXe, List.length_take]; omega
  have hg : (wss.map (slV' true 1 (V.int .u16))).getD S0 .junk = V.sl true 1 (w.map (V.int .u16)) := by rw [getD_map _ _ _ hS0, hwe]
  rw [hXe]
  refine Fnc.intro m_recv_ok (by simp) fun W S => ?_
  unfold m_recv
  simp only [ents, Nat.zero_add, Nat.reduceAdd]
  repeat (first | refine And.intro (by omega) ?_ | refine And.intro rfl ?_ | refine ev_ctl rfl rfl ?_ | refine evr_nil ?_ | refine evw_nil (by kernel_rfl) ?_ | (simp (disch := omega) only [takeAll, Nat.min_eq_left, Nat.min_eq_right, if_pos, if_neg, getD_map, wrapI64, modIn, fdivE, tmodE, tdivE, decT, decF, beqT, beqF, bneT, bneF, Int.toNat_natCast]; try simp only [go_sem]) | (refine ev_condTb rfl ?_ ?_; · (simp <;> omega)) | (refine ev_condFb rfl ?_ ?_; · (simp <;> omega)) | ((first | refine ev_region ?_ | refine evr_go rfl ?_ | refine evw_go rfl ?_ | refine ev_dr0 mixed rfl (by kernel_rfl) ?_ | refine ev_dr1 mixed rfl (by kernel_rfl) ?_ | refine ev_dr2 mixed rfl (by kernel_rfl) ?_); simp only [go_sem]))
  refine ev_adopt (i := 9) (e := 29) (s := 1) rfl (by decide) ?_
  refine ev_loopK [0, 1, 2, 15, 16] (fun p : {p : Nat // p ≤ wss.length} => [(9, .own 0 p.1), (17, .int .i64 p.1)]) (fun p => [⟨.row 29, true, p.1, .arr 1 ((wss.take p.1).map (slV' true 1 (V.int .u16)))⟩]) (fun p => wss.length - p.1) (⟨0, by simp⟩) 1 (by simp only [go_sem]; rfl) ?_ (by first | rfl | (simp only [go_sem]; done)) (by simp) (by first | rfl | (simp only [go_sem]; done)) (by first | rfl | (simp only [go_sem]; done)) (by first | rfl | (simp only [go_sem]; done)) ?_
  · (simp only [go_sem]; (try simp []); done)
  intro J hJ
  rintro ⟨k, hk0⟩
  by_cases hlt : k < wss.length
  · have h1 := hw _ (mem_at hlt)
    have htl : (wss.take k).length = k := by rw [List.length_take]; omega
    have hs := take_snoc hlt
    repeat (first | refine And.intro (by omega) ?_ | refine And.intro rfl ?_ | refine ev_ctl rfl rfl ?_ | refine evr_nil ?_ | refine evw_nil (by kernel_rfl) ?_ | (simp (disch := omega) only [takeAll, Nat.min_eq_left, Nat.min_eq_right, if_pos, if_neg, getD_map, wrapI64, modIn, fdivE, tmodE, tdivE, decT, decF, beqT, beqF, bneT, bneF, Int.toNat_natCast]; try simp only [go_sem]) | (refine ev_condTb rfl ?_ ?_; · (simp <;> omega)) | (refine ev_condFb rfl ?_ ?_; · (simp <;> omega)) | ((first | refine ev_region ?_ | refine evr_go rfl ?_ | refine evw_go rfl ?_ | refine ev_dr0 mixed rfl (by kernel_rfl) ?_ | refine ev_dr1 mixed rfl (by kernel_rfl) ?_ | refine ev_dr2 mixed rfl (by kernel_rfl) ?_); simp only [go_sem]))
    (first | refine callD (clw_fn wss[k]! (by omega)) ?_ | refine callDw (clw_fn wss[k]! (by omega)) ?_); simp only [go_sem]
    repeat (first | refine And.intro (by omega) ?_ | refine And.intro rfl ?_ | refine ev_ctl rfl rfl ?_ | refine evr_nil ?_ | refine evw_nil (by kernel_rfl) ?_ | (simp (disch := omega) only [takeAll, Nat.min_eq_left, Nat.min_eq_right, if_pos, if_neg, getD_map, wrapI64, modIn, fdivE, tmodE, tdivE, decT, decF, beqT, beqF, bneT, bneF, Int.toNat_natCast]; try simp only [go_sem]) | (refine ev_condTb rfl ?_ ?_; · (simp <;> omega)) | (refine ev_condFb rfl ?_ ?_; · (simp <;> omega)) | ((first | refine ev_region ?_ | refine evr_go rfl ?_ | refine evw_go rfl ?_ | refine ev_dr0 mixed rfl (by kernel_rfl) ?_ | refine ev_dr1 mixed rfl (by kernel_rfl) ?_ | refine ev_dr2 mixed rfl (by kernel_rfl) ?_); simp only [go_sem]))
    refine ev_next 1 (hJ _ (⟨k + 1, hlt⟩) (by first | omega | (dsimp only; omega) | (simp; omega))) rfl (by simp) ?_ (by first | rfl | (simp only [go_sem]; done)) (by first | rfl | (simp only [go_sem]; done)) ?_
    · (first | rfl | (simp only [go_sem]; done) | (simp only [go_sem]; simp only [hs]; done) | (simp only [go_sem]; simp [hs]; done) | (simp [hs]; done))
    · (simp only [go_sem]; (repeat' (refine And.intro ?_ ?_)) <;> first | exact trivial | with_reducible rfl | (simp only [hs]; done) | (simp only [hs]; with_reducible rfl) | (simp [hs]; done) | (simp [hs]; omega) | (simp only [hs]; rfl) | skip)
  obtain rfl : k = wss.length := by omega
  rw [List.take_length]
  repeat (first | (simp only [hwe, hmin, Int.toNat_natCast, hXe]; try simp only [go_sem]) | refine And.intro (by omega) ?_ | refine And.intro rfl ?_ | refine ev_ctl rfl rfl ?_ | refine evr_nil ?_ | refine evw_nil (by kernel_rfl) ?_ | (simp (disch := omega) only [takeAll, Nat.min_eq_left, Nat.min_eq_right, if_pos, if_neg, getD_map, wrapI64, modIn, fdivE, tmodE, tdivE, decT, decF, beqT, beqF, bneT, bneF, Int.toNat_natCast]; try simp only [go_sem]) | (refine ev_condTb rfl ?_ ?_; · (simp <;> omega)) | (refine ev_condFb rfl ?_ ?_; · (simp <;> omega)) | ((first | refine ev_region ?_ | refine evr_go rfl ?_ | refine evw_go rfl ?_ | refine ev_dr0 mixed rfl (by kernel_rfl) ?_ | refine ev_dr1 mixed rfl (by kernel_rfl) ?_ | refine ev_dr2 mixed rfl (by kernel_rfl) ?_); simp only [go_sem]))
  refine ev_adopt (i := 12) (e := 59) (s := 4) rfl (by decide) ?_
  refine ev_loopK [1, 2, 9, 52, 53] (fun p : {p : Nat // p ≤ X.length} => [(12, .own 1 p.1), (54, .int .i64 p.1)]) (fun p => [⟨.row 29, true, wss.length, .arr 1 (wss.map (slV' true 1 (V.int .u16)))⟩, ⟨.row 59, true, p.1, .arr 4 ((numC (X.take p.1)).map canonV)⟩]) (fun p => X.length - p.1) (⟨0, by simp⟩) 2 (by simp only [go_sem]; rfl) ?_ (by first | rfl | (simp only [go_sem]; done)) (by simp) (by first | rfl | (simp only [go_sem]; done)) (by first | rfl | (simp only [go_sem]; done)) (by first | rfl | (simp only [go_sem]; done)) ?_
  · (simp only [go_sem]; (try simp [numC_zero]); done)
  intro J hJ
  rintro ⟨k, hk0⟩
  by_cases hlt : k < X.length
  · have hl2 := numC_len (X.take k)
    have hl3 : (X.take k).length = k := by rw [List.length_take]; omega
    have hs := numC_snoc hlt
    repeat (first | refine And.intro (by omega) ?_ | refine And.intro rfl ?_ | refine ev_ctl rfl rfl ?_ | refine evr_nil ?_ | refine evw_nil (by kernel_rfl) ?_ | (simp (disch := omega) only [takeAll, Nat.min_eq_left, Nat.min_eq_right, if_pos, if_neg, getD_map, wrapI64, modIn, fdivE, tmodE, tdivE, decT, decF, beqT, beqF, bneT, bneF, Int.toNat_natCast]; try simp only [go_sem]) | (refine ev_condTb rfl ?_ ?_; · (simp <;> omega)) | (refine ev_condFb rfl ?_ ?_; · (simp <;> omega)) | ((first | refine ev_region ?_ | refine evr_go rfl ?_ | refine evw_go rfl ?_ | refine ev_dr0 mixed rfl (by kernel_rfl) ?_ | refine ev_dr1 mixed rfl (by kernel_rfl) ?_ | refine ev_dr2 mixed rfl (by kernel_rfl) ?_); simp only [go_sem]))
    refine ev_next 2 (hJ _ (⟨k + 1, hlt⟩) (by first | omega | (dsimp only; omega) | (simp; omega))) rfl (by simp) ?_ (by first | rfl | (simp only [go_sem]; done)) (by first | rfl | (simp only [go_sem]; done)) ?_
    · (first | rfl | (simp only [go_sem]; done) | (simp only [go_sem]; simp only [hs]; done) | (simp only [go_sem]; simp [hs]; done) | (simp [hs]; done))
    · (simp only [go_sem]; (repeat' (refine And.intro ?_ ?_)) <;> first | exact trivial | with_reducible rfl | (simp only [hs]; done) | (simp only [hs]; with_reducible rfl) | (simp [hs]; done) | (simp [hs]; omega) | (simp only [hs]; rfl) | skip)
  obtain rfl : k = X.length := by omega
  repeat (first | (simp only [Int.toNat_natCast, hg]; try simp only [go_sem]) | refine And.intro (by omega) ?_ | refine And.intro rfl ?_ | refine ev_ctl rfl rfl ?_ | refine evr_nil ?_ | refine evw_nil (by kernel_rfl) ?_ | (simp (disch := omega) only [takeAll, Nat.min_eq_left, Nat.min_eq_right, if_pos, if_neg, getD_map, wrapI64, modIn, fdivE, tmodE, tdivE, decT, decF, beqT, beqF, bneT, bneF, Int.toNat_natCast]; try simp only [go_sem]) | (refine ev_condTb rfl ?_ ?_; · (simp <;> omega)) | (refine ev_condFb rfl ?_ ?_; · (simp <;> omega)) | ((first | refine ev_region ?_ | refine evr_go rfl ?_ | refine evw_go rfl ?_ | refine ev_dr0 mixed rfl (by kernel_rfl) ?_ | refine ev_dr1 mixed rfl (by kernel_rfl) ?_ | refine ev_dr2 mixed rfl (by kernel_rfl) ?_); simp only [go_sem]))
  refine ret m_recv_ok [] ?_; (first | (simp only [go_sem]; done) | (simp only [go_sem]; ((try dsimp only); (repeat' (refine And.intro ?_ ?_)) <;> first | with_reducible rfl | (simp only [go_sem]; done) | (simp only [go_sem]; rfl) | (simp only []; (try simp only [go_sem]); first | done | rfl) | (simp only [go_sem]; simp []; done) | (simp []; done) | rfl)))
set_option maxHeartbeats 8000000 in
theorem rrecvG_fn (wss : List (List Int)) (s n : Int) (hl : wss.length ≤ 1000) (hw : ∀ w ∈ wss, w.length ≤ 100000) : Fnc Try.prog 21 [.sl false 1 (wss.map (slV' false 1 (V.int .u16))), .int .i64 s, .int .i64 n] (fun x obs => x = .tup [.sl false 1 ((sRecv wss s n).1.map (slV' false 1 (V.int .u16))), .sl false 4 ((sRecv wss s n).2.1.map canonV), .bool (sRecv wss s n).2.2] ∧ obs = []) := by
  refine Fnc.low ?_
  have fail : (s < 0 ∨ s ≥ wss.length ∨ n < 0) → sRecv wss s n = (wss, [], false) := fun h => by rw [sRecv, if_pos h]
  by_cases c1 : s < 0
  · rw [fail (.inl c1)]
    refine Fnc.intro m_rrecv_ok (by simp) fun W S => ?_
    unfold m_rrecv
    simp only [ents, Nat.zero_add, Nat.reduceAdd]
    repeat (first | refine And.intro (by omega) ?_ | refine And.intro rfl ?_ | refine ev_ctl rfl rfl ?_ | refine evr_nil ?_ | refine evw_nil (by kernel_rfl) ?_ | (simp (disch := omega) only [takeAll, Nat.min_eq_left, Nat.min_eq_right, if_pos, if_neg, getD_map, wrapI64, modIn, fdivE, tmodE, tdivE, decT, decF, beqT, beqF, bneT, bneF, Int.toNat_natCast]; try simp only [go_sem]) | (refine ev_condTb rfl ?_ ?_; · (simp <;> omega)) | (refine ev_condFb rfl ?_ ?_; · (simp <;> omega)) | ((first | refine ev_region ?_ | refine evr_go rfl ?_ | refine evw_go rfl ?_ | refine ev_dr0 mixed rfl (by kernel_rfl) ?_ | refine ev_dr1 mixed rfl (by kernel_rfl) ?_ | refine ev_dr2 mixed rfl (by kernel_rfl) ?_); simp only [go_sem]))
    (first | refine callX (copyinG_fn wss hl hw) ?_ | refine callXw (copyinG_fn wss hl hw) ?_); simp only [go_sem]
    repeat (first | refine And.intro (by omega) ?_ | refine And.intro rfl ?_ | refine ev_ctl rfl rfl ?_ | refine evr_nil ?_ | refine evw_nil (by kernel_rfl) ?_ | (simp (disch := omega) only [takeAll, Nat.min_eq_left, Nat.min_eq_right, if_pos, if_neg, getD_map, wrapI64, modIn, fdivE, tmodE, tdivE, decT, decF, beqT, beqF, bneT, bneF, Int.toNat_natCast]; try simp only [go_sem]) | (refine ev_condTb rfl ?_ ?_; · (simp <;> omega)) | (refine ev_condFb rfl ?_ ?_; · (simp <;> omega)) | ((first | refine ev_region ?_ | refine evr_go rfl ?_ | refine evw_go rfl ?_ | refine ev_dr0 mixed rfl (by kernel_rfl) ?_ | refine ev_dr1 mixed rfl (by kernel_rfl) ?_ | refine ev_dr2 mixed rfl (by kernel_rfl) ?_); simp only [go_sem]))
    refine ev_nil2 7 false 4 rfl ?_
    refine ret m_rrecv_ok [] ?_; (first | (simp only [go_sem]; done) | (simp only [go_sem]; ((try dsimp only); (repeat' (refine And.intro ?_ ?_)) <;> first | with_reducible rfl | (simp only [go_sem]; done) | (simp only [go_sem]; rfl) | (simp only [List.take_length]; (try simp only [go_sem]); first | done | rfl) | (simp only [go_sem]; simp [List.take_length]; done) | (simp [List.take_length]; done) | rfl)))
  by_cases c2 : s ≥ wss.length
  · rw [fail (.inr (.inl c2))]
    refine Fnc.intro m_rrecv_ok (by simp) fun W S => ?_
    unfold m_rrecv
    simp only [ents, Nat.zero_add, Nat.reduceAdd]
    repeat (first | refine And.intro (by omega) ?_ | refine And.intro rfl ?_ | refine ev_ctl rfl rfl ?_ | refine evr_nil ?_ | refine evw_nil (by kernel_rfl) ?_ | (simp (disch := omega) only [takeAll, Nat.min_eq_left, Nat.min_eq_right, if_pos, if_neg, getD_map, wrapI64, modIn, fdivE, tmodE, tdivE, decT, decF, beqT, beqF, bneT, bneF, Int.toNat_natCast]; try simp only [go_sem]) | (refine ev_condTb rfl ?_ ?_; · (simp <;> omega)) | (refine ev_condFb rfl ?_ ?_; · (simp <;> omega)) | ((first | refine ev_region ?_ | refine evr_go rfl ?_ | refine evw_go rfl ?_ | refine ev_dr0 mixed rfl (by kernel_rfl) ?_ | refine ev_dr1 mixed rfl (by kernel_rfl) ?_ | refine ev_dr2 mixed rfl (by kernel_rfl) ?_); simp only [go_sem]))
    (first | refine callX (copyinG_fn wss hl hw) ?_ | refine callXw (copyinG_fn wss hl hw) ?_); simp only [go_sem]
    repeat (first | refine And.intro (by omega) ?_ | refine And.intro rfl ?_ | refine ev_ctl rfl rfl ?_ | refine evr_nil ?_ | refine evw_nil (by kernel_rfl) ?_ | (simp (disch := omega) only [takeAll, Nat.min_eq_left, Nat.min_eq_right, if_pos, if_neg, getD_map, wrapI64, modIn, fdivE, tmodE, tdivE, decT, decF, beqT, beqF, bneT, bneF, Int.toNat_natCast]; try simp only [go_sem]) | (refine ev_condTb rfl ?_ ?_; · (simp <;> omega)) | (refine ev_condFb rfl ?_ ?_; · (simp <;> omega)) | ((first | refine ev_region ?_ | refine evr_go rfl ?_ | refine evw_go rfl ?_ | refine ev_dr0 mixed rfl (by kernel_rfl) ?_ | refine ev_dr1 mixed rfl (by kernel_rfl) ?_ | refine ev_dr2 mixed rfl (by kernel_rfl) ?_); simp only [go_sem]))
    refine ev_nil2 7 false 4 rfl ?_
    refine ret m_rrecv_ok [] ?_; (first | (simp only [go_sem]; done) | (simp only [go_sem]; ((try dsimp only); (repeat' (refine And.intro ?_ ?_)) <;> first | with_reducible rfl | (simp only [go_sem]; done) | (simp only [go_sem]; rfl) | (simp only [List.take_length]; (try simp only [go_sem]); first | done | rfl) | (simp only [go_sem]; simp [List.take_length]; done) | (simp [List.take_length]; done) | rfl)))
  by_cases c3 : n < 0
  · rw [fail (.inr (.inr c3))]
    refine Fnc.intro m_rrecv_ok (by simp) fun W S => ?_
    unfold m_rrecv
    simp only [ents, Nat.zero_add, Nat.reduceAdd]
    repeat (first | refine And.intro (by omega) ?_ | refine And.intro rfl ?_ | refine ev_ctl rfl rfl ?_ | refine evr_nil ?_ | refine evw_nil (by kernel_rfl) ?_ | (simp (disch := omega) only [takeAll, Nat.min_eq_left, Nat.min_eq_right, if_pos, if_neg, getD_map, wrapI64, modIn, fdivE, tmodE, tdivE, decT, decF, beqT, beqF, bneT, bneF, Int.toNat_natCast]; try simp only [go_sem]) | (refine ev_condTb rfl ?_ ?_; · (simp <;> omega)) | (refine ev_condFb rfl ?_ ?_; · (simp <;> omega)) | ((first | refine ev_region ?_ | refine evr_go rfl ?_ | refine evw_go rfl ?_ | refine ev_dr0 mixed rfl (by kernel_rfl) ?_ | refine ev_dr1 mixed rfl (by kernel_rfl) ?_ | refine ev_dr2 mixed rfl (by kernel_rfl) ?_); simp only [go_sem]))
    (first | refine callX (copyinG_fn wss hl hw) ?_ | refine callXw (copyinG_fn wss hl hw) ?_); simp only [go_sem]
    repeat (first | refine And.intro (by omega) ?_ | refine And.intro rfl ?_ | refine ev_ctl rfl rfl ?_ | refine evr_nil ?_ | refine evw_nil (by kernel_rfl) ?_ | (simp (disch := omega) only [takeAll, Nat.min_eq_left, Nat.min_eq_right, if_pos, if_neg, getD_map, wrapI64, modIn, fdivE, tmodE, tdivE, decT, decF, beqT, beqF, bneT, bneF, Int.toNat_natCast]; try simp only [go_sem]) | (refine ev_condTb rfl ?_ ?_; · (simp <;> omega)) | (refine ev_condFb rfl ?_ ?_; · (simp <;> omega)) | ((first | refine ev_region ?_ | refine evr_go rfl ?_ | refine evw_go rfl ?_ | refine ev_dr0 mixed rfl (by kernel_rfl) ?_ | refine ev_dr1 mixed rfl (by kernel_rfl) ?_ | refine ev_dr2 mixed rfl (by kernel_rfl) ?_); simp only [go_sem]))
    refine ev_nil2 7 false 4 rfl ?_
    refine ret m_rrecv_ok [] ?_; (first | (simp only [go_sem]; done) | (simp only [go_sem]; ((try dsimp only); (repeat' (refine And.intro ?_ ?_)) <;> first | with_reducible rfl | (simp only [go_sem]; done) | (simp only [go_sem]; rfl) | (simp only [List.take_length]; (try simp only [go_sem]); first | done | rfl) | (simp only [go_sem]; simp [List.take_length]; done) | (simp [List.take_length]; done) | rfl)))
  obtain ⟨S0, rfl⟩ := Int.eq_ofNat_of_zero_le (show 0 ≤ s by omega)
  have hS0 : S0 < wss.length := by omega
  obtain ⟨w, hwe⟩ : ∃ w, wss[S0]! = w := ⟨_, rfl⟩
  have hwl : w.length ≤ 100000 := by rw [← hwe]; exact hw _ (mem_at hS0)
  obtain ⟨M, hM⟩ : ∃ M, M = min n.toNat w.length := ⟨_, rfl⟩
  have hmin : (if (w.length : Int) < n then (w.length : Int) else n) = (M : Int) := by split <;> omega
  have e : sRecv wss S0 n = (wss.set S0 (w.drop M), numC (w.take M), true) := by
    rw [sRecv, if_neg (by omega), Int.toNat_natCast, hwe, ← hM]
  rw [e]
  obtain ⟨X, hXe⟩ : ∃ X, List.take M w = X := ⟨_, rfl⟩
  have hX : X.length = M := by rw [← hXe, List.length_take]; omega
  have hg : (wss.map (slV' true 1 (V.int .u16))).getD S0 .junk = V.sl true 1 (w.map (V.int .u16)) := by rw [getD_map _ _ _ hS0, hwe]
  rw [hXe]
  refine Fnc.intro m_rrecv_ok (by simp) fun W S => ?_
  unfold m_rrecv
  simp only [ents, Nat.zero_add, Nat.reduceAdd]
  repeat (first | refine And.intro (by omega) ?_ | refine And.intro rfl ?_ | refine ev_ctl rfl rfl ?_ | refine evr_nil ?_ | refine evw_nil (by kernel_rfl) ?_ | (simp (disch := omega) only [takeAll, Nat.min_eq_left, Nat.min_eq_right, if_pos, if_neg, getD_map, wrapI64, modIn, fdivE, tmodE, tdivE, decT, decF, beqT, beqF, bneT, bneF, Int.toNat_natCast]; try simp only [go_sem]) | (refine ev_condTb rfl ?_ ?_; · (simp <;> omega)) | (refine ev_condFb rfl ?_ ?_; · (simp <;> omega)) | ((first | refine ev_region ?_ | refine evr_go rfl ?_ | refine evw_go rfl ?_ | refine ev_dr0 mixed rfl (by kernel_rfl) ?_ | refine ev_dr1 mixed rfl (by kernel_rfl) ?_ | refine ev_dr2 mixed rfl (by kernel_rfl) ?_); simp only [go_sem]))
  (first | refine callX (copyinG_fn wss hl hw) ?_ | refine callXw (copyinG_fn wss hl hw) ?_); simp only [go_sem]
  repeat (first | refine And.intro (by omega) ?_ | refine And.intro rfl ?_ | refine ev_ctl rfl rfl ?_ | refine evr_nil ?_ | refine evw_nil (by kernel_rfl) ?_ | (simp (disch := omega) only [takeAll, Nat.min_eq_left, Nat.min_eq_right, if_pos, if_neg, getD_map, wrapI64, modIn, fdivE, tmodE, tdivE, decT, decF, beqT, beqF, bneT, bneF, Int.toNat_natCast]; try simp only [go_sem]) | (refine ev_condTb rfl ?_ ?_; · (simp <;> omega)) | (refine ev_condFb rfl ?_ ?_; · (simp <;> omega)) | ((first | refine ev_region ?_ | refine evr_go rfl ?_ | refine evw_go rfl ?_ | refine ev_dr0 mixed rfl (by kernel_rfl) ?_ | refine ev_dr1 mixed rfl (by kernel_rfl) ?_ | refine ev_dr2 mixed rfl (by kernel_rfl) ?_); simp only [go_sem]))
  repeat (first | (simp only [hwe, hmin, Int.toNat_natCast, hXe]; try simp only [go_sem]) | refine And.intro (by omega) ?_ | refine And.intro rfl ?_ | refine ev_ctl rfl rfl ?_ | refine evr_nil ?_ | refine evw_nil (by kernel_rfl) ?_ | (simp (disch := omega) only [takeAll, Nat.min_eq_left, Nat.min_eq_right, if_pos, if_neg, getD_map, wrapI64, modIn, fdivE, tmodE, tdivE, decT, decF, beqT, beqF, bneT, bneF, Int.toNat_natCast]; try simp only [go_sem]) | (refine ev_condTb rfl ?_ ?_; · (simp <;> omega)) | (refine ev_condFb rfl ?_ ?_; · (simp <;> omega)) | ((first | refine ev_region ?_ | refine evr_go rfl ?_ | refine evw_go rfl ?_ | refine ev_dr0 mixed rfl (by kernel_rfl) ?_ | refine ev_dr1 mixed rfl (by kernel_rfl) ?_ | refine ev_dr2 mixed rfl (by kernel_rfl) ?_); simp only [go_sem]))
  refine ev_adopt (i := 11) (e := 59) (s := 4) rfl (by decide) ?_
  refine ev_loopK [1, 9, 10, 41, 42] (fun p : {p : Nat // p ≤ X.length} => [(11, .own 1 p.1), (43, .int .i64 p.1)]) (fun p => [⟨.row 29, true, 0, .arr 1 (wss.map (slV' true 1 (V.int .u16)))⟩, ⟨.row 59, true, p.1, .arr 4 ((numC (X.take p.1)).map canonV)⟩]) (fun p => X.length - p.1) (⟨0, by simp⟩) 2 (by simp only [go_sem]; rfl) ?_ (by first | rfl | (simp only [go_sem]; done)) (by simp) (by first | rfl | (simp only [go_sem]; done)) (by first | rfl | (simp only [go_sem]; done)) (by first | rfl | (simp only [go_sem]; done)) ?_
  · (simp only [go_sem]; (try simp [numC_zero]); done)
  intro J hJ
  rintro ⟨k, hk0⟩
  by_cases hlt : k < X.length
  · have hl2 := numC_len (X.take k)
    have hl3 : (X.take k).length = k := by rw [List.length_take]; omega
    have hs := numC_snoc hlt
    repeat (first | refine And.intro (by omega) ?_ | refine And.intro rfl ?_ | refine ev_ctl rfl rfl ?_ | refine evr_nil ?_ | refine evw_nil (by kernel_rfl) ?_ | (simp (disch := omega) only [takeAll, Nat.min_eq_left, Nat.min_eq_right, if_pos, if_neg, getD_map, wrapI64, modIn, fdivE, tmodE, tdivE, decT, decF, beqT, beqF, bneT, bneF, Int.toNat_natCast]; try simp only [go_sem]) | (refine ev_condTb rfl ?_ ?_; · (simp <;> omega)) | (refine ev_condFb rfl ?_ ?_; · (simp <;> omega)) | ((first | refine ev_region ?_ | refine evr_go rfl ?_ | refine evw_go rfl ?_ | refine ev_dr0 mixed rfl (by kernel_rfl) ?_ | refine ev_dr1 mixed rfl (by kernel_rfl) ?_ | refine ev_dr2 mixed rfl (by kernel_rfl) ?_); simp only [go_sem]))
    refine ev_next 2 (hJ _ (⟨k + 1, hlt⟩) (by first | omega | (dsimp only; omega) | (simp; omega))) rfl (by simp) ?_ (by first | rfl | (simp only [go_sem]; done)) (by first | rfl | (simp only [go_sem]; done)) ?_
    · (first | rfl | (simp only [go_sem]; done) | (simp only [go_sem]; simp only [hs]; done) | (simp only [go_sem]; simp [hs]; done) | (simp [hs]; done))
    · (simp only [go_sem]; (repeat' (refine And.intro ?_ ?_)) <;> first | exact trivial | with_reducible rfl | (simp only [hs]; done) | (simp only [hs]; with_reducible rfl) | (simp [hs]; done) | (simp [hs]; omega) | (simp only [hs]; rfl) | skip)
  obtain rfl : k = X.length := by omega
  repeat (first | (simp only [Int.toNat_natCast, hg]; try simp only [go_sem]) | refine And.intro (by omega) ?_ | refine And.intro rfl ?_ | refine ev_ctl rfl rfl ?_ | refine evr_nil ?_ | refine evw_nil (by kernel_rfl) ?_ | (simp (disch := omega) only [takeAll, Nat.min_eq_left, Nat.min_eq_right, if_pos, if_neg, getD_map, wrapI64, modIn, fdivE, tmodE, tdivE, decT, decF, beqT, beqF, bneT, bneF, Int.toNat_natCast]; try simp only [go_sem]) | (refine ev_condTb rfl ?_ ?_; · (simp <;> omega)) | (refine ev_condFb rfl ?_ ?_; · (simp <;> omega)) | ((first | refine ev_region ?_ | refine evr_go rfl ?_ | refine evw_go rfl ?_ | refine ev_dr0 mixed rfl (by kernel_rfl) ?_ | refine ev_dr1 mixed rfl (by kernel_rfl) ?_ | refine ev_dr2 mixed rfl (by kernel_rfl) ?_); simp only [go_sem]))
  refine ret m_rrecv_ok [] ?_; (first | (simp only [go_sem]; done) | (simp only [go_sem]; ((try dsimp only); (repeat' (refine And.intro ?_ ?_)) <;> first | with_reducible rfl | (simp only [go_sem]; done) | (simp only [go_sem]; rfl) | (simp only []; (try simp only [go_sem]); first | done | rfl) | (simp only [go_sem]; simp []; done) | (simp []; done) | rfl)))
end Go.Proofs.Ytibfpmochioopaa
