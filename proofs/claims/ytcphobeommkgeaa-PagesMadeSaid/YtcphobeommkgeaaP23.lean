/- States copied such that all regions may be written. -/
import Derived.Test.YtcphobeommkgeaaP6
import Derived.Test.YtcphobeommkgeaaC5
namespace Go.Proofs.Ytcphobeommkgeaa
open Go Go.RowKit Rdn Rdn.Dp
set_option linter.unusedVariables false
set_option linter.unusedSimpArgs false
theorem m_zcopy_ok : compF Try.prog 47 = some (44, Qr ([Qw 1 (.box 30 (.t 0)), Qw 2 (.alloc 30 (.agg [.nilS, .nilS]))])
 (Qr ([Qw 3 (.alloc 30 (.agg [.nilS, .nilS]))])
 (.seq (Qr ([Qp 4 (.mov (Qi 0))])
 (.block 0 (.loop (.seq (Qr ([Qm 6 4, Qf 7 0 0 1, Ql 8 1 7, Qn 9 8, Qb 10 .lss 6 9])
 (.cond (.t 10) (.skip) (.exit 0)))
 (.seq (.block 1 (.dreg [Qf 13 0 0 3, Ql 14 1 13, Qw 15 (.buildS 84 4 (.agg [.int .u8 0, .int .u16 0, .int .i64 0, .int .i64 0]) 0 []), Qf 16 0 0 1, Ql 17 1 16, Qm 18 4, Qx 19 1 17 18, Ql 20 1 19, Qw 21 (.app 84 4 24 (.t 15) (.t 20)), Qw 22 (.buildS 40 1 (.nilS) 1 [(0, (.t 21))]), Qw 23 (.app 40 1 24 (.t 14) (.t 22)), Qf 24 0 0 3, Qs 1 24 23] [[], [0], [], [], [3], [], [3, 4, 5], [3, 4, 5, 6], [2, 3, 4, 5, 6, 7], [2, 3, 4, 5, 6, 7, 8], [0, 1, 2, 3, 4, 5, 6, 7, 8, 9], [0, 1, 2, 3, 4, 5, 6, 7, 8, 9, 10], [0, 1, 2, 3, 4, 5, 6, 7, 8, 9, 10, 11]]))
 (.reg [Qm 11 4, Qk 12 .add 11 1, Qm 4 12]))))))
 (.seq (Qr ([Qp 5 (.mov (Qi 0))])
 (.block 2 (.loop (.seq (Qr ([Qm 25 5, Qf 26 1 1 1, Ql 27 1 26, Qn 28 27, Qb 29 .lss 25 28])
 (.cond (.t 29) (.skip) (.exit 2)))
 (.seq (.block 3 (.dreg [Qf 32 1 1 3, Ql 33 1 32, Qf 34 1 1 1, Ql 35 1 34, Qm 36 5, Qx 37 8 35 36, QL 38 8 37, Qq 39 88 [(.t 38)], Qw 40 (.buildS 43 8 (.agg [.int .i64 0, .int .i64 0, .int .i64 0, .int .i64 0, .int .i64 0, .int .i64 0, .int .u16 0, .nilS]) 1 [(0, (.t 39))]), Qw 41 (.app 43 8 80 (.t 33) (.t 40)), Qf 42 1 1 3, Qs 1 42 41] [[], [0], [], [2], [], [2, 3, 4], [2, 3, 4, 5], [2, 3, 4, 5, 6], [2, 3, 4, 5, 6, 7], [0, 1, 2, 3, 4, 5, 6, 7, 8], [0, 1, 2, 3, 4, 5, 6, 7, 8, 9], [0, 1, 2, 3, 4, 5, 6, 7, 8, 9, 10]]))
 (.reg [Qm 30 5, Qk 31 .add 30 1, Qm 5 31]))))))
 (Qr ([QL 43 2 3, Qs 2 2 43])
 (.ret))))), [.load true 2 (.t 2)]) := by kernel_rfl
/-- The objects of a copy as it goes on. -/
def cO (s : State) : Nat → List Ob
  | 0 => [⟨.box false 30, true, 0, staV s⟩, ⟨.box false 30, true, 0, .agg [.nilS, .nilS]⟩, ⟨.box false 30, true, 0, .agg [.own 3 0, .nilS]⟩, ⟨.rows false 40, true, 0, .arr 1 []⟩]
  | 1 => [⟨.box false 30, true, 0, staV s⟩, ⟨.box false 30, true, 0, .agg [.nilS, .nilS]⟩, ⟨.box false 30, true, 0, .agg [.own 3 1, .nilS]⟩, ⟨.rows false 40, true, 1, .arr 1 [.own 4 2]⟩, ⟨.row 84, true, 2, .arr 4 (s.regions[0]!.map canonV)⟩]
  | 2 => [⟨.box false 30, true, 0, staV s⟩, ⟨.box false 30, true, 0, .agg [.nilS, .nilS]⟩, ⟨.box false 30, true, 0, .agg [.own 3 2, .nilS]⟩, ⟨.rows false 40, true, 2, .arr 1 [.own 4 2, .own 5 2]⟩, ⟨.row 84, true, 2, .arr 4 (s.regions[0]!.map canonV)⟩, ⟨.row 84, true, 2, .arr 4 (s.regions[1]!.map canonV)⟩]
  | _ => [⟨.box false 30, true, 0, staV s⟩, ⟨.box false 30, true, 0, .agg [.nilS, .nilS]⟩, ⟨.box false 30, true, 0, .agg [.own 3 3, .nilS]⟩, ⟨.rows false 40, true, 3, .arr 1 [.own 4 2, .own 5 2, .own 6 2]⟩, ⟨.row 84, true, 2, .arr 4 (s.regions[0]!.map canonV)⟩, ⟨.row 84, true, 2, .arr 4 (s.regions[1]!.map canonV)⟩, ⟨.row 84, true, 2, .arr 4 (s.regions[2]!.map canonV)⟩]
theorem cO_0 (s : State) : cO s 0 = [⟨.box false 30, true, 0, staV s⟩, ⟨.box false 30, true, 0, .agg [.nilS, .nilS]⟩, ⟨.box false 30, true, 0, .agg [.own 3 0, .nilS]⟩, ⟨.rows false 40, true, 0, .arr 1 []⟩] := rfl
theorem cO_1 (s : State) : cO s 1 = [⟨.box false 30, true, 0, staV s⟩, ⟨.box false 30, true, 0, .agg [.nilS, .nilS]⟩, ⟨.box false 30, true, 0, .agg [.own 3 1, .nilS]⟩, ⟨.rows false 40, true, 1, .arr 1 [.own 4 2]⟩, ⟨.row 84, true, 2, .arr 4 (s.regions[0]!.map canonV)⟩] := rfl
theorem cO_2 (s : State) : cO s 2 = [⟨.box false 30, true, 0, staV s⟩, ⟨.box false 30, true, 0, .agg [.nilS, .nilS]⟩, ⟨.box false 30, true, 0, .agg [.own 3 2, .nilS]⟩, ⟨.rows false 40, true, 2, .arr 1 [.own 4 2, .own 5 2]⟩, ⟨.row 84, true, 2, .arr 4 (s.regions[0]!.map canonV)⟩, ⟨.row 84, true, 2, .arr 4 (s.regions[1]!.map canonV)⟩] := rfl
theorem cO_3 (s : State) : cO s 3 = [⟨.box false 30, true, 0, staV s⟩, ⟨.box false 30, true, 0, .agg [.nilS, .nilS]⟩, ⟨.box false 30, true, 0, .agg [.own 3 3, .nilS]⟩, ⟨.rows false 40, true, 3, .arr 1 [.own 4 2, .own 5 2, .own 6 2]⟩, ⟨.row 84, true, 2, .arr 4 (s.regions[0]!.map canonV)⟩, ⟨.row 84, true, 2, .arr 4 (s.regions[1]!.map canonV)⟩, ⟨.row 84, true, 2, .arr 4 (s.regions[2]!.map canonV)⟩] := rfl
set_option maxHeartbeats 16000000 in
theorem zcopy1_fn (s : State) (L : LowS s) (hR : s.regions.length = 1) (ht : s.threads.length ≤ 1000) : Fnc Try.prog 47 [staV s] (fun x obs => x = .agg [.own 0 0, .own 1 0] ∧ obs = [⟨.rows false 40, true, 0, .arr 1 [.own 2 0]⟩, ⟨.row 43, true, 0, .arr 8 (s.threads.map (viewV true))⟩, ⟨.row 84, true, 0, .arr 4 (s.regions[0]!.map canonV)⟩]) := by
  refine zgo m_zcopy_ok fun W S => ?_
  refine ev_adoptB 2 0 40 1 rfl rfl (by decide) rfl ?_
  refine ev_toRows 3 rfl ?_
  refine ev_loopK [1, 2, 3] (fun p : {p : Nat // p ≤ 1} => [(4, .int .i64 p.1)]) (fun p => cO s p.1) (fun p => 1 - p.1) (⟨0, by simp⟩) 4 (by simp only [go_sem]; rfl) ?_ (by first | rfl | (simp only [go_sem]; done) | (simp only [go_sem]; simp [cO_0]; done)) (by simp) (by first | rfl | (simp only [go_sem]; done)) (by first | rfl | (simp only [go_sem]; done)) (by first | rfl | (simp only [go_sem]; done) | (simp only [cO_0]; (try simp only [go_sem]); first | done | rfl)) ?_
  · (simp only [go_sem]; (try simp [cO_0]); done)
  intro J hJ
  rintro ⟨k, hk0⟩
  dsimp only
  by_cases e0 : k = 0
  · subst e0
    rw [cO_0]
    have hb := L.c _ (mem_at (l := s.regions) (k := 0) (by omega))
    refine zso ?_
    refine ev_draw (fu := fu8) mixed [2, 9] 2 rfl (by kernel_rfl) ?_; simp only [go_sem]
    repeat (first | refine And.intro (by omega) ?_ | refine And.intro rfl ?_ | refine ev_ctl rfl rfl ?_ | refine evr_nil ?_ | refine evw_nil (by kernel_rfl) ?_ | (simp (disch := omega) only [takeAll, Nat.min_eq_left, Nat.min_eq_right, if_pos, if_neg, getD_map, wrapI64, modIn, fdivE, tmodE, tdivE, decT, decF, beqT, beqF, bneT, bneF, Int.toNat_natCast]; try simp only [go_sem]) | (refine ev_condTb rfl ?_ ?_; · (simp <;> omega)) | (refine ev_condFb rfl ?_ ?_; · (simp <;> omega)) | ((first | refine ev_region ?_ | refine evr_go rfl ?_ | refine evw_gom [2, 9] rfl ?_ | refine ev_dr0 mixed rfl (by kernel_rfl) ?_ | refine ev_dr1 mixed rfl (by kernel_rfl) ?_ | refine ev_dr2 mixed rfl (by kernel_rfl) ?_); simp only [go_sem]))
    refine ev_next 5 (hJ _ (⟨1, by omega⟩) (by first | omega | (dsimp only; omega) | (simp; omega))) rfl (by simp) ?_ (by first | rfl | (simp only [go_sem]; done)) (by first | rfl | (simp only [go_sem]; done) | (simp only [cO_1]; (try simp only [go_sem]); first | done | rfl)) ?_
    · (first | rfl | (simp only [go_sem]; done) | (simp only [go_sem]; simp only [cO_1]; done) | (simp only [cO_1]; done) | (simp only [go_sem]; simp [cO_1]; done) | (simp [cO_1]; done))
    · (simp only [go_sem]; (repeat' (refine And.intro ?_ ?_)) <;> first | exact trivial | with_reducible rfl | (simp only [cO_1]; done) | (simp only [cO_1]; with_reducible rfl) | (simp [cO_1]; done) | (simp [cO_1]; omega) | (simp only [cO_1]; rfl) | skip)
  obtain rfl : k = 1 := by omega
  rw [cO_1]
  refine zst ?_
  refine ev_adoptB 2 1 43 8 rfl rfl (by decide) rfl ?_
  refine ev_loopK [1, 2, 3] (fun p : {p : Nat // p ≤ s.threads.length} => [(5, .int .i64 p.1)]) (fun p => [⟨.box false 30, true, 0, staV s⟩, ⟨.box false 30, true, 0, .agg [.nilS, .nilS]⟩, ⟨.box false 30, true, 0, .agg [.own 3 1, .own 5 p.1]⟩, ⟨.rows false 40, true, 1, .arr 1 [.own 4 2]⟩, ⟨.row 84, true, 2, .arr 4 (s.regions[0]!.map canonV)⟩, ⟨.row 43, true, p.1, .arr 8 ((s.threads.take p.1).map (viewV true))⟩]) (fun p => s.threads.length - p.1) (⟨0, by simp⟩) 6 (by simp only [go_sem]; rfl) ?_ (by first | rfl | (simp only [go_sem]; done)) (by simp) (by first | rfl | (simp only [go_sem]; done)) (by first | rfl | (simp only [go_sem]; done)) (by first | rfl | (simp only [go_sem]; done)) ?_
  · (simp only [go_sem]; (try simp []); done)
  intro J hJ
  rintro ⟨k, hk0⟩
  by_cases hlt : k < s.threads.length
  · have hb := L.g _ (mem_at hlt)
    have hl2 : (s.threads.take k).length = k := by rw [List.length_take]; omega
    have hs : (s.threads.take k).map (viewV true) ++ [viewV true s.threads[k]!] = (s.threads.take (k + 1)).map (viewV true) := by rw [take_snoc hlt, List.map_append]; rfl
    refine zst ?_
    refine zcd (zcopied_fn s.threads[k]! hb) ?_
    exact zn6 (hJ _ (⟨k + 1, hlt⟩) (by first | omega | (dsimp only; omega) | (simp; omega))) hs
  · obtain rfl : k = s.threads.length := by omega
    dsimp only
    rw [List.take_length]
    refine zst ?_
    refine retN m_zcopy_ok [3, 5, 4] ?_; simp only [go_sem]
set_option maxHeartbeats 16000000 in
theorem zcopy2_fn (s : State) (L : LowS s) (hR : s.regions.length = 2) (ht : s.threads.length ≤ 1000) : Fnc Try.prog 47 [staV s] (fun x obs => x = .agg [.own 0 0, .own 1 0] ∧ obs = [⟨.rows false 40, true, 0, .arr 1 [.own 2 0, .own 3 0]⟩, ⟨.row 43, true, 0, .arr 8 (s.threads.map (viewV true))⟩, ⟨.row 84, true, 0, .arr 4 (s.regions[0]!.map canonV)⟩, ⟨.row 84, true, 0, .arr 4 (s.regions[1]!.map canonV)⟩]) := by
  refine zgo m_zcopy_ok fun W S => ?_
  refine ev_adoptB 2 0 40 1 rfl rfl (by decide) rfl ?_
  refine ev_toRows 3 rfl ?_
  refine ev_loopK [1, 2, 3] (fun p : {p : Nat // p ≤ 2} => [(4, .int .i64 p.1)]) (fun p => cO s p.1) (fun p => 2 - p.1) (⟨0, by simp⟩) 4 (by simp only [go_sem]; rfl) ?_ (by first | rfl | (simp only [go_sem]; done) | (simp only [go_sem]; simp [cO_0]; done)) (by simp) (by first | rfl | (simp only [go_sem]; done)) (by first | rfl | (simp only [go_sem]; done)) (by first | rfl | (simp only [go_sem]; done) | (simp only [cO_0]; (try simp only [go_sem]); first | done | rfl)) ?_
  · (simp only [go_sem]; (try simp [cO_0]); done)
  intro J hJ
  rintro ⟨k, hk0⟩
  dsimp only
  by_cases e0 : k = 0
  · subst e0
    rw [cO_0]
    have hb := L.c _ (mem_at (l := s.regions) (k := 0) (by omega))
    refine zso ?_
    refine ev_draw (fu := fu8) mixed [2, 9] 2 rfl (by kernel_rfl) ?_; simp only [go_sem]
    repeat (first | refine And.intro (by omega) ?_ | refine And.intro rfl ?_ | refine ev_ctl rfl rfl ?_ | refine evr_nil ?_ | refine evw_nil (by kernel_rfl) ?_ | (simp (disch := omega) only [takeAll, Nat.min_eq_left, Nat.min_eq_right, if_pos, if_neg, getD_map, wrapI64, modIn, fdivE, tmodE, tdivE, decT, decF, beqT, beqF, bneT, bneF, Int.toNat_natCast]; try simp only [go_sem]) | (refine ev_condTb rfl ?_ ?_; · (simp <;> omega)) | (refine ev_condFb rfl ?_ ?_; · (simp <;> omega)) | ((first | refine ev_region ?_ | refine evr_go rfl ?_ | refine evw_gom [2, 9] rfl ?_ | refine ev_dr0 mixed rfl (by kernel_rfl) ?_ | refine ev_dr1 mixed rfl (by kernel_rfl) ?_ | refine ev_dr2 mixed rfl (by kernel_rfl) ?_); simp only [go_sem]))
    refine ev_next 5 (hJ _ (⟨1, by omega⟩) (by first | omega | (dsimp only; omega) | (simp; omega))) rfl (by simp) ?_ (by first | rfl | (simp only [go_sem]; done)) (by first | rfl | (simp only [go_sem]; done) | (simp only [cO_1]; (try simp only [go_sem]); first | done | rfl)) ?_
    · (first | rfl | (simp only [go_sem]; done) | (simp only [go_sem]; simp only [cO_1]; done) | (simp only [cO_1]; done) | (simp only [go_sem]; simp [cO_1]; done) | (simp [cO_1]; done))
    · (simp only [go_sem]; (repeat' (refine And.intro ?_ ?_)) <;> first | exact trivial | with_reducible rfl | (simp only [cO_1]; done) | (simp only [cO_1]; with_reducible rfl) | (simp [cO_1]; done) | (simp [cO_1]; omega) | (simp only [cO_1]; rfl) | skip)
  by_cases e1 : k = 1
  · subst e1
    rw [cO_1]
    have hb := L.c _ (mem_at (l := s.regions) (k := 1) (by omega))
    refine zso ?_
    refine ev_draw (fu := fu8) mixed [2, 9] 2 rfl (by kernel_rfl) ?_; simp only [go_sem]
    repeat (first | refine And.intro (by omega) ?_ | refine And.intro rfl ?_ | refine ev_ctl rfl rfl ?_ | refine evr_nil ?_ | refine evw_nil (by kernel_rfl) ?_ | (simp (disch := omega) only [takeAll, Nat.min_eq_left, Nat.min_eq_right, if_pos, if_neg, getD_map, wrapI64, modIn, fdivE, tmodE, tdivE, decT, decF, beqT, beqF, bneT, bneF, Int.toNat_natCast]; try simp only [go_sem]) | (refine ev_condTb rfl ?_ ?_; · (simp <;> omega)) | (refine ev_condFb rfl ?_ ?_; · (simp <;> omega)) | ((first | refine ev_region ?_ | refine evr_go rfl ?_ | refine evw_gom [2, 9] rfl ?_ | refine ev_dr0 mixed rfl (by kernel_rfl) ?_ | refine ev_dr1 mixed rfl (by kernel_rfl) ?_ | refine ev_dr2 mixed rfl (by kernel_rfl) ?_); simp only [go_sem]))
    refine ev_next 6 (hJ _ (⟨2, by omega⟩) (by first | omega | (dsimp only; omega) | (simp; omega))) rfl (by simp) ?_ (by first | rfl | (simp only [go_sem]; done)) (by first | rfl | (simp only [go_sem]; done) | (simp only [cO_2]; (try simp only [go_sem]); first | done | rfl)) ?_
    · (first | rfl | (simp only [go_sem]; done) | (simp only [go_sem]; simp only [cO_2]; done) | (simp only [cO_2]; done) | (simp only [go_sem]; simp [cO_2]; done) | (simp [cO_2]; done))
    · (simp only [go_sem]; (repeat' (refine And.intro ?_ ?_)) <;> first | exact trivial | with_reducible rfl | (simp only [cO_2]; done) | (simp only [cO_2]; with_reducible rfl) | (simp [cO_2]; done) | (simp [cO_2]; omega) | (simp only [cO_2]; rfl) | skip)
  obtain rfl : k = 2 := by omega
  rw [cO_2]
  refine zst ?_
  refine ev_adoptB 2 1 43 8 rfl rfl (by decide) rfl ?_
  refine ev_loopK [1, 2, 3] (fun p : {p : Nat // p ≤ s.threads.length} => [(5, .int .i64 p.1)]) (fun p => [⟨.box false 30, true, 0, staV s⟩, ⟨.box false 30, true, 0, .agg [.nilS, .nilS]⟩, ⟨.box false 30, true, 0, .agg [.own 3 2, .own 6 p.1]⟩, ⟨.rows false 40, true, 2, .arr 1 [.own 4 2, .own 5 2]⟩, ⟨.row 84, true, 2, .arr 4 (s.regions[0]!.map canonV)⟩, ⟨.row 84, true, 2, .arr 4 (s.regions[1]!.map canonV)⟩, ⟨.row 43, true, p.1, .arr 8 ((s.threads.take p.1).map (viewV true))⟩]) (fun p => s.threads.length - p.1) (⟨0, by simp⟩) 7 (by simp only [go_sem]; rfl) ?_ (by first | rfl | (simp only [go_sem]; done)) (by simp) (by first | rfl | (simp only [go_sem]; done)) (by first | rfl | (simp only [go_sem]; done)) (by first | rfl | (simp only [go_sem]; done)) ?_
  · (simp only [go_sem]; (try simp []); done)
  intro J hJ
  rintro ⟨k, hk0⟩
  by_cases hlt : k < s.threads.length
  · have hb := L.g _ (mem_at hlt)
    have hl2 : (s.threads.take k).length = k := by rw [List.length_take]; omega
    have hs : (s.threads.take k).map (viewV true) ++ [viewV true s.threads[k]!] = (s.threads.take (k + 1)).map (viewV true) := by rw [take_snoc hlt, List.map_append]; rfl
    refine zst ?_
    refine zcd (zcopied_fn s.threads[k]! hb) ?_
    exact zn7 (hJ _ (⟨k + 1, hlt⟩) (by first | omega | (dsimp only; omega) | (simp; omega))) hs
  · obtain rfl : k = s.threads.length := by omega
    dsimp only
    rw [List.take_length]
    refine zst ?_
    refine retN m_zcopy_ok [3, 6, 4, 5] ?_; simp only [go_sem]
set_option maxHeartbeats 16000000 in
theorem zcopy3_fn (s : State) (L : LowS s) (hR : s.regions.length = 3) (ht : s.threads.length ≤ 1000) : Fnc Try.prog 47 [staV s] (fun x obs => x = .agg [.own 0 0, .own 1 0] ∧ obs = [⟨.rows false 40, true, 0, .arr 1 [.own 2 0, .own 3 0, .own 4 0]⟩, ⟨.row 43, true, 0, .arr 8 (s.threads.map (viewV true))⟩, ⟨.row 84, true, 0, .arr 4 (s.regions[0]!.map canonV)⟩, ⟨.row 84, true, 0, .arr 4 (s.regions[1]!.map canonV)⟩, ⟨.row 84, true, 0, .arr 4 (s.regions[2]!.map canonV)⟩]) := by
  refine zgo m_zcopy_ok fun W S => ?_
  refine ev_adoptB 2 0 40 1 rfl rfl (by decide) rfl ?_
  refine ev_toRows 3 rfl ?_
  refine ev_loopK [1, 2, 3] (fun p : {p : Nat // p ≤ 3} => [(4, .int .i64 p.1)]) (fun p => cO s p.1) (fun p => 3 - p.1) (⟨0, by simp⟩) 4 (by simp only [go_sem]; rfl) ?_ (by first | rfl | (simp only [go_sem]; done) | (simp only [go_sem]; simp [cO_0]; done)) (by simp) (by first | rfl | (simp only [go_sem]; done)) (by first | rfl | (simp only [go_sem]; done)) (by first | rfl | (simp only [go_sem]; done) | (simp only [cO_0]; (try simp only [go_sem]); first | done | rfl)) ?_
  · (simp only [go_sem]; (try simp [cO_0]); done)
  intro J hJ
  rintro ⟨k, hk0⟩
  dsimp only
  by_cases e0 : k = 0
  · subst e0
    rw [cO_0]
    have hb := L.c _ (mem_at (l := s.regions) (k := 0) (by omega))
    refine zso ?_
    refine ev_draw (fu := fu8) mixed [2, 9] 2 rfl (by kernel_rfl) ?_; simp only [go_sem]
    repeat (first | refine And.intro (by omega) ?_ | refine And.intro rfl ?_ | refine ev_ctl rfl rfl ?_ | refine evr_nil ?_ | refine evw_nil (by kernel_rfl) ?_ | (simp (disch := omega) only [takeAll, Nat.min_eq_left, Nat.min_eq_right, if_pos, if_neg, getD_map, wrapI64, modIn, fdivE, tmodE, tdivE, decT, decF, beqT, beqF, bneT, bneF, Int.toNat_natCast]; try simp only [go_sem]) | (refine ev_condTb rfl ?_ ?_; · (simp <;> omega)) | (refine ev_condFb rfl ?_ ?_; · (simp <;> omega)) | ((first | refine ev_region ?_ | refine evr_go rfl ?_ | refine evw_gom [2, 9] rfl ?_ | refine ev_dr0 mixed rfl (by kernel_rfl) ?_ | refine ev_dr1 mixed rfl (by kernel_rfl) ?_ | refine ev_dr2 mixed rfl (by kernel_rfl) ?_); simp only [go_sem]))
    refine ev_next 5 (hJ _ (⟨1, by omega⟩) (by first | omega | (dsimp only; omega) | (simp; omega))) rfl (by simp) ?_ (by first | rfl | (simp only [go_sem]; done)) (by first | rfl | (simp only [go_sem]; done) | (simp only [cO_1]; (try simp only [go_sem]); first | done | rfl)) ?_
    · (first | rfl | (simp only [go_sem]; done) | (simp only [go_sem]; simp only [cO_1]; done) | (simp only [cO_1]; done) | (simp only [go_sem]; simp [cO_1]; done) | (simp [cO_1]; done))
    · (simp only [go_sem]; (repeat' (refine And.intro ?_ ?_)) <;> first | exact trivial | with_reducible rfl | (simp only [cO_1]; done) | (simp only [cO_1]; with_reducible rfl) | (simp [cO_1]; done) | (simp [cO_1]; omega) | (simp only [cO_1]; rfl) | skip)
  by_cases e1 : k = 1
  · subst e1
    rw [cO_1]
    have hb := L.c _ (mem_at (l := s.regions) (k := 1) (by omega))
    refine zso ?_
    refine ev_draw (fu := fu8) mixed [2, 9] 2 rfl (by kernel_rfl) ?_; simp only [go_sem]
    repeat (first | refine And.intro (by omega) ?_ | refine And.intro rfl ?_ | refine ev_ctl rfl rfl ?_ | refine evr_nil ?_ | refine evw_nil (by kernel_rfl) ?_ | (simp (disch := omega) only [takeAll, Nat.min_eq_left, Nat.min_eq_right, if_pos, if_neg, getD_map, wrapI64, modIn, fdivE, tmodE, tdivE, decT, decF, beqT, beqF, bneT, bneF, Int.toNat_natCast]; try simp only [go_sem]) | (refine ev_condTb rfl ?_ ?_; · (simp <;> omega)) | (refine ev_condFb rfl ?_ ?_; · (simp <;> omega)) | ((first | refine ev_region ?_ | refine evr_go rfl ?_ | refine evw_gom [2, 9] rfl ?_ | refine ev_dr0 mixed rfl (by kernel_rfl) ?_ | refine ev_dr1 mixed rfl (by kernel_rfl) ?_ | refine ev_dr2 mixed rfl (by kernel_rfl) ?_); simp only [go_sem]))
    refine ev_next 6 (hJ _ (⟨2, by omega⟩) (by first | omega | (dsimp only; omega) | (simp; omega))) rfl (by simp) ?_ (by first | rfl | (simp only [go_sem]; done)) (by first | rfl | (simp only [go_sem]; done) | (simp only [cO_2]; (try simp only [go_sem]); first | done | rfl)) ?_
    · (first | rfl | (simp only [go_sem]; done) | (simp only [go_sem]; simp only [cO_2]; done) | (simp only [cO_2]; done) | (simp only [go_sem]; simp [cO_2]; done) | (simp [cO_2]; done))
    · (simp only [go_sem]; (repeat' (refine And.intro ?_ ?_)) <;> first | exact trivial | with_reducible rfl | (simp only [cO_2]; done) | (simp only [cO_2]; with_reducible rfl) | (simp [cO_2]; done) | (simp [cO_2]; omega) | (simp only [cO_2]; rfl) | skip)
  by_cases e2 : k = 2
  · subst e2
    rw [cO_2]
    have hb := L.c _ (mem_at (l := s.regions) (k := 2) (by omega))
    refine zso ?_
    refine ev_draw (fu := fu8) mixed [2, 9] 2 rfl (by kernel_rfl) ?_; simp only [go_sem]
    repeat (first | refine And.intro (by omega) ?_ | refine And.intro rfl ?_ | refine ev_ctl rfl rfl ?_ | refine evr_nil ?_ | refine evw_nil (by kernel_rfl) ?_ | (simp (disch := omega) only [takeAll, Nat.min_eq_left, Nat.min_eq_right, if_pos, if_neg, getD_map, wrapI64, modIn, fdivE, tmodE, tdivE, decT, decF, beqT, beqF, bneT, bneF, Int.toNat_natCast]; try simp only [go_sem]) | (refine ev_condTb rfl ?_ ?_; · (simp <;> omega)) | (refine ev_condFb rfl ?_ ?_; · (simp <;> omega)) | ((first | refine ev_region ?_ | refine evr_go rfl ?_ | refine evw_gom [2, 9] rfl ?_ | refine ev_dr0 mixed rfl (by kernel_rfl) ?_ | refine ev_dr1 mixed rfl (by kernel_rfl) ?_ | refine ev_dr2 mixed rfl (by kernel_rfl) ?_); simp only [go_sem]))
    refine ev_next 7 (hJ _ (⟨3, by omega⟩) (by first | omega | (dsimp only; omega) | (simp; omega))) rfl (by simp) ?_ (by first | rfl | (simp only [go_sem]; done)) (by first | rfl | (simp only [go_sem]; done) | (simp only [cO_3]; (try simp only [go_sem]); first | done | rfl)) ?_
    · (first | rfl | (simp only [go_sem]; done) | (simp only [go_sem]; simp only [cO_3]; done) | (simp only [cO_3]; done) | (simp only [go_sem]; simp [cO_3]; done) | (simp [cO_3]; done))
    · (simp only [go_sem]; (repeat' (refine And.intro ?_ ?_)) <;> first | exact trivial | with_reducible rfl | (simp only [cO_3]; done) | (simp only [cO_3]; with_reducible rfl) | (simp [cO_3]; done) | (simp [cO_3]; omega) | (simp only [cO_3]; rfl) | skip)
  obtain rfl : k = 3 := by omega
  rw [cO_3]
  refine zst ?_
  refine ev_adoptB 2 1 43 8 rfl rfl (by decide) rfl ?_
  refine ev_loopK [1, 2, 3] (fun p : {p : Nat // p ≤ s.threads.length} => [(5, .int .i64 p.1)]) (fun p => [⟨.box false 30, true, 0, staV s⟩, ⟨.box false 30, true, 0, .agg [.nilS, .nilS]⟩, ⟨.box false 30, true, 0, .agg [.own 3 3, .own 7 p.1]⟩, ⟨.rows false 40, true, 3, .arr 1 [.own 4 2, .own 5 2, .own 6 2]⟩, ⟨.row 84, true, 2, .arr 4 (s.regions[0]!.map canonV)⟩, ⟨.row 84, true, 2, .arr 4 (s.regions[1]!.map canonV)⟩, ⟨.row 84, true, 2, .arr 4 (s.regions[2]!.map canonV)⟩, ⟨.row 43, true, p.1, .arr 8 ((s.threads.take p.1).map (viewV true))⟩]) (fun p => s.threads.length - p.1) (⟨0, by simp⟩) 8 (by simp only [go_sem]; rfl) ?_ (by first | rfl | (simp only [go_sem]; done)) (by simp) (by first | rfl | (simp only [go_sem]; done)) (by first | rfl | (simp only [go_sem]; done)) (by first | rfl | (simp only [go_sem]; done)) ?_
  · (simp only [go_sem]; (try simp []); done)
  intro J hJ
  rintro ⟨k, hk0⟩
  by_cases hlt : k < s.threads.length
  · have hb := L.g _ (mem_at hlt)
    have hl2 : (s.threads.take k).length = k := by rw [List.length_take]; omega
    have hs : (s.threads.take k).map (viewV true) ++ [viewV true s.threads[k]!] = (s.threads.take (k + 1)).map (viewV true) := by rw [take_snoc hlt, List.map_append]; rfl
    refine zst ?_
    refine zcd (zcopied_fn s.threads[k]! hb) ?_
    exact zn8 (hJ _ (⟨k + 1, hlt⟩) (by first | omega | (dsimp only; omega) | (simp; omega))) hs
  · obtain rfl : k = s.threads.length := by omega
    dsimp only
    rw [List.take_length]
    refine zst ?_
    refine retN m_zcopy_ok [3, 7, 4, 5, 6] ?_; simp only [go_sem]
end Go.Proofs.Ytcphobeommkgeaa
