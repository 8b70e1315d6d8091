/- The reference copies states such that a region, or the threads, may be written. -/
import Derived.Test.YtcphobeommkgeaaP6
import Derived.Test.YtcphobeommkgeaaC5
namespace Go.Proofs.Ytcphobeommkgeaa
open Go Go.RowKit Rdn Rdn.Dp
set_option linter.unusedVariables false
set_option linter.unusedSimpArgs false
theorem m_zcpy_ok : compF Try.prog 47 = some (44, Qr ([Qw 1 (.box 30 (.t 0)), Qw 2 (.alloc 30 (.agg [.nilS, .nilS]))])
 (Qr ([Qw 3 (.alloc 30 (.agg [.nilS, .nilS]))])
 (.seq (Qr ([Qp 4 (.mov (Qi 0))])
 (.block 0 (.loop (.seq (Qr ([Qm 6 4, Qf 7 0 0 1, Ql 8 1 7, Qn 9 8, Qb 10 .lss 6 9])
 (.cond (.t 10) (.skip) (.exit 0)))
 (.seq (.block 1 (.dreg [Qf 13 0 0 3, Ql 14 1 13, Qw 15 (.buildS 84 4 (.agg [.int .u8 0, .int .u16 0, .int .i64 0, .int .i64 0]) 0 []), Qf 16 0 0 1, Ql 17 1 16, Qm 18 4, Qx 19 1 17 18, Ql 20 1 19, Qw 21 (.app 84 4 24 (.t 15) (.t 20)), Qw 22 (.buildS 40 1 (.nilS) 1 [(0, (.t 21))]), Qw 23 (.app 40 1 24 (.t 14) (.t 22)), Qf 24 0 0 3, Qs 1 24 23] [[], [0], [], [], [3], [], [3, 4, 5], [3, 4, 5, 6], [2, 3, 4, 5, 6, 7], [2, 3, 4, 5, 6, 7, 8], [0, 1, 2, 3, 4, 5, 6, 7, 8, 9], [0, 1, 2, 3, 4, 5, 6, 7, 8, 9, 10], [0, 1, 2, 3, 4, 5, 6, 7, 8, 9, 10, 11]]))
 (.reg [Qm 11 4, Qk 12 .add 11 1, Qm 4 12]))))))
 (.seq (Qr ([Qp 5 (.mov (Qi 0))])
 (.block 2 (.loop (.seq (Qr ([Qm 25 5, Qf 26 1 1 1, Ql 27 1 26, Qn 28 27, Qb 29 .lss 25 28])
 (.cond (.t 29) (.skip) (.exit 2)))
 (.seq (.block 3 (.dreg [Qf 32 1 1 3, Ql 33 1 32, Qf 34 1 1 1, Ql 35 1 34, Qm 36 5, Qx 37 8 35 36, QL 38 8 37, Qq 39 88 [(.t 38)], Qw 40 (.buildS 43 8 (.agg [.int .i64 0, .int .i64 0, .int .i64 0, .int .i64 0, .int .i64 0, .int .i64 0, .int .u16 0, .nilS]) 1 [(0, (.t 39))]), Qw 41 (.app 43 8 80 (.t 33) (.t 40)), Qf 42 1 1 3, Qs 1 42 41] [[], [0], [], [2], [], [2, 3, 4], [2, 3, 4, 5], [2, 3, 4, 5, 6], [2, 3, 4, 5, 6, 7], [0, 1, 2, 3, 4, 5, 6, 7, 8], [0, 1, 2, 3, 4, 5, 6, 7, 8, 9], [0, 1, 2, 3, 4, 5, 6, 7, 8, 9, 10]]))
 (.reg [Qm 30 5, Qk 31 .add 30 1, Qm 5 31]))))))
 (Qr ([QL 43 2 3, Qs 2 2 43])
 (.ret))))), [.load true 2 (.t 2)]) := by kernel_rfl
attribute [local go_sem] List.length_set
/-- The objects of a copy, one region of which may be written. -/
def sJ (s : State) (j : Nat) (p : Nat) : List Ob := if j < p then [⟨.box false 30, true, 0, staV s⟩, ⟨.box false 30, true, 0, .agg [.nilS, .nilS]⟩, ⟨.box false 30, true, 0, .agg [.own 3 p, .nilS]⟩, ⟨.rows false 40, true, p, .arr 1 (((s.regions.take p).map (slV' true 4 canonV)).set j (.own 4 2))⟩, ⟨.row 84, true, 2, .arr 4 (s.regions[j]!.map canonV)⟩] else [⟨.box false 30, true, 0, staV s⟩, ⟨.box false 30, true, 0, .agg [.nilS, .nilS]⟩, ⟨.box false 30, true, 0, .agg [.own 3 p, .nilS]⟩, ⟨.rows false 40, true, p, .arr 1 ((s.regions.take p).map (slV' true 4 canonV))⟩]
theorem sJ_ge {s : State} {j p : Nat} (h : ¬ j < p) : sJ s j p = [⟨.box false 30, true, 0, staV s⟩, ⟨.box false 30, true, 0, .agg [.nilS, .nilS]⟩, ⟨.box false 30, true, 0, .agg [.own 3 p, .nilS]⟩, ⟨.rows false 40, true, p, .arr 1 ((s.regions.take p).map (slV' true 4 canonV))⟩] := if_neg h
theorem sJ_lt {s : State} {j p : Nat} (h : j < p) : sJ s j p = [⟨.box false 30, true, 0, staV s⟩, ⟨.box false 30, true, 0, .agg [.nilS, .nilS]⟩, ⟨.box false 30, true, 0, .agg [.own 3 p, .nilS]⟩, ⟨.rows false 40, true, p, .arr 1 (((s.regions.take p).map (slV' true 4 canonV)).set j (.own 4 2))⟩, ⟨.row 84, true, 2, .arr 4 (s.regions[j]!.map canonV)⟩] := if_pos h
theorem setJ_lt {α : Type} [Inhabited α] {l : List α} {g : α → V} {j k : Nat} {x : V} (h : k < l.length) (hj : j < k) : ((l.take k).map g).set j x ++ [g l[k]!] = ((l.take (k + 1)).map g).set j x := by
  rw [take_snoc h, List.map_append, List.set_append_left _ _ (by simp; omega)]; rfl
theorem setJ_eq {α : Type} [Inhabited α] {l : List α} {g : α → V} {k : Nat} {x : V} (h : k < l.length) : (l.take k).map g ++ [x] = ((l.take (k + 1)).map g).set k x := by
  rw [take_snoc h, List.map_append, List.set_append_right _ _ (by simp; omega)]
  simp [Nat.min_eq_left (Nat.le_of_lt h)]
theorem setJ_snoc {α : Type} [Inhabited α] {l : List α} {g : α → V} {k : Nat} {x y : V} (h : k < l.length) (hy : y = g l[k]!) : ((l.take k).map g ++ [x]).set k y = (l.take (k + 1)).map g := by
  subst hy
  rw [List.set_append_right _ _ (by simp; omega), take_snoc h, List.map_append]
  simp [Nat.min_eq_left (Nat.le_of_lt h)]
theorem setJ_snoc2 {α : Type} [Inhabited α] {l : List α} {g : α → V} {j k : Nat} {x y z : V} (h : k < l.length) (hj : j < k) (hy : y = g l[k]!) : (((l.take k).map g).set j z ++ [x]).set k y = ((l.take (k + 1)).map g).set j z := by
  subst hy
  rw [List.set_append_right _ _ (by simp; omega), ← setJ_lt h hj]
  simp [Nat.min_eq_left (Nat.le_of_lt h)]
theorem snoc_get {A : List V} {x : V} {k : Nat} (h : A.length = k) : (A ++ [x])[k]? = some x := by subst h; simp
set_option maxHeartbeats 16000000 in
theorem zcopyJ_fn (s : State) (L : LowS s) (j : Nat) (hj : j < s.regions.length) (hr : s.regions.length ≤ 1000) (ht : s.threads.length ≤ 1000) : Fnc Try.prog 47 [staV s] (fun x obs => x = .agg [.own 0 0, .own 1 0] ∧ obs = [⟨.rows false 40, true, 0, .arr 1 ((s.regions.map (slV' true 4 canonV)).set j (.own 2 0))⟩, ⟨.row 43, true, 0, .arr 8 (s.threads.map (viewV true))⟩, ⟨.row 84, true, 0, .arr 4 (s.regions[j]!.map canonV)⟩]) := by
  refine zgo m_zcpy_ok fun W S => ?_
  refine ev_adoptB 2 0 40 1 rfl rfl (by decide) rfl ?_
  refine ev_toRows 3 rfl ?_
  refine ev_loopK [1, 2, 3] (fun p : {p : Nat // p ≤ s.regions.length} => [(4, .int .i64 p.1)]) (fun p => sJ s j p.1) (fun p => s.regions.length - p.1) (⟨0, by simp⟩) 4 (by simp only [go_sem]; rfl) ?_ (by first | rfl | (simp only [go_sem]; done) | (simp only [go_sem]; simp [sJ_ge (Nat.not_lt_zero j)]; done)) (by simp) (by first | rfl | (simp only [go_sem]; done)) (by first | rfl | (simp only [go_sem]; done)) (by first | rfl | (simp only [go_sem]; done) | (simp only [sJ_ge (Nat.not_lt_zero j)]; (try simp only [go_sem]); first | done | rfl)) ?_
  · (simp only [go_sem]; (try simp [sJ_ge (Nat.not_lt_zero j)]); done)
  intro J hJ
  rintro ⟨k, hk0⟩
  dsimp only
  by_cases hlt : k < s.regions.length
  · have hb := L.c _ (mem_at hlt)
    have hl2 : (s.regions.take k).length = k := by rw [List.length_take]; omega
    rcases Nat.lt_trichotomy k j with c | c | c
    · rw [sJ_ge (by omega)]
      have hq : ((s.regions.take k).map (slV' true 4 canonV) ++ [V.own 4 2]).set k (V.sl true 4 (s.regions[k]!.map canonV)) = (s.regions.take (k + 1)).map (slV' true 4 canonV) := setJ_snoc hlt rfl
      refine zso ?_
      refine ev_draw (fu := fu8) mixed [2, 9] 2 rfl (by kernel_rfl) ?_; simp only [go_sem]
      repeat (first | refine And.intro (by omega) ?_ | refine And.intro rfl ?_ | refine ev_ctl rfl rfl ?_ | refine evr_nil ?_ | refine evw_nil (by kernel_rfl) ?_ | (simp (disch := omega) only [takeAll, Nat.min_eq_left, Nat.min_eq_right, if_pos, if_neg, getD_map, wrapI64, modIn, fdivE, tmodE, tdivE, decT, decF, beqT, beqF, bneT, bneF, Int.toNat_natCast]; try simp only [go_sem]) | (refine ev_condTb rfl ?_ ?_; · (simp <;> omega)) | (refine ev_condFb rfl ?_ ?_; · (simp <;> omega)) | ((first | refine ev_region ?_ | refine evr_go rfl ?_ | refine evw_gom [2, 9] rfl ?_ | refine ev_dr0 mixed rfl (by kernel_rfl) ?_ | refine ev_dr1 mixed rfl (by kernel_rfl) ?_ | refine ev_dr2 mixed rfl (by kernel_rfl) ?_); simp only [go_sem]))
      refine ev_frzIn 3 k 4 rfl rfl (snoc_get (by rw [List.length_map, hl2])) ?_
      simp only [go_sem]
      refine ev_next 4 (hJ _ (⟨k + 1, hlt⟩) (by first | omega | (dsimp only; omega) | (simp; omega))) rfl (by simp) ?_ (by first | rfl | (simp only [go_sem]; done)) (by first | rfl | (simp only [go_sem]; done) | (simp only [sJ_ge (show ¬ j < k + 1 by omega), hq]; (try simp only [go_sem]); first | done | rfl)) ?_
      · (first | rfl | (simp only [go_sem]; done) | (simp only [go_sem]; simp only [sJ_ge (show ¬ j < k + 1 by omega), hq]; done) | (simp only [sJ_ge (show ¬ j < k + 1 by omega), hq]; done) | (simp only [go_sem]; simp [sJ_ge (show ¬ j < k + 1 by omega), hq]; done) | (simp [sJ_ge (show ¬ j < k + 1 by omega), hq]; done))
      · (simp only [go_sem]; (repeat' (refine And.intro ?_ ?_)) <;> first | exact trivial | with_reducible rfl | (simp only [sJ_ge (show ¬ j < k + 1 by omega), hq]; done) | (simp only [sJ_ge (show ¬ j < k + 1 by omega), hq]; with_reducible rfl) | (simp [sJ_ge (show ¬ j < k + 1 by omega), hq]; done) | (simp [sJ_ge (show ¬ j < k + 1 by omega), hq]; omega) | (simp only [sJ_ge (show ¬ j < k + 1 by omega), hq]; rfl) | skip)
    · subst c
      rw [sJ_ge (by omega)]
      have hs2 : (s.regions.take k).map (slV' true 4 canonV) ++ [V.own 4 2] = ((s.regions.take (k + 1)).map (slV' true 4 canonV)).set k (.own 4 2) := setJ_eq hlt
      refine zso ?_
      refine ev_draw (fu := fu8) mixed [2, 9] 2 rfl (by kernel_rfl) ?_; simp only [go_sem]
      repeat (first | refine And.intro (by omega) ?_ | refine And.intro rfl ?_ | refine ev_ctl rfl rfl ?_ | refine evr_nil ?_ | refine evw_nil (by kernel_rfl) ?_ | (simp (disch := omega) only [takeAll, Nat.min_eq_left, Nat.min_eq_right, if_pos, if_neg, getD_map, wrapI64, modIn, fdivE, tmodE, tdivE, decT, decF, beqT, beqF, bneT, bneF, Int.toNat_natCast]; try simp only [go_sem]) | (refine ev_condTb rfl ?_ ?_; · (simp <;> omega)) | (refine ev_condFb rfl ?_ ?_; · (simp <;> omega)) | ((first | refine ev_region ?_ | refine evr_go rfl ?_ | refine evw_gom [2, 9] rfl ?_ | refine ev_dr0 mixed rfl (by kernel_rfl) ?_ | refine ev_dr1 mixed rfl (by kernel_rfl) ?_ | refine ev_dr2 mixed rfl (by kernel_rfl) ?_); simp only [go_sem]))
      refine ev_next 5 (hJ _ (⟨k + 1, hlt⟩) (by first | omega | (dsimp only; omega) | (simp; omega))) rfl (by simp) ?_ (by first | rfl | (simp only [go_sem]; done)) (by first | rfl | (simp only [go_sem]; done) | (simp only [sJ_lt (show k < k + 1 by omega), hs2, List.cons_append, List.nil_append]; (try simp only [go_sem]); first | done | rfl)) ?_
      · (first | rfl | (simp only [go_sem]; done) | (simp only [go_sem]; simp only [sJ_lt (show k < k + 1 by omega), hs2, List.cons_append, List.nil_append]; done) | (simp only [sJ_lt (show k < k + 1 by omega), hs2, List.cons_append, List.nil_append]; done) | (simp only [go_sem]; simp [sJ_lt (show k < k + 1 by omega), hs2, List.cons_append, List.nil_append]; done) | (simp [sJ_lt (show k < k + 1 by omega), hs2, List.cons_append, List.nil_append]; done))
      · (simp only [go_sem]; (repeat' (refine And.intro ?_ ?_)) <;> first | exact trivial | with_reducible rfl | (simp only [sJ_lt (show k < k + 1 by omega), hs2, List.cons_append, List.nil_append]; done) | (simp only [sJ_lt (show k < k + 1 by omega), hs2, List.cons_append, List.nil_append]; with_reducible rfl) | (simp [sJ_lt (show k < k + 1 by omega), hs2, List.cons_append, List.nil_append]; done) | (simp [sJ_lt (show k < k + 1 by omega), hs2, List.cons_append, List.nil_append]; omega) | (simp only [sJ_lt (show k < k + 1 by omega), hs2, List.cons_append, List.nil_append]; rfl) | skip)
    · rw [sJ_lt c]
      have hq : (((s.regions.take k).map (slV' true 4 canonV)).set j (V.own 4 2) ++ [V.own 5 2]).set k (V.sl true 4 (s.regions[k]!.map canonV)) = ((s.regions.take (k + 1)).map (slV' true 4 canonV)).set j (.own 4 2) := setJ_snoc2 hlt c rfl
      refine zso ?_
      refine ev_draw (fu := fu8) mixed [2, 9] 2 rfl (by kernel_rfl) ?_; simp only [go_sem]
      repeat (first | refine And.intro (by omega) ?_ | refine And.intro rfl ?_ | refine ev_ctl rfl rfl ?_ | refine evr_nil ?_ | refine evw_nil (by kernel_rfl) ?_ | (simp (disch := omega) only [takeAll, Nat.min_eq_left, Nat.min_eq_right, if_pos, if_neg, getD_map, wrapI64, modIn, fdivE, tmodE, tdivE, decT, decF, beqT, beqF, bneT, bneF, Int.toNat_natCast]; try simp only [go_sem]) | (refine ev_condTb rfl ?_ ?_; · (simp <;> omega)) | (refine ev_condFb rfl ?_ ?_; · (simp <;> omega)) | ((first | refine ev_region ?_ | refine evr_go rfl ?_ | refine evw_gom [2, 9] rfl ?_ | refine ev_dr0 mixed rfl (by kernel_rfl) ?_ | refine ev_dr1 mixed rfl (by kernel_rfl) ?_ | refine ev_dr2 mixed rfl (by kernel_rfl) ?_); simp only [go_sem]))
      refine ev_frzIn 3 k 5 rfl rfl (snoc_get (by rw [List.length_set, List.length_map, hl2])) ?_
      simp only [go_sem]
      refine ev_next 5 (hJ _ (⟨k + 1, hlt⟩) (by first | omega | (dsimp only; omega) | (simp; omega))) rfl (by simp) ?_ (by first | rfl | (simp only [go_sem]; done)) (by first | rfl | (simp only [go_sem]; done) | (simp only [sJ_lt (show j < k + 1 by omega), hq]; (try simp only [go_sem]); first | done | rfl)) ?_
      · (first | rfl | (simp only [go_sem]; done) | (simp only [go_sem]; simp only [sJ_lt (show j < k + 1 by omega), hq]; done) | (simp only [sJ_lt (show j < k + 1 by omega), hq]; done) | (simp only [go_sem]; simp [sJ_lt (show j < k + 1 by omega), hq]; done) | (simp [sJ_lt (show j < k + 1 by omega), hq]; done))
      · (simp only [go_sem]; (repeat' (refine And.intro ?_ ?_)) <;> first | exact trivial | with_reducible rfl | (simp only [sJ_lt (show j < k + 1 by omega), hq]; done) | (simp only [sJ_lt (show j < k + 1 by omega), hq]; with_reducible rfl) | (simp [sJ_lt (show j < k + 1 by omega), hq]; done) | (simp [sJ_lt (show j < k + 1 by omega), hq]; omega) | (simp only [sJ_lt (show j < k + 1 by omega), hq]; rfl) | skip)
  · obtain rfl : k = s.regions.length := by omega
    rw [sJ_lt hj]
    refine zst ?_
    refine ev_adoptB 2 1 43 8 rfl rfl (by decide) rfl ?_
    refine ev_loopK [1, 2, 3] (fun p : {p : Nat // p ≤ s.threads.length} => [(5, .int .i64 p.1)]) (fun p => [⟨.box false 30, true, 0, staV s⟩, ⟨.box false 30, true, 0, .agg [.nilS, .nilS]⟩, ⟨.box false 30, true, 0, .agg [.own 3 s.regions.length, .own 5 p.1]⟩, ⟨.rows false 40, true, s.regions.length, .arr 1 ((s.regions.map (slV' true 4 canonV)).set j (.own 4 2))⟩, ⟨.row 84, true, 2, .arr 4 (s.regions[j]!.map canonV)⟩, ⟨.row 43, true, p.1, .arr 8 ((s.threads.take p.1).map (viewV true))⟩]) (fun p => s.threads.length - p.1) (⟨0, by simp⟩) 6 (by simp only [go_sem]; rfl) ?_ (by first | rfl | (simp only [go_sem]; done)) (by simp) (by first | rfl | (simp only [go_sem]; done)) (by first | rfl | (simp only [go_sem]; done)) (by first | rfl | (simp only [go_sem]; done)) ?_
    · (simp only [go_sem]; (try simp []); done)
    intro J hJ
    rintro ⟨k, hk0⟩
    by_cases hlt : k < s.threads.length
    · have hb := L.g _ (mem_at hlt)
      have hl2 : (s.threads.take k).length = k := by rw [List.length_take]; omega
      have hs : (s.threads.take k).map (viewV true) ++ [viewV true s.threads[k]!] = (s.threads.take (k + 1)).map (viewV true) := by rw [take_snoc hlt, List.map_append]; rfl
      refine zst ?_
      refine zcd (zcopied_fn s.threads[k]! hb) ?_
      exact zn6 (hJ _ (⟨k + 1, hlt⟩) (by first | omega | (dsimp only; omega) | (simp; omega))) hs
    · obtain rfl : k = s.threads.length := by omega
      dsimp only
      rw [List.take_length]
      refine zst ?_
      refine retN m_zcpy_ok [3, 5, 4] ?_; simp only [go_sem]
      exact V.oksW_set (V.oksW_pure _ _ _ (pures_lo _ _)) _ (by simp only [go_sem])
set_option maxHeartbeats 16000000 in
theorem zcopyT_fn (s : State) (L : LowS s) (hr : s.regions.length ≤ 1000) (ht : s.threads.length ≤ 1000) : Fnc Try.prog 47 [staV s] (fun x obs => x = .agg [.own 0 0, .own 1 0] ∧ obs = [⟨.row 40, true, 0, .arr 1 (s.regions.map (slV' true 4 canonV))⟩, ⟨.row 43, true, 0, .arr 8 (s.threads.map (viewV true))⟩]) := by
  refine zgo m_zcpy_ok fun W S => ?_
  refine ev_adoptB 2 0 40 1 rfl rfl (by decide) rfl ?_
  refine ev_toRows 3 rfl ?_
  refine ev_loopK [1, 2, 3] (fun p : {p : Nat // p ≤ s.regions.length} => [(4, .int .i64 p.1)]) (fun p => [⟨.box false 30, true, 0, staV s⟩, ⟨.box false 30, true, 0, .agg [.nilS, .nilS]⟩, ⟨.box false 30, true, 0, .agg [.own 3 p.1, .nilS]⟩, ⟨.rows false 40, true, p.1, .arr 1 ((s.regions.take p.1).map (slV' true 4 canonV))⟩]) (fun p => s.regions.length - p.1) (⟨0, by simp⟩) 4 (by simp only [go_sem]; rfl) ?_ (by first | rfl | (simp only [go_sem]; done)) (by simp) (by first | rfl | (simp only [go_sem]; done)) (by first | rfl | (simp only [go_sem]; done)) (by first | rfl | (simp only [go_sem]; done)) ?_
  · (simp only [go_sem]; (try simp []); done)
  intro J hJ
  rintro ⟨k, hk0⟩
  by_cases hlt : k < s.regions.length
  · have hb := L.c _ (mem_at hlt)
    have hl2 : (s.regions.take k).length = k := by rw [List.length_take]; omega
    have hq : ((s.regions.take k).map (slV' true 4 canonV) ++ [V.own 4 2]).set k (V.sl true 4 (s.regions[k]!.map canonV)) = (s.regions.take (k + 1)).map (slV' true 4 canonV) := setJ_snoc hlt rfl
    refine zso ?_
    refine ev_draw (fu := fu8) mixed [2, 9] 2 rfl (by kernel_rfl) ?_; simp only [go_sem]
    repeat (first | refine And.intro (by omega) ?_ | refine And.intro rfl ?_ | refine ev_ctl rfl rfl ?_ | refine evr_nil ?_ | refine evw_nil (by kernel_rfl) ?_ | (simp (disch := omega) only [takeAll, Nat.min_eq_left, Nat.min_eq_right, if_pos, if_neg, getD_map, wrapI64, modIn, fdivE, tmodE, tdivE, decT, decF, beqT, beqF, bneT, bneF, Int.toNat_natCast]; try simp only [go_sem]) | (refine ev_condTb rfl ?_ ?_; · (simp <;> omega)) | (refine ev_condFb rfl ?_ ?_; · (simp <;> omega)) | ((first | refine ev_region ?_ | refine evr_go rfl ?_ | refine evw_gom [2, 9] rfl ?_ | refine ev_dr0 mixed rfl (by kernel_rfl) ?_ | refine ev_dr1 mixed rfl (by kernel_rfl) ?_ | refine ev_dr2 mixed rfl (by kernel_rfl) ?_); simp only [go_sem]))
    refine ev_frzIn 3 k 4 rfl rfl (snoc_get (by rw [List.length_map, hl2])) ?_
    simp only [go_sem]
    exact zn4 (hJ _ (⟨k + 1, hlt⟩) (by first | omega | (dsimp only; omega) | (simp; omega))) hq
  · obtain rfl : k = s.regions.length := by omega
    dsimp only
    rw [List.take_length]
    refine ev_toRow 3 rfl (pures_lo _ _) ?_
    simp only [go_sem]
    refine zst ?_
    refine ev_adoptB 2 1 43 8 rfl rfl (by decide) rfl ?_
    refine ev_loopK [1, 2, 3] (fun p : {p : Nat // p ≤ s.threads.length} => [(5, .int .i64 p.1)]) (fun p => [⟨.box false 30, true, 0, staV s⟩, ⟨.box false 30, true, 0, .agg [.nilS, .nilS]⟩, ⟨.box false 30, true, 0, .agg [.own 3 s.regions.length, .own 4 p.1]⟩, ⟨.row 40, true, s.regions.length, .arr 1 (s.regions.map (slV' true 4 canonV))⟩, ⟨.row 43, true, p.1, .arr 8 ((s.threads.take p.1).map (viewV true))⟩]) (fun p => s.threads.length - p.1) (⟨0, by simp⟩) 5 (by simp only [go_sem]; rfl) ?_ (by first | rfl | (simp only [go_sem]; done)) (by simp) (by first | rfl | (simp only [go_sem]; done)) (by first | rfl | (simp only [go_sem]; done)) (by first | rfl | (simp only [go_sem]; done)) ?_
    · (simp only [go_sem]; (try simp []); done)
    intro J hJ
    rintro ⟨k, hk0⟩
    by_cases hlt : k < s.threads.length
    · have hb := L.g _ (mem_at hlt)
      have hl2 : (s.threads.take k).length = k := by rw [List.length_take]; omega
      have hs : (s.threads.take k).map (viewV true) ++ [viewV true s.threads[k]!] = (s.threads.take (k + 1)).map (viewV true) := by rw [take_snoc hlt, List.map_append]; rfl
      refine zst ?_
      refine zcd (zcopied_fn s.threads[k]! hb) ?_
      exact zn5 (hJ _ (⟨k + 1, hlt⟩) (by first | omega | (dsimp only; omega) | (simp; omega))) hs
    · obtain rfl : k = s.threads.length := by omega
      dsimp only
      rw [List.take_length]
      refine zst ?_
      refine retN m_zcpy_ok [3, 4] ?_; simp only [go_sem]
end Go.Proofs.Ytcphobeommkgeaa
