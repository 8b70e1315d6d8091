/- Pages: states copied by the product. -/
import Derived.Test.YtcphobeommkgeaaP3
import Derived.Test.YtcphobeommkgeaaC5
import Derived.Test.YtcphobeommkgeaaP28
namespace Go.Proofs.Ytcphobeommkgeaa
open Go Go.RowKit Rdn Rdn.Dp
set_option linter.unusedVariables false
set_option linter.unusedSimpArgs false
theorem m_clrg_ok : compF Try.prog 100 = some (8, Qr ([Qp 2 (.mov (.c (.nilS)))])
 (.seq (Qr ([Qm 3 0, Qp 4 (.bin 2 .eql (.t 3) (.c (.nilS)))])
 (.cond (.t 4) (Qr ([Qp 2 (.mov (.c (.nilS)))])
 (.ret)) (.skip)))
 (Qr ([Qw 5 (.buildS 40 1 (.nilS) 0 []), Qm 6 0, Qw 7 (.app 40 1 24 (.t 5) (.t 6)), Qm 2 7])
 (.ret))), [.mov (.t 2)]) := by kernel_rfl
theorem m_clvw_ok : compF Try.prog 101 = some (8, Qr ([Qp 2 (.mov (.c (.nilS)))])
 (.seq (Qr ([Qm 3 0, Qp 4 (.bin 2 .eql (.t 3) (.c (.nilS)))])
 (.cond (.t 4) (Qr ([Qp 2 (.mov (.c (.nilS)))])
 (.ret)) (.skip)))
 (Qr ([Qw 5 (.buildS 43 8 (.agg [.int .i64 0, .int .i64 0, .int .i64 0, .int .i64 0, .int .i64 0, .int .i64 0, .int .u16 0, .nilS]) 0 []), Qm 6 0, Qw 7 (.app 43 8 80 (.t 5) (.t 6)), Qm 2 7])
 (.ret))), [.mov (.t 2)]) := by kernel_rfl
theorem m_csta_ok : compF Try.prog 75 = some (46, Qr ([Qw 1 (.box 30 (.t 0)), Qw 2 (.alloc 30 (.agg [.nilS, .nilS]))])
 (.seq (.dreg [Qf 7 0 0 1, Ql 8 1 7, Qq 9 100 [(.t 8)], Qf 10 1 1 1, Ql 11 1 10, Qq 12 101 [(.t 11)], Qf 13 0 0 1, Qs 1 13 9, Qf 14 1 1 1, Qs 1 14 12] [[], [0], [0, 1], [], [3], [0, 1, 2, 3, 4], [0, 1, 2, 3, 4], [0, 1, 2, 3, 4, 5, 6], [0, 1, 2, 3, 4, 5, 6, 7], [0, 1, 2, 3, 4, 5, 6, 7, 8]])
 (.seq (Qr ([Qf 15 0 0 1, Ql 16 1 15, Qn 17 16, Qp 18 (.mov (Qi 0))])
 (.block 0 (.loop (Qr ([Qb 19 .lss 18 17])
 (.seq (.cond (.t 19) (.skip) (.exit 0))
 (.seq (.block 1 (Qr ([Qm 20 18, Qx 21 1 16 18, Ql 22 1 21, Qm 3 20, Qm 4 22])
 (.dreg [Qf 23 0 0 1, Ql 24 1 23, Qm 25 3, Qm 26 4, Qq 27 96 [(.t 26)], Qx 28 1 24 25, Qs 1 28 27] [[], [0], [], [], [3], [0, 1, 2, 3, 4], [0, 1, 2, 3, 4, 5]])))
 (.reg [Qk 29 .add 18 1, Qm 18 29])))))))
 (.seq (Qr ([Qf 30 1 1 1, Ql 31 1 30, Qn 32 31, Qp 33 (.mov (Qi 0))])
 (.block 2 (.loop (Qr ([Qb 34 .lss 33 32])
 (.seq (.cond (.t 34) (.skip) (.exit 2))
 (.seq (.block 3 (Qr ([Qm 35 33, Qx 36 8 31 33, QL 37 8 36, Qw 6 (.alloc 43 (.agg [.int .i64 0, .int .i64 0, .int .i64 0, .int .i64 0, .int .i64 0, .int .i64 0, .int .u16 0, .nilS])), Qm 5 35, Qs 8 6 37])
 (.dreg [Qf 38 1 1 1, Ql 39 1 38, Qm 40 5, QL 41 8 6, Qq 42 76 [(.t 41)], Qx 43 8 39 40, Qs 8 43 42] [[], [0], [], [], [3], [0, 1, 2, 3, 4], [0, 1, 2, 3, 4, 5]])))
 (.reg [Qk 44 .add 33 1, Qm 33 44])))))))
 (Qr ([QL 45 2 1, Qs 2 2 45])
 (.ret))))), [.load true 2 (.t 2)]) := by kernel_rfl
set_option maxHeartbeats 4000000 in
theorem clrg_fn (l : List (List Canon)) (hb : l.length ≤ 5864062014634) : Fnc Try.prog 100 [.sl false 1 (l.map (slV' false 4 canonV))] (fun x obs => x = .sl true 1 (l.map (slV' false 4 canonV)) ∧ obs = []) := by
  refine Fnc.intro m_clrg_ok (by simp) fun W S => ?_
  simp only [ents, Nat.zero_add, Nat.reduceAdd, Qm, Qc, Ql, QL, Qf, Qs, Qb, Qk, QB, Qn, Qe, Qx, Qt, Qu, Q0, Q1, Qp, Qw, Qq, Qr, Qi]
  refine zsu ?_
  refine zs1 ?_
  refine zsu ?_
  refine ev_reg ?_
  refine evr_p rfl trivial ?_
  refine evr_nilq rfl rfl fun b hb0 => ?_
  cases b with
  | false =>
    simp only [aopP, X.ev, slotV, AS.put, if_true]
    refine zst ?_
    exact zrt m_clrg_ok
  | true =>
    have hl : l = [] := by
      cases l with
      | nil => rfl
      | cons a l => exact absurd (hb0 (by simp)) (by simp)
    subst hl
    simp only [aopP, X.ev, slotV, AS.put, if_true]
    refine zsu ?_
    refine zs1 ?_
    refine zsu ?_
    refine ev_nil2 2 true 1 rfl ?_
    exact zrt m_clrg_ok
set_option maxHeartbeats 4000000 in
theorem clrg_own (l : List (List Canon)) (hb : l.length ≤ 5864062014634) : Fnc Try.prog 100 [.sl false 1 (l.map (slV' false 4 canonV))] (fun x obs => x = .own 0 0 ∧ obs = [⟨.row 40, true, 0, .arr 1 (l.map (slV' false 4 canonV))⟩]) := by
  refine Fnc.intro m_clrg_ok (by simp) fun W S => ?_
  simp only [ents, Nat.zero_add, Nat.reduceAdd, Qm, Qc, Ql, QL, Qf, Qs, Qb, Qk, QB, Qn, Qe, Qx, Qt, Qu, Q0, Q1, Qp, Qw, Qq, Qr, Qi]
  refine zsu ?_
  refine zs1 ?_
  refine zsu ?_
  refine ev_reg ?_
  refine evr_p rfl trivial ?_
  refine evr_nilq rfl rfl fun b hb0 => ?_
  cases b with
  | false =>
    simp only [aopP, X.ev, slotV, AS.put, if_true]
    refine zst ?_
    refine ret m_clrg_ok [0] ?_; exact zfn
  | true =>
    have hl : l = [] := by
      cases l with
      | nil => rfl
      | cons a l => exact absurd (hb0 (by simp)) (by simp)
    subst hl
    simp only [aopP, X.ev, slotV, AS.put, if_true]
    refine zsu ?_
    refine zs1 ?_
    refine zsu ?_
    refine ev_adopt (i := 2) (e := 40) (s := 1) rfl (by decide) ?_
    refine ret m_clrg_ok [0] ?_; exact zfn
set_option maxHeartbeats 4000000 in
theorem clvw_fn (l : List View) (hb : l.length ≤ 1759218604390) : Fnc Try.prog 101 [.sl false 8 (l.map (viewV false))] (fun x obs => x = .sl true 8 (l.map (viewV false)) ∧ obs = []) := by
  refine Fnc.intro m_clvw_ok (by simp) fun W S => ?_
  simp only [ents, Nat.zero_add, Nat.reduceAdd, Qm, Qc, Ql, QL, Qf, Qs, Qb, Qk, QB, Qn, Qe, Qx, Qt, Qu, Q0, Q1, Qp, Qw, Qq, Qr, Qi]
  refine zsu ?_
  refine zs1 ?_
  refine zsu ?_
  refine ev_reg ?_
  refine evr_p rfl trivial ?_
  refine evr_nilq rfl rfl fun b hb0 => ?_
  cases b with
  | false =>
    simp only [aopP, X.ev, slotV, AS.put, if_true]
    refine zst ?_
    exact zrt m_clvw_ok
  | true =>
    have hl : l = [] := by
      cases l with
      | nil => rfl
      | cons a l => exact absurd (hb0 (by simp)) (by simp)
    subst hl
    simp only [aopP, X.ev, slotV, AS.put, if_true]
    refine zsu ?_
    refine zs1 ?_
    refine zsu ?_
    refine ev_nil2 2 true 8 rfl ?_
    exact zrt m_clvw_ok
set_option maxHeartbeats 4000000 in
theorem clvw_own (l : List View) (hb : l.length ≤ 1759218604390) : Fnc Try.prog 101 [.sl false 8 (l.map (viewV false))] (fun x obs => x = .own 0 0 ∧ obs = [⟨.row 43, true, 0, .arr 8 (l.map (viewV false))⟩]) := by
  refine Fnc.intro m_clvw_ok (by simp) fun W S => ?_
  simp only [ents, Nat.zero_add, Nat.reduceAdd, Qm, Qc, Ql, QL, Qf, Qs, Qb, Qk, QB, Qn, Qe, Qx, Qt, Qu, Q0, Q1, Qp, Qw, Qq, Qr, Qi]
  refine zsu ?_
  refine zs1 ?_
  refine zsu ?_
  refine ev_reg ?_
  refine evr_p rfl trivial ?_
  refine evr_nilq rfl rfl fun b hb0 => ?_
  cases b with
  | false =>
    simp only [aopP, X.ev, slotV, AS.put, if_true]
    refine zst ?_
    refine ret m_clvw_ok [0] ?_; exact zfn
  | true =>
    have hl : l = [] := by
      cases l with
      | nil => rfl
      | cons a l => exact absurd (hb0 (by simp)) (by simp)
    subst hl
    simp only [aopP, X.ev, slotV, AS.put, if_true]
    refine zsu ?_
    refine zs1 ?_
    refine zsu ?_
    refine ev_adopt (i := 2) (e := 43) (s := 8) rfl (by decide) ?_
    refine ret m_clvw_ok [0] ?_; exact zfn
/-- The first k regions are copied. -/
def cpR (s : State) (k : Nat) : List V := (s.regions.take k).map (slV' true 4 canonV) ++ (s.regions.drop k).map (slV' false 4 canonV)
def cpT (s : State) (k : Nat) : List V := (s.threads.take k).map (viewV true) ++ (s.threads.drop k).map (viewV false)
theorem cp_set {α : Type} [Inhabited α] {f g : α → V} (l : List α) {k : Nat} (h : k < l.length) : ((l.take k).map f ++ (l.drop k).map g).set k (f l[k]!) = (l.take (k + 1)).map f ++ (l.drop (k + 1)).map g := by
  have h1 : ((l.take k).map f).length = k := by simp; omega
  rw [List.set_append_right _ _ (by omega), take_snoc h, List.map_append, List.append_assoc, h1, Nat.sub_self, List.drop_eq_getElem_cons h, List.map_cons, List.set_cons_zero]
  rfl
theorem cp_len {α : Type} {f g : α → V} (l : List α) {k : Nat} (h : k ≤ l.length) : ((l.take k).map f ++ (l.drop k).map g).length = l.length := by simp; omega
theorem cp_at {α : Type} [Inhabited α] {f g : α → V} (l : List α) {k : Nat} (h : k < l.length) : ((l.take k).map f ++ (l.drop k).map g).getD k .junk = g l[k]! := by
  have h1 : ((l.take k).map f).length = k := by simp; omega
  rw [List.getD_eq_getElem?_getD, List.getElem?_append_right (Nat.le_of_eq h1), h1, Nat.sub_self, List.drop_eq_getElem_cons h, List.map_cons, List.getElem?_cons_zero, getElem!_pos l k h]
  rfl
theorem cp_at' {α : Type} [Inhabited α] {f g : α → V} (l : List α) {k : Nat} (h : k < l.length) : ((l.take k).map f ++ (l.drop k).map g)[k]? = some (g l[k]!) := by
  have h1 : ((l.take k).map f).length = k := by simp; omega
  rw [List.getElem?_append_right (Nat.le_of_eq h1), h1, Nat.sub_self, List.drop_eq_getElem_cons h, List.map_cons, List.getElem?_cons_zero, getElem!_pos l k h]
theorem cp_0 {α : Type} {f g : α → V} (l : List α) : (l.take 0).map f ++ (l.drop 0).map g = l.map g := by simp
theorem cp_n {α : Type} {f g : α → V} (l : List α) : (l.take l.length).map f ++ (l.drop l.length).map g = l.map f := by simp
theorem cpR_len (s : State) {k : Nat} (h : k ≤ s.regions.length) : (cpR s k).length = s.regions.length := cp_len _ h
theorem cpT_len (s : State) {k : Nat} (h : k ≤ s.threads.length) : (cpT s k).length = s.threads.length := cp_len _ h
theorem cpR_at (s : State) {k : Nat} (h : k < s.regions.length) : (cpR s k).getD k .junk = slV' false 4 canonV s.regions[k]! := cp_at _ h
theorem cpT_at (s : State) {k : Nat} (h : k < s.threads.length) : (cpT s k).getD k .junk = viewV false s.threads[k]! := cp_at _ h
theorem cpR_set (s : State) {k : Nat} (h : k < s.regions.length) : (cpR s k).set k (slV' true 4 canonV s.regions[k]!) = cpR s (k + 1) := cp_set _ h
theorem cpT_set (s : State) {k : Nat} (h : k < s.threads.length) : (cpT s k).set k (viewV true s.threads[k]!) = cpT s (k + 1) := cp_set _ h
theorem cpR_0 (s : State) : cpR s 0 = s.regions.map (slV' false 4 canonV) := cp_0 _
theorem cpT_0 (s : State) : cpT s 0 = s.threads.map (viewV false) := cp_0 _
theorem cpR_n (s : State) : cpR s s.regions.length = s.regions.map (slV' true 4 canonV) := cp_n _
theorem cpT_n (s : State) : cpT s s.threads.length = s.threads.map (viewV true) := cp_n _
theorem pures_app : ∀ {l m : List V}, V.pures l = true → V.pures m = true → V.pures (l ++ m) = true
  | [], _, _, h => h
  | x :: l, m, h, k => by
    simp only [List.cons_append, V.pures, Bool.and_eq_true] at h ⊢
    exact ⟨h.1, pures_app h.2 k⟩
theorem cpR_pures (s : State) (k : Nat) : V.pures (cpR s k) = true := pures_app (pures_lo _ _) (pures_lo _ _)
theorem cpR_scps (s : State) (n k : Nat) : V.scps n (cpR s k) = true := V.scps_pure _ _ (cpR_pures s k)
theorem cpJ_scps (s : State) (n k j r g : Nat) (h : r < n) : V.scps n ((cpR s k).set j (.own r g)) = true := scps_set j (cpR_scps s n k) (by simp only [V.scp, decide_eq_true_eq]; exact h)
attribute [local irreducible] cpR cpT
attribute [local go_sem] cpR_scps cpJ_scps
set_option maxHeartbeats 16000000 in
theorem cstT_fn (s : State) (L : LowS s) (hr : s.regions.length ≤ 1000) (ht : s.threads.length ≤ 1000) : Fnc Try.prog 75 [staV s] (fun x obs => x = .agg [.own 0 0, .own 1 0] ∧ obs = [⟨.row 40, true, 0, .arr 1 (s.regions.map (slV' true 4 canonV))⟩, ⟨.row 43, true, 0, .arr 8 (s.threads.map (viewV true))⟩]) := by
  have hz1 := cpR_0 s
  have hz2 := cpT_0 s
  refine Fnc.intro m_csta_ok (by simp) fun W S => ?_
  simp only [ents, Nat.zero_add, Nat.reduceAdd, Qm, Qc, Ql, QL, Qf, Qs, Qb, Qk, QB, Qn, Qe, Qx, Qt, Qu, Q0, Q1, Qp, Qw, Qq, Qr, Qi]
  refine zso ?_
  refine ev_draw (fu := fu8) mixed [2, 5] 2 rfl (by kernel_rfl) ?_; simp only [go_sem]
  repeat (first | refine And.intro (by omega) ?_ | refine And.intro rfl ?_ | refine ev_ctl rfl rfl ?_ | refine evr_nil ?_ | refine evw_nil (by kernel_rfl) ?_ | (simp (disch := omega) only [takeAll, Nat.min_eq_left, Nat.min_eq_right, if_pos, if_neg, getD_map, wrapI64, modIn, fdivE, tmodE, tdivE, decT, decF, beqT, beqF, bneT, bneF, Int.toNat_natCast]; try simp only [go_sem]) | (refine ev_condTb rfl ?_ ?_; · (simp <;> omega)) | (refine ev_condFb rfl ?_ ?_; · (simp <;> omega)) | ((first | refine ev_region ?_ | refine evr_go rfl ?_ | refine evw_gom [2, 5] rfl ?_ | refine ev_dr0 mixed rfl (by kernel_rfl) ?_ | refine ev_dr1 mixed rfl (by kernel_rfl) ?_ | refine ev_dr2 mixed rfl (by kernel_rfl) ?_); simp only [go_sem]))
  refine zcx (clrg_own s.regions (by omega)) ?_
  refine zcx (clvw_own s.threads (by omega)) ?_
  refine ev_loopK [1, 2, 16, 17] (fun p : {p : Nat // p ≤ s.regions.length} => [(18, .int .i64 p.1)]) (fun p => [⟨.box false 30, true, 0, .agg [.own 2 1, .own 3 1]⟩, ⟨.box false 30, true, 0, .agg [.nilS, .nilS]⟩, ⟨.row 40, true, 1, .arr 1 (cpR s p.1)⟩, ⟨.row 43, true, 1, .arr 8 (s.threads.map (viewV false))⟩]) (fun p => s.regions.length - p.1) (⟨0, by simp⟩) 4 (by simp only [go_sem]; rfl) ?_ (by first | rfl | (simp only [go_sem]; done) | (simp only [go_sem]; simp [hz1]; done)) (by simp) (by first | rfl | (simp only [go_sem]; done)) (by first | rfl | (simp only [go_sem]; done)) (by first | rfl | (simp only [go_sem]; done) | (simp only [hz1]; (try simp only [go_sem]); first | done | rfl)) ?_
  · (simp only [go_sem]; (try simp [hz1]); done)
  intro J hJ
  rintro ⟨k, hk0⟩
  by_cases hlt : k < s.regions.length
  · have hb := L.c _ (mem_at hlt)
    have hl := cpR_len s hk0
    have ha := cpR_at s hlt
    have hs : (cpR s k).set k (V.sl true 4 (List.map canonV s.regions[k]!)) = cpR s (k + 1) := cpR_set s hlt
    repeat (first | (simp only [hl, ha]; try simp only [go_sem]) | refine And.intro (by omega) ?_ | refine And.intro rfl ?_ | refine ev_ctl rfl rfl ?_ | refine evr_nil ?_ | refine evw_nil (by kernel_rfl) ?_ | (simp (disch := omega) only [takeAll, Nat.min_eq_left, Nat.min_eq_right, if_pos, if_neg, getD_map, wrapI64, modIn, fdivE, tmodE, tdivE, decT, decF, beqT, beqF, bneT, bneF, Int.toNat_natCast]; try simp only [go_sem]) | (refine ev_condTb rfl ?_ ?_; · (simp <;> omega)) | (refine ev_condFb rfl ?_ ?_; · (simp <;> omega)) | ((first | refine ev_region ?_ | refine evr_go rfl ?_ | refine evw_go rfl ?_); simp only [go_sem]))
    refine zst ?_
    (first | refine callD (ccl_fn s.regions[k]! hb) ?_ | refine callDw (ccl_fn s.regions[k]! hb) ?_); refine zev ?_
    refine zsx (And.intro hl (ha)) ?_
    exact zn4 (hJ _ (⟨k + 1, hlt⟩) (by first | omega | (dsimp only; omega) | (simp; omega))) hs
  · obtain rfl : k = s.regions.length := by omega
    have hn := cpR_n s
    dsimp only
    rw [hn]
    refine zst ?_
    refine ev_loopK [1, 2, 31, 32] (fun p : {p : Nat // p ≤ s.threads.length} => [(33, .int .i64 p.1)]) (fun p => [⟨.box false 30, true, 0, .agg [.own 2 1, .own 3 1]⟩, ⟨.box false 30, true, 0, .agg [.nilS, .nilS]⟩, ⟨.row 40, true, 1, .arr 1 (s.regions.map (slV' true 4 canonV))⟩, ⟨.row 43, true, 1, .arr 8 (cpT s p.1)⟩]) (fun p => s.threads.length - p.1) (⟨0, by simp⟩) 4 (by simp only [go_sem]; rfl) ?_ (by first | rfl | (simp only [go_sem]; done) | (simp only [go_sem]; simp [hz2]; done)) (by simp) (by first | rfl | (simp only [go_sem]; done)) (by first | rfl | (simp only [go_sem]; done)) (by first | rfl | (simp only [go_sem]; done) | (simp only [hz2]; (try simp only [go_sem]); first | done | rfl)) ?_
    · (simp only [go_sem]; (try simp [hz2]); done)
    intro J hJ
    rintro ⟨k, hk0⟩
    by_cases hlt : k < s.threads.length
    · have hb := L.g _ (mem_at hlt)
      have hl := cpT_len s hk0
      have ha := cpT_at s hlt
      have hs := cpT_set s hlt
      repeat (first | (simp only [hl, ha]; try simp only [go_sem]) | refine And.intro (by omega) ?_ | refine And.intro rfl ?_ | refine ev_ctl rfl rfl ?_ | refine evr_nil ?_ | refine evw_nil (by kernel_rfl) ?_ | (simp (disch := omega) only [takeAll, Nat.min_eq_left, Nat.min_eq_right, if_pos, if_neg, getD_map, wrapI64, modIn, fdivE, tmodE, tdivE, decT, decF, beqT, beqF, bneT, bneF, Int.toNat_natCast]; try simp only [go_sem]) | (refine ev_condTb rfl ?_ ?_; · (simp <;> omega)) | (refine ev_condFb rfl ?_ ?_; · (simp <;> omega)) | ((first | refine ev_region ?_ | refine evr_go rfl ?_ | refine evw_go rfl ?_); simp only [go_sem]))
      refine zst ?_
      (first | refine callD (vcop_fn s.threads[k]! hb) ?_ | refine callDw (vcop_fn s.threads[k]! hb) ?_); refine zev ?_
      refine zsx (And.intro hl (ha)) ?_
      exact zn4 (hJ _ (⟨k + 1, hlt⟩) (by first | omega | (dsimp only; omega) | (simp; omega))) hs
    · obtain rfl : k = s.threads.length := by omega
      have hn := cpT_n s
      dsimp only
      rw [hn]
      refine zst ?_
      refine retN m_csta_ok [2, 3] ?_; simp only [go_sem]
/-- The objects of a copy, one region of which may be written. -/
def cJ (s : State) (j k : Nat) : List Ob := if j < k then [⟨.box false 30, true, 0, .agg [.own 2 1, .own 3 1]⟩, ⟨.box false 30, true, 0, .agg [.nilS, .nilS]⟩, ⟨.rows false 40, true, 1, .arr 1 ((cpR s k).set j (.own 4 1))⟩, ⟨.row 43, true, 1, .arr 8 (s.threads.map (viewV false))⟩, ⟨.row 84, true, 1, .arr 4 (s.regions[j]!.map canonV)⟩] else [⟨.box false 30, true, 0, .agg [.own 2 1, .own 3 1]⟩, ⟨.box false 30, true, 0, .agg [.nilS, .nilS]⟩, ⟨.rows false 40, true, 1, .arr 1 (cpR s k)⟩, ⟨.row 43, true, 1, .arr 8 (s.threads.map (viewV false))⟩]
theorem cJ_lt {s : State} {j k : Nat} (h : j < k) : cJ s j k = [⟨.box false 30, true, 0, .agg [.own 2 1, .own 3 1]⟩, ⟨.box false 30, true, 0, .agg [.nilS, .nilS]⟩, ⟨.rows false 40, true, 1, .arr 1 ((cpR s k).set j (.own 4 1))⟩, ⟨.row 43, true, 1, .arr 8 (s.threads.map (viewV false))⟩, ⟨.row 84, true, 1, .arr 4 (s.regions[j]!.map canonV)⟩] := if_pos h
theorem cJ_ge {s : State} {j k : Nat} (h : ¬ j < k) : cJ s j k = [⟨.box false 30, true, 0, .agg [.own 2 1, .own 3 1]⟩, ⟨.box false 30, true, 0, .agg [.nilS, .nilS]⟩, ⟨.rows false 40, true, 1, .arr 1 (cpR s k)⟩, ⟨.row 43, true, 1, .arr 8 (s.threads.map (viewV false))⟩] := if_neg h
theorem cpJ_len (s : State) {k j : Nat} {x : V} (h : k ≤ s.regions.length) : ((cpR s k).set j x).length = s.regions.length := by rw [List.length_set]; exact cpR_len s h
theorem cpJ_at (s : State) {k j : Nat} {x : V} (h : k < s.regions.length) (hj : j < k) : ((cpR s k).set j x).getD k .junk = slV' false 4 canonV s.regions[k]! := by
  rw [List.getD_eq_getElem?_getD, List.getElem?_set_ne (by omega), ← List.getD_eq_getElem?_getD]; exact cpR_at s h
theorem cpJ_set (s : State) {k j : Nat} {x : V} (h : k < s.regions.length) (hj : j < k) : ((cpR s k).set j x).set k (V.sl true 4 (List.map canonV s.regions[k]!)) = (cpR s (k + 1)).set j x := by
  rw [List.set_comm _ _ (by omega)]
  exact congrArg (·.set j x) (cpR_set s h)
theorem cpJ_eq (s : State) {j : Nat} {x : V} (h : j < s.regions.length) : (cpR s j).set j x = (cpR s (j + 1)).set j x := by
  rw [← cpR_set s h, List.set_set]
set_option maxHeartbeats 16000000 in
theorem cstJ_fn (s : State) (L : LowS s) (j : Nat) (hj : j < s.regions.length) (hr : s.regions.length ≤ 1000) (ht : s.threads.length ≤ 1000) : Fnc Try.prog 75 [staV s] (fun x obs => x = .agg [.own 0 0, .own 1 0] ∧ obs = [⟨.rows false 40, true, 0, .arr 1 ((s.regions.map (slV' true 4 canonV)).set j (.own 2 0))⟩, ⟨.row 43, true, 0, .arr 8 (s.threads.map (viewV true))⟩, ⟨.row 84, true, 0, .arr 4 (s.regions[j]!.map canonV)⟩]) := by
  have hz1 := cpR_0 s
  have hz2 := cpT_0 s
  have hz3 : cJ s j 0 = _ := cJ_ge (Nat.not_lt_zero j)
  refine Fnc.intro m_csta_ok (by simp) fun W S => ?_
  simp only [ents, Nat.zero_add, Nat.reduceAdd, Qm, Qc, Ql, QL, Qf, Qs, Qb, Qk, QB, Qn, Qe, Qx, Qt, Qu, Q0, Q1, Qp, Qw, Qq, Qr, Qi]
  refine zso ?_
  refine ev_draw (fu := fu8) mixed [2, 5] 2 rfl (by kernel_rfl) ?_; simp only [go_sem]
  repeat (first | refine And.intro (by omega) ?_ | refine And.intro rfl ?_ | refine ev_ctl rfl rfl ?_ | refine evr_nil ?_ | refine evw_nil (by kernel_rfl) ?_ | (simp (disch := omega) only [takeAll, Nat.min_eq_left, Nat.min_eq_right, if_pos, if_neg, getD_map, wrapI64, modIn, fdivE, tmodE, tdivE, decT, decF, beqT, beqF, bneT, bneF, Int.toNat_natCast]; try simp only [go_sem]) | (refine ev_condTb rfl ?_ ?_; · (simp <;> omega)) | (refine ev_condFb rfl ?_ ?_; · (simp <;> omega)) | ((first | refine ev_region ?_ | refine evr_go rfl ?_ | refine evw_gom [2, 5] rfl ?_ | refine ev_dr0 mixed rfl (by kernel_rfl) ?_ | refine ev_dr1 mixed rfl (by kernel_rfl) ?_ | refine ev_dr2 mixed rfl (by kernel_rfl) ?_); simp only [go_sem]))
  refine zcx (clrg_own s.regions (by omega)) ?_
  refine zcx (clvw_own s.threads (by omega)) ?_
  refine ev_toRows 2 rfl ?_
  refine ev_loopK [1, 2, 16, 17] (fun p : {p : Nat // p ≤ s.regions.length} => [(18, .int .i64 p.1)]) (fun p => cJ s j p.1) (fun p => s.regions.length - p.1) (⟨0, by simp⟩) 4 (by simp only [go_sem]; rfl) ?_ (by first | rfl | (simp only [go_sem]; done) | (simp only [go_sem]; simp [hz3, hz1]; done)) (by simp) (by first | rfl | (simp only [go_sem]; done)) (by first | rfl | (simp only [go_sem]; done)) (by first | rfl | (simp only [go_sem]; done) | (simp only [hz3, hz1]; (try simp only [go_sem]); first | done | rfl)) ?_
  · (simp only [go_sem]; (try simp [hz3, hz1]); done)
  intro J hJ
  rintro ⟨k, hk0⟩
  dsimp only
  by_cases hlt : k < s.regions.length
  · have hb := L.c _ (mem_at hlt)
    rcases Nat.lt_trichotomy k j with c | c | c
    · rw [cJ_ge (by omega)]
      have hl := cpR_len s hk0
      have ha := cpR_at s hlt
      have hs : (cpR s k).set k (V.sl true 4 (List.map canonV s.regions[k]!)) = cpR s (k + 1) := cpR_set s hlt
      have hc : cJ s j (k + 1) = _ := cJ_ge (by omega)
      repeat (first | (simp only [hl, ha]; try simp only [go_sem]) | refine And.intro (by omega) ?_ | refine And.intro rfl ?_ | refine ev_ctl rfl rfl ?_ | refine evr_nil ?_ | refine evw_nil (by kernel_rfl) ?_ | (simp (disch := omega) only [takeAll, Nat.min_eq_left, Nat.min_eq_right, if_pos, if_neg, getD_map, wrapI64, modIn, fdivE, tmodE, tdivE, decT, decF, beqT, beqF, bneT, bneF, Int.toNat_natCast]; try simp only [go_sem]) | (refine ev_condTb rfl ?_ ?_; · (simp <;> omega)) | (refine ev_condFb rfl ?_ ?_; · (simp <;> omega)) | ((first | refine ev_region ?_ | refine evr_go rfl ?_ | refine evw_go rfl ?_); simp only [go_sem]))
      refine zst ?_
      (first | refine callD (ccl_fn s.regions[k]! hb) ?_ | refine callDw (ccl_fn s.regions[k]! hb) ?_); refine zev ?_
      refine zsx (And.intro hl (ha)) ?_
      exact zn4 (hJ _ (⟨k + 1, hlt⟩) (by first | omega | (dsimp only; omega) | (simp; omega))) (And.intro hs (hc))
    · subst c
      rw [cJ_ge (by omega)]
      have hl := cpR_len s hk0
      have ha := cpR_at s hlt
      have hs := cpJ_eq s (x := .own 4 1) hlt
      have hc : cJ s k (k + 1) = _ := cJ_lt (by omega)
      repeat (first | (simp only [hl, ha]; try simp only [go_sem]) | refine And.intro (by omega) ?_ | refine And.intro rfl ?_ | refine ev_ctl rfl rfl ?_ | refine evr_nil ?_ | refine evw_nil (by kernel_rfl) ?_ | (simp (disch := omega) only [takeAll, Nat.min_eq_left, Nat.min_eq_right, if_pos, if_neg, getD_map, wrapI64, modIn, fdivE, tmodE, tdivE, decT, decF, beqT, beqF, bneT, bneF, Int.toNat_natCast]; try simp only [go_sem]) | (refine ev_condTb rfl ?_ ?_; · (simp <;> omega)) | (refine ev_condFb rfl ?_ ?_; · (simp <;> omega)) | ((first | refine ev_region ?_ | refine evr_go rfl ?_ | refine evw_go rfl ?_); simp only [go_sem]))
      refine ev_draw (fu := fu8) mixed [4] 1 rfl (by kernel_rfl) ?_; simp only [go_sem]
      repeat (first | refine And.intro (by omega) ?_ | refine And.intro rfl ?_ | refine ev_ctl rfl rfl ?_ | refine evr_nil ?_ | refine evw_nil (by kernel_rfl) ?_ | (simp (disch := omega) only [takeAll, Nat.min_eq_left, Nat.min_eq_right, if_pos, if_neg, getD_map, wrapI64, modIn, fdivE, tmodE, tdivE, decT, decF, beqT, beqF, bneT, bneF, Int.toNat_natCast]; try simp only [go_sem]) | (refine ev_condTb rfl ?_ ?_; · (simp <;> omega)) | (refine ev_condFb rfl ?_ ?_; · (simp <;> omega)) | ((first | refine ev_region ?_ | refine evr_go rfl ?_ | refine evw_gom [4] rfl ?_ | refine ev_dr0 mixed rfl (by kernel_rfl) ?_ | refine ev_dr1 mixed rfl (by kernel_rfl) ?_ | refine ev_dr2 mixed rfl (by kernel_rfl) ?_); simp only [go_sem]))
      (first | refine callX (ccl_own s.regions[k]! hb) ?_ | refine callXw (ccl_own s.regions[k]! hb) ?_); refine zev ?_
      refine zsx (And.intro hl (ha)) ?_
      exact zn5 (hJ _ (⟨k + 1, hlt⟩) (by first | omega | (dsimp only; omega) | (simp; omega))) (And.intro hs (hc))
    · rw [cJ_lt c]
      have hl := cpJ_len s (j := j) (x := .own 4 1) hk0
      have ha := cpJ_at s (x := .own 4 1) hlt c
      have hs := cpJ_set s (x := .own 4 1) hlt c
      have hc : cJ s j (k + 1) = _ := cJ_lt (by omega)
      repeat (first | (simp only [hl, ha]; try simp only [go_sem]) | refine And.intro (by omega) ?_ | refine And.intro rfl ?_ | refine ev_ctl rfl rfl ?_ | refine evr_nil ?_ | refine evw_nil (by kernel_rfl) ?_ | (simp (disch := omega) only [takeAll, Nat.min_eq_left, Nat.min_eq_right, if_pos, if_neg, getD_map, wrapI64, modIn, fdivE, tmodE, tdivE, decT, decF, beqT, beqF, bneT, bneF, Int.toNat_natCast]; try simp only [go_sem]) | (refine ev_condTb rfl ?_ ?_; · (simp <;> omega)) | (refine ev_condFb rfl ?_ ?_; · (simp <;> omega)) | ((first | refine ev_region ?_ | refine evr_go rfl ?_ | refine evw_go rfl ?_); simp only [go_sem]))
      refine zst ?_
      (first | refine callD (ccl_fn s.regions[k]! hb) ?_ | refine callDw (ccl_fn s.regions[k]! hb) ?_); refine zev ?_
      refine zsx (And.intro hl (ha)) ?_
      exact zn5 (hJ _ (⟨k + 1, hlt⟩) (by first | omega | (dsimp only; omega) | (simp; omega))) (And.intro hs (hc))
  · obtain rfl : k = s.regions.length := by omega
    rw [cJ_lt hj]
    have hn := cpR_n s
    rw [hn]
    refine zst ?_
    refine ev_loopK [1, 2, 31, 32] (fun p : {p : Nat // p ≤ s.threads.length} => [(33, .int .i64 p.1)]) (fun p => [⟨.box false 30, true, 0, .agg [.own 2 1, .own 3 1]⟩, ⟨.box false 30, true, 0, .agg [.nilS, .nilS]⟩, ⟨.rows false 40, true, 1, .arr 1 ((s.regions.map (slV' true 4 canonV)).set j (.own 4 1))⟩, ⟨.row 43, true, 1, .arr 8 (cpT s p.1)⟩, ⟨.row 84, true, 1, .arr 4 (s.regions[j]!.map canonV)⟩]) (fun p => s.threads.length - p.1) (⟨0, by simp⟩) 5 (by simp only [go_sem]; rfl) ?_ (by first | rfl | (simp only [go_sem]; done) | (simp only [go_sem]; simp [hz2]; done)) (by simp) (by first | rfl | (simp only [go_sem]; done)) (by first | rfl | (simp only [go_sem]; done)) (by first | rfl | (simp only [go_sem]; done) | (simp only [hz2]; (try simp only [go_sem]); first | done | rfl)) ?_
    · (simp only [go_sem]; (try simp [hz2]); done)
    intro J hJ
    rintro ⟨k, hk0⟩
    by_cases hlt : k < s.threads.length
    · have hb := L.g _ (mem_at hlt)
      have hl := cpT_len s hk0
      have ha := cpT_at s hlt
      have hs := cpT_set s hlt
      repeat (first | (simp only [hl, ha]; try simp only [go_sem]) | refine And.intro (by omega) ?_ | refine And.intro rfl ?_ | refine ev_ctl rfl rfl ?_ | refine evr_nil ?_ | refine evw_nil (by kernel_rfl) ?_ | (simp (disch := omega) only [takeAll, Nat.min_eq_left, Nat.min_eq_right, if_pos, if_neg, getD_map, wrapI64, modIn, fdivE, tmodE, tdivE, decT, decF, beqT, beqF, bneT, bneF, Int.toNat_natCast]; try simp only [go_sem]) | (refine ev_condTb rfl ?_ ?_; · (simp <;> omega)) | (refine ev_condFb rfl ?_ ?_; · (simp <;> omega)) | ((first | refine ev_region ?_ | refine evr_go rfl ?_ | refine evw_go rfl ?_); simp only [go_sem]))
      refine zst ?_
      (first | refine callD (vcop_fn s.threads[k]! hb) ?_ | refine callDw (vcop_fn s.threads[k]! hb) ?_); refine zev ?_
      refine zsx (And.intro hl (ha)) ?_
      exact zn5 (hJ _ (⟨k + 1, hlt⟩) (by first | omega | (dsimp only; omega) | (simp; omega))) hs
    · obtain rfl : k = s.threads.length := by omega
      have hn := cpT_n s
      dsimp only
      rw [hn]
      refine zst ?_
      refine retN m_csta_ok [2, 3, 4] ?_; simp only [go_sem]
      exact V.oksW_set (V.oksW_pure _ _ _ (pures_lo _ _)) _ (by simp only [go_sem])
end Go.Proofs.Ytcphobeommkgeaa
