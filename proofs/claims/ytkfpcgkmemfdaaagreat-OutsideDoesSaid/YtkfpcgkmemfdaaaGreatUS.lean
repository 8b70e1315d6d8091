/- UG1, UG2, UG3, UK5, UK7, in one text. -/
import Derived.Test.YtkfpcgkmemfdaaaGreatC4
import Derived.Test.YtkfpcgkmemfdaaaGreatC5
import Derived.Test.YtkfpcgkmemfdaaaGreatUK
/- Outputs of sockets: copies, sends. -/
namespace Go.Proofs.YtkfpcgkmemfdaaaGreat
open Go Go.RowKit Rdn Rdn.Dp
set_option linter.unusedVariables false
set_option linter.unusedSimpArgs false
theorem m_clcanon_ok : compF Tryz.prog 98 = some (8, Qr ([Qp 2 (.mov (.c (.nilS)))])
 (.seq (Qr ([Qm 3 0, Qp 4 (.bin 2 .eql (.t 3) (.c (.nilS)))])
 (.cond (.t 4) (Qr ([Qp 2 (.mov (.c (.nilS)))])
 (.ret)) (.skip)))
 (Qr ([Qw 5 (.buildS 43 4 (.agg [.int .u8 0, .int .u16 0, .int .i64 0, .int .i64 0]) 0 []), Qm 6 0, Qw 7 (.app 43 4 24 (.t 5) (.t 6)), Qm 2 7])
 (.ret))), [.mov (.t 2)]) := by kernel_rfl
theorem m_samecanon_ok : compF Tryz.prog 71 = some (26, Qr ([Qc 4 (.bool false)])
 (.seq (Qr ([Qm 6 0, Qn 7 6, Qm 8 1, Qn 9 8, Qb 10 .neq 7 9])
 (.cond (.t 10) (Qr ([Qc 4 (.bool false)])
 (.ret)) (.skip)))
 (.seq (Qr ([Qm 11 0, Qn 12 11, Qp 13 (.mov (Qi 0))])
 (.block 0 (.loop (Qr ([Qb 14 .lss 13 12])
 (.seq (.cond (.t 14) (.skip) (.exit 0))
 (.seq (.block 1 (Qr ([Qm 15 13, Qm 5 15])
 (.seq (.dreg [Qm 16 0, Qm 17 5, Qx 18 4 16 17, QL 19 4 18, Qm 20 1, Qm 21 5, Qx 22 4 20 21, QL 23 4 22, Qp 24 (.eqs true [(some .u8), (some .u16), (some .i64), (some .i64)] (.t 19) (.t 23))] [[], [], [0, 1], [0, 1, 2], [], [], [4, 5], [4, 5, 6], [0, 1, 2, 3, 4, 5, 6, 7]])
 (.cond (.t 24) (Qr ([Qc 4 (.bool false)])
 (.ret)) (.skip)))))
 (.reg [Qk 25 .add 13 1, Qm 13 25])))))))
 (Qr ([Qc 4 (.bool true)])
 (.ret)))), [.mov (.t 4)]) := by kernel_rfl
theorem m_socpy_ok : compF Tryz.prog 95 = some (22, Qr ([Qp 2 (.mov (.c (.nilS)))])
 (Qr ([Qp 3 (.mov (.c (.nilS)))])
 (.seq (Qr ([Qm 6 0, Qn 7 6, Qp 8 (.mov (Qi 0))])
 (.block 0 (.loop (Qr ([Qb 9 .lss 8 7])
 (.seq (.cond (.t 9) (.skip) (.exit 0))
 (.seq (.block 1 (Qr ([Qx 10 3 6 8, QL 11 3 10, Qw 5 (.alloc 45 (.agg [.int .i64 0, .int .i64 0, .nilS])), Qs 3 5 11])
 (Qr ([Qf 12 2 2 5, Ql 13 1 12, Qq 14 98 [(.t 13)], Qf 15 2 2 5, Qs 1 15 14])
 (.reg [Qm 16 3, QL 17 3 5, Qw 18 (.buildS 45 3 (.agg [.int .i64 0, .int .i64 0, .nilS]) 1 [(0, (.t 17))]), Qw 19 (.app 45 3 40 (.t 16) (.t 18)), Qm 3 19]))))
 (.reg [Qk 20 .add 8 1, Qm 8 20])))))))
 (Qr ([Qm 21 3, Qm 2 21])
 (.ret)))), [.mov (.t 2)]) := by kernel_rfl
theorem m_srcpy_ok : compF Tryz.prog 24 = some (22, Qr ([Qp 2 (.mov (.c (.nilS)))])
 (Qr ([Qp 3 (.mov (.c (.nilS)))])
 (.seq (Qr ([Qm 6 0, Qn 7 6, Qp 8 (.mov (Qi 0))])
 (.block 0 (.loop (Qr ([Qb 9 .lss 8 7])
 (.seq (.cond (.t 9) (.skip) (.exit 0))
 (.seq (.block 1 (Qr ([Qx 10 3 6 8, QL 11 3 10, Qw 5 (.alloc 45 (.agg [.int .i64 0, .int .i64 0, .nilS])), Qs 3 5 11])
 (Qr ([Qf 12 2 2 5, Ql 13 1 12, Qw 14 (.app 43 4 24 (.c (.nilS)) (.t 13)), Qf 15 2 2 5, Qs 1 15 14])
 (.reg [Qm 16 3, QL 17 3 5, Qw 18 (.buildS 45 3 (.agg [.int .i64 0, .int .i64 0, .nilS]) 1 [(0, (.t 17))]), Qw 19 (.app 45 3 40 (.t 16) (.t 18)), Qm 3 19]))))
 (.reg [Qk 20 .add 8 1, Qm 8 20])))))))
 (Qr ([Qm 21 3, Qm 2 21])
 (.ret)))), [.mov (.t 2)]) := by kernel_rfl
theorem m_wsend_ok : compF Tryz.prog 58 = some (40, Qr ([Qp 6 (.mov (.c (.nilS))), Qp 7 (.mov (Qi 0)), Qc 8 (.bool false)])
 (Qr ([Qm 10 0, Qq 11 95 [(.t 10)], Qm 9 11])
 (.seq (Qr ([Qm 12 1, Qk 13 .lss 12 0, Qm 14 13, Q0 15 14 (.mov (.t 1)), Q0 16 14 (.bin 0 .geq (.t 15) (Qi 2)), Qt 17 14 16, Qm 18 17, Q0 19 18 (.mov (.t 0)), Q0 20 18 (.len (.t 19)), Q0 21 18 (.bin 0 .geq (.t 20) (Qi 200)), Qt 22 18 21, Qm 23 22, Q0 24 23 (.mov (.t 2)), Q0 25 23 (.len (.t 24)), Q0 26 23 (.bin 0 .gtr (.t 25) (Qi 16)), Qt 27 23 26])
 (.cond (.t 27) (Qr ([Qm 28 9, Qm 6 28, Qp 7 (.mov (Qi 0)), Qc 8 (.bool false)])
 (.ret)) (.skip)))
 (Qr ([Qm 29 9, Qm 30 0, Qn 31 30, Qm 32 1, Qm 33 2, Qq 34 98 [(.t 33)], Qw 35 (.build none [.int .i64 0, .int .i64 0, .nilS] [(0, (.t 31)), (1, (.t 32)), (2, (.t 34))]), Qw 36 (.buildS 45 3 (.agg [.int .i64 0, .int .i64 0, .nilS]) 1 [(0, (.t 35))]), Qw 37 (.app 45 3 40 (.t 29) (.t 36)), Qm 38 2, Qn 39 38, Qm 6 37, Qm 7 39, Qc 8 (.bool true)])
 (.ret)))), [.mov (.t 6), .mov (.t 7), .mov (.t 8)]) := by kernel_rfl
theorem m_rsend_ok : compF Tryz.prog 69 = some (40, Qr ([Qp 6 (.mov (.c (.nilS))), Qp 7 (.mov (Qi 0)), Qc 8 (.bool false)])
 (Qr ([Qm 10 0, Qq 11 24 [(.t 10)], Qm 9 11])
 (.seq (Qr ([Qm 12 1, Qk 13 .lss 12 0, Qm 14 13, Q0 15 14 (.mov (.t 1)), Q0 16 14 (.bin 0 .geq (.t 15) (Qi 2)), Qt 17 14 16, Qm 18 17, Q0 19 18 (.mov (.t 0)), Q0 20 18 (.len (.t 19)), Q0 21 18 (.bin 0 .geq (.t 20) (Qi 200)), Qt 22 18 21, Qm 23 22, Q0 24 23 (.mov (.t 2)), Q0 25 23 (.len (.t 24)), Q0 26 23 (.bin 0 .gtr (.t 25) (Qi 16)), Qt 27 23 26])
 (.cond (.t 27) (Qr ([Qm 28 9, Qm 6 28, Qp 7 (.mov (Qi 0)), Qc 8 (.bool false)])
 (.ret)) (.skip)))
 (Qr ([Qm 29 9, Qm 30 0, Qn 31 30, Qm 32 1, Qm 33 2, Qw 34 (.app 43 4 24 (.c (.nilS)) (.t 33)), Qw 35 (.build none [.int .i64 0, .int .i64 0, .nilS] [(0, (.t 31)), (1, (.t 32)), (2, (.t 34))]), Qw 36 (.buildS 45 3 (.agg [.int .i64 0, .int .i64 0, .nilS]) 1 [(0, (.t 35))]), Qw 37 (.app 45 3 40 (.t 29) (.t 36)), Qm 38 2, Qn 39 38, Qm 6 37, Qm 7 39, Qc 8 (.bool true)])
 (.ret)))), [.mov (.t 6), .mov (.t 7), .mov (.t 8)]) := by kernel_rfl
set_option maxHeartbeats 4000000 in
theorem clcanon_fn (l : List Canon) (hb : l.length ≤ 1000000000) : Fnc Tryz.prog 98 [.sl false 4 (l.map canonV)] (fun x obs => x = .sl true 4 (l.map canonV) ∧ obs = []) := by
  refine Fnc.intro m_clcanon_ok (by simp) fun W S => ?_
  simp only [ents, Nat.zero_add, Nat.reduceAdd, Qm, Qc, Ql, QL, Qf, Qs, Qb, Qk, QB, Qn, Qe, Qx, Qt, Qu, Q0, Q1, Qp, Qw, Qq, Qr, Qi]
  refine zsu ?_
  refine zs1 ?_
  refine zsu ?_
  refine ev_reg ?_
  refine evr_p rfl trivial ?_
  refine evr_nilq rfl rfl fun b hb0 => ?_
  cases b with
  | false =>
    simp only [aopP, X.ev, slotV, AS.put, if_true]
    refine zst ?_
    exact zrt m_clcanon_ok
  | true =>
    have hl : l = [] := by
      cases l with
      | nil => rfl
      | cons a l => exact absurd (hb0 (by simp)) (by simp)
    subst hl
    simp only [aopP, X.ev, slotV, AS.put, if_true]
    refine zsu ?_
    refine zs1 ?_
    refine zsu ?_
    refine ev_nil2 2 true 4 rfl ?_
    exact zrt m_clcanon_ok
set_option maxHeartbeats 4000000 in
theorem clcanon_own (l : List Canon) (hb : l.length ≤ 1000000000) : Fnc Tryz.prog 98 [.sl false 4 (l.map canonV)] (fun x obs => x = .own 0 0 ∧ obs = [⟨.row 43, true, 0, .arr 4 (l.map canonV)⟩]) := by
  refine Fnc.intro m_clcanon_ok (by simp) fun W S => ?_
  simp only [ents, Nat.zero_add, Nat.reduceAdd, Qm, Qc, Ql, QL, Qf, Qs, Qb, Qk, QB, Qn, Qe, Qx, Qt, Qu, Q0, Q1, Qp, Qw, Qq, Qr, Qi]
  refine zsu ?_
  refine zs1 ?_
  refine zsu ?_
  refine ev_reg ?_
  refine evr_p rfl trivial ?_
  refine evr_nilq rfl rfl fun b hb0 => ?_
  cases b with
  | false =>
    simp only [aopP, X.ev, slotV, AS.put, if_true]
    refine zst ?_
    refine ret m_clcanon_ok [0] ?_; exact zfn
  | true =>
    have hl : l = [] := by
      cases l with
      | nil => rfl
      | cons a l => exact absurd (hb0 (by simp)) (by simp)
    subst hl
    simp only [aopP, X.ev, slotV, AS.put, if_true]
    refine zsu ?_
    refine zs1 ?_
    refine zsu ?_
    refine ev_adopt (i := 2) (e := 43) (s := 4) rfl (by decide) ?_
    refine ret m_clcanon_ok [0] ?_; exact zfn
set_option maxHeartbeats 4000000 in
theorem samecanon_fn (a b : List Canon) : Fnc Tryz.prog 71 [.sl false 4 (a.map canonV), .sl false 4 (b.map canonV)] (fun x obs => x = .bool (decide (a = b)) ∧ obs = []) := by
  refine Fnc.wf fun hw => ?_
  simp only [V.wfs, V.wf, wfs_map, List.length_map] at hw
  have hm := hw.1.2
  have hm' := hw.2.1.2
  by_cases hl : a.length = b.length
  · skip
    refine zgo m_samecanon_ok fun W S => ?_
    refine ev_loopK [0, 1, 12] (fun p : {p : Nat // p ≤ a.length ∧ a.take p = b.take p} => [(13, .int .i64 p.1)]) (fun _ => []) (fun p => a.length - p.1) (⟨0, by simp⟩) 0 (by simp only [go_sem]; rfl) ?_ (by first | rfl | (simp only [go_sem]; done)) (by simp) (by first | rfl | (simp only [go_sem]; done)) (by first | rfl | (simp only [go_sem]; done)) (by first | rfl | (simp only [go_sem]; done)) ?_
    · (simp only [go_sem]; (try simp []); done)
    intro J hJ
    rintro ⟨k, hk0, hk1⟩
    by_cases hlt : k < a.length
    · by_cases e : a[k]! = b[k]!
      · skip
        refine zst ?_
        exact zn0 (hJ _ (⟨k + 1, hlt, by rw [take_snoc hlt, take_snoc (by omega), hk1, e]⟩) (by first | omega | (dsimp only; omega) | (simp; omega))) hlt
      · have hne : a ≠ b := fun h => e (at_of_eq h k)
        refine zst ?_
        refine ret m_samecanon_ok [] ?_; (first | (simp only [go_sem]; done) | (simp only [go_sem]; exact ⟨rfl, rfl⟩))
    · have hab := eq_of_take (by omega) (by omega) hk1
      refine zst ?_
      refine ret m_samecanon_ok [] ?_; (first | (simp only [go_sem]; done) | (simp only [go_sem]; exact ⟨rfl, rfl⟩))
  · have hne : a ≠ b := fun h => hl (by rw [h])
    refine zgo m_samecanon_ok fun W S => ?_
    refine ret m_samecanon_ok [] ?_; (first | (simp only [go_sem]; done) | (simp only [go_sem]; exact ⟨rfl, rfl⟩))
theorem getD_out (t : Bool) (l : List Output) (k : Nat) (h : k < l.length) : (l.map (outputV t)).getD k .junk = outputV t (l[k]!) := getD_map _ _ _ h
/-- Outputs whose data are short. -/
def shortO (m : Nat) (l : List Output) : Prop := ∀ o ∈ l, o.data.length ≤ m
set_option maxHeartbeats 4000000 in
theorem socpy_fn (l : List Output) (hb : l.length ≤ 1000000000) (hd : shortO 1000000000 l) : Fnc Tryz.prog 95 [.sl false 3 (l.map (outputV false))] (fun x obs => x = .own 0 0 ∧ obs = [⟨.row 45, true, 0, .arr 3 (l.map (outputV true))⟩]) := by
  refine zgo m_socpy_ok fun W S => ?_
  refine ev_adopt (i := 3) (e := 45) (s := 3) rfl (by decide) ?_
  refine ev_loopK [6, 7] (fun p : {p : Nat // p ≤ l.length} => [(3, .own 0 p.1), (8, .int .i64 p.1)]) (fun p => [⟨.row 45, true, p.1, .arr 3 ((l.take p.1).map (outputV true))⟩]) (fun p => l.length - p.1) (⟨0, by simp⟩) 1 (by simp only [go_sem]; rfl) ?_ (by first | rfl | (simp only [go_sem]; done)) (by simp) (by first | rfl | (simp only [go_sem]; done)) (by first | rfl | (simp only [go_sem]; done)) (by first | rfl | (simp only [go_sem]; done)) ?_
  · (simp only [go_sem]; (try simp []); done)
  intro J hJ
  rintro ⟨k, hk0⟩
  by_cases hlt : k < l.length
  · have hdk : l[k]!.data.length ≤ 1000000000 := hd _ (mem_at hlt)
    have htl : (l.take k).length = k := by simp; omega
    refine zst ?_
    refine zcd (clcanon_fn l[k]!.data hdk) ?_
    refine ev_next 1 (hJ _ (⟨k + 1, hlt⟩) (by first | omega | (dsimp only; omega) | (simp; omega))) rfl (by simp) ?_ (by first | rfl | (simp only [go_sem]; done)) (by first | rfl | (simp only [go_sem]; done) | (simp only [take_snoc hlt]; (try simp only [go_sem]); first | done | rfl)) ?_
    · (first | rfl | (simp only [go_sem]; done) | (simp only [go_sem]; simp only [take_snoc hlt]; done) | (simp only [take_snoc hlt]; done) | (simp only [go_sem]; simp [take_snoc hlt]; done) | (simp [take_snoc hlt]; done))
    · (simp only [go_sem]; (repeat' (refine And.intro ?_ ?_)) <;> first | exact trivial | with_reducible rfl | (simp only [take_snoc hlt]; done) | (simp only [take_snoc hlt]; with_reducible rfl) | (simp [take_snoc hlt]; done) | (simp [take_snoc hlt]; omega) | (simp only [take_snoc hlt]; rfl) | skip)
  · obtain rfl : k = l.length := by omega
    refine zst ?_
    refine ret m_socpy_ok [0] ?_; (first | (simp only [go_sem]; done) | (simp only [go_sem]; ((try dsimp only); (repeat' (refine And.intro ?_ ?_)) <;> first | with_reducible rfl | (simp only [go_sem]; done) | (simp only [go_sem]; rfl) | (simp only [go_sem, List.take_length]; done) | (simp only [List.take_length]; (try simp only [go_sem]); first | done | rfl) | (simp only [go_sem]; simp [List.take_length]; done) | (simp [List.take_length]; done) | rfl)))
set_option maxHeartbeats 4000000 in
theorem srcpy_fn (l : List Output) (hb : l.length ≤ 1000000000) (hd : shortO 1000000000 l) : Fnc Tryz.prog 24 [.sl false 3 (l.map (outputV false))] (fun x obs => x = .own 0 0 ∧ obs = [⟨.row 45, true, 0, .arr 3 (l.map (outputV true))⟩]) := by
  refine zgo m_srcpy_ok fun W S => ?_
  refine ev_adopt (i := 3) (e := 45) (s := 3) rfl (by decide) ?_
  refine ev_loopK [6, 7] (fun p : {p : Nat // p ≤ l.length} => [(3, .own 0 p.1), (8, .int .i64 p.1)]) (fun p => [⟨.row 45, true, p.1, .arr 3 ((l.take p.1).map (outputV true))⟩]) (fun p => l.length - p.1) (⟨0, by simp⟩) 1 (by simp only [go_sem]; rfl) ?_ (by first | rfl | (simp only [go_sem]; done)) (by simp) (by first | rfl | (simp only [go_sem]; done)) (by first | rfl | (simp only [go_sem]; done)) (by first | rfl | (simp only [go_sem]; done)) ?_
  · (simp only [go_sem]; (try simp []); done)
  intro J hJ
  rintro ⟨k, hk0⟩
  by_cases hlt : k < l.length
  · have hdk : l[k]!.data.length ≤ 1000000000 := hd _ (mem_at hlt)
    have htl : (l.take k).length = k := by simp; omega
    refine zst ?_
    refine ev_next 1 (hJ _ (⟨k + 1, hlt⟩) (by first | omega | (dsimp only; omega) | (simp; omega))) rfl (by simp) ?_ (by first | rfl | (simp only [go_sem]; done)) (by first | rfl | (simp only [go_sem]; done) | (simp only [take_snoc hlt]; (try simp only [go_sem]); first | done | rfl)) ?_
    · (first | rfl | (simp only [go_sem]; done) | (simp only [go_sem]; simp only [take_snoc hlt]; done) | (simp only [take_snoc hlt]; done) | (simp only [go_sem]; simp [take_snoc hlt]; done) | (simp [take_snoc hlt]; done))
    · (simp only [go_sem]; (repeat' (refine And.intro ?_ ?_)) <;> first | exact trivial | with_reducible rfl | (simp only [take_snoc hlt]; done) | (simp only [take_snoc hlt]; with_reducible rfl) | (simp [take_snoc hlt]; done) | (simp [take_snoc hlt]; omega) | (simp only [take_snoc hlt]; rfl) | skip)
  · obtain rfl : k = l.length := by omega
    refine zst ?_
    refine ret m_srcpy_ok [0] ?_; (first | (simp only [go_sem]; done) | (simp only [go_sem]; ((try dsimp only); (repeat' (refine And.intro ?_ ?_)) <;> first | with_reducible rfl | (simp only [go_sem]; done) | (simp only [go_sem]; rfl) | (simp only [go_sem, List.take_length]; done) | (simp only [List.take_length]; (try simp only [go_sem]); first | done | rfl) | (simp only [go_sem]; simp [List.take_length]; done) | (simp [List.take_length]; done) | rfl)))
/-- A send: the outputs, how many cells, whether it was done. -/
def sSend (l : List Output) (s : Int) (d : List Canon) : List Output × Int × Bool :=
  if s < 0 ∨ s ≥ 2 ∨ l.length ≥ 200 ∨ d.length > 16 then (l, 0, false) else (l ++ [⟨l.length, s, d⟩], d.length, true)
set_option maxHeartbeats 4000000 in
theorem wsend_fn (l : List Output) (s : Int) (d : List Canon) (hb : l.length ≤ 1000000000) (hd : shortO 1000000000 l) (hdd : d.length ≤ 1000000000) : Fnc Tryz.prog 58 [.sl false 3 (l.map (outputV false)), .int .i64 s, .sl false 4 (d.map canonV)] (fun x obs => x = .tup [.sl false 3 ((sSend l s d).1.map (outputV false)), .int .i64 (sSend l s d).2.1, .bool (sSend l s d).2.2] ∧ obs = []) := by
  refine Fnc.low ?_
  by_cases c1 : s < 0
  · have e : sSend l s d = (l, 0, false) := by rw [sSend, if_pos (.inl c1)]
    rw [e]
    refine zgo m_wsend_ok fun W S => ?_
    refine zcx (socpy_fn l hb hd) ?_
    exact zrt m_wsend_ok
  by_cases c2 : s ≥ 2
  · have e : sSend l s d = (l, 0, false) := by rw [sSend, if_pos (.inr (.inl c2))]
    rw [e]
    refine zgo m_wsend_ok fun W S => ?_
    refine zcx (socpy_fn l hb hd) ?_
    exact zrt m_wsend_ok
  by_cases c3 : l.length ≥ 200
  · have e : sSend l s d = (l, 0, false) := by rw [sSend, if_pos (.inr (.inr (.inl c3)))]
    rw [e]
    refine zgo m_wsend_ok fun W S => ?_
    refine zcx (socpy_fn l hb hd) ?_
    exact zrt m_wsend_ok
  by_cases c4 : d.length > 16
  · have e : sSend l s d = (l, 0, false) := by rw [sSend, if_pos (.inr (.inr (.inr c4)))]
    rw [e]
    refine zgo m_wsend_ok fun W S => ?_
    refine zcx (socpy_fn l hb hd) ?_
    exact zrt m_wsend_ok
  · have e : sSend l s d = (l ++ [⟨l.length, s, d⟩], (d.length : Int), true) := by rw [sSend, if_neg (by omega)]
    rw [e]
    refine zgo m_wsend_ok fun W S => ?_
    refine zcx (socpy_fn l hb hd) ?_
    refine zcd (clcanon_fn d hdd) ?_
    exact zrt m_wsend_ok
set_option maxHeartbeats 4000000 in
theorem rsend_fn (l : List Output) (s : Int) (d : List Canon) (hb : l.length ≤ 1000000000) (hd : shortO 1000000000 l) (hdd : d.length ≤ 1000000000) : Fnc Tryz.prog 69 [.sl false 3 (l.map (outputV false)), .int .i64 s, .sl false 4 (d.map canonV)] (fun x obs => x = .tup [.sl false 3 ((sSend l s d).1.map (outputV false)), .int .i64 (sSend l s d).2.1, .bool (sSend l s d).2.2] ∧ obs = []) := by
  refine Fnc.low ?_
  by_cases c1 : s < 0
  · have e : sSend l s d = (l, 0, false) := by rw [sSend, if_pos (.inl c1)]
    rw [e]
    refine zgo m_rsend_ok fun W S => ?_
    refine zcx (srcpy_fn l hb hd) ?_
    exact zrt m_rsend_ok
  by_cases c2 : s ≥ 2
  · have e : sSend l s d = (l, 0, false) := by rw [sSend, if_pos (.inr (.inl c2))]
    rw [e]
    refine zgo m_rsend_ok fun W S => ?_
    refine zcx (srcpy_fn l hb hd) ?_
    exact zrt m_rsend_ok
  by_cases c3 : l.length ≥ 200
  · have e : sSend l s d = (l, 0, false) := by rw [sSend, if_pos (.inr (.inr (.inl c3)))]
    rw [e]
    refine zgo m_rsend_ok fun W S => ?_
    refine zcx (srcpy_fn l hb hd) ?_
    exact zrt m_rsend_ok
  by_cases c4 : d.length > 16
  · have e : sSend l s d = (l, 0, false) := by rw [sSend, if_pos (.inr (.inr (.inr c4)))]
    rw [e]
    refine zgo m_rsend_ok fun W S => ?_
    refine zcx (srcpy_fn l hb hd) ?_
    exact zrt m_rsend_ok
  · have e : sSend l s d = (l ++ [⟨l.length, s, d⟩], (d.length : Int), true) := by rw [sSend, if_neg (by omega)]
    rw [e]
    refine zgo m_rsend_ok fun W S => ?_
    refine zcx (srcpy_fn l hb hd) ?_
    exact zrt m_rsend_ok
end Go.Proofs.YtkfpcgkmemfdaaaGreat
/- Outputs of sockets: order, streams, equality. -/
namespace Go.Proofs.YtkfpcgkmemfdaaaGreat
open Go Go.RowKit Rdn Rdn.Dp
set_option linter.unusedVariables false
set_option linter.unusedSimpArgs false
theorem m_wordered_ok : compF Tryz.prog 31 = some (33, Qr ([Qc 2 (.bool false)])
 (.seq (Qr ([Qm 5 0, Qn 6 5, Qp 7 (.mov (Qi 0))])
 (.block 0 (.loop (Qr ([Qb 8 .lss 7 6])
 (.seq (.cond (.t 8) (.skip) (.exit 0))
 (.seq (.block 1 (Qr ([Qm 9 7, Qx 10 3 5 7, QL 11 3 10, Qw 4 (.alloc 45 (.agg [.int .i64 0, .int .i64 0, .nilS])), Qm 3 9, Qs 3 4 11])
 (Qr ([Qf 12 0 0 4, Ql 13 1 12, Qm 14 3, Qb 15 .neq 13 14, Qm 16 15, Q0 17 16 (.fieldA 1 1 (.t 4)), Q0 18 16 (.load false 1 (.t 17)), Q0 19 16 (.bin 0 .lss (.t 18) (Qi 0)), Qt 20 16 19, Qm 21 20, Q0 22 21 (.fieldA 1 1 (.t 4)), Q0 23 21 (.load false 1 (.t 22)), Q0 24 21 (.bin 0 .geq (.t 23) (Qi 2)), Qt 25 21 24, Qm 26 25, Q0 27 26 (.fieldA 2 2 (.t 4)), Q0 28 26 (.load false 1 (.t 27)), Q0 29 26 (.len (.t 28)), Q0 30 26 (.bin 0 .gtr (.t 29) (Qi 16)), Qt 31 26 30])
 (.cond (.t 31) (Qr ([Qc 2 (.bool false)])
 (.ret)) (.skip)))))
 (.reg [Qk 32 .add 7 1, Qm 7 32])))))))
 (Qr ([Qc 2 (.bool true)])
 (.ret))), [.mov (.t 2)]) := by kernel_rfl
theorem m_rordered_ok : compF Tryz.prog 35 = some (33, Qr ([Qc 2 (.bool false)])
 (.seq (Qr ([Qm 5 0, Qn 6 5, Qp 7 (.mov (Qi 0))])
 (.block 0 (.loop (Qr ([Qb 8 .lss 7 6])
 (.seq (.cond (.t 8) (.skip) (.exit 0))
 (.seq (.block 1 (Qr ([Qm 9 7, Qx 10 3 5 7, QL 11 3 10, Qw 4 (.alloc 45 (.agg [.int .i64 0, .int .i64 0, .nilS])), Qm 3 9, Qs 3 4 11])
 (Qr ([Qf 12 0 0 4, Ql 13 1 12, Qm 14 3, Qb 15 .neq 13 14, Qm 16 15, Q0 17 16 (.fieldA 1 1 (.t 4)), Q0 18 16 (.load false 1 (.t 17)), Q0 19 16 (.bin 0 .lss (.t 18) (Qi 0)), Qt 20 16 19, Qm 21 20, Q0 22 21 (.fieldA 1 1 (.t 4)), Q0 23 21 (.load false 1 (.t 22)), Q0 24 21 (.bin 0 .geq (.t 23) (Qi 2)), Qt 25 21 24, Qm 26 25, Q0 27 26 (.fieldA 2 2 (.t 4)), Q0 28 26 (.load false 1 (.t 27)), Q0 29 26 (.len (.t 28)), Q0 30 26 (.bin 0 .gtr (.t 29) (Qi 16)), Qt 31 26 30])
 (.cond (.t 31) (Qr ([Qc 2 (.bool false)])
 (.ret)) (.skip)))))
 (.reg [Qk 32 .add 7 1, Qm 7 32])))))))
 (Qr ([Qc 2 (.bool true)])
 (.ret))), [.mov (.t 2)]) := by kernel_rfl
/-- An output that stands at its place. -/
def okOut (j : Nat) (o : Output) : Prop := o.seq = j ∧ 0 ≤ o.socket ∧ o.socket < 2 ∧ o.data.length ≤ 16
def ordered (l : List Output) : Prop := ∀ j, j < l.length → okOut j l[j]!
noncomputable def ordB (l : List Output) : Bool := @decide (ordered l) (Classical.propDecidable _)
theorem ordB_T {l : List Output} (h : ordered l) : ordB l = true := by unfold ordB; exact @decide_eq_true _ (Classical.propDecidable _) h
theorem ordB_F {l : List Output} (h : ¬ ordered l) : ordB l = false := by unfold ordB; exact @decide_eq_false _ (Classical.propDecidable _) h
set_option maxHeartbeats 4000000 in
theorem wordered_fn (l : List Output) : Fnc Tryz.prog 31 [.sl false 3 (l.map (outputV false))] (fun x obs => x = .bool (ordB l) ∧ obs = []) := by
  refine Fnc.wf fun hw => ?_
  simp only [V.wfs, V.wf, List.length_map] at hw
  have hm := hw.1.2
  clear hw
  refine zgo m_wordered_ok fun W S => ?_
  refine ev_loopK [5, 6] (fun p : {p : Nat // p ≤ l.length ∧ ∀ j, j < p → okOut j l[j]!} => [(7, .int .i64 p.1)]) (fun _ => []) (fun p => l.length - p.1) (⟨0, by simp⟩) 0 (by simp only [go_sem]; rfl) ?_ (by first | rfl | (simp only [go_sem]; done)) (by simp) (by first | rfl | (simp only [go_sem]; done)) (by first | rfl | (simp only [go_sem]; done)) (by first | rfl | (simp only [go_sem]; done)) ?_
  · (simp only [go_sem]; (try simp []); done)
  intro J hJ
  rintro ⟨k, hk0, hk1⟩
  by_cases hlt : k < l.length
  · by_cases c1 : l[k]!.seq = k
    · by_cases c2 : l[k]!.socket < 0
      · have hF := ordB_F (l := l) fun h => by have := (h k hlt).2.1; omega
        rw [hF]
        refine zst ?_
        exact zrt m_wordered_ok
      by_cases c3 : l[k]!.socket ≥ 2
      · have hF := ordB_F (l := l) fun h => by have := (h k hlt).2.2.1; omega
        rw [hF]
        refine zst ?_
        exact zrt m_wordered_ok
      by_cases c4 : l[k]!.data.length > 16
      · have hF := ordB_F (l := l) fun h => by have := (h k hlt).2.2.2; omega
        rw [hF]
        refine zst ?_
        exact zrt m_wordered_ok
      · have okS : ∀ j, j < k + 1 → okOut j l[j]! := fun j hj => by
          by_cases e : j = k
          · subst e; exact ⟨c1, by omega, by omega, by omega⟩
          · exact hk1 j (by omega)
        refine zst ?_
        exact zn0 (hJ _ (⟨k + 1, hlt, okS⟩) (by first | omega | (dsimp only; omega) | (simp; omega))) hlt
    · have hF := ordB_F (l := l) fun h => c1 (h k hlt).1
      rw [hF]
      refine zst ?_
      exact zrt m_wordered_ok
  · obtain rfl : k = l.length := by omega
    have hT := ordB_T (l := l) fun j hj => hk1 j hj
    rw [hT]
    refine zst ?_
    exact zrt m_wordered_ok
set_option maxHeartbeats 4000000 in
theorem rordered_fn (l : List Output) : Fnc Tryz.prog 35 [.sl false 3 (l.map (outputV false))] (fun x obs => x = .bool (ordB l) ∧ obs = []) := by
  refine Fnc.wf fun hw => ?_
  simp only [V.wfs, V.wf, List.length_map] at hw
  have hm := hw.1.2
  clear hw
  refine zgo m_rordered_ok fun W S => ?_
  refine ev_loopK [5, 6] (fun p : {p : Nat // p ≤ l.length ∧ ∀ j, j < p → okOut j l[j]!} => [(7, .int .i64 p.1)]) (fun _ => []) (fun p => l.length - p.1) (⟨0, by simp⟩) 0 (by simp only [go_sem]; rfl) ?_ (by first | rfl | (simp only [go_sem]; done)) (by simp) (by first | rfl | (simp only [go_sem]; done)) (by first | rfl | (simp only [go_sem]; done)) (by first | rfl | (simp only [go_sem]; done)) ?_
  · (simp only [go_sem]; (try simp []); done)
  intro J hJ
  rintro ⟨k, hk0, hk1⟩
  by_cases hlt : k < l.length
  · by_cases c1 : l[k]!.seq = k
    · by_cases c2 : l[k]!.socket < 0
      · have hF := ordB_F (l := l) fun h => by have := (h k hlt).2.1; omega
        rw [hF]
        refine zst ?_
        exact zrt m_rordered_ok
      by_cases c3 : l[k]!.socket ≥ 2
      · have hF := ordB_F (l := l) fun h => by have := (h k hlt).2.2.1; omega
        rw [hF]
        refine zst ?_
        exact zrt m_rordered_ok
      by_cases c4 : l[k]!.data.length > 16
      · have hF := ordB_F (l := l) fun h => by have := (h k hlt).2.2.2; omega
        rw [hF]
        refine zst ?_
        exact zrt m_rordered_ok
      · have okS : ∀ j, j < k + 1 → okOut j l[j]! := fun j hj => by
          by_cases e : j = k
          · subst e; exact ⟨c1, by omega, by omega, by omega⟩
          · exact hk1 j (by omega)
        refine zst ?_
        exact zn0 (hJ _ (⟨k + 1, hlt, okS⟩) (by first | omega | (dsimp only; omega) | (simp; omega))) hlt
    · have hF := ordB_F (l := l) fun h => c1 (h k hlt).1
      rw [hF]
      refine zst ?_
      exact zrt m_rordered_ok
  · obtain rfl : k = l.length := by omega
    have hT := ordB_T (l := l) fun j hj => hk1 j hj
    rw [hT]
    refine zst ?_
    exact zrt m_rordered_ok
end Go.Proofs.YtkfpcgkmemfdaaaGreat
/- Outputs of sockets: equality. -/
namespace Go.Proofs.YtkfpcgkmemfdaaaGreat
open Go Go.RowKit Rdn Rdn.Dp
set_option linter.unusedVariables false
set_option linter.unusedSimpArgs false
theorem m_rsameo_ok : compF Tryz.prog 44 = some (55, Qr ([Qc 4 (.bool false)])
 (.seq (Qr ([Qm 6 0, Qn 7 6, Qm 8 1, Qn 9 8, Qb 10 .neq 7 9])
 (.cond (.t 10) (Qr ([Qc 4 (.bool false)])
 (.ret)) (.skip)))
 (.seq (Qr ([Qm 11 0, Qn 12 11, Qp 13 (.mov (Qi 0))])
 (.block 0 (.loop (Qr ([Qb 14 .lss 13 12])
 (.seq (.cond (.t 14) (.skip) (.exit 0))
 (.seq (.block 1 (Qr ([Qm 15 13, Qm 5 15])
 (.seq (.dreg [Qm 16 0, Qm 17 5, Qx 18 3 16 17, Qf 19 0 0 18, Ql 20 1 19, Qm 21 1, Qm 22 5, Qx 23 3 21 22, Qf 24 0 0 23, Ql 25 1 24, Qb 26 .neq 20 25, Qm 27 26, Q0 28 27 (.mov (.t 0)), Q0 29 27 (.mov (.t 5)), Q0 30 27 (.idxA 3 (.t 28) (.t 29)), Q0 31 27 (.fieldA 1 1 (.t 30)), Q0 32 27 (.load false 1 (.t 31)), Q0 33 27 (.mov (.t 1)), Q0 34 27 (.mov (.t 5)), Q0 35 27 (.idxA 3 (.t 33) (.t 34)), Q0 36 27 (.fieldA 1 1 (.t 35)), Q0 37 27 (.load false 1 (.t 36)), Q0 38 27 (.bin 0 .neq (.t 32) (.t 37)), Qt 39 27 38, Qm 40 39, Q0 41 40 (.mov (.t 0)), Q0 42 40 (.mov (.t 5)), Q0 43 40 (.idxA 3 (.t 41) (.t 42)), Q0 44 40 (.fieldA 2 2 (.t 43)), Q0 45 40 (.load false 1 (.t 44)), Q0 46 40 (.mov (.t 1)), Q0 47 40 (.mov (.t 5)), Q0 48 40 (.idxA 3 (.t 46) (.t 47)), Q0 49 40 (.fieldA 2 2 (.t 48)), Q0 50 40 (.load false 1 (.t 49)), ⟨(some 51), (some (40, false)), (.call 71 [(.t 45), (.t 50)])⟩, Q0 52 40 (.un .not (.t 51)), Qt 53 40 52] [[], [], [0, 1], [0, 1, 2], [0, 1, 2, 3], [], [], [5, 6], [5, 6, 7], [5, 6, 7, 8], [0, 1, 2, 3, 4, 5, 6, 7, 8, 9], [0, 1, 2, 3, 4, 5, 6, 7, 8, 9, 10], [0, 1, 2, 3, 4, 5, 6, 7, 8, 9, 10, 11], [0, 1, 2, 3, 4, 5, 6, 7, 8, 9, 10, 11], [0, 1, 2, 3, 4, 5, 6, 7, 8, 9, 10, 11, 12, 13], [0, 1, 2, 3, 4, 5, 6, 7, 8, 9, 10, 11, 12, 13, 14], [0, 1, 2, 3, 4, 5, 6, 7, 8, 9, 10, 11, 12, 13, 14, 15], [0, 1, 2, 3, 4, 5, 6, 7, 8, 9, 10, 11], [0, 1, 2, 3, 4, 5, 6, 7, 8, 9, 10, 11], [0, 1, 2, 3, 4, 5, 6, 7, 8, 9, 10, 11, 17, 18], [0, 1, 2, 3, 4, 5, 6, 7, 8, 9, 10, 11, 17, 18, 19], [0, 1, 2, 3, 4, 5, 6, 7, 8, 9, 10, 11, 17, 18, 19, 20], [0, 1, 2, 3, 4, 5, 6, 7, 8, 9, 10, 11, 12, 13, 14, 15, 16, 17, 18, 19, 20, 21], [0, 1, 2, 3, 4, 5, 6, 7, 8, 9, 10, 11, 12, 13, 14, 15, 16, 17, 18, 19, 20, 21, 22], [0, 1, 2, 3, 4, 5, 6, 7, 8, 9, 10, 11, 12, 13, 14, 15, 16, 17, 18, 19, 20, 21, 22, 23], [0, 1, 2, 3, 4, 5, 6, 7, 8, 9, 10, 11, 12, 13, 14, 15, 16, 17, 18, 19, 20, 21, 22, 23, 24], [0, 1, 2, 3, 4, 5, 6, 7, 8, 9, 10, 11, 12, 13, 14, 15, 16, 17, 18, 19, 20, 21, 22, 23, 24], [0, 1, 2, 3, 4, 5, 6, 7, 8, 9, 10, 11, 12, 13, 14, 15, 16, 17, 18, 19, 20, 21, 22, 23, 24, 25, 26], [0, 1, 2, 3, 4, 5, 6, 7, 8, 9, 10, 11, 12, 13, 14, 15, 16, 17, 18, 19, 20, 21, 22, 23, 24, 25, 26, 27], [0, 1, 2, 3, 4, 5, 6, 7, 8, 9, 10, 11, 12, 13, 14, 15, 16, 17, 18, 19, 20, 21, 22, 23, 24, 25, 26, 27, 28], [0, 1, 2, 3, 4, 5, 6, 7, 8, 9, 10, 11, 12, 13, 14, 15, 16, 17, 18, 19, 20, 21, 22, 23, 24], [0, 1, 2, 3, 4, 5, 6, 7, 8, 9, 10, 11, 12, 13, 14, 15, 16, 17, 18, 19, 20, 21, 22, 23, 24], [0, 1, 2, 3, 4, 5, 6, 7, 8, 9, 10, 11, 12, 13, 14, 15, 16, 17, 18, 19, 20, 21, 22, 23, 24, 30, 31], [0, 1, 2, 3, 4, 5, 6, 7, 8, 9, 10, 11, 12, 13, 14, 15, 16, 17, 18, 19, 20, 21, 22, 23, 24, 30, 31, 32], [0, 1, 2, 3, 4, 5, 6, 7, 8, 9, 10, 11, 12, 13, 14, 15, 16, 17, 18, 19, 20, 21, 22, 23, 24, 30, 31, 32, 33], [0, 1, 2, 3, 4, 5, 6, 7, 8, 9, 10, 11, 12, 13, 14, 15, 16, 17, 18, 19, 20, 21, 22, 23, 24, 25, 26, 27, 28, 29, 30, 31, 32, 33, 34], [0, 1, 2, 3, 4, 5, 6, 7, 8, 9, 10, 11, 12, 13, 14, 15, 16, 17, 18, 19, 20, 21, 22, 23, 24, 25, 26, 27, 28, 29, 30, 31, 32, 33, 34, 35], [0, 1, 2, 3, 4, 5, 6, 7, 8, 9, 10, 11, 12, 13, 14, 15, 16, 17, 18, 19, 20, 21, 22, 23, 24, 25, 26, 27, 28, 29, 30, 31, 32, 33, 34, 35, 36]])
 (.cond (.t 53) (Qr ([Qc 4 (.bool false)])
 (.ret)) (.skip)))))
 (.reg [Qk 54 .add 13 1, Qm 13 54])))))))
 (Qr ([Qc 4 (.bool true)])
 (.ret)))), [.mov (.t 4)]) := by kernel_rfl
/-- Whether two things are equal. -/
noncomputable def eqB {α : Type} (a b : α) : Bool := @decide (a = b) (Classical.propDecidable _)
theorem eqB_T {α : Type} {a b : α} (h : a = b) : eqB a b = true := by unfold eqB; exact @decide_eq_true _ (Classical.propDecidable _) h
theorem eqB_F {α : Type} {a b : α} (h : a ≠ b) : eqB a b = false := by unfold eqB; exact @decide_eq_false _ (Classical.propDecidable _) h
theorem out_ext {a b : Output} (h1 : a.seq = b.seq) (h2 : a.socket = b.socket) (h3 : a.data = b.data) : a = b := by
  obtain ⟨a1, a2, a3⟩ := a
  obtain ⟨b1, b2, b3⟩ := b
  simp only at h1 h2 h3
  rw [h1, h2, h3]
set_option maxHeartbeats 4000000 in
theorem rsameo_fn (a b : List Output) : Fnc Tryz.prog 44 [.sl false 3 (a.map (outputV false)), .sl false 3 (b.map (outputV false))] (fun x obs => x = .bool (eqB a b) ∧ obs = []) := by
  refine Fnc.wf fun hw => ?_
  simp only [V.wfs, V.wf, List.length_map] at hw
  have hm := hw.1.2
  have hm' := hw.2.1.2
  clear hw
  by_cases hl : a.length = b.length
  · skip
    refine zgo m_rsameo_ok fun W S => ?_
    refine ev_loopK [0, 1, 12] (fun p : {p : Nat // p ≤ a.length ∧ a.take p = b.take p} => [(13, .int .i64 p.1)]) (fun _ => []) (fun p => a.length - p.1) (⟨0, by simp⟩) 0 (by simp only [go_sem]; rfl) ?_ (by first | rfl | (simp only [go_sem]; done)) (by simp) (by first | rfl | (simp only [go_sem]; done)) (by first | rfl | (simp only [go_sem]; done)) (by first | rfl | (simp only [go_sem]; done)) ?_
    · (simp only [go_sem]; (try simp []); done)
    intro J hJ
    rintro ⟨k, hk0, hk1⟩
    by_cases hlt : k < a.length
    · by_cases c1 : a[k]!.seq = b[k]!.seq
      · by_cases c2 : a[k]!.socket = b[k]!.socket
        · by_cases c3 : a[k]!.data = b[k]!.data
          · skip
            refine zst ?_
            refine zcd (samecanon_fn a[k]!.data b[k]!.data) ?_
            exact zn0 (hJ _ (⟨k + 1, hlt, by rw [take_snoc hlt, take_snoc (by omega), hk1, out_ext c1 c2 c3]⟩) (by first | omega | (dsimp only; omega) | (simp; omega))) hlt
          · have hne : a ≠ b := fun h => c3 (by rw [h])
            rw [eqB_F hne]
            refine zst ?_
            refine zcd (samecanon_fn a[k]!.data b[k]!.data) ?_
            exact zrt m_rsameo_ok
        · have hne : a ≠ b := fun h => c2 (by rw [h])
          rw [eqB_F hne]
          refine zst ?_
          exact zrt m_rsameo_ok
      · have hne : a ≠ b := fun h => c1 (by rw [h])
        rw [eqB_F hne]
        refine zst ?_
        exact zrt m_rsameo_ok
    · have hab := eq_of_take (by omega) (by omega) hk1
      rw [eqB_T hab]
      refine zst ?_
      exact zrt m_rsameo_ok
  · have hne : a ≠ b := fun h => hl (by rw [h])
    rw [eqB_F hne]
    refine zgo m_rsameo_ok fun W S => ?_
    exact zrt m_rsameo_ok
end Go.Proofs.YtkfpcgkmemfdaaaGreat
/- Sockets: what is received. -/
namespace Go.Proofs.YtkfpcgkmemfdaaaGreat
open Go Go.RowKit Rdn Rdn.Dp
set_option linter.unusedVariables false
set_option linter.unusedSimpArgs false
theorem m_clw_ok : compF Tryz.prog 93 = some (8, Qr ([Qp 2 (.mov (.c (.nilS)))])
 (.seq (Qr ([Qm 3 0, Qp 4 (.bin 2 .eql (.t 3) (.c (.nilS)))])
 (.cond (.t 4) (Qr ([Qp 2 (.mov (.c (.nilS)))])
 (.ret)) (.skip)))
 (Qr ([Qw 5 (.buildS 41 1 (.int .u16 0) 0 []), Qm 6 0, Qw 7 (.app 41 1 2 (.t 5) (.t 6)), Qm 2 7])
 (.ret))), [.mov (.t 2)]) := by kernel_rfl
theorem m_recv_ok : compF Tryz.prog 59 = some (75, Qr ([Qp 6 (.mov (.c (.nilS))), Qp 7 (.mov (.c (.nilS))), Qc 8 (.bool false)])
 (Qr ([Qp 9 (.mov (.c (.nilS)))])
 (.seq (Qr ([Qm 15 0, Qn 16 15, Qp 17 (.mov (Qi 0))])
 (.block 0 (.loop (Qr ([Qb 18 .lss 17 16])
 (.seq (.cond (.t 18) (.skip) (.exit 0))
 (.seq (.block 1 (Qr ([Qx 19 1 15 17, Ql 20 1 19, Qm 11 20])
 (.reg [Qm 21 9, Qm 22 11, Qq 23 93 [(.t 22)], Qw 24 (.buildS 29 1 (.nilS) 1 [(0, (.t 23))]), Qw 25 (.app 29 1 24 (.t 21) (.t 24)), Qm 9 25])))
 (.reg [Qk 26 .add 17 1, Qm 17 26])))))))
 (.seq (Qr ([Qm 27 1, Qk 28 .lss 27 0, Qm 29 28, Q0 30 29 (.mov (.t 1)), Q0 31 29 (.mov (.t 0)), Q0 32 29 (.len (.t 31)), Q0 33 29 (.bin 0 .geq (.t 30) (.t 32)), Qt 34 29 33, Qm 35 34, Q0 36 35 (.mov (.t 2)), Q0 37 35 (.bin 0 .lss (.t 36) (Qi 0)), Qt 38 35 37])
 (.cond (.t 38) (Qr ([Qm 39 9, Qm 6 39, Qp 7 (.mov (.c (.nilS))), Qc 8 (.bool false)])
 (.ret)) (.skip)))
 (Qr ([Qm 40 2, Qm 41 0, Qm 42 1, Qx 43 1 41 42, Ql 44 1 43, Qn 45 44, Qp 46 (.mn (.t 40) (.t 45)), Qm 2 46])
 (Qr ([Qp 12 (.mov (.c (.nilS)))])
 (.seq (Qr ([Qm 47 0, Qm 48 1, Qx 49 1 47 48, Ql 50 1 49, Qm 51 2, Qw 52 (.sl 1 (.t 50) none (some (.t 51)) none), Qn 53 52, Qp 54 (.mov (Qi 0))])
 (.block 2 (.loop (Qr ([Qb 55 .lss 54 53])
 (.seq (.cond (.t 55) (.skip) (.exit 2))
 (.seq (.block 3 (Qr ([Qx 56 1 52 54, Ql 57 1 56, Qm 14 57])
 (.reg [Qm 58 12, Qm 59 14, Qw 60 (.build none [.int .u8 0, .int .u16 0, .int .i64 0, .int .i64 0] [(0, (.c (.int .u8 0))), (1, (.t 59))]), Qw 61 (.buildS 43 4 (.agg [.int .u8 0, .int .u16 0, .int .i64 0, .int .i64 0]) 1 [(0, (.t 60))]), Qw 62 (.app 43 4 24 (.t 58) (.t 61)), Qm 12 62])))
 (.reg [Qk 63 .add 54 1, Qm 54 63])))))))
 (Qr ([Qm 64 9, Qm 65 1, Qm 66 9, Qm 67 1, Qx 68 1 66 67, Ql 69 1 68, Qm 70 2, Qw 71 (.sl 1 (.t 69) (some (.t 70)) none none), Qx 72 1 64 65, Qs 1 72 71])
 (Qr ([Qm 73 9, Qm 74 12, Qm 6 73, Qm 7 74, Qc 8 (.bool true)])
 (.ret))))))))), [.mov (.t 6), .mov (.t 7), .mov (.t 8)]) := by kernel_rfl
theorem m_samew_ok : compF Tryz.prog 42 = some (26, Qr ([Qc 4 (.bool false)])
 (.seq (Qr ([Qm 6 0, Qn 7 6, Qm 8 1, Qn 9 8, Qb 10 .neq 7 9])
 (.cond (.t 10) (Qr ([Qc 4 (.bool false)])
 (.ret)) (.skip)))
 (.seq (Qr ([Qm 11 0, Qn 12 11, Qp 13 (.mov (Qi 0))])
 (.block 0 (.loop (Qr ([Qb 14 .lss 13 12])
 (.seq (.cond (.t 14) (.skip) (.exit 0))
 (.seq (.block 1 (Qr ([Qm 15 13, Qm 5 15])
 (.seq (.dreg [Qm 16 0, Qm 17 5, Qx 18 1 16 17, Ql 19 1 18, Qm 20 1, Qm 21 5, Qx 22 1 20 21, Ql 23 1 22, Qb 24 .neq 19 23] [[], [], [0, 1], [0, 1, 2], [], [], [4, 5], [4, 5, 6], [0, 1, 2, 3, 4, 5, 6, 7]])
 (.cond (.t 24) (Qr ([Qc 4 (.bool false)])
 (.ret)) (.skip)))))
 (.reg [Qk 25 .add 13 1, Qm 13 25])))))))
 (Qr ([Qc 4 (.bool true)])
 (.ret)))), [.mov (.t 4)]) := by kernel_rfl
set_option maxHeartbeats 4000000 in
theorem clw_fn (l : List Int) (hb : l.length ≤ 1000000000) : Fnc Tryz.prog 93 [.sl false 1 (l.map (V.int .u16))] (fun x obs => x = .sl true 1 (l.map (V.int .u16)) ∧ obs = []) := by
  refine Fnc.intro m_clw_ok (by simp) fun W S => ?_
  simp only [ents, Nat.zero_add, Nat.reduceAdd, Qm, Qc, Ql, QL, Qf, Qs, Qb, Qk, QB, Qn, Qe, Qx, Qt, Qu, Q0, Q1, Qp, Qw, Qq, Qr, Qi]
  refine zsu ?_
  refine zs1 ?_
  refine zsu ?_
  refine ev_reg ?_
  refine evr_p rfl trivial ?_
  refine evr_nilq rfl rfl fun b hb0 => ?_
  cases b with
  | false =>
    simp only [aopP, X.ev, slotV, AS.put, if_true]
    refine zst ?_
    exact zrt m_clw_ok
  | true =>
    have hl : l = [] := by
      cases l with
      | nil => rfl
      | cons a l => exact absurd (hb0 (by simp)) (by simp)
    subst hl
    simp only [aopP, X.ev, slotV, AS.put, if_true]
    refine zsu ?_
    refine zs1 ?_
    refine zsu ?_
    refine ev_nil2 2 true 1 rfl ?_
    exact zrt m_clw_ok
set_option maxHeartbeats 4000000 in
theorem clw_own (l : List Int) (hb : l.length ≤ 1000000000) : Fnc Tryz.prog 93 [.sl false 1 (l.map (V.int .u16))] (fun x obs => x = .own 0 0 ∧ obs = [⟨.row 41, true, 0, .arr 1 (l.map (V.int .u16))⟩]) := by
  refine Fnc.intro m_clw_ok (by simp) fun W S => ?_
  simp only [ents, Nat.zero_add, Nat.reduceAdd, Qm, Qc, Ql, QL, Qf, Qs, Qb, Qk, QB, Qn, Qe, Qx, Qt, Qu, Q0, Q1, Qp, Qw, Qq, Qr, Qi]
  refine zsu ?_
  refine zs1 ?_
  refine zsu ?_
  refine ev_reg ?_
  refine evr_p rfl trivial ?_
  refine evr_nilq rfl rfl fun b hb0 => ?_
  cases b with
  | false =>
    simp only [aopP, X.ev, slotV, AS.put, if_true]
    refine zst ?_
    refine ret m_clw_ok [0] ?_; exact zfn
  | true =>
    have hl : l = [] := by
      cases l with
      | nil => rfl
      | cons a l => exact absurd (hb0 (by simp)) (by simp)
    subst hl
    simp only [aopP, X.ev, slotV, AS.put, if_true]
    refine zsu ?_
    refine zs1 ?_
    refine zsu ?_
    refine ev_adopt (i := 2) (e := 41) (s := 1) rfl (by decide) ?_
    refine ret m_clw_ok [0] ?_; exact zfn
theorem take_mapW (k : IntKind) (l : List Int) (n : Nat) : (l.map (V.int k)).take n = (l.take n).map (V.int k) := by rw [List.map_take]
theorem drop_mapW (k : IntKind) (l : List Int) (n : Nat) : (l.map (V.int k)).drop n = (l.drop n).map (V.int k) := by rw [List.map_drop]
attribute [local go_sem] take_mapW drop_mapW List.take_length
set_option maxHeartbeats 8000000 in
theorem recv_fn (w0 w1 : List Int) (N M : Nat) (h0 : w0.length ≤ 64) (h1 : w1.length ≤ 64) (hM : M = min N w0.length) (hN : N ≤ 1000) : Fnc Tryz.prog 59 [.sl false 1 [wsV w0, wsV w1], .int .i64 0, .int .i64 N] (fun x obs => x = .tup [.sl false 1 [wsV (w0.drop M), wsV w1], .sl false 4 ((numC (w0.take M)).map canonV), .bool true] ∧ obs = []) := by
  refine Fnc.low ?_
  have hmin : (if (w0.length : Int) < (N : Int) then (w0.length : Int) else (N : Int)) = (M : Int) := by split <;> omega
  have hMl : M ≤ w0.length := by omega
  obtain ⟨X, hXe⟩ : ∃ X, List.take M w0 = X := ⟨_, rfl⟩
  have hX : X.length = M := by rw [← hXe, List.length_take]; omega
  refine zgo m_recv_ok fun W S => ?_
  refine ev_unroll 3 ?_
  refine zst ?_
  refine zcd (clw_fn w0 (by omega)) ?_
  (first | refine callD (clw_fn w1 (by omega)) ?_ | refine callDw (clw_fn w1 (by omega)) ?_); refine zev ?_
  repeat (first | (simp only [hmin, Int.toNat_natCast, hXe]; try simp only [go_sem]) | refine And.intro (by omega) ?_ | refine And.intro rfl ?_ | refine ev_ctl rfl rfl ?_ | refine evr_nil ?_ | refine evw_nil (by kernel_rfl) ?_ | (simp (disch := omega) only [takeAll, Nat.min_eq_left, Nat.min_eq_right, if_pos, if_neg, getD_map, wrapI64, modIn, fdivE, tmodE, tdivE, decT, decF, beqT, beqF, bneT, bneF, Int.toNat_natCast]; try simp only [go_sem]) | (refine ev_condTb rfl ?_ ?_; · (simp <;> omega)) | (refine ev_condFb rfl ?_ ?_; · (simp <;> omega)) | ((first | refine ev_region ?_ | refine evr_go rfl ?_ | refine evw_go rfl ?_ | refine ev_dr0 mixed rfl (by kernel_rfl) ?_ | refine ev_dr1 mixed rfl (by kernel_rfl) ?_ | refine ev_dr2 mixed rfl (by kernel_rfl) ?_); simp only [go_sem]))
  refine ev_adopt (i := 12) (e := 43) (s := 4) rfl (by decide) ?_
  refine ev_loopK [1, 2, 9, 52, 53] (fun p : {p : Nat // p ≤ X.length} => [(12, .own 3 p.1), (54, .int .i64 p.1)]) (fun p => [⟨.row 29, true, 0, .arr 1 [.sl true 1 (u16s w0)]⟩, ⟨.row 29, true, 1, .arr 1 [.sl true 1 (u16s w0), .sl true 1 (u16s w1)]⟩, ⟨.row 29, true, 0, .arr 1 [.sl true 1 (u16s w1)]⟩, ⟨.row 43, true, p.1, .arr 4 ((numC (X.take p.1)).map canonV)⟩]) (fun p => X.length - p.1) (⟨0, by simp⟩) 4 (by simp only [go_sem]; rfl) ?_ (by first | rfl | (simp only [go_sem]; done) | (simp only [go_sem]; simp [numC_zero]; done)) (by simp) (by first | rfl | (simp only [go_sem]; done)) (by first | rfl | (simp only [go_sem]; done)) (by first | rfl | (simp only [go_sem]; done) | (simp only [numC_zero]; (try simp only [go_sem]); first | done | rfl)) ?_
  · (simp only [go_sem]; (try simp [numC_zero]); done)
  intro J hJ
  rintro ⟨k, hk0⟩
  by_cases hlt : k < X.length
  · have hl := numC_len (X.take k)
    have hl2 : (X.take k).length = k := by rw [List.length_take]; omega
    have hs := numC_snoc hlt
    refine zst ?_
    exact zn4 (hJ _ (⟨k + 1, hlt⟩) (by first | omega | (dsimp only; omega) | (simp; omega))) hs
  obtain rfl : k = X.length := by omega
  repeat (first | (simp only [Int.toNat_natCast]; try simp only [go_sem]) | refine And.intro (by omega) ?_ | refine And.intro rfl ?_ | refine ev_ctl rfl rfl ?_ | refine evr_nil ?_ | refine evw_nil (by kernel_rfl) ?_ | (simp (disch := omega) only [takeAll, Nat.min_eq_left, Nat.min_eq_right, if_pos, if_neg, getD_map, wrapI64, modIn, fdivE, tmodE, tdivE, decT, decF, beqT, beqF, bneT, bneF, Int.toNat_natCast]; try simp only [go_sem]) | (refine ev_condTb rfl ?_ ?_; · (simp <;> omega)) | (refine ev_condFb rfl ?_ ?_; · (simp <;> omega)) | ((first | refine ev_region ?_ | refine evr_go rfl ?_ | refine evw_go rfl ?_ | refine ev_dr0 mixed rfl (by kernel_rfl) ?_ | refine ev_dr1 mixed rfl (by kernel_rfl) ?_ | refine ev_dr2 mixed rfl (by kernel_rfl) ?_); simp only [go_sem]))
  exact zrt m_recv_ok
set_option maxHeartbeats 4000000 in
theorem samew_fn (a : List Int) (hm : a.length ≤ 140737488355328) : Fnc Tryz.prog 42 [wsV a, wsV a] (fun x obs => x = .bool true ∧ obs = []) := by
  refine zgo m_samew_ok fun W S => ?_
  refine ev_loopK [0, 1, 12] (fun p : {p : Nat // p ≤ a.length} => [(13, .int .i64 p.1)]) (fun _ => []) (fun p => a.length - p.1) (⟨0, by simp⟩) 0 (by simp only [go_sem]; rfl) ?_ (by first | rfl | (simp only [go_sem]; done)) (by simp) (by first | rfl | (simp only [go_sem]; done)) (by first | rfl | (simp only [go_sem]; done)) (by first | rfl | (simp only [go_sem]; done)) ?_
  · (simp only [go_sem]; (try simp []); done)
  intro J hJ
  rintro ⟨k, hk0⟩
  by_cases hlt : k < a.length
  · skip
    refine zst ?_
    exact zn0 (hJ _ (⟨k + 1, hlt⟩) (by first | omega | (dsimp only; omega) | (simp; omega))) hlt
  · obtain rfl : k = a.length := by omega
    refine zst ?_
    exact zrt m_samew_ok
end Go.Proofs.YtkfpcgkmemfdaaaGreat
/- Sockets: what is received, of any inputs. -/
namespace Go.Proofs.YtkfpcgkmemfdaaaGreat
open Go Go.RowKit Rdn Rdn.Dp
set_option linter.unusedVariables false
set_option linter.unusedSimpArgs false
theorem m_rrecv_ok : compF Tryz.prog 70 = some (64, Qr ([Qp 6 (.mov (.c (.nilS))), Qp 7 (.mov (.c (.nilS))), Qc 8 (.bool false)])
 (Qr ([Qm 14 0, Qq 15 22 [(.t 14)], Qm 9 15])
 (.seq (Qr ([Qm 16 1, Qk 17 .lss 16 0, Qm 18 17, Q0 19 18 (.mov (.t 1)), Q0 20 18 (.mov (.t 0)), Q0 21 18 (.len (.t 20)), Q0 22 18 (.bin 0 .geq (.t 19) (.t 21)), Qt 23 18 22, Qm 24 23, Q0 25 24 (.mov (.t 2)), Q0 26 24 (.bin 0 .lss (.t 25) (Qi 0)), Qt 27 24 26])
 (.cond (.t 27) (Qr ([Qm 28 9, Qm 6 28, Qp 7 (.mov (.c (.nilS))), Qc 8 (.bool false)])
 (.ret)) (.skip)))
 (Qr ([Qm 29 2, Qm 30 0, Qm 31 1, Qx 32 1 30 31, Ql 33 1 32, Qn 34 33, Qp 35 (.mn (.t 29) (.t 34)), Qm 10 35])
 (Qr ([Qp 11 (.mov (.c (.nilS)))])
 (.seq (Qr ([Qm 36 0, Qm 37 1, Qx 38 1 36 37, Ql 39 1 38, Qm 40 10, Qw 41 (.sl 1 (.t 39) none (some (.t 40)) none), Qn 42 41, Qp 43 (.mov (Qi 0))])
 (.block 0 (.loop (Qr ([Qb 44 .lss 43 42])
 (.seq (.cond (.t 44) (.skip) (.exit 0))
 (.seq (.block 1 (Qr ([Qx 45 1 41 43, Ql 46 1 45, Qm 13 46])
 (.reg [Qm 47 11, Qm 48 13, Qw 49 (.build none [.int .u8 0, .int .u16 0, .int .i64 0, .int .i64 0] [(1, (.t 48))]), Qw 50 (.buildS 43 4 (.agg [.int .u8 0, .int .u16 0, .int .i64 0, .int .i64 0]) 1 [(0, (.t 49))]), Qw 51 (.app 43 4 24 (.t 47) (.t 50)), Qm 11 51])))
 (.reg [Qk 52 .add 43 1, Qm 43 52])))))))
 (Qr ([Qm 53 9, Qm 54 1, Qm 55 9, Qm 56 1, Qx 57 1 55 56, Ql 58 1 57, Qm 59 10, Qw 60 (.sl 1 (.t 58) (some (.t 59)) none none), Qx 61 1 53 54, Qs 1 61 60])
 (Qr ([Qm 62 9, Qm 63 11, Qm 6 62, Qm 7 63, Qc 8 (.bool true)])
 (.ret)))))))), [.mov (.t 6), .mov (.t 7), .mov (.t 8)]) := by kernel_rfl
def sRecv (wss : List (List Int)) (s n : Int) : List (List Int) × List Canon × Bool :=
  if s < 0 ∨ s ≥ wss.length ∨ n < 0 then (wss, [], false)
  else (wss.set s.toNat ((wss[s.toNat]!).drop (min n.toNat (wss[s.toNat]!).length)), numC ((wss[s.toNat]!).take (min n.toNat (wss[s.toNat]!).length)), true)
theorem set_slW {α : Type} (t : Bool) (s : Nat) (f : α → V) (l : List (List α)) (i : Nat) (d : List α) : (l.map (slV' t s f)).set i (V.sl t s (d.map f)) = (l.set i d).map (slV' t s f) := by rw [List.map_set]
attribute [local go_sem] take_mapW drop_mapW List.take_length set_slW
set_option maxHeartbeats 8000000 in
theorem copyinG_fn (wss : List (List Int)) (hl : wss.length ≤ 1000) (hw : ∀ w ∈ wss, w.length ≤ 100000) : Fnc Tryz.prog 22 [.sl false 1 (wss.map (slV' false 1 (V.int .u16)))] (fun x obs => x = .own 0 0 ∧ obs = [⟨.row 29, true, 0, .arr 1 (wss.map (slV' true 1 (V.int .u16)))⟩]) := by
  refine zgo m_copyin_ok fun W S => ?_
  refine ev_adopt (i := 3) (e := 29) (s := 1) rfl (by decide) ?_
  refine ev_loopK [6, 7] (fun p : {p : Nat // p ≤ wss.length} => [(3, .own 0 p.1), (8, .int .i64 p.1)]) (fun p => [⟨.row 29, true, p.1, .arr 1 ((wss.take p.1).map (slV' true 1 (V.int .u16)))⟩]) (fun p => wss.length - p.1) (⟨0, by simp⟩) 1 (by simp only [go_sem]; rfl) ?_ (by first | rfl | (simp only [go_sem]; done)) (by simp) (by first | rfl | (simp only [go_sem]; done)) (by first | rfl | (simp only [go_sem]; done)) (by first | rfl | (simp only [go_sem]; done)) ?_
  · (simp only [go_sem]; (try simp []); done)
  intro J hJ
  rintro ⟨k, hk0⟩
  by_cases hlt : k < wss.length
  · have h1 := hw _ (mem_at hlt)
    have htl : (wss.take k).length = k := by rw [List.length_take]; omega
    have hs := take_snoc hlt
    refine zst ?_
    exact zn1 (hJ _ (⟨k + 1, hlt⟩) (by first | omega | (dsimp only; omega) | (simp; omega))) hs
  · obtain rfl : k = wss.length := by omega
    refine zst ?_
    refine ret m_copyin_ok [0] ?_; (first | (simp only [go_sem]; done) | (simp only [go_sem]; ((try dsimp only); (repeat' (refine And.intro ?_ ?_)) <;> first | with_reducible rfl | (simp only [go_sem]; done) | (simp only [go_sem]; rfl) | (simp only [go_sem, List.take_length]; done) | (simp only [List.take_length]; (try simp only [go_sem]); first | done | rfl) | (simp only [go_sem]; simp [List.take_length]; done) | (simp [List.take_length]; done) | rfl)))
set_option maxHeartbeats 8000000 in
theorem recvG_fn (wss : List (List Int)) (s n : Int) (hl : wss.length ≤ 1000) (hw : ∀ w ∈ wss, w.length ≤ 100000) : Fnc Tryz.prog 59 [.sl false 1 (wss.map (slV' false 1 (V.int .u16))), .int .i64 s, .int .i64 n] (fun x obs => x = .tup [.sl false 1 ((sRecv wss s n).1.map (slV' false 1 (V.int .u16))), .sl false 4 ((sRecv wss s n).2.1.map canonV), .bool (sRecv wss s n).2.2] ∧ obs = []) := by
  refine Fnc.low ?_
  have fail : (s < 0 ∨ s ≥ wss.length ∨ n < 0) → sRecv wss s n = (wss, [], false) := fun h => by rw [sRecv, if_pos h]
  by_cases c1 : s < 0
  · rw [fail (.inl c1)]
    refine zgo m_recv_ok fun W S => ?_
    refine ev_adopt (i := 9) (e := 29) (s := 1) rfl (by decide) ?_
    refine ev_loopK [0, 1, 2, 15, 16] (fun p : {p : Nat // p ≤ wss.length} => [(9, .own 0 p.1), (17, .int .i64 p.1)]) (fun p => [⟨.row 29, true, p.1, .arr 1 ((wss.take p.1).map (slV' true 1 (V.int .u16)))⟩]) (fun p => wss.length - p.1) (⟨0, by simp⟩) 1 (by simp only [go_sem]; rfl) ?_ (by first | rfl | (simp only [go_sem]; done)) (by simp) (by first | rfl | (simp only [go_sem]; done)) (by first | rfl | (simp only [go_sem]; done)) (by first | rfl | (simp only [go_sem]; done)) ?_
    · (simp only [go_sem]; (try simp []); done)
    intro J hJ
    rintro ⟨k, hk0⟩
    by_cases hlt : k < wss.length
    · have h1 := hw _ (mem_at hlt)
      have htl : (wss.take k).length = k := by rw [List.length_take]; omega
      have hs := take_snoc hlt
      refine zst ?_
      refine zcd (clw_fn wss[k]! (by omega)) ?_
      exact zn1 (hJ _ (⟨k + 1, hlt⟩) (by first | omega | (dsimp only; omega) | (simp; omega))) hs
    obtain rfl : k = wss.length := by omega
    refine zst ?_
    refine ev_nil2 7 false 4 rfl ?_
    refine ret m_recv_ok [] ?_; (first | (simp only [go_sem]; done) | (simp only [go_sem]; ((try dsimp only); (repeat' (refine And.intro ?_ ?_)) <;> first | with_reducible rfl | (simp only [go_sem]; done) | (simp only [go_sem]; rfl) | (simp only [go_sem, List.take_length]; done) | (simp only [List.take_length]; (try simp only [go_sem]); first | done | rfl) | (simp only [go_sem]; simp [List.take_length]; done) | (simp [List.take_length]; done) | rfl)))
  by_cases c2 : s ≥ wss.length
  · rw [fail (.inr (.inl c2))]
    refine zgo m_recv_ok fun W S => ?_
    refine ev_adopt (i := 9) (e := 29) (s := 1) rfl (by decide) ?_
    refine ev_loopK [0, 1, 2, 15, 16] (fun p : {p : Nat // p ≤ wss.length} => [(9, .own 0 p.1), (17, .int .i64 p.1)]) (fun p => [⟨.row 29, true, p.1, .arr 1 ((wss.take p.1).map (slV' true 1 (V.int .u16)))⟩]) (fun p => wss.length - p.1) (⟨0, by simp⟩) 1 (by simp only [go_sem]; rfl) ?_ (by first | rfl | (simp only [go_sem]; done)) (by simp) (by first | rfl | (simp only [go_sem]; done)) (by first | rfl | (simp only [go_sem]; done)) (by first | rfl | (simp only [go_sem]; done)) ?_
    · (simp only [go_sem]; (try simp []); done)
    intro J hJ
    rintro ⟨k, hk0⟩
    by_cases hlt : k < wss.length
    · have h1 := hw _ (mem_at hlt)
      have htl : (wss.take k).length = k := by rw [List.length_take]; omega
      have hs := take_snoc hlt
      refine zst ?_
      refine zcd (clw_fn wss[k]! (by omega)) ?_
      exact zn1 (hJ _ (⟨k + 1, hlt⟩) (by first | omega | (dsimp only; omega) | (simp; omega))) hs
    obtain rfl : k = wss.length := by omega
    refine zst ?_
    refine ev_nil2 7 false 4 rfl ?_
    refine ret m_recv_ok [] ?_; (first | (simp only [go_sem]; done) | (simp only [go_sem]; ((try dsimp only); (repeat' (refine And.intro ?_ ?_)) <;> first | with_reducible rfl | (simp only [go_sem]; done) | (simp only [go_sem]; rfl) | (simp only [go_sem, List.take_length]; done) | (simp only [List.take_length]; (try simp only [go_sem]); first | done | rfl) | (simp only [go_sem]; simp [List.take_length]; done) | (simp [List.take_length]; done) | rfl)))
  by_cases c3 : n < 0
  · rw [fail (.inr (.inr c3))]
    refine zgo m_recv_ok fun W S => ?_
    refine ev_adopt (i := 9) (e := 29) (s := 1) rfl (by decide) ?_
    refine ev_loopK [0, 1, 2, 15, 16] (fun p : {p : Nat // p ≤ wss.length} => [(9, .own 0 p.1), (17, .int .i64 p.1)]) (fun p => [⟨.row 29, true, p.1, .arr 1 ((wss.take p.1).map (slV' true 1 (V.int .u16)))⟩]) (fun p => wss.length - p.1) (⟨0, by simp⟩) 1 (by simp only [go_sem]; rfl) ?_ (by first | rfl | (simp only [go_sem]; done)) (by simp) (by first | rfl | (simp only [go_sem]; done)) (by first | rfl | (simp only [go_sem]; done)) (by first | rfl | (simp only [go_sem]; done)) ?_
    · (simp only [go_sem]; (try simp []); done)
    intro J hJ
    rintro ⟨k, hk0⟩
    by_cases hlt : k < wss.length
    · have h1 := hw _ (mem_at hlt)
      have htl : (wss.take k).length = k := by rw [List.length_take]; omega
      have hs := take_snoc hlt
      refine zst ?_
      refine zcd (clw_fn wss[k]! (by omega)) ?_
      exact zn1 (hJ _ (⟨k + 1, hlt⟩) (by first | omega | (dsimp only; omega) | (simp; omega))) hs
    obtain rfl : k = wss.length := by omega
    refine zst ?_
    refine ev_nil2 7 false 4 rfl ?_
    refine ret m_recv_ok [] ?_; (first | (simp only [go_sem]; done) | (simp only [go_sem]; ((try dsimp only); (repeat' (refine And.intro ?_ ?_)) <;> first | with_reducible rfl | (simp only [go_sem]; done) | (simp only [go_sem]; rfl) | (simp only [go_sem, List.take_length]; done) | (simp only [List.take_length]; (try simp only [go_sem]); first | done | rfl) | (simp only [go_sem]; simp [List.take_length]; done) | (simp [List.take_length]; done) | rfl)))
  obtain ⟨S0, rfl⟩ := Int.eq_ofNat_of_zero_le (show 0 ≤ s by omega)
  have hS0 : S0 < wss.length := by omega
  obtain ⟨w, hwe⟩ : ∃ w, wss[S0]! = w := ⟨_, rfl⟩
  have hwl : w.length ≤ 100000 := by rw [← hwe]; exact hw _ (mem_at hS0)
  obtain ⟨M, hM⟩ : ∃ M, M = min n.toNat w.length := ⟨_, rfl⟩
  have hmin : (if (w.length : Int) < n then (w.length : Int) else n) = (M : Int) := by split <;> omega
  have e : sRecv wss S0 n = (wss.set S0 (w.drop M), numC (w.take M), true) := by
    rw [sRecv, if_neg (by omega), Int.toNat_natCast, hwe, ← hM]
  rw [e]
  obtain ⟨X, hXe⟩ : ∃ X, List.take M w = X := ⟨_, rfl⟩
  have hX : X.length = M := by rw [← hXe, List.length_take]; omega
  have hg : (wss.map (slV' true 1 (V.int .u16))).getD S0 .junk = V.sl true 1 (w.map (V.int .u16)) := by rw [getD_map _ _ _ hS0, hwe]
  rw [hXe]
  refine zgo m_recv_ok fun W S => ?_
  refine ev_adopt (i := 9) (e := 29) (s := 1) rfl (by decide) ?_
  refine ev_loopK [0, 1, 2, 15, 16] (fun p : {p : Nat // p ≤ wss.length} => [(9, .own 0 p.1), (17, .int .i64 p.1)]) (fun p => [⟨.row 29, true, p.1, .arr 1 ((wss.take p.1).map (slV' true 1 (V.int .u16)))⟩]) (fun p => wss.length - p.1) (⟨0, by simp⟩) 1 (by simp only [go_sem]; rfl) ?_ (by first | rfl | (simp only [go_sem]; done)) (by simp) (by first | rfl | (simp only [go_sem]; done)) (by first | rfl | (simp only [go_sem]; done)) (by first | rfl | (simp only [go_sem]; done)) ?_
  · (simp only [go_sem]; (try simp []); done)
  intro J hJ
  rintro ⟨k, hk0⟩
  by_cases hlt : k < wss.length
  · have h1 := hw _ (mem_at hlt)
    have htl : (wss.take k).length = k := by rw [List.length_take]; omega
    have hs := take_snoc hlt
    refine zst ?_
    refine zcd (clw_fn wss[k]! (by omega)) ?_
    exact zn1 (hJ _ (⟨k + 1, hlt⟩) (by first | omega | (dsimp only; omega) | (simp; omega))) hs
  obtain rfl : k = wss.length := by omega
  rw [List.take_length]
  repeat (first | (simp only [hwe, hmin, Int.toNat_natCast, hXe]; try simp only [go_sem]) | refine And.intro (by omega) ?_ | refine And.intro rfl ?_ | refine ev_ctl rfl rfl ?_ | refine evr_nil ?_ | refine evw_nil (by kernel_rfl) ?_ | (simp (disch := omega) only [takeAll, Nat.min_eq_left, Nat.min_eq_right, if_pos, if_neg, getD_map, wrapI64, modIn, fdivE, tmodE, tdivE, decT, decF, beqT, beqF, bneT, bneF, Int.toNat_natCast]; try simp only [go_sem]) | (refine ev_condTb rfl ?_ ?_; · (simp <;> omega)) | (refine ev_condFb rfl ?_ ?_; · (simp <;> omega)) | ((first | refine ev_region ?_ | refine evr_go rfl ?_ | refine evw_go rfl ?_ | refine ev_dr0 mixed rfl (by kernel_rfl) ?_ | refine ev_dr1 mixed rfl (by kernel_rfl) ?_ | refine ev_dr2 mixed rfl (by kernel_rfl) ?_); simp only [go_sem]))
  refine ev_adopt (i := 12) (e := 43) (s := 4) rfl (by decide) ?_
  refine ev_loopK [1, 2, 9, 52, 53] (fun p : {p : Nat // p ≤ X.length} => [(12, .own 1 p.1), (54, .int .i64 p.1)]) (fun p => [⟨.row 29, true, wss.length, .arr 1 (wss.map (slV' true 1 (V.int .u16)))⟩, ⟨.row 43, true, p.1, .arr 4 ((numC (X.take p.1)).map canonV)⟩]) (fun p => X.length - p.1) (⟨0, by simp⟩) 2 (by simp only [go_sem]; rfl) ?_ (by first | rfl | (simp only [go_sem]; done) | (simp only [go_sem]; simp [numC_zero]; done)) (by simp) (by first | rfl | (simp only [go_sem]; done)) (by first | rfl | (simp only [go_sem]; done)) (by first | rfl | (simp only [go_sem]; done) | (simp only [numC_zero]; (try simp only [go_sem]); first | done | rfl)) ?_
  · (simp only [go_sem]; (try simp [numC_zero]); done)
  intro J hJ
  rintro ⟨k, hk0⟩
  by_cases hlt : k < X.length
  · have hl2 := numC_len (X.take k)
    have hl3 : (X.take k).length = k := by rw [List.length_take]; omega
    have hs := numC_snoc hlt
    refine zst ?_
    exact zn2 (hJ _ (⟨k + 1, hlt⟩) (by first | omega | (dsimp only; omega) | (simp; omega))) hs
  obtain rfl : k = X.length := by omega
  repeat (first | (simp only [Int.toNat_natCast, hg]; try simp only [go_sem]) | refine And.intro (by omega) ?_ | refine And.intro rfl ?_ | refine ev_ctl rfl rfl ?_ | refine evr_nil ?_ | refine evw_nil (by kernel_rfl) ?_ | (simp (disch := omega) only [takeAll, Nat.min_eq_left, Nat.min_eq_right, if_pos, if_neg, getD_map, wrapI64, modIn, fdivE, tmodE, tdivE, decT, decF, beqT, beqF, bneT, bneF, Int.toNat_natCast]; try simp only [go_sem]) | (refine ev_condTb rfl ?_ ?_; · (simp <;> omega)) | (refine ev_condFb rfl ?_ ?_; · (simp <;> omega)) | ((first | refine ev_region ?_ | refine evr_go rfl ?_ | refine evw_go rfl ?_ | refine ev_dr0 mixed rfl (by kernel_rfl) ?_ | refine ev_dr1 mixed rfl (by kernel_rfl) ?_ | refine ev_dr2 mixed rfl (by kernel_rfl) ?_); simp only [go_sem]))
  exact zrt m_recv_ok
set_option maxHeartbeats 8000000 in
theorem rrecvG_fn (wss : List (List Int)) (s n : Int) (hl : wss.length ≤ 1000) (hw : ∀ w ∈ wss, w.length ≤ 100000) : Fnc Tryz.prog 70 [.sl false 1 (wss.map (slV' false 1 (V.int .u16))), .int .i64 s, .int .i64 n] (fun x obs => x = .tup [.sl false 1 ((sRecv wss s n).1.map (slV' false 1 (V.int .u16))), .sl false 4 ((sRecv wss s n).2.1.map canonV), .bool (sRecv wss s n).2.2] ∧ obs = []) := by
  refine Fnc.low ?_
  have fail : (s < 0 ∨ s ≥ wss.length ∨ n < 0) → sRecv wss s n = (wss, [], false) := fun h => by rw [sRecv, if_pos h]
  by_cases c1 : s < 0
  · rw [fail (.inl c1)]
    refine zgo m_rrecv_ok fun W S => ?_
    refine zcx (copyinG_fn wss hl hw) ?_
    refine ev_nil2 7 false 4 rfl ?_
    refine ret m_rrecv_ok [] ?_; (first | (simp only [go_sem]; done) | (simp only [go_sem]; ((try dsimp only); (repeat' (refine And.intro ?_ ?_)) <;> first | with_reducible rfl | (simp only [go_sem]; done) | (simp only [go_sem]; rfl) | (simp only [go_sem, List.take_length]; done) | (simp only [List.take_length]; (try simp only [go_sem]); first | done | rfl) | (simp only [go_sem]; simp [List.take_length]; done) | (simp [List.take_length]; done) | rfl)))
  by_cases c2 : s ≥ wss.length
  · rw [fail (.inr (.inl c2))]
    refine zgo m_rrecv_ok fun W S => ?_
    refine zcx (copyinG_fn wss hl hw) ?_
    refine ev_nil2 7 false 4 rfl ?_
    refine ret m_rrecv_ok [] ?_; (first | (simp only [go_sem]; done) | (simp only [go_sem]; ((try dsimp only); (repeat' (refine And.intro ?_ ?_)) <;> first | with_reducible rfl | (simp only [go_sem]; done) | (simp only [go_sem]; rfl) | (simp only [go_sem, List.take_length]; done) | (simp only [List.take_length]; (try simp only [go_sem]); first | done | rfl) | (simp only [go_sem]; simp [List.take_length]; done) | (simp [List.take_length]; done) | rfl)))
  by_cases c3 : n < 0
  · rw [fail (.inr (.inr c3))]
    refine zgo m_rrecv_ok fun W S => ?_
    refine zcx (copyinG_fn wss hl hw) ?_
    refine ev_nil2 7 false 4 rfl ?_
    refine ret m_rrecv_ok [] ?_; (first | (simp only [go_sem]; done) | (simp only [go_sem]; ((try dsimp only); (repeat' (refine And.intro ?_ ?_)) <;> first | with_reducible rfl | (simp only [go_sem]; done) | (simp only [go_sem]; rfl) | (simp only [go_sem, List.take_length]; done) | (simp only [List.take_length]; (try simp only [go_sem]); first | done | rfl) | (simp only [go_sem]; simp [List.take_length]; done) | (simp [List.take_length]; done) | rfl)))
  obtain ⟨S0, rfl⟩ := Int.eq_ofNat_of_zero_le (show 0 ≤ s by omega)
  have hS0 : S0 < wss.length := by omega
  obtain ⟨w, hwe⟩ : ∃ w, wss[S0]! = w := ⟨_, rfl⟩
  have hwl : w.length ≤ 100000 := by rw [← hwe]; exact hw _ (mem_at hS0)
  obtain ⟨M, hM⟩ : ∃ M, M = min n.toNat w.length := ⟨_, rfl⟩
  have hmin : (if (w.length : Int) < n then (w.length : Int) else n) = (M : Int) := by split <;> omega
  have e : sRecv wss S0 n = (wss.set S0 (w.drop M), numC (w.take M), true) := by
    rw [sRecv, if_neg (by omega), Int.toNat_natCast, hwe, ← hM]
  rw [e]
  obtain ⟨X, hXe⟩ : ∃ X, List.take M w = X := ⟨_, rfl⟩
  have hX : X.length = M := by rw [← hXe, List.length_take]; omega
  have hg : (wss.map (slV' true 1 (V.int .u16))).getD S0 .junk = V.sl true 1 (w.map (V.int .u16)) := by rw [getD_map _ _ _ hS0, hwe]
  rw [hXe]
  refine zgo m_rrecv_ok fun W S => ?_
  refine zcx (copyinG_fn wss hl hw) ?_
  repeat (first | (simp only [hwe, hmin, Int.toNat_natCast, hXe]; try simp only [go_sem]) | refine And.intro (by omega) ?_ | refine And.intro rfl ?_ | refine ev_ctl rfl rfl ?_ | refine evr_nil ?_ | refine evw_nil (by kernel_rfl) ?_ | (simp (disch := omega) only [takeAll, Nat.min_eq_left, Nat.min_eq_right, if_pos, if_neg, getD_map, wrapI64, modIn, fdivE, tmodE, tdivE, decT, decF, beqT, beqF, bneT, bneF, Int.toNat_natCast]; try simp only [go_sem]) | (refine ev_condTb rfl ?_ ?_; · (simp <;> omega)) | (refine ev_condFb rfl ?_ ?_; · (simp <;> omega)) | ((first | refine ev_region ?_ | refine evr_go rfl ?_ | refine evw_go rfl ?_ | refine ev_dr0 mixed rfl (by kernel_rfl) ?_ | refine ev_dr1 mixed rfl (by kernel_rfl) ?_ | refine ev_dr2 mixed rfl (by kernel_rfl) ?_); simp only [go_sem]))
  refine ev_adopt (i := 11) (e := 43) (s := 4) rfl (by decide) ?_
  refine ev_loopK [1, 9, 10, 41, 42] (fun p : {p : Nat // p ≤ X.length} => [(11, .own 1 p.1), (43, .int .i64 p.1)]) (fun p => [⟨.row 29, true, 0, .arr 1 (wss.map (slV' true 1 (V.int .u16)))⟩, ⟨.row 43, true, p.1, .arr 4 ((numC (X.take p.1)).map canonV)⟩]) (fun p => X.length - p.1) (⟨0, by simp⟩) 2 (by simp only [go_sem]; rfl) ?_ (by first | rfl | (simp only [go_sem]; done) | (simp only [go_sem]; simp [numC_zero]; done)) (by simp) (by first | rfl | (simp only [go_sem]; done)) (by first | rfl | (simp only [go_sem]; done)) (by first | rfl | (simp only [go_sem]; done) | (simp only [numC_zero]; (try simp only [go_sem]); first | done | rfl)) ?_
  · (simp only [go_sem]; (try simp [numC_zero]); done)
  intro J hJ
  rintro ⟨k, hk0⟩
  by_cases hlt : k < X.length
  · have hl2 := numC_len (X.take k)
    have hl3 : (X.take k).length = k := by rw [List.length_take]; omega
    have hs := numC_snoc hlt
    refine zst ?_
    exact zn2 (hJ _ (⟨k + 1, hlt⟩) (by first | omega | (dsimp only; omega) | (simp; omega))) hs
  obtain rfl : k = X.length := by omega
  repeat (first | (simp only [Int.toNat_natCast, hg]; try simp only [go_sem]) | refine And.intro (by omega) ?_ | refine And.intro rfl ?_ | refine ev_ctl rfl rfl ?_ | refine evr_nil ?_ | refine evw_nil (by kernel_rfl) ?_ | (simp (disch := omega) only [takeAll, Nat.min_eq_left, Nat.min_eq_right, if_pos, if_neg, getD_map, wrapI64, modIn, fdivE, tmodE, tdivE, decT, decF, beqT, beqF, bneT, bneF, Int.toNat_natCast]; try simp only [go_sem]) | (refine ev_condTb rfl ?_ ?_; · (simp <;> omega)) | (refine ev_condFb rfl ?_ ?_; · (simp <;> omega)) | ((first | refine ev_region ?_ | refine evr_go rfl ?_ | refine evw_go rfl ?_ | refine ev_dr0 mixed rfl (by kernel_rfl) ?_ | refine ev_dr1 mixed rfl (by kernel_rfl) ?_ | refine ev_dr2 mixed rfl (by kernel_rfl) ?_); simp only [go_sem]))
  exact zrt m_rrecv_ok
end Go.Proofs.YtkfpcgkmemfdaaaGreat
