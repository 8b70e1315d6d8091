/- H1, H2, H3, H4, RH5, in one text. -/
import Derived.Test.YtdpfglkjhdnbbaaGreatGF
import Derived.Test.YtdpfglkjhdnbbaaGreatC5
import Derived.Test.YtdpfglkjhdnbbaaGreatC4
namespace Go.Proofs.YtdpfglkjhdnbbaaGreat
open Go Go.RowKit Rdn Rdn.Dp
set_option linter.unusedVariables false
set_option linter.unusedSimpArgs false
theorem m_clcanon_ok : compF Tryz.prog 70 = some (8, Qr ([Qp 2 (.mov (.c (.nilS)))])
 (.seq (Qr ([Qm 3 0, Qp 4 (.bin 2 .eql (.t 3) (.c (.nilS)))])
 (.cond (.t 4) (Qr ([Qp 2 (.mov (.c (.nilS)))])
 (.ret)) (.skip)))
 (Qr ([Qw 5 (.buildS 69 4 (.agg [.int .u8 0, .int .u16 0, .int .i64 0, .int .i64 0]) 0 []), Qm 6 0, Qw 7 (.app 69 4 24 (.t 5) (.t 6)), Qm 2 7])
 (.ret))), [.mov (.t 2)]) := by kernel_rfl
theorem m_clout_ok : compF Tryz.prog 104 = some (8, Qr ([Qp 2 (.mov (.c (.nilS)))])
 (.seq (Qr ([Qm 3 0, Qp 4 (.bin 2 .eql (.t 3) (.c (.nilS)))])
 (.cond (.t 4) (Qr ([Qp 2 (.mov (.c (.nilS)))])
 (.ret)) (.skip)))
 (Qr ([Qw 5 (.buildS 75 3 (.agg [.int .i64 0, .int .i64 0, .nilS]) 0 []), Qm 6 0, Qw 7 (.app 75 3 40 (.t 5) (.t 6)), Qm 2 7])
 (.ret))), [.mov (.t 2)]) := by kernel_rfl
theorem m_wout_ok : compF Tryz.prog 80 = some (8, Qr ([Qw 1 (.box 75 (.t 0)), Qw 2 (.alloc 75 (.agg [.int .i64 0, .int .i64 0, .nilS]))])
 (Qr ([Qf 3 2 2 1, Ql 4 1 3, Qq 5 70 [(.t 4)], Qf 6 2 2 1, Qs 1 6 5])
 (Qr ([QL 7 3 1, Qs 3 2 7])
 (.ret))), [.load true 3 (.t 2)]) := by kernel_rfl
theorem m_rout_ok : compF Tryz.prog 85 = some (9, Qr ([Qw 1 (.box 75 (.t 0)), Qw 2 (.alloc 75 (.agg [.int .i64 0, .int .i64 0, .nilS]))])
 (Qr ([Qw 3 (.buildS 69 4 (.agg [.int .u8 0, .int .u16 0, .int .i64 0, .int .i64 0]) 0 []), Qf 4 2 2 1, Ql 5 1 4, Qw 6 (.app 69 4 24 (.t 3) (.t 5)), Qf 7 2 2 1, Qs 1 7 6])
 (Qr ([QL 8 3 1, Qs 3 2 8])
 (.ret))), [.load true 3 (.t 2)]) := by kernel_rfl
theorem m_routs_ok : compF Tryz.prog 84 = some (20, Qr ([Qp 2 (.mov (.c (.nilS)))])
 (Qr ([Qp 3 (.mov (.c (.nilS)))])
 (.seq (Qr ([Qp 4 (.mov (Qi 0))])
 (.block 0 (.loop (.seq (Qr ([Qm 5 4, Qm 6 0, Qn 7 6, Qb 8 .lss 5 7])
 (.cond (.t 8) (.skip) (.exit 0)))
 (.seq (.block 1 (.reg [Qm 11 3, Qm 12 0, Qm 13 4, Qx 14 3 12 13, QL 15 3 14, Qq 16 85 [(.t 15)], Qw 17 (.buildS 75 3 (.agg [.int .i64 0, .int .i64 0, .nilS]) 1 [(0, (.t 16))]), Qw 18 (.app 75 3 40 (.t 11) (.t 17)), Qm 3 18]))
 (.reg [Qm 9 4, Qk 10 .add 9 1, Qm 4 10]))))))
 (Qr ([Qm 19 3, Qm 2 19])
 (.ret)))), [.mov (.t 2)]) := by kernel_rfl
set_option maxHeartbeats 4000000 in
theorem clcanon_fn (l : List Canon) (hb : l.length ≤ 5864062014634) : Fnc Tryz.prog 70 [.sl false 4 (l.map canonV)] (fun x obs => x = .sl true 4 (l.map canonV) ∧ obs = []) := by
  refine Fnc.intro m_clcanon_ok (by simp) fun W S => ?_
  simp only [ents, Nat.zero_add, Nat.reduceAdd, Qm, Qc, Ql, QL, Qf, Qs, Qb, Qk, QB, Qn, Qe, Qx, Qt, Qu, Q0, Q1, Qp, Qw, Qq, Qr, Qi]
  refine zsu ?_
  refine zs1 ?_
  refine zsu ?_
  refine ev_reg ?_
  refine evr_p rfl trivial ?_
  refine evr_nilq rfl rfl fun b hb0 => ?_
  cases b with
  | false =>
    simp only [aopP, X.ev, slotV, AS.put, if_true]
    refine zst ?_
    exact zrt m_clcanon_ok
  | true =>
    have hl : l = [] := by
      cases l with
      | nil => rfl
      | cons a l => exact absurd (hb0 (by simp)) (by simp)
    subst hl
    simp only [aopP, X.ev, slotV, AS.put, if_true]
    refine zsu ?_
    refine zs1 ?_
    refine zsu ?_
    refine ev_nil2 2 true 4 rfl ?_
    exact zrt m_clcanon_ok
set_option maxHeartbeats 4000000 in
theorem clout_own (l : List Output) (hb : l.length ≤ 3518437208880) : Fnc Tryz.prog 104 [.sl false 3 (l.map (outputV false))] (fun x obs => x = .own 0 0 ∧ obs = [⟨.row 75, true, 0, .arr 3 (l.map (outputV false))⟩]) := by
  refine Fnc.intro m_clout_ok (by simp) fun W S => ?_
  simp only [ents, Nat.zero_add, Nat.reduceAdd, Qm, Qc, Ql, QL, Qf, Qs, Qb, Qk, QB, Qn, Qe, Qx, Qt, Qu, Q0, Q1, Qp, Qw, Qq, Qr, Qi]
  refine zsu ?_
  refine zs1 ?_
  refine zsu ?_
  refine ev_reg ?_
  refine evr_p rfl trivial ?_
  refine evr_nilq rfl rfl fun b hb0 => ?_
  cases b with
  | false =>
    simp only [aopP, X.ev, slotV, AS.put, if_true]
    refine zst ?_
    refine ret m_clout_ok [0] ?_; exact zfn
  | true =>
    have hl : l = [] := by
      cases l with
      | nil => rfl
      | cons a l => exact absurd (hb0 (by simp)) (by simp)
    subst hl
    simp only [aopP, X.ev, slotV, AS.put, if_true]
    refine zsu ?_
    refine zs1 ?_
    refine zsu ?_
    refine ev_adopt (i := 2) (e := 75) (s := 3) rfl (by decide) ?_
    refine ret m_clout_ok [0] ?_; exact zfn
def shortO (m : Nat) (l : List Output) : Prop := ∀ o ∈ l, o.data.length ≤ m
theorem shortO.take {m : Nat} {l : List Output} (h : shortO m l) (k : Nat) : shortO m (l.take k) := fun o ho => h o (List.mem_of_mem_take ho)
theorem shortO.drop {m : Nat} {l : List Output} (h : shortO m l) (k : Nat) : shortO m (l.drop k) := fun o ho => h o (List.mem_of_mem_drop ho)
theorem shortO.mono {m n : Nat} {l : List Output} (h : shortO m l) (hmn : m ≤ n) : shortO n l := fun o ho => Nat.le_trans (h o ho) hmn
set_option maxHeartbeats 4000000 in
theorem wout_fn (o : Output) (hd : o.data.length ≤ 5864062014634) : Fnc Tryz.prog 80 [outputV false o] (fun x obs => x = outputV true o ∧ obs = []) := by
  refine zgo m_wout_ok fun W S => ?_
  refine zcd (clcanon_fn o.data hd) ?_
  exact zrt m_wout_ok
set_option maxHeartbeats 4000000 in
theorem rout_fn (o : Output) (hd : o.data.length ≤ 5864062014634) : Fnc Tryz.prog 85 [outputV false o] (fun x obs => x = outputV true o ∧ obs = []) := by
  refine zgo m_rout_ok fun W S => ?_
  exact zrt m_rout_ok
set_option maxHeartbeats 4000000 in
theorem routs_fn (l : List Output) (hb : l.length ≤ 3518437208880) (hd : shortO 5864062014634 l) : Fnc Tryz.prog 84 [.sl false 3 (l.map (outputV false))] (fun x obs => x = .own 0 0 ∧ obs = [⟨.row 75, true, 0, .arr 3 (l.map (outputV true))⟩]) := by
  refine zgo m_routs_ok fun W S => ?_
  refine ev_adopt (i := 3) (e := 75) (s := 3) rfl (by decide) ?_
  refine ev_loopK [0] (fun p : {p : Nat // p ≤ l.length} => [(3, .own 0 p.1), (4, .int .i64 p.1)]) (fun p => [⟨.row 75, true, p.1, .arr 3 ((l.take p.1).map (outputV true))⟩]) (fun p => l.length - p.1) (⟨0, by simp⟩) 1 (by simp only [go_sem]; rfl) ?_ (by first | rfl | (simp only [go_sem]; done)) (by simp) (by first | rfl | (simp only [go_sem]; done)) (by first | rfl | (simp only [go_sem]; done)) (by first | rfl | (simp only [go_sem]; done)) ?_
  · (simp only [go_sem]; (try simp []); done)
  intro J hJ
  rintro ⟨k, hk0⟩
  by_cases hlt : k < l.length
  · have hdk : l[k]!.data.length ≤ 5864062014634 := hd _ (mem_at hlt)
    have htl : (l.take k).length = k := by simp; omega
    refine zst ?_
    refine zcd (rout_fn l[k]! hdk) ?_
    refine ev_next 1 (hJ _ (⟨k + 1, hlt⟩) (by first | omega | (dsimp only; omega) | (simp; omega))) rfl (by simp) ?_ (by first | rfl | (simp only [go_sem]; done)) (by first | rfl | (simp only [go_sem]; done) | (simp only [take_snoc hlt]; (try simp only [go_sem]); first | done | rfl)) ?_
    · (first | rfl | (simp only [go_sem]; done) | (simp only [go_sem]; simp only [take_snoc hlt]; done) | (simp only [take_snoc hlt]; done) | (simp only [go_sem]; simp [take_snoc hlt]; done) | (simp [take_snoc hlt]; done))
    · (simp only [go_sem]; (repeat' (refine And.intro ?_ ?_)) <;> first | exact trivial | with_reducible rfl | (simp only [take_snoc hlt]; done) | (simp only [take_snoc hlt]; with_reducible rfl) | (simp [take_snoc hlt]; done) | (simp [take_snoc hlt]; omega) | (simp only [take_snoc hlt]; rfl) | skip)
  · obtain rfl : k = l.length := by omega
    refine zst ?_
    refine ret m_routs_ok [0] ?_; (first | (simp only [go_sem]; done) | (simp only [go_sem]; ((try dsimp only); (repeat' (refine And.intro ?_ ?_)) <;> first | with_reducible rfl | (simp only [go_sem]; done) | (simp only [go_sem]; rfl) | (simp only [go_sem, List.take_length]; done) | (simp only [List.take_length]; (try simp only [go_sem]); first | done | rfl) | (simp only [go_sem]; simp [List.take_length]; done) | (simp [List.take_length]; done) | rfl)))
end Go.Proofs.YtdpfglkjhdnbbaaGreat
namespace Go.Proofs.YtdpfglkjhdnbbaaGreat
open Go Go.RowKit Rdn Rdn.Dp
set_option linter.unusedVariables false
set_option linter.unusedSimpArgs false
theorem m_wouts_ok : compF Tryz.prog 79 = some (22, Qr ([Qp 2 (.mov (.c (.nilS)))])
 (Qr ([Qm 6 0, Qq 7 104 [(.t 6)], Qm 3 7])
 (.seq (Qr ([Qm 8 3, Qn 9 8, Qp 10 (.mov (Qi 0))])
 (.block 0 (.loop (Qr ([Qb 11 .lss 10 9])
 (.seq (.cond (.t 11) (.skip) (.exit 0))
 (.seq (.block 1 (Qr ([Qm 12 10, Qx 13 3 8 10, QL 14 3 13, Qw 5 (.alloc 75 (.agg [.int .i64 0, .int .i64 0, .nilS])), Qm 4 12, Qs 3 5 14])
 (.reg [Qm 15 3, Qm 16 4, QL 17 3 5, Qq 18 80 [(.t 17)], Qx 19 3 15 16, Qs 3 19 18])))
 (.reg [Qk 20 .add 10 1, Qm 10 20])))))))
 (Qr ([Qm 21 3, Qm 2 21])
 (.ret)))), [.mov (.t 2)]) := by kernel_rfl
theorem m_fits_ok : compF Tryz.prog 69 = some (16, Qr ([Qc 4 (.bool false)])
 (Qr ([Qm 5 0, Qk 6 .geq 5 0, Qm 7 6, Q1 8 7 (.mov (.t 0)), Q1 9 7 (.bin 0 .lss (.t 8) (Qi 2)), Qu 10 7 9, Qm 11 10, Q1 12 11 (.mov (.t 1)), Q1 13 11 (.len (.t 12)), Q1 14 11 (.bin 0 .leq (.t 13) (Qi 16)), Qu 15 11 14, Qm 4 15])
 (.ret)), [.mov (.t 4)]) := by kernel_rfl
theorem m_gwchk_ok : compF Tryz.prog 42 = some (68, Qr ([Qw 1 (.box 31 (.t 0)), Qp 2 (.mov (Qi 0))])
 (.seq (Qr ([Qf 5 2 2 1, Ql 6 1 5, Qk 7 .lss 6 0, Qm 8 7, Q0 9 8 (.fieldA 2 2 (.t 1)), Q0 10 8 (.load false 1 (.t 9)), Q0 11 8 (.fieldA 1 1 (.t 1)), Q0 12 8 (.load false 1 (.t 11)), Q0 13 8 (.bin 0 .gtr (.t 10) (.t 12)), Qt 14 8 13, Qm 15 14, Q0 16 15 (.fieldA 1 1 (.t 1)), Q0 17 15 (.load false 1 (.t 16)), Q0 18 15 (.fieldA 0 0 (.t 1)), Q0 19 15 (.load false 1 (.t 18)), Q0 20 15 (.bin 0 .gtr (.t 17) (.t 19)), Qt 21 15 20, Qm 22 21, Q0 23 22 (.fieldA 0 0 (.t 1)), Q0 24 22 (.load false 1 (.t 23)), Q0 25 22 (.bin 0 .gtr (.t 24) (Qi 200)), Qt 26 22 25, Qm 27 26, Q0 28 27 (.fieldA 3 3 (.t 1)), Q0 29 27 (.load false 1 (.t 28)), Q0 30 27 (.len (.t 29)), Q0 31 27 (.bin 0 .gtr (.t 30) (Qi 64)), Qt 32 27 31, Qm 33 32, Q0 34 33 (.fieldA 3 3 (.t 1)), Q0 35 33 (.load false 1 (.t 34)), Q0 36 33 (.len (.t 35)), Q0 37 33 (.fieldA 0 0 (.t 1)), Q0 38 33 (.load false 1 (.t 37)), Q0 39 33 (.fieldA 2 2 (.t 1)), Q0 40 33 (.load false 1 (.t 39)), Q0 41 33 (.bin 0 .sub (.t 38) (.t 40)), Q0 42 33 (.bin 0 .neq (.t 36) (.t 41)), Qt 43 33 42])
 (.cond (.t 43) (Qr ([Qp 2 (.mov (Qi 1))])
 (.ret)) (.skip)))
 (.seq (Qr ([Qf 44 3 3 1, Ql 45 1 44, Qn 46 45, Qp 47 (.mov (Qi 0))])
 (.block 0 (.loop (Qr ([Qb 48 .lss 47 46])
 (.seq (.cond (.t 48) (.skip) (.exit 0))
 (.seq (.block 1 (Qr ([Qm 49 47, Qx 50 3 45 47, QL 51 3 50, Qw 4 (.alloc 75 (.agg [.int .i64 0, .int .i64 0, .nilS])), Qm 3 49, Qs 3 4 51])
 (Qr ([Qf 52 0 0 4, Ql 53 1 52, Qf 54 2 2 1, Ql 55 1 54, Qm 56 3, Qb 57 .add 55 56, Qb 58 .neq 53 57, Qm 59 58, Q0 60 59 (.fieldA 1 1 (.t 4)), Q0 61 59 (.load false 1 (.t 60)), Q0 62 59 (.fieldA 2 2 (.t 4)), Q0 63 59 (.load false 1 (.t 62)), ⟨(some 64), (some (59, false)), (.call 69 [(.t 61), (.t 63)])⟩, Q0 65 59 (.un .not (.t 64)), Qt 66 59 65])
 (.cond (.t 66) (Qr ([Qp 2 (.mov (Qi 1))])
 (.ret)) (.skip)))))
 (.reg [Qk 67 .add 47 1, Qm 47 67])))))))
 (Qr ([Qp 2 (.mov (Qi 0))])
 (.ret)))), [.mov (.t 2)]) := by kernel_rfl
def mixO (l : List Output) (p : Nat) : List V := (l.take p).map (outputV true) ++ (l.drop p).map (outputV false)
theorem mixO_all (l : List Output) : mixO l l.length = l.map (outputV true) := by simp [mixO]
theorem mixO_len (l : List Output) (p : Nat) : (mixO l p).length = l.length := by simp [mixO]; omega
theorem mixO_get {l : List Output} {p : Nat} (h : p < l.length) : (mixO l p).getD p .junk = outputV false l[p]! := by
  unfold mixO
  have h1 : ((l.take p).map (outputV true)).length = p := by simp; omega
  rw [List.getD_eq_getElem?_getD, List.getElem?_append_right (by omega), h1, Nat.sub_self]
  simp [h]
theorem mixO_set {l : List Output} {p : Nat} (h : p < l.length) : (mixO l p).set p (outputV true l[p]!) = mixO l (p + 1) := by
  unfold mixO
  have h1 : ((l.take p).map (outputV true)).length = p := by simp; omega
  rw [List.set_append_right _ _ (by omega), h1, Nat.sub_self, List.drop_eq_getElem_cons h, take_snoc h, List.map_append, List.map_cons, List.set_cons_zero, List.map_cons, List.map_nil, List.append_assoc, List.singleton_append]
theorem mixO_pure (l : List Output) (p : Nat) : V.pures (mixO l p) = true := by
  unfold mixO
  rw [pures_appE, pures_lo, pures_lo]; rfl
theorem clout_mix (l : List Output) (hb : l.length ≤ 3518437208880) : Fnc Tryz.prog 104 [.sl false 3 (l.map (outputV false))] (fun x obs => x = .own 0 0 ∧ obs = [⟨.row 75, true, 0, .arr 3 (mixO l 0)⟩]) := clout_own l hb
theorem mixO_shift (m : Nat) (l : List Output) (p : Nat) : V.shifts m (mixO l p) = mixO l p := V.shifts_pure _ _ (mixO_pure l p)
attribute [local irreducible] mixO
attribute [local go_sem] mixO_pure mixO_len mixO_shift
set_option maxHeartbeats 4000000 in
theorem wouts_fn (l : List Output) (hb : l.length ≤ 3518437208880) (hd : shortO 5864062014634 l) : Fnc Tryz.prog 79 [.sl false 3 (l.map (outputV false))] (fun x obs => x = .own 0 0 ∧ obs = [⟨.row 75, true, 0, .arr 3 (l.map (outputV true))⟩]) := by
  refine zgo m_wouts_ok fun W S => ?_
  refine zcx (clout_mix l hb) ?_
  refine ev_loopK [3, 8, 9] (fun p : {p : Nat // p ≤ l.length} => [(10, .int .i64 p.1)]) (fun p => [⟨.row 75, true, 0, .arr 3 (mixO l p.1)⟩]) (fun p => l.length - p.1) (⟨0, by simp⟩) 1 (by simp only [go_sem]; rfl) ?_ (by first | rfl | (simp only [go_sem]; done) | (simp only [go_sem]; simp [mixO_len]; done)) (by simp) (by first | rfl | (simp only [go_sem]; done)) (by first | rfl | (simp only [go_sem]; done)) (by first | rfl | (simp only [go_sem]; done) | (simp only [mixO_len]; (try simp only [go_sem]); first | done | rfl)) ?_
  · (simp only [go_sem]; (try simp [mixO_len]); done)
  intro J hJ
  rintro ⟨k, hk0⟩
  by_cases hlt : k < l.length
  · have hdk : l[k]!.data.length ≤ 5864062014634 := hd _ (mem_at hlt)
    have hg := mixO_get hlt
    have hs := mixO_set hlt
    refine zst ?_
    simp only [hg]; (refine zev ?_)
    refine zst ?_
    refine zcd (wout_fn l[k]! hdk) ?_
    simp only [hg]; (refine zev ?_)
    refine zst ?_
    exact zn1 (hJ _ (⟨k + 1, hlt⟩) (by first | omega | (dsimp only; omega) | (simp; omega))) hs
  · obtain rfl : k = l.length := by omega
    refine zst ?_
    refine ret m_wouts_ok [0] ?_; (first | (simp only [go_sem]; done) | (simp only [go_sem]; ((try dsimp only); (repeat' (refine And.intro ?_ ?_)) <;> first | with_reducible rfl | (simp only [go_sem]; done) | (simp only [go_sem]; rfl) | (simp only [go_sem, mixO_all]; done) | (simp only [mixO_all]; (try simp only [go_sem]); first | done | rfl) | (simp only [go_sem]; simp [mixO_all]; done) | (simp [mixO_all]; done) | rfl)))
set_option maxHeartbeats 4000000 in
theorem fits_fn (s : Int) (d : List Canon) : Fnc Tryz.prog 69 [.int .i64 s, .sl false 4 (d.map canonV)] (fun x obs => x = .bool (decide (0 ≤ s ∧ s < 2 ∧ d.length ≤ 16)) ∧ obs = []) := by
  refine Fnc.wf fun hw => ?_
  simp only [V.wfs, V.wf, List.length_map] at hw
  have hm := hw.2.1.2
  clear hw
  by_cases c1 : 0 ≤ s
  · by_cases c2 : s < 2
    · have e : decide (0 ≤ s ∧ s < 2 ∧ d.length ≤ 16) = decide ((d.length : Int) ≤ 16) := by rw [Bool.eq_iff_iff]; simp only [decide_eq_true_eq]; omega
      rw [e]
      refine zgo m_fits_ok fun W S => ?_
      exact zrt m_fits_ok
    · have e : decide (0 ≤ s ∧ s < 2 ∧ d.length ≤ 16) = false := decF (by omega)
      rw [e]
      refine zgo m_fits_ok fun W S => ?_
      exact zrt m_fits_ok
  · have e : decide (0 ≤ s ∧ s < 2 ∧ d.length ≤ 16) = false := decF (by omega)
    rw [e]
    refine zgo m_fits_ok fun W S => ?_
    exact zrt m_fits_ok
def okO (a : Int) (j : Nat) (o : Output) : Prop := o.seq = a + j ∧ 0 ≤ o.socket ∧ o.socket < 2 ∧ o.data.length ≤ 16
def okN (g : Gateway) : Prop := 0 ≤ g.acked ∧ g.acked ≤ g.free ∧ g.free ≤ g.next ∧ g.next ≤ 200 ∧ g.held.length ≤ 64 ∧ (g.held.length : Int) = g.next - g.acked
def okG (g : Gateway) : Prop := okN g ∧ ∀ j, j < g.held.length → okO g.acked j g.held[j]!
noncomputable def chk (g : Gateway) : Int := @ite _ (okG g) (Classical.propDecidable _) 0 1
theorem chk_T {g : Gateway} (h : okG g) : chk g = 0 := by unfold chk; exact @if_pos _ (Classical.propDecidable _) h _ _ _
theorem chk_F {g : Gateway} (h : ¬ okG g) : chk g = 1 := by unfold chk; exact @if_neg _ (Classical.propDecidable _) h _ _ _
set_option maxHeartbeats 4000000 in
theorem gwchk_fn (g : Gateway) : Fnc Tryz.prog 42 [.agg (gwL false g)] (fun x obs => x = .int .i64 (chk g) ∧ obs = []) := by
  refine Fnc.wf fun hw => ?_
  simp only [gwL, V.wfs, V.wf, List.length_map] at hw
  have hn := inK_i64' hw.1.1
  have hm := hw.1.2.2.2.1.2
  clear hw
  by_cases c1 : g.acked < 0
  · rw [chk_F (g := g) fun h => by have := h.1.1; omega]
    refine zgo m_gwchk_ok fun W S => ?_
    exact zrt m_gwchk_ok
  by_cases c2 : g.acked > g.free
  · rw [chk_F (g := g) fun h => by have := h.1.2.1; omega]
    refine zgo m_gwchk_ok fun W S => ?_
    exact zrt m_gwchk_ok
  by_cases c3 : g.free > g.next
  · rw [chk_F (g := g) fun h => by have := h.1.2.2.1; omega]
    refine zgo m_gwchk_ok fun W S => ?_
    exact zrt m_gwchk_ok
  by_cases c4 : g.next > 200
  · rw [chk_F (g := g) fun h => by have := h.1.2.2.2.1; omega]
    refine zgo m_gwchk_ok fun W S => ?_
    exact zrt m_gwchk_ok
  by_cases c5 : g.held.length > 64
  · rw [chk_F (g := g) fun h => by have := h.1.2.2.2.2.1; omega]
    refine zgo m_gwchk_ok fun W S => ?_
    exact zrt m_gwchk_ok
  by_cases c6 : (g.held.length : Int) = g.next - g.acked
  · have h0 : okN g := ⟨by omega, by omega, by omega, by omega, by omega, c6⟩
    refine zgo m_gwchk_ok fun W S => ?_
    refine ev_loopK [1, 45, 46] (fun p : {p : Nat // p ≤ g.held.length ∧ ∀ j, j < p → okO g.acked j g.held[j]!} => [(47, .int .i64 p.1)]) (fun _ => [⟨.box false 31, true, 0, .agg (gwL false g)⟩]) (fun p => g.held.length - p.1) (⟨0, by simp⟩) 1 (by simp only [go_sem]; rfl) ?_ (by first | rfl | (simp only [go_sem]; done)) (by simp) (by first | rfl | (simp only [go_sem]; done)) (by first | rfl | (simp only [go_sem]; done)) (by first | rfl | (simp only [go_sem]; done)) ?_
    · (simp only [go_sem]; (try simp []); done)
    intro J hJ
    rintro ⟨k, hk0, hk1⟩
    by_cases hlt : k < g.held.length
    · by_cases d1 : g.held[k]!.seq = g.acked + k
      · by_cases d2 : 0 ≤ g.held[k]!.socket ∧ g.held[k]!.socket < 2 ∧ g.held[k]!.data.length ≤ 16
        · have okS : ∀ j, j < k + 1 → okO g.acked j g.held[j]! := fun j hj => by
            by_cases e : j = k
            · subst e; exact ⟨d1, d2⟩
            · exact hk1 j (by omega)
          refine zst ?_
          refine zcd (fits_fn g.held[k]!.socket g.held[k]!.data) ?_
          exact zn1 (hJ _ (⟨k + 1, hlt, okS⟩) (by first | omega | (dsimp only; omega) | (simp; omega))) hlt
        · rw [chk_F (g := g) fun h => d2 (h.2 k hlt).2]
          refine zst ?_
          refine zcd (fits_fn g.held[k]!.socket g.held[k]!.data) ?_
          exact zrt m_gwchk_ok
      · rw [chk_F (g := g) fun h => d1 (h.2 k hlt).1]
        refine zst ?_
        exact zrt m_gwchk_ok
    · obtain rfl : k = g.held.length := by omega
      rw [chk_T (g := g) ⟨h0, hk1⟩]
      refine zst ?_
      exact zrt m_gwchk_ok
  · rw [chk_F (g := g) fun h => c6 h.1.2.2.2.2.2]
    refine zgo m_gwchk_ok fun W S => ?_
    exact zrt m_gwchk_ok
end Go.Proofs.YtdpfglkjhdnbbaaGreat
namespace Go.Proofs.YtdpfglkjhdnbbaaGreat
open Go Go.RowKit Rdn Rdn.Dp
set_option linter.unusedVariables false
set_option linter.unusedSimpArgs false
theorem m_grchk_ok : compF Tryz.prog 55 = some (79, Qr ([Qw 1 (.box 31 (.t 0)), Qp 2 (.mov (Qi 0))])
 (.seq (Qr ([Qf 5 2 2 1, Ql 6 1 5, Qk 7 .lss 6 0, Qm 8 7, Q0 9 8 (.fieldA 2 2 (.t 1)), Q0 10 8 (.load false 1 (.t 9)), Q0 11 8 (.fieldA 1 1 (.t 1)), Q0 12 8 (.load false 1 (.t 11)), Q0 13 8 (.bin 0 .gtr (.t 10) (.t 12)), Qt 14 8 13, Qm 15 14, Q0 16 15 (.fieldA 1 1 (.t 1)), Q0 17 15 (.load false 1 (.t 16)), Q0 18 15 (.fieldA 0 0 (.t 1)), Q0 19 15 (.load false 1 (.t 18)), Q0 20 15 (.bin 0 .gtr (.t 17) (.t 19)), Qt 21 15 20, Qm 22 21, Q0 23 22 (.fieldA 0 0 (.t 1)), Q0 24 22 (.load false 1 (.t 23)), Q0 25 22 (.bin 0 .gtr (.t 24) (Qi 200)), Qt 26 22 25, Qm 27 26, Q0 28 27 (.fieldA 3 3 (.t 1)), Q0 29 27 (.load false 1 (.t 28)), Q0 30 27 (.len (.t 29)), Q0 31 27 (.bin 0 .gtr (.t 30) (Qi 64)), Qt 32 27 31, Qm 33 32, Q0 34 33 (.fieldA 3 3 (.t 1)), Q0 35 33 (.load false 1 (.t 34)), Q0 36 33 (.len (.t 35)), Q0 37 33 (.fieldA 0 0 (.t 1)), Q0 38 33 (.load false 1 (.t 37)), Q0 39 33 (.fieldA 2 2 (.t 1)), Q0 40 33 (.load false 1 (.t 39)), Q0 41 33 (.bin 0 .sub (.t 38) (.t 40)), Q0 42 33 (.bin 0 .neq (.t 36) (.t 41)), Qt 43 33 42])
 (.cond (.t 43) (Qr ([Qp 2 (.mov (Qi 1))])
 (.ret)) (.skip)))
 (.seq (Qr ([Qp 3 (.mov (Qi 0))])
 (.block 0 (.loop (.seq (Qr ([Qm 44 3, Qf 45 3 3 1, Ql 46 1 45, Qn 47 46, Qb 48 .lss 44 47])
 (.cond (.t 48) (.skip) (.exit 0)))
 (.seq (.block 1 (Qr ([Qf 51 3 3 1, Ql 52 1 51, Qm 53 3, Qx 54 3 52 53, QL 55 3 54, Qw 4 (.alloc 75 (.agg [.int .i64 0, .int .i64 0, .nilS])), Qs 3 4 55])
 (Qr ([Qf 56 0 0 4, Ql 57 1 56, Qf 58 2 2 1, Ql 59 1 58, Qm 60 3, Qb 61 .add 59 60, Qb 62 .neq 57 61, Qm 63 62, Q0 64 63 (.fieldA 1 1 (.t 4)), Q0 65 63 (.load false 1 (.t 64)), Q0 66 63 (.bin 0 .lss (.t 65) (Qi 0)), Qt 67 63 66, Qm 68 67, Q0 69 68 (.fieldA 1 1 (.t 4)), Q0 70 68 (.load false 1 (.t 69)), Q0 71 68 (.bin 0 .geq (.t 70) (Qi 2)), Qt 72 68 71, Qm 73 72, Q0 74 73 (.fieldA 2 2 (.t 4)), Q0 75 73 (.load false 1 (.t 74)), Q0 76 73 (.len (.t 75)), Q0 77 73 (.bin 0 .gtr (.t 76) (Qi 16)), Qt 78 73 77])
 (.cond (.t 78) (Qr ([Qp 2 (.mov (Qi 1))])
 (.ret)) (.skip)))))
 (.reg [Qm 49 3, Qk 50 .add 49 1, Qm 3 50]))))))
 (Qr ([Qp 2 (.mov (Qi 0))])
 (.ret)))), [.mov (.t 2)]) := by kernel_rfl
theorem m_clone_ok : compF Tryz.prog 68 = some (8, Qr ([Qw 1 (.box 31 (.t 0)), Qw 2 (.alloc 31 (.agg [.int .i64 0, .int .i64 0, .int .i64 0, .nilS]))])
 (Qr ([Qf 3 3 3 1, Ql 4 1 3, Qq 5 79 [(.t 4)], Qf 6 3 3 1, Qs 1 6 5])
 (Qr ([QL 7 4 1, Qs 4 2 7])
 (.ret))), [.load true 4 (.t 2)]) := by kernel_rfl
theorem m_woff_ok : compF Tryz.prog 35 = some (52, Qr ([Qw 3 (.box 31 (.t 0)), Qw 6 (.alloc 31 (.agg [.int .i64 0, .int .i64 0, .int .i64 0, .nilS])), Qp 7 (.mov (Qi 0)), Qp 8 (.mov (Qi 0))])
 (Qr ([QL 11 4 3, Qq 12 68 [(.t 11)], Qw 9 (.alloc 31 (.agg [.int .i64 0, .int .i64 0, .int .i64 0, .nilS])), Qs 4 9 12])
 (.seq (Qr ([QL 13 4 3, Qq 14 42 [(.t 13)], Qm 10 14])
 (Qr ([Qm 15 10, Qk 16 .neq 15 0])
 (.cond (.t 16) (Qr ([QL 17 4 9, Qm 18 10, Qs 4 6 17, Qp 7 (.mov (Qi 0)), Qm 8 18])
 (.ret)) (.skip))))
 (.seq (Qr ([Qm 19 1, Qm 20 2, Qq 21 69 [(.t 19), (.t 20)], Qp 22 (.un .not (.t 21))])
 (.cond (.t 22) (Qr ([QL 23 4 9, Qs 4 6 23, Qp 7 (.mov (Qi 0)), Qp 8 (.mov (Qi 1))])
 (.ret)) (.skip)))
 (.seq (Qr ([Qf 24 0 0 3, Ql 25 1 24, Qk 26 .eql 25 200, Qm 27 26, Q0 28 27 (.fieldA 3 3 (.t 3)), Q0 29 27 (.load false 1 (.t 28)), Q0 30 27 (.len (.t 29)), Q0 31 27 (.bin 0 .eql (.t 30) (Qi 64)), Qt 32 27 31])
 (.cond (.t 32) (Qr ([QL 33 4 9, Qs 4 6 33, Qp 7 (.mov (Qi 0)), Qp 8 (.mov (Qi 3))])
 (.ret)) (.skip)))
 (.seq (.dreg [Qf 34 3 3 9, Ql 35 1 34, Qf 36 0 0 3, Ql 37 1 36, Qm 38 1, Qm 39 2, Qq 40 70 [(.t 39)], Qw 41 (.build none [.int .i64 0, .int .i64 0, .nilS] [(0, (.t 37)), (1, (.t 38)), (2, (.t 40))]), Qw 42 (.buildS 75 3 (.agg [.int .i64 0, .int .i64 0, .nilS]) 1 [(0, (.t 41))]), Qw 43 (.app 75 3 40 (.t 35) (.t 42)), Qf 44 3 3 9, Qs 1 44 43] [[], [0], [], [2], [], [], [5], [2, 3, 4, 5, 6], [2, 3, 4, 5, 6, 7], [0, 1, 2, 3, 4, 5, 6, 7, 8], [0, 1, 2, 3, 4, 5, 6, 7, 8, 9], [0, 1, 2, 3, 4, 5, 6, 7, 8, 9, 10]])
 (Qr ([Qf 45 0 0 9, Ql 46 1 45, Qk 47 .add 46 1, Qf 48 0 0 9, Qs 1 48 47])
 (.seq (.dreg [QL 49 4 9, Qf 50 0 0 3, Ql 51 1 50, Qs 4 6 49, Qm 7 51, Qp 8 (.mov (Qi 0))] [[], [], [1], [0], [0, 1, 2, 3], [0, 1, 2, 3, 4]])
 (.ret)))))))), [.load true 4 (.t 6), .mov (.t 7), .mov (.t 8)]) := by kernel_rfl
theorem m_roff_ok : compF Tryz.prog 46 = some (58, Qr ([Qw 3 (.box 31 (.t 0)), Qw 6 (.alloc 31 (.agg [.int .i64 0, .int .i64 0, .int .i64 0, .nilS])), Qp 7 (.mov (Qi 0)), Qp 8 (.mov (Qi 0))])
 (.seq (Qr ([QL 11 4 3, Qq 12 55 [(.t 11)], Qm 9 12])
 (Qr ([Qm 13 9, Qk 14 .neq 13 0])
 (.cond (.t 14) (Qr ([QL 15 4 3, Qm 16 9, Qs 4 6 15, Qp 7 (.mov (Qi 0)), Qm 8 16])
 (.ret)) (.skip))))
 (.seq (Qr ([Qm 17 1, Qk 18 .lss 17 0, Qm 19 18, Q0 20 19 (.mov (.t 1)), Q0 21 19 (.bin 0 .geq (.t 20) (Qi 2)), Qt 22 19 21, Qm 23 22, Q0 24 23 (.mov (.t 2)), Q0 25 23 (.len (.t 24)), Q0 26 23 (.bin 0 .gtr (.t 25) (Qi 16)), Qt 27 23 26])
 (.cond (.t 27) (Qr ([QL 28 4 3, Qs 4 6 28, Qp 7 (.mov (Qi 0)), Qp 8 (.mov (Qi 1))])
 (.ret)) (.skip)))
 (.seq (Qr ([Qf 29 0 0 3, Ql 30 1 29, Qk 31 .eql 30 200, Qm 32 31, Q0 33 32 (.fieldA 3 3 (.t 3)), Q0 34 32 (.load false 1 (.t 33)), Q0 35 32 (.len (.t 34)), Q0 36 32 (.bin 0 .eql (.t 35) (Qi 64)), Qt 37 32 36])
 (.cond (.t 37) (Qr ([QL 38 4 3, Qs 4 6 38, Qp 7 (.mov (Qi 0)), Qp 8 (.mov (Qi 3))])
 (.ret)) (.skip)))
 (Qr ([Qf 39 0 0 3, Ql 40 1 39, Qm 10 40])
 (Qr ([Qf 41 3 3 3, Ql 42 1 41, Qq 43 84 [(.t 42)], Qm 44 10, Qm 45 1, Qm 46 2, Qw 47 (.build none [.int .i64 0, .int .i64 0, .nilS] [(0, (.t 44)), (1, (.t 45)), (2, (.t 46))]), Qq 48 85 [(.t 47)], Qw 49 (.buildS 75 3 (.agg [.int .i64 0, .int .i64 0, .nilS]) 1 [(0, (.t 48))]), Qw 50 (.app 75 3 40 (.t 43) (.t 49)), Qf 51 3 3 3, Qs 1 51 50])
 (Qr ([Qf 52 0 0 3, Ql 53 1 52, Qk 54 .add 53 1, Qf 55 0 0 3, Qs 1 55 54])
 (Qr ([QL 56 4 3, Qm 57 10, Qs 4 6 56, Qm 7 57, Qp 8 (.mov (Qi 0))])
 (.ret)))))))), [.load true 4 (.t 6), .mov (.t 7), .mov (.t 8)]) := by kernel_rfl
set_option maxHeartbeats 4000000 in
theorem grchk_fn (g : Gateway) : Fnc Tryz.prog 55 [.agg (gwL false g)] (fun x obs => x = .int .i64 (chk g) ∧ obs = []) := by
  refine Fnc.wf fun hw => ?_
  simp only [gwL, V.wfs, V.wf, List.length_map] at hw
  have hn := inK_i64' hw.1.1
  have hm := hw.1.2.2.2.1.2
  clear hw
  by_cases c1 : g.acked < 0
  · rw [chk_F (g := g) fun h => by have := h.1.1; omega]
    refine zgo m_grchk_ok fun W S => ?_
    exact zrt m_grchk_ok
  by_cases c2 : g.acked > g.free
  · rw [chk_F (g := g) fun h => by have := h.1.2.1; omega]
    refine zgo m_grchk_ok fun W S => ?_
    exact zrt m_grchk_ok
  by_cases c3 : g.free > g.next
  · rw [chk_F (g := g) fun h => by have := h.1.2.2.1; omega]
    refine zgo m_grchk_ok fun W S => ?_
    exact zrt m_grchk_ok
  by_cases c4 : g.next > 200
  · rw [chk_F (g := g) fun h => by have := h.1.2.2.2.1; omega]
    refine zgo m_grchk_ok fun W S => ?_
    exact zrt m_grchk_ok
  by_cases c5 : g.held.length > 64
  · rw [chk_F (g := g) fun h => by have := h.1.2.2.2.2.1; omega]
    refine zgo m_grchk_ok fun W S => ?_
    exact zrt m_grchk_ok
  by_cases c6 : (g.held.length : Int) = g.next - g.acked
  · have h0 : okN g := ⟨by omega, by omega, by omega, by omega, by omega, c6⟩
    refine zgo m_grchk_ok fun W S => ?_
    refine ev_loopK [1] (fun p : {p : Nat // p ≤ g.held.length ∧ ∀ j, j < p → okO g.acked j g.held[j]!} => [(3, .int .i64 p.1)]) (fun _ => [⟨.box false 31, true, 0, .agg (gwL false g)⟩]) (fun p => g.held.length - p.1) (⟨0, by simp⟩) 1 (by simp only [go_sem]; rfl) ?_ (by first | rfl | (simp only [go_sem]; done)) (by simp) (by first | rfl | (simp only [go_sem]; done)) (by first | rfl | (simp only [go_sem]; done)) (by first | rfl | (simp only [go_sem]; done)) ?_
    · (simp only [go_sem]; (try simp []); done)
    intro J hJ
    rintro ⟨k, hk0, hk1⟩
    by_cases hlt : k < g.held.length
    · by_cases d1 : g.held[k]!.seq = g.acked + k
      · by_cases d2 : g.held[k]!.socket < 0
        · rw [chk_F (g := g) fun h => by have := (h.2 k hlt).2.1; omega]
          refine zst ?_
          exact zrt m_grchk_ok
        by_cases d3 : g.held[k]!.socket ≥ 2
        · rw [chk_F (g := g) fun h => by have := (h.2 k hlt).2.2.1; omega]
          refine zst ?_
          exact zrt m_grchk_ok
        by_cases d4 : g.held[k]!.data.length > 16
        · rw [chk_F (g := g) fun h => by have := (h.2 k hlt).2.2.2; omega]
          refine zst ?_
          exact zrt m_grchk_ok
        · have okS : ∀ j, j < k + 1 → okO g.acked j g.held[j]! := fun j hj => by
            by_cases e : j = k
            · subst e; exact ⟨d1, by omega, by omega, by omega⟩
            · exact hk1 j (by omega)
          refine zst ?_
          exact zn1 (hJ _ (⟨k + 1, hlt, okS⟩) (by first | omega | (dsimp only; omega) | (simp; omega))) hlt
      · rw [chk_F (g := g) fun h => d1 (h.2 k hlt).1]
        refine zst ?_
        exact zrt m_grchk_ok
    · obtain rfl : k = g.held.length := by omega
      rw [chk_T (g := g) ⟨h0, hk1⟩]
      refine zst ?_
      exact zrt m_grchk_ok
  · rw [chk_F (g := g) fun h => c6 h.1.2.2.2.2.2]
    refine zgo m_grchk_ok fun W S => ?_
    exact zrt m_grchk_ok
def fitG (g : Gateway) : Prop := g.held.length ≤ 3518437208880 ∧ shortO 5864062014634 g.held
theorem okG.fit {g : Gateway} (h : okG g) : fitG g := ⟨by have := h.1.2.2.2.2.1; omega, fun o ho => by
  obtain ⟨i, hi, rfl⟩ := List.mem_iff_getElem.1 ho
  have := (h.2 i hi).2.2.2
  rw [List.getElem!_eq_getElem?_getD, List.getElem?_eq_getElem hi] at this
  simp only [Option.getD_some] at this
  omega⟩
set_option maxHeartbeats 4000000 in
theorem clone_fn (g : Gateway) (hg : fitG g) : Fnc Tryz.prog 68 [.agg (gwL false g)] (fun x obs => x = .agg [.int .i64 g.next, .int .i64 g.free, .int .i64 g.acked, .own 0 0] ∧ obs = [⟨.row 75, true, 0, .arr 3 (g.held.map (outputV true))⟩]) := by
  refine zgo m_clone_ok fun W S => ?_
  refine zcx (wouts_fn g.held hg.1 hg.2) ?_
  refine ret m_clone_ok [2] ?_; exact zfn
noncomputable def sOff (g : Gateway) (s : Int) (d : List Canon) : Gateway × Int × Int :=
  if chk g = 1 then (g, 0, 1) else if s < 0 ∨ s ≥ 2 ∨ d.length > 16 then (g, 0, 1)
  else if g.next = 200 ∨ g.held.length = 64 then (g, 0, 3) else (⟨g.next + 1, g.free, g.acked, g.held ++ [⟨g.next, s, d⟩]⟩, g.next, 0)
set_option maxHeartbeats 4000000 in
theorem woff_fn (g : Gateway) (s : Int) (d : List Canon) (hg : fitG g) : Fnc Tryz.prog 35 [.agg (gwL false g), .int .i64 s, .sl false 4 (d.map canonV)] (fun x obs => x = .tup [.agg (gwL false (sOff g s d).1), .int .i64 (sOff g s d).2.1, .int .i64 (sOff g s d).2.2] ∧ obs = []) := by
  refine Fnc.low ?_
  have hC := gwchk_fn g
  by_cases ok : okG g
  · rw [chk_T ok] at hC
    have hl := ok.1
    unfold okN at hl
    by_cases c1 : 0 ≤ s ∧ s < 2 ∧ d.length ≤ 16
    · by_cases c2 : g.next = 200
      · rw [show sOff g s d = (g, 0, 3) by rw [sOff, chk_T ok, if_neg (by omega), if_neg (by omega), if_pos (.inl c2)]]
        refine zgo m_woff_ok fun W S => ?_
        refine zcx (clone_fn g hg) ?_
        refine zcd (hC) ?_
        refine zcd (fits_fn s d) ?_
        exact zrt m_woff_ok
      by_cases c3 : g.held.length = 64
      · rw [show sOff g s d = (g, 0, 3) by rw [sOff, chk_T ok, if_neg (by omega), if_neg (by omega), if_pos (.inr c3)]]
        refine zgo m_woff_ok fun W S => ?_
        refine zcx (clone_fn g hg) ?_
        refine zcd (hC) ?_
        refine zcd (fits_fn s d) ?_
        exact zrt m_woff_ok
      · rw [show sOff g s d = (⟨g.next + 1, g.free, g.acked, g.held ++ [⟨g.next, s, d⟩]⟩, g.next, 0) by rw [sOff, chk_T ok, if_neg (by omega), if_neg (by omega), if_neg (by omega)]]
        refine zgo m_woff_ok fun W S => ?_
        refine zcx (clone_fn g hg) ?_
        refine zcd (hC) ?_
        refine zcd (fits_fn s d) ?_
        refine zcd (clcanon_fn d (by omega)) ?_
        exact zrt m_woff_ok
    · rw [show sOff g s d = (g, 0, 1) by rw [sOff, chk_T ok, if_neg (by omega), if_pos (by omega)]]
      refine zgo m_woff_ok fun W S => ?_
      refine zcx (clone_fn g hg) ?_
      refine zcd (hC) ?_
      refine zcd (fits_fn s d) ?_
      exact zrt m_woff_ok
  · rw [chk_F ok] at hC
    rw [show sOff g s d = (g, 0, 1) by rw [sOff, chk_F ok, if_pos rfl]]
    refine zgo m_woff_ok fun W S => ?_
    refine zcx (clone_fn g hg) ?_
    refine zcd (hC) ?_
    exact zrt m_woff_ok
set_option maxHeartbeats 4000000 in
theorem roff_fn (g : Gateway) (s : Int) (d : List Canon) : Fnc Tryz.prog 46 [.agg (gwL false g), .int .i64 s, .sl false 4 (d.map canonV)] (fun x obs => x = .tup [.agg (gwL false (sOff g s d).1), .int .i64 (sOff g s d).2.1, .int .i64 (sOff g s d).2.2] ∧ obs = []) := by
  refine Fnc.wf fun hw => ?_
  simp only [V.wfs, V.wf, List.length_map] at hw
  have hm := hw.2.2.1.2
  clear hw
  refine Fnc.low ?_
  have hC := grchk_fn g
  by_cases ok : okG g
  · rw [chk_T ok] at hC
    have hl := ok.1
    unfold okN at hl
    by_cases c1 : s < 0
    · rw [show sOff g s d = (g, 0, 1) by rw [sOff, chk_T ok, if_neg (by omega), if_pos (by omega)]]
      refine zgo m_roff_ok fun W S => ?_
      refine zcd (hC) ?_
      exact zrt m_roff_ok
    by_cases c2 : s ≥ 2
    · rw [show sOff g s d = (g, 0, 1) by rw [sOff, chk_T ok, if_neg (by omega), if_pos (by omega)]]
      refine zgo m_roff_ok fun W S => ?_
      refine zcd (hC) ?_
      exact zrt m_roff_ok
    by_cases c3 : d.length > 16
    · rw [show sOff g s d = (g, 0, 1) by rw [sOff, chk_T ok, if_neg (by omega), if_pos (by omega)]]
      refine zgo m_roff_ok fun W S => ?_
      refine zcd (hC) ?_
      exact zrt m_roff_ok
    by_cases c4 : g.next = 200
    · rw [show sOff g s d = (g, 0, 3) by rw [sOff, chk_T ok, if_neg (by omega), if_neg (by omega), if_pos (.inl c4)]]
      refine zgo m_roff_ok fun W S => ?_
      refine zcd (hC) ?_
      exact zrt m_roff_ok
    by_cases c5 : g.held.length = 64
    · rw [show sOff g s d = (g, 0, 3) by rw [sOff, chk_T ok, if_neg (by omega), if_neg (by omega), if_pos (.inr c5)]]
      refine zgo m_roff_ok fun W S => ?_
      refine zcd (hC) ?_
      exact zrt m_roff_ok
    · rw [show sOff g s d = (⟨g.next + 1, g.free, g.acked, g.held ++ [⟨g.next, s, d⟩]⟩, g.next, 0) by rw [sOff, chk_T ok, if_neg (by omega), if_neg (by omega), if_neg (by omega)]]
      refine zgo m_roff_ok fun W S => ?_
      refine zcd (hC) ?_
      refine zcx (routs_fn g.held ok.fit.1 ok.fit.2) ?_
      refine zcd (rout_fn ⟨g.next, s, d⟩ (by dsimp only; omega)) ?_
      exact zrt m_roff_ok
  · rw [chk_F ok] at hC
    rw [show sOff g s d = (g, 0, 1) by rw [sOff, chk_F ok, if_pos rfl]]
    refine zgo m_roff_ok fun W S => ?_
    refine zcd (hC) ?_
    exact zrt m_roff_ok
end Go.Proofs.YtdpfglkjhdnbbaaGreat
namespace Go.Proofs.YtdpfglkjhdnbbaaGreat
open Go Go.RowKit Rdn Rdn.Dp
set_option linter.unusedVariables false
set_option linter.unusedSimpArgs false
theorem m_wfree_ok : compF Tryz.prog 112 = some (30, Qr ([Qw 2 (.box 31 (.t 0)), Qw 4 (.alloc 31 (.agg [.int .i64 0, .int .i64 0, .int .i64 0, .nilS])), Qp 5 (.mov (Qi 0))])
 (Qr ([QL 8 4 2, Qq 9 68 [(.t 8)], Qw 6 (.alloc 31 (.agg [.int .i64 0, .int .i64 0, .int .i64 0, .nilS])), Qs 4 6 9])
 (.seq (Qr ([QL 10 4 2, Qq 11 42 [(.t 10)], Qm 7 11])
 (Qr ([Qm 12 7, Qk 13 .neq 12 0])
 (.cond (.t 13) (Qr ([QL 14 4 6, Qm 15 7, Qs 4 4 14, Qm 5 15])
 (.ret)) (.skip))))
 (.seq (Qr ([Qm 16 1, Qf 17 1 1 2, Ql 18 1 17, Qb 19 .lss 16 18, Qm 20 19, Q0 21 20 (.mov (.t 1)), Q0 22 20 (.fieldA 0 0 (.t 2)), Q0 23 20 (.load false 1 (.t 22)), Q0 24 20 (.bin 0 .gtr (.t 21) (.t 23)), Qt 25 20 24])
 (.cond (.t 25) (Qr ([QL 26 4 6, Qs 4 4 26, Qp 5 (.mov (Qi 35))])
 (.ret)) (.skip)))
 (Qr ([Qm 27 1, Qf 28 1 1 6, Qs 1 28 27])
 (Qr ([QL 29 4 6, Qs 4 4 29, Qp 5 (.mov (Qi 0))])
 (.ret)))))), [.load true 4 (.t 4), .mov (.t 5)]) := by kernel_rfl
theorem m_rfree_ok : compF Tryz.prog 92 = some (27, Qr ([Qw 2 (.box 31 (.t 0)), Qw 4 (.alloc 31 (.agg [.int .i64 0, .int .i64 0, .int .i64 0, .nilS])), Qp 5 (.mov (Qi 0))])
 (.seq (Qr ([QL 7 4 2, Qq 8 55 [(.t 7)], Qm 6 8])
 (Qr ([Qm 9 6, Qk 10 .neq 9 0])
 (.cond (.t 10) (Qr ([QL 11 4 2, Qm 12 6, Qs 4 4 11, Qm 5 12])
 (.ret)) (.skip))))
 (.seq (Qr ([Qm 13 1, Qf 14 1 1 2, Ql 15 1 14, Qb 16 .lss 13 15, Qm 17 16, Q0 18 17 (.mov (.t 1)), Q0 19 17 (.fieldA 0 0 (.t 2)), Q0 20 17 (.load false 1 (.t 19)), Q0 21 17 (.bin 0 .gtr (.t 18) (.t 20)), Qt 22 17 21])
 (.cond (.t 22) (Qr ([QL 23 4 2, Qs 4 4 23, Qp 5 (.mov (Qi 35))])
 (.ret)) (.skip)))
 (Qr ([Qm 24 1, Qf 25 1 1 2, Qs 1 25 24])
 (Qr ([QL 26 4 2, Qs 4 4 26, Qp 5 (.mov (Qi 0))])
 (.ret))))), [.load true 4 (.t 4), .mov (.t 5)]) := by kernel_rfl
theorem m_wsend_ok : compF Tryz.prog 39 = some (22, Qr ([Qw 1 (.box 31 (.t 0)), Qp 2 (.mov (.c (.nilS))), Qp 3 (.mov (Qi 0))])
 (.seq (Qr ([QL 6 4 1, Qq 7 42 [(.t 6)], Qm 4 7])
 (Qr ([Qm 8 4, Qk 9 .neq 8 0])
 (.cond (.t 9) (Qr ([Qm 10 4, Qp 2 (.mov (.c (.nilS))), Qm 3 10])
 (.ret)) (.skip))))
 (Qr ([Qf 11 1 1 1, Ql 12 1 11, Qf 13 2 2 1, Ql 14 1 13, Qb 15 .sub 12 14, Qm 5 15])
 (Qr ([Qf 16 3 3 1, Ql 17 1 16, Qm 18 5, Qm 19 5, Qw 20 (.sl 3 (.t 17) none (some (.t 18)) (some (.t 19))), Qq 21 79 [(.t 20)], Qm 2 21, Qp 3 (.mov (Qi 0))])
 (.ret)))), [.mov (.t 2), .mov (.t 3)]) := by kernel_rfl
theorem m_rsend_ok : compF Tryz.prog 61 = some (19, Qr ([Qw 1 (.box 31 (.t 0)), Qp 2 (.mov (.c (.nilS))), Qp 3 (.mov (Qi 0))])
 (.seq (Qr ([QL 5 4 1, Qq 6 55 [(.t 5)], Qm 4 6])
 (Qr ([Qm 7 4, Qk 8 .neq 7 0])
 (.cond (.t 8) (Qr ([Qm 9 4, Qp 2 (.mov (.c (.nilS))), Qm 3 9])
 (.ret)) (.skip))))
 (Qr ([Qf 10 3 3 1, Ql 11 1 10, Qf 12 1 1 1, Ql 13 1 12, Qf 14 2 2 1, Ql 15 1 14, Qb 16 .sub 13 15, Qw 17 (.sl 3 (.t 11) none (some (.t 16)) none), Qq 18 84 [(.t 17)], Qm 2 18, Qp 3 (.mov (Qi 0))])
 (.ret))), [.mov (.t 2), .mov (.t 3)]) := by kernel_rfl
theorem m_wack_ok : compF Tryz.prog 113 = some (44, Qr ([Qw 2 (.box 31 (.t 0)), Qw 4 (.alloc 31 (.agg [.int .i64 0, .int .i64 0, .int .i64 0, .nilS])), Qp 5 (.mov (Qi 0))])
 (Qr ([QL 8 4 2, Qq 9 68 [(.t 8)], Qw 6 (.alloc 31 (.agg [.int .i64 0, .int .i64 0, .int .i64 0, .nilS])), Qs 4 6 9])
 (.seq (Qr ([QL 10 4 2, Qq 11 42 [(.t 10)], Qm 7 11])
 (Qr ([Qm 12 7, Qk 13 .neq 12 0])
 (.cond (.t 13) (Qr ([QL 14 4 6, Qm 15 7, Qs 4 4 14, Qm 5 15])
 (.ret)) (.skip))))
 (.seq (Qr ([Qm 16 1, Qf 17 2 2 2, Ql 18 1 17, Qb 19 .lss 16 18, Qm 20 19, Q0 21 20 (.mov (.t 1)), Q0 22 20 (.fieldA 1 1 (.t 2)), Q0 23 20 (.load false 1 (.t 22)), Q0 24 20 (.bin 0 .gtr (.t 21) (.t 23)), Qt 25 20 24])
 (.cond (.t 25) (Qr ([QL 26 4 6, Qs 4 4 26, Qp 5 (.mov (Qi 35))])
 (.ret)) (.skip)))
 (Qr ([Qf 27 3 3 6, Ql 28 1 27, Qm 29 1, Qf 30 2 2 2, Ql 31 1 30, Qb 32 .sub 29 31, Qf 33 3 3 6, Ql 34 1 33, Qn 35 34, Qf 36 3 3 6, Ql 37 1 36, Qn 38 37, Qw 39 (.sl 3 (.t 28) (some (.t 32)) (some (.t 35)) (some (.t 38))), Qf 40 3 3 6, Qs 1 40 39])
 (Qr ([Qm 41 1, Qf 42 2 2 6, Qs 1 42 41])
 (Qr ([QL 43 4 6, Qs 4 4 43, Qp 5 (.mov (Qi 0))])
 (.ret))))))), [.load true 4 (.t 4), .mov (.t 5)]) := by kernel_rfl
theorem m_rack_ok : compF Tryz.prog 93 = some (36, Qr ([Qw 2 (.box 31 (.t 0)), Qw 4 (.alloc 31 (.agg [.int .i64 0, .int .i64 0, .int .i64 0, .nilS])), Qp 5 (.mov (Qi 0))])
 (.seq (Qr ([QL 7 4 2, Qq 8 55 [(.t 7)], Qm 6 8])
 (Qr ([Qm 9 6, Qk 10 .neq 9 0])
 (.cond (.t 10) (Qr ([QL 11 4 2, Qm 12 6, Qs 4 4 11, Qm 5 12])
 (.ret)) (.skip))))
 (.seq (Qr ([Qm 13 1, Qf 14 2 2 2, Ql 15 1 14, Qb 16 .lss 13 15, Qm 17 16, Q0 18 17 (.mov (.t 1)), Q0 19 17 (.fieldA 1 1 (.t 2)), Q0 20 17 (.load false 1 (.t 19)), Q0 21 17 (.bin 0 .gtr (.t 18) (.t 20)), Qt 22 17 21])
 (.cond (.t 22) (Qr ([QL 23 4 2, Qs 4 4 23, Qp 5 (.mov (Qi 35))])
 (.ret)) (.skip)))
 (Qr ([Qf 24 3 3 2, Ql 25 1 24, Qm 26 1, Qf 27 2 2 2, Ql 28 1 27, Qb 29 .sub 26 28, Qw 30 (.sl 3 (.t 25) (some (.t 29)) none none), Qq 31 84 [(.t 30)], Qf 32 3 3 2, Qs 1 32 31])
 (Qr ([Qm 33 1, Qf 34 2 2 2, Qs 1 34 33])
 (Qr ([QL 35 4 2, Qs 4 4 35, Qp 5 (.mov (Qi 0))])
 (.ret)))))), [.load true 4 (.t 4), .mov (.t 5)]) := by kernel_rfl
theorem take_mapO (f : Output → V) (l : List Output) (k : Nat) : (l.map f).take k = (l.take k).map f := by rw [List.map_take]
theorem drop_mapO (f : Output → V) (l : List Output) (k : Nat) : (l.map f).drop k = (l.drop k).map f := by rw [List.map_drop]
attribute [local go_sem] take_mapO drop_mapO List.take_length imp_self
noncomputable def sFree (g : Gateway) (n : Int) : Gateway × Int :=
  if chk g = 1 then (g, 1) else if n < g.free ∨ n > g.next then (g, 35) else (⟨g.next, n, g.acked, g.held⟩, 0)
noncomputable def sSend (g : Gateway) : List Output × Int :=
  if chk g = 1 then ([], 1) else (g.held.take (g.free - g.acked).toNat, 0)
noncomputable def sAck (g : Gateway) (n : Int) : Gateway × Int :=
  if chk g = 1 then (g, 1) else if n < g.acked ∨ n > g.free then (g, 35) else (⟨g.next, g.free, n, g.held.drop (n - g.acked).toNat⟩, 0)
set_option maxHeartbeats 4000000 in
theorem wfree_fn (g : Gateway) (n : Int) (hg : fitG g) : Fnc Tryz.prog 112 [.agg (gwL false g), .int .i64 n] (fun x obs => x = .tup [.agg (gwL false (sFree g n).1), .int .i64 (sFree g n).2] ∧ obs = []) := by
  refine Fnc.low ?_
  have hC := gwchk_fn g
  by_cases ok : okG g
  · rw [chk_T ok] at hC
    by_cases c1 : n < g.free
    · rw [show sFree g n = (g, 35) by rw [sFree, chk_T ok, if_neg (by omega), if_pos (.inl c1)]]
      refine zgo m_wfree_ok fun W S => ?_
      refine zcx (clone_fn g hg) ?_
      refine zcd (hC) ?_
      exact zrt m_wfree_ok
    by_cases c2 : n > g.next
    · rw [show sFree g n = (g, 35) by rw [sFree, chk_T ok, if_neg (by omega), if_pos (.inr c2)]]
      refine zgo m_wfree_ok fun W S => ?_
      refine zcx (clone_fn g hg) ?_
      refine zcd (hC) ?_
      exact zrt m_wfree_ok
    · rw [show sFree g n = (⟨g.next, n, g.acked, g.held⟩, 0) by rw [sFree, chk_T ok, if_neg (by omega), if_neg (by omega)]]
      refine zgo m_wfree_ok fun W S => ?_
      refine zcx (clone_fn g hg) ?_
      refine zcd (hC) ?_
      exact zrt m_wfree_ok
  · rw [chk_F ok] at hC
    rw [show sFree g n = (g, 1) by rw [sFree, chk_F ok, if_pos rfl]]
    refine zgo m_wfree_ok fun W S => ?_
    refine zcx (clone_fn g hg) ?_
    refine zcd (hC) ?_
    exact zrt m_wfree_ok
set_option maxHeartbeats 4000000 in
theorem rfree_fn (g : Gateway) (n : Int) : Fnc Tryz.prog 92 [.agg (gwL false g), .int .i64 n] (fun x obs => x = .tup [.agg (gwL false (sFree g n).1), .int .i64 (sFree g n).2] ∧ obs = []) := by
  have hC := grchk_fn g
  by_cases ok : okG g
  · rw [chk_T ok] at hC
    by_cases c1 : n < g.free
    · rw [show sFree g n = (g, 35) by rw [sFree, chk_T ok, if_neg (by omega), if_pos (.inl c1)]]
      refine zgo m_rfree_ok fun W S => ?_
      refine zcd (hC) ?_
      exact zrt m_rfree_ok
    by_cases c2 : n > g.next
    · rw [show sFree g n = (g, 35) by rw [sFree, chk_T ok, if_neg (by omega), if_pos (.inr c2)]]
      refine zgo m_rfree_ok fun W S => ?_
      refine zcd (hC) ?_
      exact zrt m_rfree_ok
    · rw [show sFree g n = (⟨g.next, n, g.acked, g.held⟩, 0) by rw [sFree, chk_T ok, if_neg (by omega), if_neg (by omega)]]
      refine zgo m_rfree_ok fun W S => ?_
      refine zcd (hC) ?_
      exact zrt m_rfree_ok
  · rw [chk_F ok] at hC
    rw [show sFree g n = (g, 1) by rw [sFree, chk_F ok, if_pos rfl]]
    refine zgo m_rfree_ok fun W S => ?_
    refine zcd (hC) ?_
    exact zrt m_rfree_ok
set_option maxHeartbeats 4000000 in
theorem wsend_fn (g : Gateway) : Fnc Tryz.prog 39 [.agg (gwL false g)] (fun x obs => x = .tup [.sl false 3 ((sSend g).1.map (outputV false)), .int .i64 (sSend g).2] ∧ obs = []) := by
  refine Fnc.low ?_
  have hC := gwchk_fn g
  by_cases ok : okG g
  · rw [chk_T ok] at hC
    have hl := ok.1
    unfold okN at hl
    have hf := ok.fit
    rw [show sSend g = (g.held.take (g.free - g.acked).toNat, 0) by rw [sSend, chk_T ok, if_neg (by omega)]]
    refine zgo m_wsend_ok fun W S => ?_
    refine zcd (hC) ?_
    refine zcx (wouts_fn (g.held.take (g.free - g.acked).toNat) (by rw [List.length_take]; omega) (hf.2.take _)) ?_
    exact zrt m_wsend_ok
  · rw [chk_F ok] at hC
    rw [show sSend g = ([], 1) by rw [sSend, chk_F ok, if_pos rfl]]
    refine zgo m_wsend_ok fun W S => ?_
    refine zcd (hC) ?_
    refine ev_nil2 2 false 3 rfl ?_
    exact zrt m_wsend_ok
set_option maxHeartbeats 4000000 in
theorem rsend_fn (g : Gateway) : Fnc Tryz.prog 61 [.agg (gwL false g)] (fun x obs => x = .tup [.sl false 3 ((sSend g).1.map (outputV false)), .int .i64 (sSend g).2] ∧ obs = []) := by
  refine Fnc.low ?_
  have hC := grchk_fn g
  by_cases ok : okG g
  · rw [chk_T ok] at hC
    have hl := ok.1
    unfold okN at hl
    have hf := ok.fit
    rw [show sSend g = (g.held.take (g.free - g.acked).toNat, 0) by rw [sSend, chk_T ok, if_neg (by omega)]]
    refine zgo m_rsend_ok fun W S => ?_
    refine zcd (hC) ?_
    refine zcx (routs_fn (g.held.take (g.free - g.acked).toNat) (by rw [List.length_take]; omega) (hf.2.take _)) ?_
    exact zrt m_rsend_ok
  · rw [chk_F ok] at hC
    rw [show sSend g = ([], 1) by rw [sSend, chk_F ok, if_pos rfl]]
    refine zgo m_rsend_ok fun W S => ?_
    refine zcd (hC) ?_
    refine ev_nil2 2 false 3 rfl ?_
    exact zrt m_rsend_ok
set_option maxHeartbeats 4000000 in
theorem wack_fn (g : Gateway) (n : Int) (hg : fitG g) : Fnc Tryz.prog 113 [.agg (gwL false g), .int .i64 n] (fun x obs => x = .tup [.agg (gwL false (sAck g n).1), .int .i64 (sAck g n).2] ∧ obs = []) := by
  refine Fnc.low ?_
  have hC := gwchk_fn g
  by_cases ok : okG g
  · rw [chk_T ok] at hC
    have hl := ok.1
    unfold okN at hl
    by_cases c1 : n < g.acked
    · rw [show sAck g n = (g, 35) by rw [sAck, chk_T ok, if_neg (by omega), if_pos (.inl c1)]]
      refine zgo m_wack_ok fun W S => ?_
      refine zcx (clone_fn g hg) ?_
      refine zcd (hC) ?_
      exact zrt m_wack_ok
    by_cases c2 : n > g.free
    · rw [show sAck g n = (g, 35) by rw [sAck, chk_T ok, if_neg (by omega), if_pos (.inr c2)]]
      refine zgo m_wack_ok fun W S => ?_
      refine zcx (clone_fn g hg) ?_
      refine zcd (hC) ?_
      exact zrt m_wack_ok
    · rw [show sAck g n = (⟨g.next, g.free, n, g.held.drop (n - g.acked).toNat⟩, 0) by rw [sAck, chk_T ok, if_neg (by omega), if_neg (by omega)]]
      refine zgo m_wack_ok fun W S => ?_
      refine zcx (clone_fn g hg) ?_
      refine zcd (hC) ?_
      exact zrt m_wack_ok
  · rw [chk_F ok] at hC
    rw [show sAck g n = (g, 1) by rw [sAck, chk_F ok, if_pos rfl]]
    refine zgo m_wack_ok fun W S => ?_
    refine zcx (clone_fn g hg) ?_
    refine zcd (hC) ?_
    exact zrt m_wack_ok
set_option maxHeartbeats 4000000 in
theorem rack_fn (g : Gateway) (n : Int) : Fnc Tryz.prog 93 [.agg (gwL false g), .int .i64 n] (fun x obs => x = .tup [.agg (gwL false (sAck g n).1), .int .i64 (sAck g n).2] ∧ obs = []) := by
  refine Fnc.low ?_
  have hC := grchk_fn g
  by_cases ok : okG g
  · rw [chk_T ok] at hC
    have hl := ok.1
    unfold okN at hl
    have hf := ok.fit
    by_cases c1 : n < g.acked
    · rw [show sAck g n = (g, 35) by rw [sAck, chk_T ok, if_neg (by omega), if_pos (.inl c1)]]
      refine zgo m_rack_ok fun W S => ?_
      refine zcd (hC) ?_
      exact zrt m_rack_ok
    by_cases c2 : n > g.free
    · rw [show sAck g n = (g, 35) by rw [sAck, chk_T ok, if_neg (by omega), if_pos (.inr c2)]]
      refine zgo m_rack_ok fun W S => ?_
      refine zcd (hC) ?_
      exact zrt m_rack_ok
    · rw [show sAck g n = (⟨g.next, g.free, n, g.held.drop (n - g.acked).toNat⟩, 0) by rw [sAck, chk_T ok, if_neg (by omega), if_neg (by omega)]]
      refine zgo m_rack_ok fun W S => ?_
      refine zcd (hC) ?_
      refine zcx (routs_fn (g.held.drop (n - g.acked).toNat) (by rw [List.length_drop]; omega) (hf.2.drop _)) ?_
      exact zrt m_rack_ok
  · rw [chk_F ok] at hC
    rw [show sAck g n = (g, 1) by rw [sAck, chk_F ok, if_pos rfl]]
    refine zgo m_rack_ok fun W S => ?_
    refine zcd (hC) ?_
    exact zrt m_rack_ok
end Go.Proofs.YtdpfglkjhdnbbaaGreat
namespace Go.Proofs.YtdpfglkjhdnbbaaGreat
open Go Go.RowKit Rdn Rdn.Dp
set_option linter.unusedVariables false
set_option linter.unusedSimpArgs false
theorem m_wtake_ok : compF Tryz.prog 40 = some (67, Qr ([Qw 3 (.box 33 (.t 0)), Qw 5 (.box 75 (.t 2)), Qw 6 (.alloc 33 (.agg [.int .i64 0, .int .i64 0, .nilS])), Qc 7 (.bool false), Qp 8 (.mov (Qi 0))])
 (Qr ([QL 10 3 3, Qw 9 (.alloc 33 (.agg [.int .i64 0, .int .i64 0, .nilS])), Qs 3 9 10])
 (Qr ([Qf 11 2 2 3, Ql 12 1 11, Qq 13 79 [(.t 12)], Qf 14 2 2 9, Qs 1 14 13])
 (.seq (Qr ([Qf 15 0 0 3, Ql 16 1 15, Qk 17 .lss 16 0, Qm 18 17, Q0 19 18 (.fieldA 0 0 (.t 3)), Q0 20 18 (.load false 1 (.t 19)), Q0 21 18 (.bin 0 .gtr (.t 20) (Qi 200)), Qt 22 18 21, Qm 23 22, Q0 24 23 (.fieldA 0 0 (.t 5)), Q0 25 23 (.load false 1 (.t 24)), Q0 26 23 (.bin 0 .lss (.t 25) (Qi 0)), Qt 27 23 26, Qm 28 27, Q0 29 28 (.fieldA 0 0 (.t 5)), Q0 30 28 (.load false 1 (.t 29)), Q0 31 28 (.bin 0 .geq (.t 30) (Qi 200)), Qt 32 28 31])
 (.cond (.t 32) (Qr ([QL 33 3 9, Qs 3 6 33, Qc 7 (.bool false), Qp 8 (.mov (Qi 1))])
 (.ret)) (.skip)))
 (.seq (Qr ([Qm 34 1, Qf 35 1 1 3, Ql 36 1 35, Qb 37 .lss 34 36])
 (.cond (.t 37) (Qr ([QL 38 3 9, Qs 3 6 38, Qc 7 (.bool false), Qp 8 (.mov (Qi 34))])
 (.ret)) (.skip)))
 (Qr ([Qm 39 1, Qf 40 1 1 9, Qs 1 40 39])
 (.seq (.block 0 (Qr ([Qf 42 0 0 5, Ql 43 1 42, Qf 44 0 0 3, Ql 45 1 44, Qb 46 .lss 43 45, Qm 41 46])
 (.cond (.t 41) (Qr ([QL 47 3 9, Qs 3 6 47, Qc 7 (.bool false), Qp 8 (.mov (Qi 0))])
 (.ret)) (Qr ([Qf 49 0 0 5, Ql 50 1 49, Qf 51 0 0 3, Ql 52 1 51, Qb 53 .gtr 50 52, Qm 48 53])
 (.cond (.t 48) (Qr ([QL 54 3 9, Qs 3 6 54, Qc 7 (.bool false), Qp 8 (.mov (Qi 35))])
 (.ret)) (.skip))))))
 (.seq (.dreg [Qf 55 2 2 9, Ql 56 1 55, QL 57 3 5, Qq 58 80 [(.t 57)], Qw 59 (.buildS 75 3 (.agg [.int .i64 0, .int .i64 0, .nilS]) 1 [(0, (.t 58))]), Qw 60 (.app 75 3 40 (.t 56) (.t 59)), Qf 61 2 2 9, Qs 1 61 60] [[], [0], [], [2], [2, 3], [0, 1, 2, 3, 4], [0, 1, 2, 3, 4, 5], [0, 1, 2, 3, 4, 5, 6]])
 (Qr ([Qf 62 0 0 9, Ql 63 1 62, Qk 64 .add 63 1, Qf 65 0 0 9, Qs 1 65 64])
 (Qr ([QL 66 3 9, Qs 3 6 66, Qc 7 (.bool true), Qp 8 (.mov (Qi 0))])
 (.ret)))))))))), [.load true 3 (.t 6), .mov (.t 7), .mov (.t 8)]) := by kernel_rfl
theorem m_rtake_ok : compF Tryz.prog 62 = some (62, Qr ([Qw 3 (.box 33 (.t 0)), Qw 5 (.box 75 (.t 2)), Qw 6 (.alloc 33 (.agg [.int .i64 0, .int .i64 0, .nilS])), Qc 7 (.bool false), Qp 8 (.mov (Qi 0))])
 (.seq (Qr ([Qf 9 0 0 3, Ql 10 1 9, Qk 11 .lss 10 0, Qm 12 11, Q0 13 12 (.fieldA 0 0 (.t 3)), Q0 14 12 (.load false 1 (.t 13)), Q0 15 12 (.bin 0 .gtr (.t 14) (Qi 200)), Qt 16 12 15, Qm 17 16, Q0 18 17 (.fieldA 0 0 (.t 5)), Q0 19 17 (.load false 1 (.t 18)), Q0 20 17 (.bin 0 .lss (.t 19) (Qi 0)), Qt 21 17 20, Qm 22 21, Q0 23 22 (.fieldA 0 0 (.t 5)), Q0 24 22 (.load false 1 (.t 23)), Q0 25 22 (.bin 0 .geq (.t 24) (Qi 200)), Qt 26 22 25])
 (.cond (.t 26) (Qr ([QL 27 3 3, Qs 3 6 27, Qc 7 (.bool false), Qp 8 (.mov (Qi 1))])
 (.ret)) (.skip)))
 (.seq (Qr ([Qm 28 1, Qf 29 1 1 3, Ql 30 1 29, Qb 31 .lss 28 30])
 (.cond (.t 31) (Qr ([QL 32 3 3, Qs 3 6 32, Qc 7 (.bool false), Qp 8 (.mov (Qi 34))])
 (.ret)) (.skip)))
 (Qr ([Qm 33 1, Qf 34 1 1 3, Qs 1 34 33])
 (.seq (.block 0 (Qr ([Qf 36 0 0 5, Ql 37 1 36, Qf 38 0 0 3, Ql 39 1 38, Qb 40 .lss 37 39, Qm 35 40])
 (.cond (.t 35) (Qr ([QL 41 3 3, Qs 3 6 41, Qc 7 (.bool false), Qp 8 (.mov (Qi 0))])
 (.ret)) (Qr ([Qf 43 0 0 5, Ql 44 1 43, Qf 45 0 0 3, Ql 46 1 45, Qb 47 .gtr 44 46, Qm 42 47])
 (.cond (.t 42) (Qr ([QL 48 3 3, Qs 3 6 48, Qc 7 (.bool false), Qp 8 (.mov (Qi 35))])
 (.ret)) (.skip))))))
 (.seq (.dreg [Qf 49 2 2 3, Ql 50 1 49, Qq 51 84 [(.t 50)], QL 52 3 5, Qq 53 85 [(.t 52)], Qw 54 (.buildS 75 3 (.agg [.int .i64 0, .int .i64 0, .nilS]) 1 [(0, (.t 53))]), Qw 55 (.app 75 3 40 (.t 51) (.t 54)), Qf 56 2 2 3, Qs 1 56 55] [[], [0], [0, 1], [], [0, 1, 2, 3], [0, 1, 2, 3, 4], [0, 1, 2, 3, 4, 5], [0, 1, 2, 3, 4, 5, 6], [0, 1, 2, 3, 4, 5, 6, 7]])
 (Qr ([Qf 57 0 0 3, Ql 58 1 57, Qk 59 .add 58 1, Qf 60 0 0 3, Qs 1 60 59])
 (Qr ([QL 61 3 3, Qs 3 6 61, Qc 7 (.bool true), Qp 8 (.mov (Qi 0))])
 (.ret)))))))), [.load true 3 (.t 6), .mov (.t 7), .mov (.t 8)]) := by kernel_rfl
theorem m_cellsq_ok : compF Tryz.prog 106 = some (26, Qr ([Qc 4 (.bool false)])
 (.seq (Qr ([Qm 6 0, Qn 7 6, Qm 8 1, Qn 9 8, Qb 10 .neq 7 9])
 (.cond (.t 10) (Qr ([Qc 4 (.bool false)])
 (.ret)) (.skip)))
 (.seq (Qr ([Qp 5 (.mov (Qi 0))])
 (.block 0 (.loop (.seq (Qr ([Qm 11 5, Qm 12 0, Qn 13 12, Qb 14 .lss 11 13])
 (.cond (.t 14) (.skip) (.exit 0)))
 (.seq (.block 1 (.seq (.dreg [Qm 17 0, Qm 18 5, Qx 19 4 17 18, QL 20 4 19, Qm 21 1, Qm 22 5, Qx 23 4 21 22, QL 24 4 23, Qp 25 (.eqs true [(some .u8), (some .u16), (some .i64), (some .i64)] (.t 20) (.t 24))] [[], [], [0, 1], [0, 1, 2], [], [], [4, 5], [4, 5, 6], [0, 1, 2, 3, 4, 5, 6, 7]])
 (.cond (.t 25) (Qr ([Qc 4 (.bool false)])
 (.ret)) (.skip))))
 (.reg [Qm 15 5, Qk 16 .add 15 1, Qm 5 16]))))))
 (Qr ([Qc 4 (.bool true)])
 (.ret)))), [.mov (.t 4)]) := by kernel_rfl
theorem m_outsq_ok : compF Tryz.prog 94 = some (55, Qr ([Qc 4 (.bool false)])
 (.seq (Qr ([Qm 6 0, Qn 7 6, Qm 8 1, Qn 9 8, Qb 10 .neq 7 9])
 (.cond (.t 10) (Qr ([Qc 4 (.bool false)])
 (.ret)) (.skip)))
 (.seq (Qr ([Qp 5 (.mov (Qi 0))])
 (.block 0 (.loop (.seq (Qr ([Qm 11 5, Qm 12 0, Qn 13 12, Qb 14 .lss 11 13])
 (.cond (.t 14) (.skip) (.exit 0)))
 (.seq (.block 1 (.seq (.dreg [Qm 17 0, Qm 18 5, Qx 19 3 17 18, Qf 20 0 0 19, Ql 21 1 20, Qm 22 1, Qm 23 5, Qx 24 3 22 23, Qf 25 0 0 24, Ql 26 1 25, Qb 27 .neq 21 26, Qm 28 27, Q0 29 28 (.mov (.t 0)), Q0 30 28 (.mov (.t 5)), Q0 31 28 (.idxA 3 (.t 29) (.t 30)), Q0 32 28 (.fieldA 1 1 (.t 31)), Q0 33 28 (.load false 1 (.t 32)), Q0 34 28 (.mov (.t 1)), Q0 35 28 (.mov (.t 5)), Q0 36 28 (.idxA 3 (.t 34) (.t 35)), Q0 37 28 (.fieldA 1 1 (.t 36)), Q0 38 28 (.load false 1 (.t 37)), Q0 39 28 (.bin 0 .neq (.t 33) (.t 38)), Qt 40 28 39, Qm 41 40, Q0 42 41 (.mov (.t 0)), Q0 43 41 (.mov (.t 5)), Q0 44 41 (.idxA 3 (.t 42) (.t 43)), Q0 45 41 (.fieldA 2 2 (.t 44)), Q0 46 41 (.load false 1 (.t 45)), Q0 47 41 (.mov (.t 1)), Q0 48 41 (.mov (.t 5)), Q0 49 41 (.idxA 3 (.t 47) (.t 48)), Q0 50 41 (.fieldA 2 2 (.t 49)), Q0 51 41 (.load false 1 (.t 50)), ⟨(some 52), (some (41, false)), (.call 106 [(.t 46), (.t 51)])⟩, Q0 53 41 (.un .not (.t 52)), Qt 54 41 53] [[], [], [0, 1], [0, 1, 2], [0, 1, 2, 3], [], [], [5, 6], [5, 6, 7], [5, 6, 7, 8], [0, 1, 2, 3, 4, 5, 6, 7, 8, 9], [0, 1, 2, 3, 4, 5, 6, 7, 8, 9, 10], [0, 1, 2, 3, 4, 5, 6, 7, 8, 9, 10, 11], [0, 1, 2, 3, 4, 5, 6, 7, 8, 9, 10, 11], [0, 1, 2, 3, 4, 5, 6, 7, 8, 9, 10, 11, 12, 13], [0, 1, 2, 3, 4, 5, 6, 7, 8, 9, 10, 11, 12, 13, 14], [0, 1, 2, 3, 4, 5, 6, 7, 8, 9, 10, 11, 12, 13, 14, 15], [0, 1, 2, 3, 4, 5, 6, 7, 8, 9, 10, 11], [0, 1, 2, 3, 4, 5, 6, 7, 8, 9, 10, 11], [0, 1, 2, 3, 4, 5, 6, 7, 8, 9, 10, 11, 17, 18], [0, 1, 2, 3, 4, 5, 6, 7, 8, 9, 10, 11, 17, 18, 19], [0, 1, 2, 3, 4, 5, 6, 7, 8, 9, 10, 11, 17, 18, 19, 20], [0, 1, 2, 3, 4, 5, 6, 7, 8, 9, 10, 11, 12, 13, 14, 15, 16, 17, 18, 19, 20, 21], [0, 1, 2, 3, 4, 5, 6, 7, 8, 9, 10, 11, 12, 13, 14, 15, 16, 17, 18, 19, 20, 21, 22], [0, 1, 2, 3, 4, 5, 6, 7, 8, 9, 10, 11, 12, 13, 14, 15, 16, 17, 18, 19, 20, 21, 22, 23], [0, 1, 2, 3, 4, 5, 6, 7, 8, 9, 10, 11, 12, 13, 14, 15, 16, 17, 18, 19, 20, 21, 22, 23, 24], [0, 1, 2, 3, 4, 5, 6, 7, 8, 9, 10, 11, 12, 13, 14, 15, 16, 17, 18, 19, 20, 21, 22, 23, 24], [0, 1, 2, 3, 4, 5, 6, 7, 8, 9, 10, 11, 12, 13, 14, 15, 16, 17, 18, 19, 20, 21, 22, 23, 24, 25, 26], [0, 1, 2, 3, 4, 5, 6, 7, 8, 9, 10, 11, 12, 13, 14, 15, 16, 17, 18, 19, 20, 21, 22, 23, 24, 25, 26, 27], [0, 1, 2, 3, 4, 5, 6, 7, 8, 9, 10, 11, 12, 13, 14, 15, 16, 17, 18, 19, 20, 21, 22, 23, 24, 25, 26, 27, 28], [0, 1, 2, 3, 4, 5, 6, 7, 8, 9, 10, 11, 12, 13, 14, 15, 16, 17, 18, 19, 20, 21, 22, 23, 24], [0, 1, 2, 3, 4, 5, 6, 7, 8, 9, 10, 11, 12, 13, 14, 15, 16, 17, 18, 19, 20, 21, 22, 23, 24], [0, 1, 2, 3, 4, 5, 6, 7, 8, 9, 10, 11, 12, 13, 14, 15, 16, 17, 18, 19, 20, 21, 22, 23, 24, 30, 31], [0, 1, 2, 3, 4, 5, 6, 7, 8, 9, 10, 11, 12, 13, 14, 15, 16, 17, 18, 19, 20, 21, 22, 23, 24, 30, 31, 32], [0, 1, 2, 3, 4, 5, 6, 7, 8, 9, 10, 11, 12, 13, 14, 15, 16, 17, 18, 19, 20, 21, 22, 23, 24, 30, 31, 32, 33], [0, 1, 2, 3, 4, 5, 6, 7, 8, 9, 10, 11, 12, 13, 14, 15, 16, 17, 18, 19, 20, 21, 22, 23, 24, 25, 26, 27, 28, 29, 30, 31, 32, 33, 34], [0, 1, 2, 3, 4, 5, 6, 7, 8, 9, 10, 11, 12, 13, 14, 15, 16, 17, 18, 19, 20, 21, 22, 23, 24, 25, 26, 27, 28, 29, 30, 31, 32, 33, 34, 35], [0, 1, 2, 3, 4, 5, 6, 7, 8, 9, 10, 11, 12, 13, 14, 15, 16, 17, 18, 19, 20, 21, 22, 23, 24, 25, 26, 27, 28, 29, 30, 31, 32, 33, 34, 35, 36]])
 (.cond (.t 54) (Qr ([Qc 4 (.bool false)])
 (.ret)) (.skip))))
 (.reg [Qm 15 5, Qk 16 .add 15 1, Qm 5 16]))))))
 (Qr ([Qc 4 (.bool true)])
 (.ret)))), [.mov (.t 4)]) := by kernel_rfl
theorem m_gwq_ok : compF Tryz.prog 53 = some (31, Qr ([Qw 2 (.box 31 (.t 0)), Qw 3 (.box 31 (.t 1)), Qc 4 (.bool false)])
 (Qr ([Qf 5 0 0 2, Ql 6 1 5, Qf 7 0 0 3, Ql 8 1 7, Qb 9 .eql 6 8, Qm 10 9, Q1 11 10 (.fieldA 1 1 (.t 2)), Q1 12 10 (.load false 1 (.t 11)), Q1 13 10 (.fieldA 1 1 (.t 3)), Q1 14 10 (.load false 1 (.t 13)), Q1 15 10 (.bin 0 .eql (.t 12) (.t 14)), Qu 16 10 15, Qm 17 16, Q1 18 17 (.fieldA 2 2 (.t 2)), Q1 19 17 (.load false 1 (.t 18)), Q1 20 17 (.fieldA 2 2 (.t 3)), Q1 21 17 (.load false 1 (.t 20)), Q1 22 17 (.bin 0 .eql (.t 19) (.t 21)), Qu 23 17 22, Qm 24 23, Q1 25 24 (.fieldA 3 3 (.t 2)), Q1 26 24 (.load false 1 (.t 25)), Q1 27 24 (.fieldA 3 3 (.t 3)), Q1 28 24 (.load false 1 (.t 27)), ⟨(some 29), (some (24, true)), (.call 94 [(.t 26), (.t 28)])⟩, Qu 30 24 29, Qm 4 30])
 (.ret)), [.mov (.t 4)]) := by kernel_rfl
theorem m_mbq_ok : compF Tryz.prog 54 = some (24, Qr ([Qw 2 (.box 33 (.t 0)), Qw 3 (.box 33 (.t 1)), Qc 4 (.bool false)])
 (Qr ([Qf 5 0 0 2, Ql 6 1 5, Qf 7 0 0 3, Ql 8 1 7, Qb 9 .eql 6 8, Qm 10 9, Q1 11 10 (.fieldA 1 1 (.t 2)), Q1 12 10 (.load false 1 (.t 11)), Q1 13 10 (.fieldA 1 1 (.t 3)), Q1 14 10 (.load false 1 (.t 13)), Q1 15 10 (.bin 0 .eql (.t 12) (.t 14)), Qu 16 10 15, Qm 17 16, Q1 18 17 (.fieldA 2 2 (.t 2)), Q1 19 17 (.load false 1 (.t 18)), Q1 20 17 (.fieldA 2 2 (.t 3)), Q1 21 17 (.load false 1 (.t 20)), ⟨(some 22), (some (17, true)), (.call 94 [(.t 19), (.t 21)])⟩, Qu 23 17 22, Qm 4 23])
 (.ret)), [.mov (.t 4)]) := by kernel_rfl
def fitO (l : List Output) : Prop := l.length ≤ 3518437208880 ∧ shortO 5864062014634 l
def sTake (m : Mailbox) (e : Int) (o : Output) : Mailbox × Bool × Int :=
  if m.next < 0 ∨ m.next > 200 ∨ o.seq < 0 ∨ o.seq ≥ 200 then (m, false, 1) else if e < m.epoch then (m, false, 34)
  else if o.seq < m.next then (⟨m.next, e, m.taken⟩, false, 0) else if o.seq > m.next then (⟨m.next, e, m.taken⟩, false, 35) else (⟨m.next + 1, e, m.taken ++ [o]⟩, true, 0)
set_option maxHeartbeats 4000000 in
theorem wtake_fn (m : Mailbox) (e : Int) (o : Output) (hm : fitO m.taken) (ho : o.data.length ≤ 5864062014634) : Fnc Tryz.prog 40 [.agg (mbL false m), .int .i64 e, outputV false o] (fun x obs => x = .tup [.agg (mbL false (sTake m e o).1), .bool (sTake m e o).2.1, .int .i64 (sTake m e o).2.2] ∧ obs = []) := by
  refine Fnc.low ?_
  by_cases c1 : m.next < 0
  · rw [show sTake m e o = (m, false, 1) by rw [sTake, if_pos (.inl c1)]]
    refine zgo m_wtake_ok fun W S => ?_
    refine zcx (wouts_fn m.taken hm.1 hm.2) ?_
    exact zrt m_wtake_ok
  by_cases c2 : m.next > 200
  · rw [show sTake m e o = (m, false, 1) by rw [sTake, if_pos (.inr (.inl c2))]]
    refine zgo m_wtake_ok fun W S => ?_
    refine zcx (wouts_fn m.taken hm.1 hm.2) ?_
    exact zrt m_wtake_ok
  by_cases c3 : o.seq < 0
  · rw [show sTake m e o = (m, false, 1) by rw [sTake, if_pos (.inr (.inr (.inl c3)))]]
    refine zgo m_wtake_ok fun W S => ?_
    refine zcx (wouts_fn m.taken hm.1 hm.2) ?_
    exact zrt m_wtake_ok
  by_cases c4 : o.seq ≥ 200
  · rw [show sTake m e o = (m, false, 1) by rw [sTake, if_pos (.inr (.inr (.inr c4)))]]
    refine zgo m_wtake_ok fun W S => ?_
    refine zcx (wouts_fn m.taken hm.1 hm.2) ?_
    exact zrt m_wtake_ok
  have h0 : ¬ (m.next < 0 ∨ m.next > 200 ∨ o.seq < 0 ∨ o.seq ≥ 200) := by omega
  by_cases c5 : e < m.epoch
  · rw [show sTake m e o = (m, false, 34) by rw [sTake, if_neg h0, if_pos c5]]
    refine zgo m_wtake_ok fun W S => ?_
    refine zcx (wouts_fn m.taken hm.1 hm.2) ?_
    exact zrt m_wtake_ok
  by_cases c6 : o.seq < m.next
  · rw [show sTake m e o = (⟨m.next, e, m.taken⟩, false, 0) by rw [sTake, if_neg h0, if_neg c5, if_pos c6]]
    refine zgo m_wtake_ok fun W S => ?_
    refine zcx (wouts_fn m.taken hm.1 hm.2) ?_
    exact zrt m_wtake_ok
  by_cases c7 : o.seq > m.next
  · rw [show sTake m e o = (⟨m.next, e, m.taken⟩, false, 35) by rw [sTake, if_neg h0, if_neg c5, if_neg c6, if_pos c7]]
    refine zgo m_wtake_ok fun W S => ?_
    refine zcx (wouts_fn m.taken hm.1 hm.2) ?_
    exact zrt m_wtake_ok
  · rw [show sTake m e o = (⟨m.next + 1, e, m.taken ++ [o]⟩, true, 0) by rw [sTake, if_neg h0, if_neg c5, if_neg c6, if_neg c7]]
    have hm1 := hm.1
    refine zgo m_wtake_ok fun W S => ?_
    refine zcx (wouts_fn m.taken hm.1 hm.2) ?_
    refine zcd (wout_fn o ho) ?_
    exact zrt m_wtake_ok
set_option maxHeartbeats 4000000 in
theorem rtake_fn (m : Mailbox) (e : Int) (o : Output) (hm : fitO m.taken) (ho : o.data.length ≤ 5864062014634) : Fnc Tryz.prog 62 [.agg (mbL false m), .int .i64 e, outputV false o] (fun x obs => x = .tup [.agg (mbL false (sTake m e o).1), .bool (sTake m e o).2.1, .int .i64 (sTake m e o).2.2] ∧ obs = []) := by
  refine Fnc.low ?_
  by_cases c1 : m.next < 0
  · rw [show sTake m e o = (m, false, 1) by rw [sTake, if_pos (.inl c1)]]
    refine zgo m_rtake_ok fun W S => ?_
    exact zrt m_rtake_ok
  by_cases c2 : m.next > 200
  · rw [show sTake m e o = (m, false, 1) by rw [sTake, if_pos (.inr (.inl c2))]]
    refine zgo m_rtake_ok fun W S => ?_
    exact zrt m_rtake_ok
  by_cases c3 : o.seq < 0
  · rw [show sTake m e o = (m, false, 1) by rw [sTake, if_pos (.inr (.inr (.inl c3)))]]
    refine zgo m_rtake_ok fun W S => ?_
    exact zrt m_rtake_ok
  by_cases c4 : o.seq ≥ 200
  · rw [show sTake m e o = (m, false, 1) by rw [sTake, if_pos (.inr (.inr (.inr c4)))]]
    refine zgo m_rtake_ok fun W S => ?_
    exact zrt m_rtake_ok
  have h0 : ¬ (m.next < 0 ∨ m.next > 200 ∨ o.seq < 0 ∨ o.seq ≥ 200) := by omega
  by_cases c5 : e < m.epoch
  · rw [show sTake m e o = (m, false, 34) by rw [sTake, if_neg h0, if_pos c5]]
    refine zgo m_rtake_ok fun W S => ?_
    exact zrt m_rtake_ok
  by_cases c6 : o.seq < m.next
  · rw [show sTake m e o = (⟨m.next, e, m.taken⟩, false, 0) by rw [sTake, if_neg h0, if_neg c5, if_pos c6]]
    refine zgo m_rtake_ok fun W S => ?_
    exact zrt m_rtake_ok
  by_cases c7 : o.seq > m.next
  · rw [show sTake m e o = (⟨m.next, e, m.taken⟩, false, 35) by rw [sTake, if_neg h0, if_neg c5, if_neg c6, if_pos c7]]
    refine zgo m_rtake_ok fun W S => ?_
    exact zrt m_rtake_ok
  · rw [show sTake m e o = (⟨m.next + 1, e, m.taken ++ [o]⟩, true, 0) by rw [sTake, if_neg h0, if_neg c5, if_neg c6, if_neg c7]]
    have hm1 := hm.1
    refine Fnc.intro m_rtake_ok (by simp) fun W S => ?_
    simp only [ents, Nat.zero_add, Nat.reduceAdd, Qm, Qc, Ql, QL, Qf, Qs, Qb, Qk, QB, Qn, Qe, Qx, Qt, Qu, Q0, Q1, Qp, Qw, Qq, Qr, Qi]
    refine zso ?_
    refine ev_draw (fu := List.replicate 60 ()) mixed [2] 1 rfl (by kernel_rfl) ?_; refine zev ?_
    refine zst ?_
    refine zcx (routs_fn m.taken hm.1 hm.2) ?_
    refine zcd (rout_fn o ho) ?_
    exact zrt m_rtake_ok
set_option maxHeartbeats 4000000 in
theorem cellsq_fn (a b : List Canon) : Fnc Tryz.prog 106 [.sl false 4 (a.map canonV), .sl false 4 (b.map canonV)] (fun x obs => x = .bool (decide (a = b)) ∧ obs = []) := by
  refine Fnc.wf fun hw => ?_
  simp only [V.wfs, V.wf, wfs_map, List.length_map] at hw
  have hm := hw.1.2
  have hm' := hw.2.1.2
  by_cases hl : a.length = b.length
  · skip
    refine zgo m_cellsq_ok fun W S => ?_
    refine ev_loopK [0, 1] (fun p : {p : Nat // p ≤ a.length ∧ a.take p = b.take p} => [(5, .int .i64 p.1)]) (fun _ => []) (fun p => a.length - p.1) (⟨0, by simp⟩) 0 (by simp only [go_sem]; rfl) ?_ (by first | rfl | (simp only [go_sem]; done)) (by simp) (by first | rfl | (simp only [go_sem]; done)) (by first | rfl | (simp only [go_sem]; done)) (by first | rfl | (simp only [go_sem]; done)) ?_
    · (simp only [go_sem]; (try simp []); done)
    intro J hJ
    rintro ⟨k, hk0, hk1⟩
    by_cases hlt : k < a.length
    · by_cases e : a[k]! = b[k]!
      · skip
        refine zst ?_
        exact zn0 (hJ _ (⟨k + 1, hlt, by rw [take_snoc hlt, take_snoc (by omega), hk1, e]⟩) (by first | omega | (dsimp only; omega) | (simp; omega))) hlt
      · have hne : a ≠ b := fun h => e (at_of_eq h k)
        refine zst ?_
        refine ret m_cellsq_ok [] ?_; (first | (simp only [go_sem]; done) | (simp only [go_sem]; exact ⟨rfl, rfl⟩))
    · have hab := eq_of_take (by omega) (by omega) hk1
      refine zst ?_
      refine ret m_cellsq_ok [] ?_; (first | (simp only [go_sem]; done) | (simp only [go_sem]; exact ⟨rfl, rfl⟩))
  · have hne : a ≠ b := fun h => hl (by rw [h])
    refine zgo m_cellsq_ok fun W S => ?_
    refine ret m_cellsq_ok [] ?_; (first | (simp only [go_sem]; done) | (simp only [go_sem]; exact ⟨rfl, rfl⟩))
theorem ext_at {α : Type} [Inhabited α] {a b : List α} (hl : a.length = b.length) (h : ∀ j, j < b.length → a[j]! = b[j]!) : a = b := by
  refine List.ext_getElem hl fun i h1 h2 => ?_
  have := h i h2
  rwa [getElem!_pos a i h1, getElem!_pos b i h2] at this
set_option maxHeartbeats 4000000 in
theorem outsq_fn (a b : List Output) : Fnc Tryz.prog 94 [.sl false 3 (a.map (outputV false)), .sl false 3 (b.map (outputV false))] (fun x obs => x = .bool (decide (a = b)) ∧ obs = []) := by
  refine Fnc.wf fun hw => ?_
  simp only [V.wfs, V.wf, List.length_map] at hw
  have hm := hw.1.2
  clear hw
  by_cases c0 : a.length = b.length
  rotate_left
  · rw [decF (show ¬ a = b from fun h => c0 (by rw [h]))]
    refine zgo m_outsq_ok fun W S => ?_
    exact zrt m_outsq_ok
  refine zgo m_outsq_ok fun W S => ?_
  refine ev_loopK [0, 1] (fun p : {p : Nat // p ≤ a.length ∧ ∀ j, j < p → a[j]! = b[j]!} => [(5, .int .i64 p.1)]) (fun _ => []) (fun p => a.length - p.1) (⟨0, by simp⟩) 0 (by simp only [go_sem]; rfl) ?_ (by first | rfl | (simp only [go_sem]; done)) (by simp) (by first | rfl | (simp only [go_sem]; done)) (by first | rfl | (simp only [go_sem]; done)) (by first | rfl | (simp only [go_sem]; done)) ?_
  · (simp only [go_sem]; (try simp []); done)
  intro J hJ
  rintro ⟨k, hk0, hk1⟩
  by_cases hlt : k < a.length
  · have hr : ¬ a[k]! = b[k]! → decide (a = b) = false := fun c => decF fun h => c (by rw [h])
    have hS : a[k]! = b[k]! → ∀ j, j < k + 1 → a[j]! = b[j]! := fun c j hj => by
      by_cases e : j = k
      · subst e; exact c
      · exact hk1 j (by omega)
    have hE := cellsq_fn a[k]!.data b[k]!.data
    have hx : a[k]! = b[k]! ↔ a[k]!.seq = b[k]!.seq ∧ a[k]!.socket = b[k]!.socket ∧ a[k]!.data = b[k]!.data := by
      generalize a[k]! = x
      generalize b[k]! = y
      obtain ⟨x1, x2, x3⟩ := x
      obtain ⟨y1, y2, y3⟩ := y
      simp only [Output.mk.injEq]
    by_cases c1 : a[k]!.seq = b[k]!.seq
    rotate_left
    · rw [hr fun h => c1 (by rw [h])]
      refine zst ?_
      exact zrt m_outsq_ok
    by_cases c2 : a[k]!.socket = b[k]!.socket
    rotate_left
    · rw [hr fun h => c2 (by rw [h])]
      refine zst ?_
      exact zrt m_outsq_ok
    by_cases c3 : a[k]!.data = b[k]!.data
    rotate_left
    · rw [hr fun h => c3 (by rw [h])]
      rw [decF c3] at hE
      refine zst ?_
      refine zcd (hE) ?_
      exact zrt m_outsq_ok
    rw [decT c3] at hE
    have hS := hS (hx.2 ⟨c1, c2, c3⟩)
    refine zst ?_
    refine zcd (hE) ?_
    refine ev_next 0 (hJ _ (⟨k + 1, hlt, hS⟩) (by first | omega | (dsimp only; omega) | (simp; omega))) rfl (by simp) ?_ (by first | rfl | (simp only [go_sem]; done)) (by first | rfl | (simp only [go_sem]; done)) ?_
    · (first | rfl | (simp only [go_sem]; done) | (simp only [go_sem]; simp only []; done) | (simp only []; done) | (simp only [go_sem]; simp []; done) | (simp []; done))
    · (simp only [go_sem]; (repeat' (refine And.intro ?_ ?_)) <;> first | exact trivial | with_reducible rfl | (simp only []; done) | (simp only []; with_reducible rfl) | (simp []; done) | (simp []; omega) | (simp only []; rfl) | skip)
  · obtain rfl : k = a.length := by omega
    have hr := decT (ext_at c0 fun j hj => hk1 j (by omega))
    refine zst ?_
    exact zrh m_outsq_ok hr
set_option maxHeartbeats 4000000 in
theorem gwq_fn (g h : Gateway) : Fnc Tryz.prog 53 [.agg (gwL false g), .agg (gwL false h)] (fun x obs => x = .bool (decide (g = h)) ∧ obs = []) := by
  obtain ⟨a1, a2, a3, a4⟩ := g
  obtain ⟨b1, b2, b3, b4⟩ := h
  by_cases c1 : a1 = b1
  rotate_left
  · rw [decF (show ¬ (⟨a1, a2, a3, a4⟩ : Gateway) = ⟨b1, b2, b3, b4⟩ from fun h => by simp only [Gateway.mk.injEq] at h; exact c1 h.1)]
    refine zgo m_gwq_ok fun W S => ?_
    exact zrt m_gwq_ok
  by_cases c2 : a2 = b2
  rotate_left
  · rw [decF (show ¬ (⟨a1, a2, a3, a4⟩ : Gateway) = ⟨b1, b2, b3, b4⟩ from fun h => by simp only [Gateway.mk.injEq] at h; exact c2 h.2.1)]
    refine zgo m_gwq_ok fun W S => ?_
    exact zrt m_gwq_ok
  by_cases c3 : a3 = b3
  rotate_left
  · rw [decF (show ¬ (⟨a1, a2, a3, a4⟩ : Gateway) = ⟨b1, b2, b3, b4⟩ from fun h => by simp only [Gateway.mk.injEq] at h; exact c3 h.2.2.1)]
    refine zgo m_gwq_ok fun W S => ?_
    exact zrt m_gwq_ok
  have hE := outsq_fn a4 b4
  have hd : decide ((⟨a1, a2, a3, a4⟩ : Gateway) = ⟨b1, b2, b3, b4⟩) = decide (a4 = b4) := by simp [c1, c2, c3]
  rw [hd]
  generalize decide (a4 = b4) = q at hE
  refine zgo m_gwq_ok fun W S => ?_
  refine zcd (hE) ?_
  exact zrt m_gwq_ok
set_option maxHeartbeats 4000000 in
theorem mbq_fn (g h : Mailbox) : Fnc Tryz.prog 54 [.agg (mbL false g), .agg (mbL false h)] (fun x obs => x = .bool (decide (g = h)) ∧ obs = []) := by
  obtain ⟨a1, a2, a4⟩ := g
  obtain ⟨b1, b2, b4⟩ := h
  by_cases c1 : a1 = b1
  rotate_left
  · rw [decF (show ¬ (⟨a1, a2, a4⟩ : Mailbox) = ⟨b1, b2, b4⟩ from fun h => by simp only [Mailbox.mk.injEq] at h; exact c1 h.1)]
    refine zgo m_mbq_ok fun W S => ?_
    exact zrt m_mbq_ok
  by_cases c2 : a2 = b2
  rotate_left
  · rw [decF (show ¬ (⟨a1, a2, a4⟩ : Mailbox) = ⟨b1, b2, b4⟩ from fun h => by simp only [Mailbox.mk.injEq] at h; exact c2 h.2.1)]
    refine zgo m_mbq_ok fun W S => ?_
    exact zrt m_mbq_ok
  have hE := outsq_fn a4 b4
  have hd : decide ((⟨a1, a2, a4⟩ : Mailbox) = ⟨b1, b2, b4⟩) = decide (a4 = b4) := by simp [c1, c2]
  rw [hd]
  generalize decide (a4 = b4) = q at hE
  refine zgo m_mbq_ok fun W S => ?_
  refine zcd (hE) ?_
  exact zrt m_mbq_ok
end Go.Proofs.YtdpfglkjhdnbbaaGreat
