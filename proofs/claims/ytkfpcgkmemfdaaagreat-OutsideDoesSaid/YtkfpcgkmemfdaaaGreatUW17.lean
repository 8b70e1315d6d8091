/- Files: equality by the program, of any files. -/
import Derived.Test.YtkfpcgkmemfdaaaGreatUV
import Derived.Test.YtkfpcgkmemfdaaaGreatC5
namespace Go.Proofs.YtkfpcgkmemfdaaaGreat
open Go Go.RowKit Rdn Rdn.Dp
set_option linter.unusedVariables false
set_option linter.unusedSimpArgs false
theorem m_eqo_ok : compF Tryz.prog 85 = some (26, Qr ([Qc 4 (.bool false)])
 (.seq (Qr ([Qm 6 0, Qn 7 6, Qm 8 1, Qn 9 8, Qb 10 .neq 7 9])
 (.cond (.t 10) (Qr ([Qc 4 (.bool false)])
 (.ret)) (.skip)))
 (.seq (Qr ([Qm 11 0, Qn 12 11, Qp 13 (.mov (Qi 0))])
 (.block 0 (.loop (Qr ([Qb 14 .lss 13 12])
 (.seq (.cond (.t 14) (.skip) (.exit 0))
 (.seq (.block 1 (Qr ([Qm 15 13, Qm 5 15])
 (.seq (.dreg [Qm 16 0, Qm 17 5, Qx 18 3 16 17, QL 19 3 18, Qm 20 1, Qm 21 5, Qx 22 3 20 21, QL 23 3 22, Qp 24 (.eqs true [(some .i64), (some .i64), none] (.t 19) (.t 23))] [[], [], [0, 1], [0, 1, 2], [], [], [4, 5], [4, 5, 6], [0, 1, 2, 3, 4, 5, 6, 7]])
 (.cond (.t 24) (Qr ([Qc 4 (.bool false)])
 (.ret)) (.skip)))))
 (.reg [Qk 25 .add 13 1, Qm 13 25])))))))
 (Qr ([Qc 4 (.bool true)])
 (.ret)))), [.mov (.t 4)]) := by kernel_rfl
theorem m_eqc_ok : compF Tryz.prog 37 = some (26, Qr ([Qc 4 (.bool false)])
 (.seq (Qr ([Qm 6 0, Qn 7 6, Qm 8 1, Qn 9 8, Qb 10 .neq 7 9])
 (.cond (.t 10) (Qr ([Qc 4 (.bool false)])
 (.ret)) (.skip)))
 (.seq (Qr ([Qm 11 0, Qn 12 11, Qp 13 (.mov (Qi 0))])
 (.block 0 (.loop (Qr ([Qb 14 .lss 13 12])
 (.seq (.cond (.t 14) (.skip) (.exit 0))
 (.seq (.block 1 (Qr ([Qm 15 13, Qm 5 15])
 (.seq (.dreg [Qm 16 0, Qm 17 5, Qx 18 4 16 17, QL 19 4 18, Qm 20 1, Qm 21 5, Qx 22 4 20 21, QL 23 4 22, Qp 24 (.eqs true [(some .u8), (some .u16), (some .i64), (some .i64)] (.t 19) (.t 23))] [[], [], [0, 1], [0, 1, 2], [], [], [4, 5], [4, 5, 6], [0, 1, 2, 3, 4, 5, 6, 7]])
 (.cond (.t 24) (Qr ([Qc 4 (.bool false)])
 (.ret)) (.skip)))))
 (.reg [Qk 25 .add 13 1, Qm 13 25])))))))
 (Qr ([Qc 4 (.bool true)])
 (.ret)))), [.mov (.t 4)]) := by kernel_rfl
theorem m_eqfc_ok : compF Tryz.prog 86 = some (32, Qr ([Qc 6 (.bool false)])
 (.seq (Qr ([Qm 10 0, Qn 11 10, Qm 12 1, Qn 13 12, Qb 14 .neq 11 13])
 (.cond (.t 14) (Qr ([Qc 6 (.bool false)])
 (.ret)) (.skip)))
 (.seq (Qr ([Qm 15 0, Qn 16 15, Qp 17 (.mov (Qi 0))])
 (.block 0 (.loop (Qr ([Qb 18 .lss 17 16])
 (.seq (.cond (.t 18) (.skip) (.exit 0))
 (.seq (.block 1 (Qr ([Qm 19 17, Qx 20 1 15 17, Ql 21 1 20, Qm 7 19, Qm 8 21])
 (Qr ([Qm 22 1, Qm 23 7, Qx 24 1 22 23, Ql 25 1 24, Qm 9 25])
 (Qr ([Qm 26 2, Qm 27 8, Qm 28 9, ⟨(some 29), none, (.callv (.t 26) [(.t 27), (.t 28)])⟩, Qp 30 (.un .not (.t 29))])
 (.cond (.t 30) (Qr ([Qc 6 (.bool false)])
 (.ret)) (.skip))))))
 (.reg [Qk 31 .add 17 1, Qm 17 31])))))))
 (Qr ([Qc 6 (.bool true)])
 (.ret)))), [.mov (.t 6)]) := by kernel_rfl
theorem m_wsamf_ok : compF Tryz.prog 40 = some (17, Qr ([Qw 2 (.box 34 (.t 0)), Qw 3 (.box 34 (.t 1)), Qc 4 (.bool false)])
 (Qr ([Qf 5 1 1 2, Ql 6 1 5, Qf 7 1 1 3, Ql 8 1 7, Qq 9 85 [(.t 6), (.t 8)], Qm 10 9, Q1 11 10 (.fieldA 0 0 (.t 2)), Q1 12 10 (.load false 1 (.t 11)), Q1 13 10 (.fieldA 0 0 (.t 3)), Q1 14 10 (.load false 1 (.t 13)), ⟨(some 15), (some (10, true)), (.call 86 [(.t 12), (.t 14), (.c (.fn 37))])⟩, Qu 16 10 15, Qm 4 16])
 (.ret)), [.mov (.t 4)]) := by kernel_rfl
set_option maxHeartbeats 4000000 in
theorem eqc_fn (a b : List Canon) : Fnc Tryz.prog 37 [.sl false 4 (a.map canonV), .sl false 4 (b.map canonV)] (fun x obs => x = .bool (decide (a = b)) ∧ obs = []) := by
  refine Fnc.wf fun hw => ?_
  simp only [V.wfs, V.wf, wfs_map, List.length_map] at hw
  have hm := hw.1.2
  have hm' := hw.2.1.2
  by_cases hl : a.length = b.length
  · skip
    refine zgo m_eqc_ok fun W S => ?_
    refine ev_loopK [0, 1, 12] (fun p : {p : Nat // p ≤ a.length ∧ a.take p = b.take p} => [(13, .int .i64 p.1)]) (fun _ => []) (fun p => a.length - p.1) (⟨0, by simp⟩) 0 (by simp only [go_sem]; rfl) ?_ (by first | rfl | (simp only [go_sem]; done)) (by simp) (by first | rfl | (simp only [go_sem]; done)) (by first | rfl | (simp only [go_sem]; done)) (by first | rfl | (simp only [go_sem]; done)) ?_
    · (simp only [go_sem]; (try simp []); done)
    intro J hJ
    rintro ⟨k, hk0, hk1⟩
    by_cases hlt : k < a.length
    · by_cases e : a[k]! = b[k]!
      · skip
        refine zst ?_
        exact zn0 (hJ _ (⟨k + 1, hlt, by rw [take_snoc hlt, take_snoc (by omega), hk1, e]⟩) (by first | omega | (dsimp only; omega) | (simp; omega))) hlt
      · have hne : a ≠ b := fun h => e (at_of_eq h k)
        refine zst ?_
        refine ret m_eqc_ok [] ?_; (first | (simp only [go_sem]; done) | (simp only [go_sem]; exact ⟨rfl, rfl⟩))
    · have hab := eq_of_take (by omega) (by omega) hk1
      refine zst ?_
      refine ret m_eqc_ok [] ?_; (first | (simp only [go_sem]; done) | (simp only [go_sem]; exact ⟨rfl, rfl⟩))
  · have hne : a ≠ b := fun h => hl (by rw [h])
    refine zgo m_eqc_ok fun W S => ?_
    refine ret m_eqc_ok [] ?_; (first | (simp only [go_sem]; done) | (simp only [go_sem]; exact ⟨rfl, rfl⟩))
set_option maxHeartbeats 8000000 in
theorem eqo_fn (a b : List Opn) : Fnc Tryz.prog 85 [.sl false 3 (a.map opnV), .sl false 3 (b.map opnV)] (fun x obs => x = .bool (decide (a = b)) ∧ obs = []) := by
  refine Fnc.wf fun hw => ?_
  simp only [V.wfs, V.wf, List.length_map] at hw
  have hm := hw.1.2
  have hm' := hw.2.1.2
  clear hw
  by_cases hl : a.length = b.length
  · skip
    refine zgo m_eqo_ok fun W S => ?_
    refine ev_loopK [0, 1, 12] (fun p : {p : Nat // p ≤ a.length ∧ a.take p = b.take p} => [(13, .int .i64 p.1)]) (fun _ => []) (fun p => a.length - p.1) (⟨0, by simp⟩) 0 (by simp only [go_sem]; rfl) ?_ (by first | rfl | (simp only [go_sem]; done)) (by simp) (by first | rfl | (simp only [go_sem]; done)) (by first | rfl | (simp only [go_sem]; done)) (by first | rfl | (simp only [go_sem]; done)) ?_
    · (simp only [go_sem]; (try simp []); done)
    intro J hJ
    rintro ⟨k, hk0, hk1⟩
    by_cases hlt : k < a.length
    · by_cases e : a[k]! = b[k]!
      · have hd : decide (a[k]! = b[k]!) = true := decT e
        repeat (first | (simp only [opn_eqs, hd]; try simp only [go_sem]) | refine And.intro (by omega) ?_ | refine And.intro rfl ?_ | refine ev_ctl rfl rfl ?_ | refine evr_nil ?_ | refine evw_nil (by kernel_rfl) ?_ | (simp (disch := omega) only [takeAll, Nat.min_eq_left, Nat.min_eq_right, if_pos, if_neg, getD_map, wrapI64, modIn, fdivE, tmodE, tdivE, decT, decF, beqT, beqF, bneT, bneF, Int.toNat_natCast]; try simp only [go_sem]) | (refine ev_condTb rfl ?_ ?_; · (simp <;> omega)) | (refine ev_condFb rfl ?_ ?_; · (simp <;> omega)) | ((first | refine ev_region ?_ | refine evr_go rfl ?_ | refine evw_go rfl ?_ | refine ev_dr0 mixed rfl (by kernel_rfl) ?_ | refine ev_dr1 mixed rfl (by kernel_rfl) ?_ | refine ev_dr2 mixed rfl (by kernel_rfl) ?_); simp only [go_sem]))
        exact zn0 (hJ _ (⟨k + 1, hlt, by rw [take_snoc hlt, take_snoc (by omega), hk1, e]⟩) (by first | omega | (dsimp only; omega) | (simp; omega))) hlt
      · have hd : decide (a[k]! = b[k]!) = false := decF e
        have hr : decide (a = b) = false := decF fun h => e (by rw [h])
        repeat (first | (simp only [opn_eqs, hd]; try simp only [go_sem]) | refine And.intro (by omega) ?_ | refine And.intro rfl ?_ | refine ev_ctl rfl rfl ?_ | refine evr_nil ?_ | refine evw_nil (by kernel_rfl) ?_ | (simp (disch := omega) only [takeAll, Nat.min_eq_left, Nat.min_eq_right, if_pos, if_neg, getD_map, wrapI64, modIn, fdivE, tmodE, tdivE, decT, decF, beqT, beqF, bneT, bneF, Int.toNat_natCast]; try simp only [go_sem]) | (refine ev_condTb rfl ?_ ?_; · (simp <;> omega)) | (refine ev_condFb rfl ?_ ?_; · (simp <;> omega)) | ((first | refine ev_region ?_ | refine evr_go rfl ?_ | refine evw_go rfl ?_ | refine ev_dr0 mixed rfl (by kernel_rfl) ?_ | refine ev_dr1 mixed rfl (by kernel_rfl) ?_ | refine ev_dr2 mixed rfl (by kernel_rfl) ?_); simp only [go_sem]))
        exact zrh m_eqo_ok hr
    · have hab := eq_of_take (by omega) (by omega) hk1
      have hr : decide (a = b) = true := decT hab
      refine zst ?_
      exact zrh m_eqo_ok hr
  · have hr : decide (a = b) = false := decF fun h => hl (by rw [h])
    refine zgo m_eqo_ok fun W S => ?_
    exact zrh m_eqo_ok hr
set_option maxHeartbeats 8000000 in
theorem eqfc_fn (a b : List (List Canon)) : Fnc Tryz.prog 86 [.sl false 1 (a.map (slV' false 4 canonV)), .sl false 1 (b.map (slV' false 4 canonV)), .fn 37] (fun x obs => x = .bool (decide (a = b)) ∧ obs = []) := by
  refine Fnc.wf fun hw => ?_
  simp only [V.wfs, V.wf, List.length_map] at hw
  have hm := hw.1.2
  have hm' := hw.2.1.2
  clear hw
  by_cases hl : a.length = b.length
  · skip
    refine zgo m_eqfc_ok fun W S => ?_
    refine ev_loopK [1, 2, 15, 16] (fun p : {p : Nat // p ≤ a.length ∧ a.take p = b.take p} => [(17, .int .i64 p.1)]) (fun _ => []) (fun p => a.length - p.1) (⟨0, by simp⟩) 0 (by simp only [go_sem]; rfl) ?_ (by first | rfl | (simp only [go_sem]; done)) (by simp) (by first | rfl | (simp only [go_sem]; done)) (by first | rfl | (simp only [go_sem]; done)) (by first | rfl | (simp only [go_sem]; done)) ?_
    · (simp only [go_sem]; (try simp []); done)
    intro J hJ
    rintro ⟨k, hk0, hk1⟩
    by_cases hlt : k < a.length
    · by_cases e : a[k]! = b[k]!
      · have hd : decide (a[k]! = b[k]!) = true := decT e
        refine zst ?_
        (first | refine callDv (eqc_fn a[k]! b[k]!) (by kernel_rfl) rfl ?_ | refine callDvw (eqc_fn a[k]! b[k]!) (by kernel_rfl) rfl ?_); simp only [go_sem, hd]
        refine zst ?_
        exact zn0 (hJ _ (⟨k + 1, hlt, by rw [take_snoc hlt, take_snoc (by omega), hk1, e]⟩) (by first | omega | (dsimp only; omega) | (simp; omega))) hlt
      · have hd : decide (a[k]! = b[k]!) = false := decF e
        have hr : decide (a = b) = false := decF fun h => e (by rw [h])
        refine zst ?_
        (first | refine callDv (eqc_fn a[k]! b[k]!) (by kernel_rfl) rfl ?_ | refine callDvw (eqc_fn a[k]! b[k]!) (by kernel_rfl) rfl ?_); simp only [go_sem, hd]
        refine zst ?_
        exact zrh m_eqfc_ok hr
    · have hab := eq_of_take (by omega) (by omega) hk1
      have hr : decide (a = b) = true := decT hab
      refine zst ?_
      exact zrh m_eqfc_ok hr
  · have hr : decide (a = b) = false := decF fun h => hl (by rw [h])
    refine zgo m_eqfc_ok fun W S => ?_
    exact zrh m_eqfc_ok hr
set_option maxHeartbeats 8000000 in
theorem wsamf_fn (a b : Files) : Fnc Tryz.prog 40 [filV a, filV b] (fun x obs => x = .bool (decide (a = b)) ∧ obs = []) := by
  have f1 := eqo_fn a.opens b.opens
  have f2 := eqfc_fn a.data b.data
  by_cases h1 : a.opens = b.opens
  · rw [decT h1] at f1
    have hr : decide (a.data = b.data) = decide (a = b) := by
      by_cases h2 : a.data = b.data
      · rw [decT h2, decT (files_ext h2 h1)]
      · rw [decF h2, decF fun h => h2 (by rw [h])]
    rw [hr] at f2
    refine zgo m_wsamf_ok fun W S => ?_
    refine zcd (f1) ?_
    refine zcd (f2) ?_
    exact zrt m_wsamf_ok
  · rw [decF h1] at f1
    have hr : decide (a = b) = false := decF fun h => h1 (by rw [h])
    refine zgo m_wsamf_ok fun W S => ?_
    refine zcd (f1) ?_
    exact zrh m_wsamf_ok hr
end Go.Proofs.YtkfpcgkmemfdaaaGreat
