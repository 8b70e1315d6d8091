/- The outside: equality, by both. -/
import Derived.Test.YtkfpcgkmemfdaaaGreatUW17
import Derived.Test.YtkfpcgkmemfdaaaGreatC5
import Derived.Test.YtkfpcgkmemfdaaaGreatUD
namespace Go.Proofs.YtkfpcgkmemfdaaaGreat
open Go Go.RowKit Rdn Rdn.Dp
set_option linter.unusedVariables false
set_option linter.unusedSimpArgs false
theorem m_eqw_ok : compF Tryz.prog 38 = some (26, Qr ([Qc 4 (.bool false)])
 (.seq (Qr ([Qm 6 0, Qn 7 6, Qm 8 1, Qn 9 8, Qb 10 .neq 7 9])
 (.cond (.t 10) (Qr ([Qc 4 (.bool false)])
 (.ret)) (.skip)))
 (.seq (Qr ([Qm 11 0, Qn 12 11, Qp 13 (.mov (Qi 0))])
 (.block 0 (.loop (Qr ([Qb 14 .lss 13 12])
 (.seq (.cond (.t 14) (.skip) (.exit 0))
 (.seq (.block 1 (Qr ([Qm 15 13, Qm 5 15])
 (.seq (.dreg [Qm 16 0, Qm 17 5, Qx 18 1 16 17, Ql 19 1 18, Qm 20 1, Qm 21 5, Qx 22 1 20 21, Ql 23 1 22, Qb 24 .neq 19 23] [[], [], [0, 1], [0, 1, 2], [], [], [4, 5], [4, 5, 6], [0, 1, 2, 3, 4, 5, 6, 7]])
 (.cond (.t 24) (Qr ([Qc 4 (.bool false)])
 (.ret)) (.skip)))))
 (.reg [Qk 25 .add 13 1, Qm 13 25])))))))
 (Qr ([Qc 4 (.bool true)])
 (.ret)))), [.mov (.t 4)]) := by kernel_rfl
theorem m_samev_ok : compF Tryz.prog 42 = some (26, Qr ([Qc 4 (.bool false)])
 (.seq (Qr ([Qm 6 0, Qn 7 6, Qm 8 1, Qn 9 8, Qb 10 .neq 7 9])
 (.cond (.t 10) (Qr ([Qc 4 (.bool false)])
 (.ret)) (.skip)))
 (.seq (Qr ([Qm 11 0, Qn 12 11, Qp 13 (.mov (Qi 0))])
 (.block 0 (.loop (Qr ([Qb 14 .lss 13 12])
 (.seq (.cond (.t 14) (.skip) (.exit 0))
 (.seq (.block 1 (Qr ([Qm 15 13, Qm 5 15])
 (.seq (.dreg [Qm 16 0, Qm 17 5, Qx 18 1 16 17, Ql 19 1 18, Qm 20 1, Qm 21 5, Qx 22 1 20 21, Ql 23 1 22, Qb 24 .neq 19 23] [[], [], [0, 1], [0, 1, 2], [], [], [4, 5], [4, 5, 6], [0, 1, 2, 3, 4, 5, 6, 7]])
 (.cond (.t 24) (Qr ([Qc 4 (.bool false)])
 (.ret)) (.skip)))))
 (.reg [Qk 25 .add 13 1, Qm 13 25])))))))
 (Qr ([Qc 4 (.bool true)])
 (.ret)))), [.mov (.t 4)]) := by kernel_rfl
theorem m_eqfw_ok : compF Tryz.prog 39 = some (32, Qr ([Qc 6 (.bool false)])
 (.seq (Qr ([Qm 10 0, Qn 11 10, Qm 12 1, Qn 13 12, Qb 14 .neq 11 13])
 (.cond (.t 14) (Qr ([Qc 6 (.bool false)])
 (.ret)) (.skip)))
 (.seq (Qr ([Qm 15 0, Qn 16 15, Qp 17 (.mov (Qi 0))])
 (.block 0 (.loop (Qr ([Qb 18 .lss 17 16])
 (.seq (.cond (.t 18) (.skip) (.exit 0))
 (.seq (.block 1 (Qr ([Qm 19 17, Qx 20 1 15 17, Ql 21 1 20, Qm 7 19, Qm 8 21])
 (Qr ([Qm 22 1, Qm 23 7, Qx 24 1 22 23, Ql 25 1 24, Qm 9 25])
 (Qr ([Qm 26 2, Qm 27 8, Qm 28 9, ⟨(some 29), none, (.callv (.t 26) [(.t 27), (.t 28)])⟩, Qp 30 (.un .not (.t 29))])
 (.cond (.t 30) (Qr ([Qc 6 (.bool false)])
 (.ret)) (.skip))))))
 (.reg [Qk 31 .add 17 1, Qm 17 31])))))))
 (Qr ([Qc 6 (.bool true)])
 (.ret)))), [.mov (.t 6)]) := by kernel_rfl
theorem m_wso1_ok : compF Tryz.prog 36 = some (24, Qr ([Qw 2 (.box 45 (.t 0)), Qw 3 (.box 45 (.t 1)), Qc 4 (.bool false)])
 (Qr ([Qf 5 0 0 2, Ql 6 1 5, Qf 7 0 0 3, Ql 8 1 7, Qb 9 .eql 6 8, Qm 10 9, Q1 11 10 (.fieldA 1 1 (.t 2)), Q1 12 10 (.load false 1 (.t 11)), Q1 13 10 (.fieldA 1 1 (.t 3)), Q1 14 10 (.load false 1 (.t 13)), Q1 15 10 (.bin 0 .eql (.t 12) (.t 14)), Qu 16 10 15, Qm 17 16, Q1 18 17 (.fieldA 2 2 (.t 2)), Q1 19 17 (.load false 1 (.t 18)), Q1 20 17 (.fieldA 2 2 (.t 3)), Q1 21 17 (.load false 1 (.t 20)), ⟨(some 22), (some (17, true)), (.call 37 [(.t 19), (.t 21)])⟩, Qu 23 17 22, Qm 4 23])
 (.ret)), [.mov (.t 4)]) := by kernel_rfl
theorem m_eqfo_ok : compF Tryz.prog 41 = some (32, Qr ([Qc 6 (.bool false)])
 (.seq (Qr ([Qm 10 0, Qn 11 10, Qm 12 1, Qn 13 12, Qb 14 .neq 11 13])
 (.cond (.t 14) (Qr ([Qc 6 (.bool false)])
 (.ret)) (.skip)))
 (.seq (Qr ([Qm 15 0, Qn 16 15, Qp 17 (.mov (Qi 0))])
 (.block 0 (.loop (Qr ([Qb 18 .lss 17 16])
 (.seq (.cond (.t 18) (.skip) (.exit 0))
 (.seq (.block 1 (Qr ([Qm 19 17, Qx 20 3 15 17, QL 21 3 20, Qw 8 (.alloc 45 (.agg [.int .i64 0, .int .i64 0, .nilS])), Qm 7 19, Qs 3 8 21])
 (Qr ([Qm 22 1, Qm 23 7, Qx 24 3 22 23, QL 25 3 24, Qw 9 (.alloc 45 (.agg [.int .i64 0, .int .i64 0, .nilS])), Qs 3 9 25])
 (Qr ([Qm 26 2, QL 27 3 8, QL 28 3 9, ⟨(some 29), none, (.callv (.t 26) [(.t 27), (.t 28)])⟩, Qp 30 (.un .not (.t 29))])
 (.cond (.t 30) (Qr ([Qc 6 (.bool false)])
 (.ret)) (.skip))))))
 (.reg [Qk 31 .add 17 1, Qm 17 31])))))))
 (Qr ([Qc 6 (.bool true)])
 (.ret)))), [.mov (.t 6)]) := by kernel_rfl
theorem m_wsao_ok : compF Tryz.prog 11 = some (40, Qr ([Qw 2 (.box 37 (.t 0)), Qw 3 (.box 37 (.t 1)), Qc 4 (.bool false)])
 (Qr ([Qp 5 (.mov (.c (.fn 36)))])
 (Qr ([Qf 6 0 0 2, Ql 7 1 6, Qf 8 0 0 3, Ql 9 1 8, Qq 10 38 [(.t 7), (.t 9)], Qm 11 10, Q1 12 11 (.fieldA 1 1 (.t 2)), Q1 13 11 (.load false 1 (.t 12)), Q1 14 11 (.fieldA 1 1 (.t 3)), Q1 15 11 (.load false 1 (.t 14)), ⟨(some 16), (some (11, true)), (.call 38 [(.t 13), (.t 15)])⟩, Qu 17 11 16, Qm 18 17, Q1 19 18 (.fieldA 2 2 (.t 2)), Q1 20 18 (.load false 1 (.t 19)), Q1 21 18 (.fieldA 2 2 (.t 3)), Q1 22 18 (.load false 1 (.t 21)), ⟨(some 23), (some (18, true)), (.call 39 [(.t 20), (.t 22), (.c (.fn 38))])⟩, Qu 24 18 23, Qm 25 24, Q1 26 25 (.fieldA 3 3 (.t 2)), Q1 27 25 (.load true 2 (.t 26)), Q1 28 25 (.fieldA 3 3 (.t 3)), Q1 29 25 (.load true 2 (.t 28)), ⟨(some 30), (some (25, true)), (.call 40 [(.t 27), (.t 29)])⟩, Qu 31 25 30, Qm 32 31, Q1 33 32 (.fieldA 5 4 (.t 2)), Q1 34 32 (.load false 1 (.t 33)), Q1 35 32 (.fieldA 5 4 (.t 3)), Q1 36 32 (.load false 1 (.t 35)), Q1 37 32 (.mov (.t 5)), ⟨(some 38), (some (32, true)), (.call 41 [(.t 34), (.t 36), (.t 37)])⟩, Qu 39 32 38, Qm 4 39])
 (.ret))), [.mov (.t 4)]) := by kernel_rfl
set_option maxHeartbeats 4000000 in
theorem eqw_fn (a b : List Int) : Fnc Tryz.prog 38 [.sl false 1 (a.map (V.int .u16)), .sl false 1 (b.map (V.int .u16))] (fun x obs => x = .bool (decide (a = b)) ∧ obs = []) := by
  refine Fnc.wf fun hw => ?_
  simp only [V.wfs, V.wf, wfs_map, List.length_map] at hw
  have hm := hw.1.2
  have hm' := hw.2.1.2
  by_cases hl : a.length = b.length
  · skip
    refine zgo m_eqw_ok fun W S => ?_
    refine ev_loopK [0, 1, 12] (fun p : {p : Nat // p ≤ a.length ∧ a.take p = b.take p} => [(13, .int .i64 p.1)]) (fun _ => []) (fun p => a.length - p.1) (⟨0, by simp⟩) 0 (by simp only [go_sem]; rfl) ?_ (by first | rfl | (simp only [go_sem]; done)) (by simp) (by first | rfl | (simp only [go_sem]; done)) (by first | rfl | (simp only [go_sem]; done)) (by first | rfl | (simp only [go_sem]; done)) ?_
    · (simp only [go_sem]; (try simp []); done)
    intro J hJ
    rintro ⟨k, hk0, hk1⟩
    by_cases hlt : k < a.length
    · by_cases e : a[k]! = b[k]!
      · skip
        refine zst ?_
        exact zn0 (hJ _ (⟨k + 1, hlt, by rw [take_snoc hlt, take_snoc (by omega), hk1, e]⟩) (by first | omega | (dsimp only; omega) | (simp; omega))) hlt
      · have hne : a ≠ b := fun h => e (at_of_eq h k)
        refine zst ?_
        refine ret m_eqw_ok [] ?_; (first | (simp only [go_sem]; done) | (simp only [go_sem]; exact ⟨rfl, rfl⟩))
    · have hab := eq_of_take (by omega) (by omega) hk1
      refine zst ?_
      refine ret m_eqw_ok [] ?_; (first | (simp only [go_sem]; done) | (simp only [go_sem]; exact ⟨rfl, rfl⟩))
  · have hne : a ≠ b := fun h => hl (by rw [h])
    refine zgo m_eqw_ok fun W S => ?_
    refine ret m_eqw_ok [] ?_; (first | (simp only [go_sem]; done) | (simp only [go_sem]; exact ⟨rfl, rfl⟩))
set_option maxHeartbeats 4000000 in
theorem samev_fn (a b : List Int) : Fnc Tryz.prog 42 [.sl false 1 (a.map (V.int .u16)), .sl false 1 (b.map (V.int .u16))] (fun x obs => x = .bool (decide (a = b)) ∧ obs = []) := by
  refine Fnc.wf fun hw => ?_
  simp only [V.wfs, V.wf, wfs_map, List.length_map] at hw
  have hm := hw.1.2
  have hm' := hw.2.1.2
  by_cases hl : a.length = b.length
  · skip
    refine zgo m_samev_ok fun W S => ?_
    refine ev_loopK [0, 1, 12] (fun p : {p : Nat // p ≤ a.length ∧ a.take p = b.take p} => [(13, .int .i64 p.1)]) (fun _ => []) (fun p => a.length - p.1) (⟨0, by simp⟩) 0 (by simp only [go_sem]; rfl) ?_ (by first | rfl | (simp only [go_sem]; done)) (by simp) (by first | rfl | (simp only [go_sem]; done)) (by first | rfl | (simp only [go_sem]; done)) (by first | rfl | (simp only [go_sem]; done)) ?_
    · (simp only [go_sem]; (try simp []); done)
    intro J hJ
    rintro ⟨k, hk0, hk1⟩
    by_cases hlt : k < a.length
    · by_cases e : a[k]! = b[k]!
      · skip
        refine zst ?_
        exact zn0 (hJ _ (⟨k + 1, hlt, by rw [take_snoc hlt, take_snoc (by omega), hk1, e]⟩) (by first | omega | (dsimp only; omega) | (simp; omega))) hlt
      · have hne : a ≠ b := fun h => e (at_of_eq h k)
        refine zst ?_
        refine ret m_samev_ok [] ?_; (first | (simp only [go_sem]; done) | (simp only [go_sem]; exact ⟨rfl, rfl⟩))
    · have hab := eq_of_take (by omega) (by omega) hk1
      refine zst ?_
      refine ret m_samev_ok [] ?_; (first | (simp only [go_sem]; done) | (simp only [go_sem]; exact ⟨rfl, rfl⟩))
  · have hne : a ≠ b := fun h => hl (by rw [h])
    refine zgo m_samev_ok fun W S => ?_
    refine ret m_samev_ok [] ?_; (first | (simp only [go_sem]; done) | (simp only [go_sem]; exact ⟨rfl, rfl⟩))
set_option maxHeartbeats 8000000 in
theorem eqfw_fn (a b : List (List Int)) : Fnc Tryz.prog 39 [.sl false 1 (a.map (slV' false 1 (V.int .u16))), .sl false 1 (b.map (slV' false 1 (V.int .u16))), .fn 38] (fun x obs => x = .bool (decide (a = b)) ∧ obs = []) := by
  refine Fnc.wf fun hw => ?_
  simp only [V.wfs, V.wf, List.length_map] at hw
  have hm := hw.1.2
  have hm' := hw.2.1.2
  clear hw
  by_cases hl : a.length = b.length
  · skip
    refine zgo m_eqfw_ok fun W S => ?_
    refine ev_loopK [1, 2, 15, 16] (fun p : {p : Nat // p ≤ a.length ∧ a.take p = b.take p} => [(17, .int .i64 p.1)]) (fun _ => []) (fun p => a.length - p.1) (⟨0, by simp⟩) 0 (by simp only [go_sem]; rfl) ?_ (by first | rfl | (simp only [go_sem]; done)) (by simp) (by first | rfl | (simp only [go_sem]; done)) (by first | rfl | (simp only [go_sem]; done)) (by first | rfl | (simp only [go_sem]; done)) ?_
    · (simp only [go_sem]; (try simp []); done)
    intro J hJ
    rintro ⟨k, hk0, hk1⟩
    by_cases hlt : k < a.length
    · by_cases e : a[k]! = b[k]!
      · have hd : decide (a[k]! = b[k]!) = true := decT e
        refine zst ?_
        (first | refine callDv (eqw_fn a[k]! b[k]!) (by kernel_rfl) rfl ?_ | refine callDvw (eqw_fn a[k]! b[k]!) (by kernel_rfl) rfl ?_); simp only [go_sem, hd]
        refine zst ?_
        exact zn0 (hJ _ (⟨k + 1, hlt, by rw [take_snoc hlt, take_snoc (by omega), hk1, e]⟩) (by first | omega | (dsimp only; omega) | (simp; omega))) hlt
      · have hd : decide (a[k]! = b[k]!) = false := decF e
        have hr : decide (a = b) = false := decF fun h => e (by rw [h])
        refine zst ?_
        (first | refine callDv (eqw_fn a[k]! b[k]!) (by kernel_rfl) rfl ?_ | refine callDvw (eqw_fn a[k]! b[k]!) (by kernel_rfl) rfl ?_); simp only [go_sem, hd]
        refine zst ?_
        exact zrh m_eqfw_ok hr
    · have hab := eq_of_take (by omega) (by omega) hk1
      have hr : decide (a = b) = true := decT hab
      refine zst ?_
      exact zrh m_eqfw_ok hr
  · have hr : decide (a = b) = false := decF fun h => hl (by rw [h])
    refine zgo m_eqfw_ok fun W S => ?_
    exact zrh m_eqfw_ok hr
set_option maxHeartbeats 8000000 in
theorem wso1_fn (a b : Output) : Fnc Tryz.prog 36 [outputV false a, outputV false b] (fun x obs => x = .bool (eqB a b) ∧ obs = []) := by
  have f := eqc_fn a.data b.data
  by_cases c1 : a.seq = b.seq
  rotate_left
  · rw [eqB_F (fun h => c1 (by rw [h]))]
    refine zgo m_wso1_ok fun W S => ?_
    exact zrt m_wso1_ok
  by_cases c2 : a.socket = b.socket
  rotate_left
  · rw [eqB_F (fun h => c2 (by rw [h]))]
    refine zgo m_wso1_ok fun W S => ?_
    exact zrt m_wso1_ok
  by_cases c3 : a.data = b.data
  · rw [decT c3] at f
    rw [eqB_T (out_ext c1 c2 c3)]
    refine zgo m_wso1_ok fun W S => ?_
    refine zcd (f) ?_
    exact zrt m_wso1_ok
  · rw [decF c3] at f
    rw [eqB_F (fun h => c3 (by rw [h]))]
    refine zgo m_wso1_ok fun W S => ?_
    refine zcd (f) ?_
    exact zrt m_wso1_ok
set_option maxHeartbeats 8000000 in
theorem eqfo_fn (a b : List Output) : Fnc Tryz.prog 41 [.sl false 3 (a.map (outputV false)), .sl false 3 (b.map (outputV false)), .fn 36] (fun x obs => x = .bool (eqB a b) ∧ obs = []) := by
  refine Fnc.wf fun hw => ?_
  simp only [V.wfs, V.wf, List.length_map] at hw
  have hm := hw.1.2
  have hm' := hw.2.1.2
  clear hw
  by_cases hl : a.length = b.length
  · skip
    refine zgo m_eqfo_ok fun W S => ?_
    refine ev_loopK [1, 2, 15, 16] (fun p : {p : Nat // p ≤ a.length ∧ a.take p = b.take p} => [(17, .int .i64 p.1)]) (fun _ => []) (fun p => a.length - p.1) (⟨0, by simp⟩) 0 (by simp only [go_sem]; rfl) ?_ (by first | rfl | (simp only [go_sem]; done)) (by simp) (by first | rfl | (simp only [go_sem]; done)) (by first | rfl | (simp only [go_sem]; done)) (by first | rfl | (simp only [go_sem]; done)) ?_
    · (simp only [go_sem]; (try simp []); done)
    intro J hJ
    rintro ⟨k, hk0, hk1⟩
    by_cases hlt : k < a.length
    · have fo := wso1_fn a[k]! b[k]!
      by_cases e : a[k]! = b[k]!
      · rw [eqB_T e] at fo
        refine zst ?_
        refine zcv (fo) ?_
        exact zn0 (hJ _ (⟨k + 1, hlt, by rw [take_snoc hlt, take_snoc (by omega), hk1, e]⟩) (by first | omega | (dsimp only; omega) | (simp; omega))) hlt
      · rw [eqB_F e] at fo
        have hr : eqB a b = false := eqB_F fun h => e (by rw [h])
        refine zst ?_
        refine zcv (fo) ?_
        exact zrh m_eqfo_ok hr
    · have hab := eq_of_take (by omega) (by omega) hk1
      have hr : eqB a b = true := eqB_T hab
      refine zst ?_
      exact zrh m_eqfo_ok hr
  · have hr : eqB a b = false := eqB_F fun h => hl (by rw [h])
    refine zgo m_eqfo_ok fun W S => ?_
    exact zrh m_eqfo_ok hr
theorem outs_ext {a b : Rdn.Outside} (h1 : a.clock = b.clock) (h2 : a.random = b.random) (h3 : a.inputs = b.inputs) (h4 : a.files = b.files) (h5 : a.outputs = b.outputs) : a = b := by
  cases a; cases b; simp only at h1 h2 h3 h4 h5; rw [h1, h2, h3, h4, h5]
set_option maxHeartbeats 8000000 in
theorem wsao_fn (a b : Rdn.Outside) : Fnc Tryz.prog 11 [outsV a, outsV b] (fun x obs => x = .bool (eqB a b) ∧ obs = []) := by
  have f1 := eqw_fn a.clock b.clock
  have f2 := eqw_fn a.random b.random
  have f3 := eqfw_fn a.inputs b.inputs
  have f4 := wsamf_fn a.files b.files
  have f5 := eqfo_fn a.outputs b.outputs
  by_cases c1 : a.clock = b.clock
  rotate_left
  · rw [decF c1] at f1
    rw [eqB_F (fun h => c1 (by rw [h]))]
    refine zgo m_wsao_ok fun W S => ?_
    refine zcd (f1) ?_
    exact zrt m_wsao_ok
  rw [decT c1] at f1
  by_cases c2 : a.random = b.random
  rotate_left
  · rw [decF c2] at f2
    rw [eqB_F (fun h => c2 (by rw [h]))]
    refine zgo m_wsao_ok fun W S => ?_
    refine zcd (f1) ?_
    refine zcd (f2) ?_
    exact zrt m_wsao_ok
  rw [decT c2] at f2
  by_cases c3 : a.inputs = b.inputs
  rotate_left
  · rw [decF c3] at f3
    rw [eqB_F (fun h => c3 (by rw [h]))]
    refine zgo m_wsao_ok fun W S => ?_
    refine zcd (f1) ?_
    refine zcd (f2) ?_
    refine zcd (f3) ?_
    exact zrt m_wsao_ok
  rw [decT c3] at f3
  by_cases c4 : a.files = b.files
  rotate_left
  · rw [decF c4] at f4
    rw [eqB_F (fun h => c4 (by rw [h]))]
    refine zgo m_wsao_ok fun W S => ?_
    refine zcd (f1) ?_
    refine zcd (f2) ?_
    refine zcd (f3) ?_
    refine zcd (f4) ?_
    exact zrt m_wsao_ok
  rw [decT c4] at f4
  by_cases c5 : a.outputs = b.outputs
  rotate_left
  · rw [eqB_F c5] at f5
    rw [eqB_F (fun h => c5 (by rw [h]))]
    refine zgo m_wsao_ok fun W S => ?_
    refine zcd (f1) ?_
    refine zcd (f2) ?_
    refine zcd (f3) ?_
    refine zcd (f4) ?_
    refine zcd (f5) ?_
    exact zrt m_wsao_ok
  rw [eqB_T c5] at f5
  rw [eqB_T (outs_ext c1 c2 c3 c4 c5)]
  refine zgo m_wsao_ok fun W S => ?_
  refine zcd (f1) ?_
  refine zcd (f2) ?_
  refine zcd (f3) ?_
  refine zcd (f4) ?_
  refine zcd (f5) ?_
  exact zrt m_wsao_ok
set_option maxHeartbeats 8000000 in
theorem rsao_fn (a b : Rdn.Outside) : Fnc Tryz.prog 12 [outsV a, outsV b] (fun x obs => x = .bool (eqB a b) ∧ obs = []) := by
  refine Fnc.wf fun hw => ?_
  simp only [V.wfs, V.wf, wfs_map, List.length_map] at hw
  have m3 := hw.1.2.2.1.2
  have m4 := hw.2.1.2.2.1.2
  clear hw
  have f1 := samev_fn a.clock b.clock
  have f2 := samev_fn a.random b.random
  have f3 := rsamf_fn a.files b.files
  have f4 := rsameo_fn a.outputs b.outputs
  by_cases c1 : a.clock = b.clock
  rotate_left
  · rw [decF c1] at f1
    rw [eqB_F (fun h => c1 (by rw [h]))]
    refine zgo m_rsao_ok fun W S => ?_
    refine zcd (f1) ?_
    exact zrt m_rsao_ok
  rw [decT c1] at f1
  by_cases c2 : a.random = b.random
  rotate_left
  · rw [decF c2] at f2
    rw [eqB_F (fun h => c2 (by rw [h]))]
    refine zgo m_rsao_ok fun W S => ?_
    refine zcd (f1) ?_
    refine zcd (f2) ?_
    exact zrt m_rsao_ok
  rw [decT c2] at f2
  by_cases hl : a.inputs.length = b.inputs.length
  rotate_left
  · rw [eqB_F (fun h => hl (by rw [h]))]
    refine zgo m_rsao_ok fun W S => ?_
    refine zcd (f1) ?_
    refine zcd (f2) ?_
    exact zrt m_rsao_ok
  by_cases c4 : a.files = b.files
  rotate_left
  · rw [decF c4] at f3
    rw [eqB_F (fun h => c4 (by rw [h]))]
    refine zgo m_rsao_ok fun W S => ?_
    refine zcd (f1) ?_
    refine zcd (f2) ?_
    refine zcd (f3) ?_
    exact zrt m_rsao_ok
  rw [decT c4] at f3
  by_cases c5 : a.outputs = b.outputs
  rotate_left
  · rw [eqB_F c5] at f4
    rw [eqB_F (fun h => c5 (by rw [h]))]
    refine zgo m_rsao_ok fun W S => ?_
    refine zcd (f1) ?_
    refine zcd (f2) ?_
    refine zcd (f3) ?_
    refine zcd (f4) ?_
    exact zrt m_rsao_ok
  rw [eqB_T c5] at f4
  refine zgo m_rsao_ok fun W S => ?_
  refine zcd (f1) ?_
  refine zcd (f2) ?_
  refine zcd (f3) ?_
  refine zcd (f4) ?_
  refine ev_loopK [2, 3, 47] (fun p : {p : Nat // p ≤ a.inputs.length ∧ a.inputs.take p = b.inputs.take p} => [(48, .int .i64 p.1)]) (fun _ => [⟨.box false 37, true, 0, outsV a⟩, ⟨.box false 37, true, 0, outsV b⟩]) (fun p => a.inputs.length - p.1) (⟨0, by simp⟩) 2 (by simp only [go_sem]; rfl) ?_ (by first | rfl | (simp only [go_sem]; done)) (by simp) (by first | rfl | (simp only [go_sem]; done)) (by first | rfl | (simp only [go_sem]; done)) (by first | rfl | (simp only [go_sem]; done)) ?_
  · (simp only [go_sem]; (try simp []); done)
  intro J hJ
  rintro ⟨k, hk0, hk1⟩
  by_cases hlt : k < a.inputs.length
  · have f5 := samev_fn a.inputs[k]! b.inputs[k]!
    by_cases e : a.inputs[k]! = b.inputs[k]!
    · rw [decT e] at f5
      refine zst ?_
      refine zcd (f5) ?_
      exact zn2 (hJ _ (⟨k + 1, hlt, by rw [take_snoc hlt, take_snoc (by omega), hk1, e]⟩) (by first | omega | (dsimp only; omega) | (simp; omega))) hlt
    · rw [decF e] at f5
      rw [eqB_F (fun h => e (by rw [h]))]
      refine zst ?_
      refine zcd (f5) ?_
      exact zrt m_rsao_ok
  · have hab := eq_of_take (by omega) (by omega) hk1
    rw [eqB_T (outs_ext c1 c2 hab c4 c5)]
    refine zst ?_
    exact zrt m_rsao_ok
end Go.Proofs.YtkfpcgkmemfdaaaGreat
