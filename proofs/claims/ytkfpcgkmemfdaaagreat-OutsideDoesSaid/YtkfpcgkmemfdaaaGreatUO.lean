/- U1, U1b, U2, U3, in one text. -/
import Derived.Test.YtkfpcgkmemfdaaaGreatUV
import Derived.Test.YtkfpcgkmemfdaaaGreatC5
import Derived.Test.YtkfpcgkmemfdaaaGreatUS
/- The outside: which ones are valid. -/
namespace Go.Proofs.YtkfpcgkmemfdaaaGreat
open Go Go.RowKit Rdn Rdn.Dp
set_option linter.unusedVariables false
set_option linter.unusedSimpArgs false
theorem m_ov1_ok : compF Tryz.prog 26 = some (6, Qr ([Qc 2 (.bool false)])
 (Qr ([Qm 3 0, Qn 4 3, Qk 5 .gtr 4 64, Qm 2 5])
 (.ret)), [.mov (.t 2)]) := by kernel_rfl
theorem m_ov2_ok : compF Tryz.prog 27 = some (7, Qr ([Qw 1 (.box 45 (.t 0)), Qc 2 (.bool false)])
 (Qr ([Qf 3 2 2 1, Ql 4 1 3, Qq 5 28 [(.t 4), (Qi 16)], Qp 6 (.un .not (.t 5)), Qm 2 6])
 (.ret)), [.mov (.t 2)]) := by kernel_rfl
theorem m_ixw_ok : compF Tryz.prog 78 = some (19, Qr ([Qp 4 (.mov (Qi 0))])
 (.seq (Qr ([Qm 6 0, Qn 7 6, Qp 8 (.mov (Qi 0))])
 (.block 0 (.loop (Qr ([Qb 9 .lss 8 7])
 (.seq (.cond (.t 9) (.skip) (.exit 0))
 (.seq (.block 1 (Qr ([Qm 10 8, Qm 5 10])
 (Qr ([Qm 11 1, Qm 12 0, Qm 13 5, Qx 14 1 12 13, Ql 15 1 14, ⟨(some 16), none, (.callv (.t 11) [(.t 15)])⟩])
 (.cond (.t 16) (Qr ([Qm 17 5, Qm 4 17])
 (.ret)) (.skip)))))
 (.reg [Qk 18 .add 8 1, Qm 8 18])))))))
 (Qr ([Qp 4 (.mov (Qi (-1)))])
 (.ret))), [.mov (.t 4)]) := by kernel_rfl
theorem m_cow_ok : compF Tryz.prog 29 = some (9, Qr ([Qc 4 (.bool false)])
 (Qr ([Qm 5 0, Qm 6 1, Qq 7 78 [(.t 5), (.t 6)], Qk 8 .geq 7 0, Qm 4 8])
 (.ret)), [.mov (.t 4)]) := by kernel_rfl
theorem m_ixo_ok : compF Tryz.prog 83 = some (19, Qr ([Qp 4 (.mov (Qi 0))])
 (.seq (Qr ([Qm 6 0, Qn 7 6, Qp 8 (.mov (Qi 0))])
 (.block 0 (.loop (Qr ([Qb 9 .lss 8 7])
 (.seq (.cond (.t 9) (.skip) (.exit 0))
 (.seq (.block 1 (Qr ([Qm 10 8, Qm 5 10])
 (Qr ([Qm 11 1, Qm 12 0, Qm 13 5, Qx 14 3 12 13, QL 15 3 14, ⟨(some 16), none, (.callv (.t 11) [(.t 15)])⟩])
 (.cond (.t 16) (Qr ([Qm 17 5, Qm 4 17])
 (.ret)) (.skip)))))
 (.reg [Qk 18 .add 8 1, Qm 8 18])))))))
 (Qr ([Qp 4 (.mov (Qi (-1)))])
 (.ret))), [.mov (.t 4)]) := by kernel_rfl
theorem m_coo_ok : compF Tryz.prog 32 = some (9, Qr ([Qc 4 (.bool false)])
 (Qr ([Qm 5 0, Qm 6 1, Qq 7 83 [(.t 5), (.t 6)], Qk 8 .geq 7 0, Qm 4 8])
 (.ret)), [.mov (.t 4)]) := by kernel_rfl
theorem m_woval_ok : compF Tryz.prog 9 = some (49, Qr ([Qw 1 (.box 37 (.t 0)), Qc 2 (.bool false)])
 (.seq (Qr ([Qf 5 0 0 1, Ql 6 1 5, Qn 7 6, Qk 8 .gtr 7 64, Qm 9 8, Q0 10 9 (.fieldA 1 1 (.t 1)), Q0 11 9 (.load false 1 (.t 10)), Q0 12 9 (.len (.t 11)), Q0 13 9 (.bin 0 .gtr (.t 12) (Qi 64)), Qt 14 9 13, Qm 15 14, Q0 16 15 (.fieldA 2 2 (.t 1)), Q0 17 15 (.load false 1 (.t 16)), Q0 18 15 (.len (.t 17)), Q0 19 15 (.bin 0 .gtr (.t 18) (Qi 2)), Qt 20 15 19, Qm 21 20, Q0 22 21 (.fieldA 5 4 (.t 1)), Q0 23 21 (.load false 1 (.t 22)), Q0 24 21 (.len (.t 23)), Q0 25 21 (.bin 0 .gtr (.t 24) (Qi 200)), Qt 26 21 25])
 (.cond (.t 26) (Qr ([Qc 2 (.bool false)])
 (.ret)) (.skip)))
 (Qr ([Qp 3 (.mov (.c (.fn 26)))])
 (Qr ([Qp 4 (.mov (.c (.fn 27)))])
 (Qr ([Qf 27 2 2 1, Ql 28 1 27, Qm 29 3, Qq 30 29 [(.t 28), (.t 29)], Qp 31 (.un .not (.t 30)), Qm 32 31, Q1 33 32 (.fieldA 3 3 (.t 1)), Q1 34 32 (.load true 2 (.t 33)), ⟨(some 35), (some (32, true)), (.call 30 [(.t 34)])⟩, Qu 36 32 35, Qm 37 36, Q1 38 37 (.fieldA 5 4 (.t 1)), Q1 39 37 (.load false 1 (.t 38)), ⟨(some 40), (some (37, true)), (.call 31 [(.t 39)])⟩, Qu 41 37 40, Qm 42 41, Q1 43 42 (.fieldA 5 4 (.t 1)), Q1 44 42 (.load false 1 (.t 43)), Q1 45 42 (.mov (.t 4)), ⟨(some 46), (some (42, true)), (.call 32 [(.t 44), (.t 45)])⟩, Q1 47 42 (.un .not (.t 46)), Qu 48 42 47, Qm 2 48])
 (.ret))))), [.mov (.t 2)]) := by kernel_rfl
theorem m_roval_ok : compF Tryz.prog 10 = some (62, Qr ([Qw 1 (.box 37 (.t 0)), Qc 2 (.bool false)])
 (.seq (Qr ([Qf 7 2 2 1, Ql 8 1 7, Qn 9 8, Qp 10 (.mov (Qi 0))])
 (.block 0 (.loop (Qr ([Qb 11 .lss 10 9])
 (.seq (.cond (.t 11) (.skip) (.exit 0))
 (.seq (.block 1 (Qr ([Qx 12 1 8 10, Ql 13 1 12, Qm 4 13])
 (Qr ([Qm 14 4, Qn 15 14, Qk 16 .gtr 15 64])
 (.cond (.t 16) (Qr ([Qc 2 (.bool false)])
 (.ret)) (.skip)))))
 (.reg [Qk 17 .add 10 1, Qm 10 17])))))))
 (.seq (Qr ([Qf 18 5 4 1, Ql 19 1 18, Qn 20 19, Qp 21 (.mov (Qi 0))])
 (.block 2 (.loop (Qr ([Qb 22 .lss 21 20])
 (.seq (.cond (.t 22) (.skip) (.exit 2))
 (.seq (.block 3 (Qr ([Qx 23 3 19 21, QL 24 3 23, Qw 6 (.alloc 45 (.agg [.int .i64 0, .int .i64 0, .nilS])), Qs 3 6 24])
 (Qr ([Qf 25 2 2 6, Ql 26 1 25, Qq 27 33 [(.t 26), (Qi 16)], Qp 28 (.un .not (.t 27))])
 (.cond (.t 28) (Qr ([Qc 2 (.bool false)])
 (.ret)) (.skip)))))
 (.reg [Qk 29 .add 21 1, Qm 21 29])))))))
 (Qr ([Qf 30 0 0 1, Ql 31 1 30, Qn 32 31, Qk 33 .leq 32 64, Qm 34 33, Q1 35 34 (.fieldA 1 1 (.t 1)), Q1 36 34 (.load false 1 (.t 35)), Q1 37 34 (.len (.t 36)), Q1 38 34 (.bin 0 .leq (.t 37) (Qi 64)), Qu 39 34 38, Qm 40 39, Q1 41 40 (.fieldA 2 2 (.t 1)), Q1 42 40 (.load false 1 (.t 41)), Q1 43 40 (.len (.t 42)), Q1 44 40 (.bin 0 .leq (.t 43) (Qi 2)), Qu 45 40 44, Qm 46 45, Q1 47 46 (.fieldA 3 3 (.t 1)), Q1 48 46 (.load true 2 (.t 47)), ⟨(some 49), (some (46, true)), (.call 34 [(.t 48)])⟩, Qu 50 46 49, Qm 51 50, Q1 52 51 (.fieldA 5 4 (.t 1)), Q1 53 51 (.load false 1 (.t 52)), Q1 54 51 (.len (.t 53)), Q1 55 51 (.bin 0 .leq (.t 54) (Qi 200)), Qu 56 51 55, Qm 57 56, Q1 58 57 (.fieldA 5 4 (.t 1)), Q1 59 57 (.load false 1 (.t 58)), ⟨(some 60), (some (57, true)), (.call 35 [(.t 59)])⟩, Qu 61 57 60, Qm 2 61])
 (.ret)))), [.mov (.t 2)]) := by kernel_rfl
abbrev owV (w : List Int) : V := .sl false 1 (u16s w)
abbrev outsV (o : Rdn.Outside) : V := .agg [owV o.clock, owV o.random, .sl false 1 (o.inputs.map (slV' false 1 (V.int .u16))), filV o.files, .sl false 3 (o.outputs.map (outputV false))]
def longW (w : List Int) : Bool := decide (64 < w.length)
def oddO (x : Output) : Bool := !cellsB x.data 16
/-- Whether an outside is valid. -/
structure FitO (o : Rdn.Outside) : Prop where
  c : o.clock.length ≤ 64
  r : o.random.length ≤ 64
  i : o.inputs.length ≤ 2
  w : ∀ x ∈ o.inputs, x.length ≤ 64
  f : FitF o.files
  n : o.outputs.length ≤ 200
  od : ordered o.outputs
  d : ∀ x ∈ o.outputs, cellsB x.data 16 = true
noncomputable def valO (o : Rdn.Outside) : Bool := @decide (FitO o) (Classical.propDecidable _)
theorem valO_T {o : Rdn.Outside} (h : FitO o) : valO o = true := by unfold valO; exact @decide_eq_true _ (Classical.propDecidable _) h
theorem valO_F {o : Rdn.Outside} (h : ¬ FitO o) : valO o = false := by unfold valO; exact @decide_eq_false _ (Classical.propDecidable _) h
theorem valO_to {o : Rdn.Outside} (h : valO o = true) : FitO o := by
  unfold valO at h
  exact @of_decide_eq_true _ (Classical.propDecidable _) h
set_option maxHeartbeats 4000000 in
theorem ov1_fn (w : List Int) : Fnc Tryz.prog 26 [.sl false 1 (u16s w)] (fun x obs => x = .bool (longW w) ∧ obs = []) := by
  refine Fnc.wf fun hw => ?_
  simp only [V.wfs, V.wf, wfs_map, List.length_map] at hw
  have hm := hw.1.2
  clear hw
  by_cases c : 64 < w.length
  · rw [show longW w = true from decT c]
    refine zgo m_ov1_ok fun W S => ?_
    exact zrt m_ov1_ok
  · rw [show longW w = false from decF c]
    refine zgo m_ov1_ok fun W S => ?_
    exact zrt m_ov1_ok
set_option maxHeartbeats 4000000 in
theorem ixw_fn (l : List (List Int)) : Fnc Tryz.prog 78 [.sl false 1 (l.map (slV' false 1 (V.int .u16))), .fn 26] (fun x obs => x = .int .i64 (fnd longW l) ∧ obs = []) := by
  refine Fnc.wf fun hw => ?_
  have hm : l.length ≤ 140737488355328 := by
    have := hw.1
    simp only [V.wf, List.length_map] at this
    exact this.2
  clear hw
  refine zgo m_ixw_ok fun W S => ?_
  refine ev_loopK [0, 1, 7] (fun p : {p : Nat // p ≤ l.length ∧ ∀ j, j < p → longW l[j]! = false} => [(8, .int .i64 p.1)]) (fun _ => []) (fun p => l.length - p.1) (⟨0, by simp⟩) 0 (by simp only [go_sem]; rfl) ?_ (by first | rfl | (simp only [go_sem]; done)) (by simp) (by first | rfl | (simp only [go_sem]; done)) (by first | rfl | (simp only [go_sem]; done)) (by first | rfl | (simp only [go_sem]; done)) ?_
  · (simp only [go_sem]; (try simp []); done)
  intro J hJ
  rintro ⟨k, hk0, hk1⟩
  by_cases hlt : k < l.length
  · have hc := ov1_fn l[k]!
    cases hb : longW l[k]! with
    | true =>
      rw [hb] at hc
      have hr := fnd_at (p := longW) hlt hk1 hb
      refine zst ?_
      refine zcv (hc) ?_
      exact zrh m_ixw_ok hr
    | false =>
      rw [hb] at hc
      have hS : ∀ j, j < k + 1 → longW l[j]! = false := fun j hj => by
        by_cases e : j = k
        · subst e; exact hb
        · exact hk1 j (by omega)
      refine zst ?_
      refine zcv (hc) ?_
      exact zn0 (hJ _ (⟨k + 1, hlt, hS⟩) (by first | omega | (dsimp only; omega) | (simp; omega))) hlt
  · obtain rfl : k = l.length := by omega
    have hr := fnd_no (p := longW) hk1
    refine zst ?_
    exact zrh m_ixw_ok hr
set_option maxHeartbeats 4000000 in
theorem cow_fn (l : List (List Int)) : Fnc Tryz.prog 29 [.sl false 1 (l.map (slV' false 1 (V.int .u16))), .fn 26] (fun x obs => x = .bool (l.any longW) ∧ obs = []) := by
  have hr := fnd_ge longW l
  refine zgo m_cow_ok fun W S => ?_
  refine zcd (ixw_fn l) ?_
  exact zrh m_cow_ok hr
set_option maxHeartbeats 4000000 in
theorem ov2_fn (x : Output) : Fnc Tryz.prog 27 [outputV false x] (fun y obs => y = .bool (oddO x) ∧ obs = []) := by
  have hr : oddO x = !cellsB x.data 16 := rfl
  refine zgo m_ov2_ok fun W S => ?_
  refine zcd (wcels_fn x.data 16) ?_
  exact zrh m_ov2_ok hr
set_option maxHeartbeats 4000000 in
theorem ixo_fn (l : List Output) : Fnc Tryz.prog 83 [.sl false 3 (l.map (outputV false)), .fn 27] (fun x obs => x = .int .i64 (fnd oddO l) ∧ obs = []) := by
  refine Fnc.wf fun hw => ?_
  have hm : l.length ≤ 140737488355328 := by
    have := hw.1
    simp only [V.wf, List.length_map] at this
    exact this.2
  clear hw
  refine zgo m_ixo_ok fun W S => ?_
  refine ev_loopK [0, 1, 7] (fun p : {p : Nat // p ≤ l.length ∧ ∀ j, j < p → oddO l[j]! = false} => [(8, .int .i64 p.1)]) (fun _ => []) (fun p => l.length - p.1) (⟨0, by simp⟩) 0 (by simp only [go_sem]; rfl) ?_ (by first | rfl | (simp only [go_sem]; done)) (by simp) (by first | rfl | (simp only [go_sem]; done)) (by first | rfl | (simp only [go_sem]; done)) (by first | rfl | (simp only [go_sem]; done)) ?_
  · (simp only [go_sem]; (try simp []); done)
  intro J hJ
  rintro ⟨k, hk0, hk1⟩
  by_cases hlt : k < l.length
  · have hc := ov2_fn l[k]!
    cases hb : oddO l[k]! with
    | true =>
      rw [hb] at hc
      have hr := fnd_at (p := oddO) hlt hk1 hb
      refine zst ?_
      refine zcv (hc) ?_
      exact zrh m_ixo_ok hr
    | false =>
      rw [hb] at hc
      have hS : ∀ j, j < k + 1 → oddO l[j]! = false := fun j hj => by
        by_cases e : j = k
        · subst e; exact hb
        · exact hk1 j (by omega)
      refine zst ?_
      refine zcv (hc) ?_
      exact zn0 (hJ _ (⟨k + 1, hlt, hS⟩) (by first | omega | (dsimp only; omega) | (simp; omega))) hlt
  · obtain rfl : k = l.length := by omega
    have hr := fnd_no (p := oddO) hk1
    refine zst ?_
    exact zrh m_ixo_ok hr
set_option maxHeartbeats 4000000 in
theorem coo_fn (l : List Output) : Fnc Tryz.prog 32 [.sl false 3 (l.map (outputV false)), .fn 27] (fun x obs => x = .bool (l.any oddO) ∧ obs = []) := by
  have hr := fnd_ge oddO l
  refine zgo m_coo_ok fun W S => ?_
  refine zcd (ixo_fn l) ?_
  exact zrh m_coo_ok hr
theorem any_no {α : Type} [Inhabited α] {p : α → Bool} {l : List α} (h : l.any p = false) : ∀ x ∈ l, p x = false := fun x hx => by
  cases hp : p x with
  | false => rfl
  | true => rw [List.any_eq_true.2 ⟨x, hx, hp⟩] at h; cases h
theorem any_yes {α : Type} {p : α → Bool} {l : List α} (h : l.any p = true) : ∃ x ∈ l, p x = true := by simpa using List.any_eq_true.1 h
theorem longW_no {w : List Int} (h : longW w = false) : w.length ≤ 64 := by have := of_decide_eq_false h; omega
theorem longW_yes {w : List Int} (h : longW w = true) : ¬ w.length ≤ 64 := by have := of_decide_eq_true h; omega
theorem oddO_no {x : Output} (h : oddO x = false) : cellsB x.data 16 = true := by unfold oddO at h; simpa using h
theorem oddO_yes {x : Output} (h : oddO x = true) : cellsB x.data 16 = false := by unfold oddO at h; simpa using h
set_option maxHeartbeats 16000000 in
theorem woval_fn (o : Rdn.Outside) : Fnc Tryz.prog 9 [outsV o] (fun x obs => x = .bool (valO o) ∧ obs = []) := by
  refine Fnc.wf fun hw => ?_
  simp only [V.wfs, V.wf, wfs_map, List.length_map] at hw
  have m1 := hw.1.1.2
  have m2 := hw.1.2.1.2
  have m3 := hw.1.2.2.1.2
  have m4 := hw.1.2.2.2.2.1.2
  clear hw
  have f1 := cow_fn o.inputs
  have f2 := wvalf_fn o.files
  have f3 := wordered_fn o.outputs
  have f4 := coo_fn o.outputs
  by_cases c1 : o.clock.length ≤ 64
  rotate_left
  · rw [valO_F (fun F => c1 F.c)]
    refine zgo m_woval_ok fun W S => ?_
    exact zrt m_woval_ok
  by_cases c2 : o.random.length ≤ 64
  rotate_left
  · rw [valO_F (fun F => c2 F.r)]
    refine zgo m_woval_ok fun W S => ?_
    exact zrt m_woval_ok
  by_cases c3 : o.inputs.length ≤ 2
  rotate_left
  · rw [valO_F (fun F => c3 F.i)]
    refine zgo m_woval_ok fun W S => ?_
    exact zrt m_woval_ok
  by_cases c4 : o.outputs.length ≤ 200
  rotate_left
  · rw [valO_F (fun F => c4 F.n)]
    refine zgo m_woval_ok fun W S => ?_
    exact zrt m_woval_ok
  cases c5 : o.inputs.any longW with
  | true =>
    rw [c5] at f1
    obtain ⟨x, hx, hy⟩ := any_yes c5
    rw [valO_F (fun F => longW_yes hy (F.w x hx))]
    refine zgo m_woval_ok fun W S => ?_
    refine zcd (f1) ?_
    exact zrt m_woval_ok
  | false =>
    rw [c5] at f1
    cases c6 : valF o.files with
    | false =>
      rw [c6] at f2
      rw [valO_F (fun F => by rw [valF_T F.f] at c6; cases c6)]
      refine zgo m_woval_ok fun W S => ?_
      refine zcd (f1) ?_
      refine zcd (f2) ?_
      exact zrt m_woval_ok
    | true =>
      rw [c6] at f2
      cases c7 : ordB o.outputs with
      | false =>
        rw [c7] at f3
        rw [valO_F (fun F => by rw [ordB_T F.od] at c7; cases c7)]
        refine zgo m_woval_ok fun W S => ?_
        refine zcd (f1) ?_
        refine zcd (f2) ?_
        refine zcd (f3) ?_
        exact zrt m_woval_ok
      | true =>
        rw [c7] at f3
        cases c8 : o.outputs.any oddO with
        | true =>
          rw [c8] at f4
          obtain ⟨x, hx, hy⟩ := any_yes c8
          rw [valO_F (fun F => by have := F.d x hx; rw [oddO_yes hy] at this; cases this)]
          refine zgo m_woval_ok fun W S => ?_
          refine zcd (f1) ?_
          refine zcd (f2) ?_
          refine zcd (f3) ?_
          refine zcd (f4) ?_
          exact zrt m_woval_ok
        | false =>
          rw [c8] at f4
          have hF : FitF o.files := by
            unfold valF at c6
            exact @of_decide_eq_true _ (Classical.propDecidable _) c6
          have hO : ordered o.outputs := by
            unfold ordB at c7
            exact @of_decide_eq_true _ (Classical.propDecidable _) c7
          rw [valO_T ⟨c1, c2, c3, fun x hx => longW_no (any_no c5 x hx), hF, c4, hO, fun x hx => oddO_no (any_no c8 x hx)⟩]
          refine zgo m_woval_ok fun W S => ?_
          refine zcd (f1) ?_
          refine zcd (f2) ?_
          refine zcd (f3) ?_
          refine zcd (f4) ?_
          exact zrt m_woval_ok
end Go.Proofs.YtkfpcgkmemfdaaaGreat
/- The outside: which ones are valid, by the reference. -/
namespace Go.Proofs.YtkfpcgkmemfdaaaGreat
open Go Go.RowKit Rdn Rdn.Dp
set_option linter.unusedVariables false
set_option linter.unusedSimpArgs false
set_option maxHeartbeats 16000000 in
theorem roval_fn (o : Rdn.Outside) : Fnc Tryz.prog 10 [outsV o] (fun x obs => x = .bool (valO o) ∧ obs = []) := by
  refine Fnc.wf fun hw => ?_
  have hm : ∀ k, k < o.inputs.length → o.inputs[k]!.length ≤ 140737488355328 := fun k hk => by
    have := hw.1
    simp only [V.wf, V.wfs, wfs_map] at this
    have := this.2.2.1.1 _ (mem_at hk)
    simp only [slV', V.wf, List.length_map] at this
    exact this.2
  simp only [V.wfs, V.wf, wfs_map, List.length_map] at hw
  have m1 := hw.1.1.2
  have m2 := hw.1.2.1.2
  have m3 := hw.1.2.2.1.2
  have m4 := hw.1.2.2.2.2.1.2
  clear hw
  refine zgo m_roval_ok fun W S => ?_
  refine ev_loopK [1, 8, 9] (fun p : {p : Nat // p ≤ o.inputs.length ∧ ∀ j, j < p → o.inputs[j]!.length ≤ 64} => [(10, .int .i64 p.1)]) (fun _ => [⟨.box false 37, true, 0, outsV o⟩]) (fun p => o.inputs.length - p.1) (⟨0, by simp⟩) 1 (by simp only [go_sem]; rfl) ?_ (by first | rfl | (simp only [go_sem]; done)) (by simp) (by first | rfl | (simp only [go_sem]; done)) (by first | rfl | (simp only [go_sem]; done)) (by first | rfl | (simp only [go_sem]; done)) ?_
  · (simp only [go_sem]; (try simp []); done)
  intro J hJ
  rintro ⟨k, hk0, hk1⟩
  by_cases hlt : k < o.inputs.length
  · have h3 := hm k hlt
    by_cases c : o.inputs[k]!.length ≤ 64
    · have hS : ∀ j, j < k + 1 → o.inputs[j]!.length ≤ 64 := fun j hj => by
        by_cases e' : j = k
        · subst e'; exact c
        · exact hk1 j (by omega)
      refine zst ?_
      exact zn1 (hJ _ (⟨k + 1, hlt, hS⟩) (by first | omega | (dsimp only; omega) | (simp; omega))) hlt
    · rw [valO_F (fun F => c (F.w _ (mem_at hlt)))]
      refine zst ?_
      exact zrt m_roval_ok
  obtain rfl : k = o.inputs.length := by omega
  refine zst ?_
  refine ev_loopK [1, 19, 20] (fun p : {p : Nat // p ≤ o.outputs.length ∧ ∀ j, j < p → cellsB o.outputs[j]!.data 16 = true} => [(21, .int .i64 p.1)]) (fun _ => [⟨.box false 37, true, 0, outsV o⟩]) (fun p => o.outputs.length - p.1) (⟨0, by simp⟩) 1 (by simp only [go_sem]; rfl) ?_ (by first | rfl | (simp only [go_sem]; done)) (by simp) (by first | rfl | (simp only [go_sem]; done)) (by first | rfl | (simp only [go_sem]; done)) (by first | rfl | (simp only [go_sem]; done)) ?_
  · (simp only [go_sem]; (try simp []); done)
  intro J hJ
  rintro ⟨i, hi0, hi1⟩
  by_cases hl2 : i < o.outputs.length
  · have fc := rcels_fn o.outputs[i]!.data 16
    by_cases e : cellsB o.outputs[i]!.data 16 = true
    · rw [e] at fc
      have hS : ∀ j, j < i + 1 → cellsB o.outputs[j]!.data 16 = true := fun j hj => by
        by_cases e' : j = i
        · subst e'; exact e
        · exact hi1 j (by omega)
      refine zst ?_
      refine zcd (fc) ?_
      exact zn1 (hJ _ (⟨i + 1, hl2, hS⟩) (by first | omega | (dsimp only; omega) | (simp; omega))) hl2
    · rw [Bool.not_eq_true] at e
      rw [e] at fc
      rw [valO_F (fun F => by rw [F.d _ (mem_at hl2)] at e; cases e)]
      refine zst ?_
      refine zcd (fc) ?_
      exact zrt m_roval_ok
  obtain rfl : i = o.outputs.length := by omega
  have f2 := rvalf_fn o.files
  have f3 := rordered_fn o.outputs
  by_cases c1 : o.clock.length ≤ 64
  rotate_left
  · rw [valO_F (fun F => c1 F.c)]
    refine zst ?_
    exact zrt m_roval_ok
  by_cases c2 : o.random.length ≤ 64
  rotate_left
  · rw [valO_F (fun F => c2 F.r)]
    refine zst ?_
    exact zrt m_roval_ok
  by_cases c3 : o.inputs.length ≤ 2
  rotate_left
  · rw [valO_F (fun F => c3 F.i)]
    refine zst ?_
    exact zrt m_roval_ok
  cases c6 : valF o.files with
  | false =>
    rw [c6] at f2
    rw [valO_F (fun F => by rw [valF_T F.f] at c6; cases c6)]
    refine zst ?_
    refine zcd (f2) ?_
    exact zrt m_roval_ok
  | true =>
    rw [c6] at f2
    by_cases c4 : o.outputs.length ≤ 200
    rotate_left
    · rw [valO_F (fun F => c4 F.n)]
      refine zst ?_
      refine zcd (f2) ?_
      exact zrt m_roval_ok
    cases c7 : ordB o.outputs with
    | false =>
      rw [c7] at f3
      rw [valO_F (fun F => by rw [ordB_T F.od] at c7; cases c7)]
      refine zst ?_
      refine zcd (f2) ?_
      refine zcd (f3) ?_
      exact zrt m_roval_ok
    | true =>
      rw [c7] at f3
      have hF : FitF o.files := by
        unfold valF at c6
        exact @of_decide_eq_true _ (Classical.propDecidable _) c6
      have hO : ordered o.outputs := by
        unfold ordB at c7
        exact @of_decide_eq_true _ (Classical.propDecidable _) c7
      rw [valO_T ⟨c1, c2, c3, fun x hx => by
        obtain ⟨j, hj, rfl⟩ := at_mem hx
        exact hk1 j hj, hF, c4, hO, fun x hx => by
        obtain ⟨j, hj, rfl⟩ := at_mem hx
        exact hi1 j hj⟩]
      refine zst ?_
      refine zcd (f2) ?_
      refine zcd (f3) ?_
      exact zrt m_roval_ok
end Go.Proofs.YtkfpcgkmemfdaaaGreat
/- The outside: copies. -/
namespace Go.Proofs.YtkfpcgkmemfdaaaGreat
open Go Go.RowKit Rdn Rdn.Dp
set_option linter.unusedVariables false
set_option linter.unusedSimpArgs false
theorem m_wocpy_ok : compF Tryz.prog 49 = some (35, Qr ([Qw 1 (.box 37 (.t 0)), Qw 2 (.alloc 37 (.agg [.nilS, .nilS, .nilS, .agg [.nilS, .nilS], .nilS]))])
 (.seq (.dreg [Qf 6 0 0 1, Ql 7 1 6, Qq 8 93 [(.t 7)], Qf 9 1 1 1, Ql 10 1 9, Qq 11 93 [(.t 10)], Qf 12 3 3 1, QL 13 2 12, Qq 14 94 [(.t 13)], Qf 15 5 4 1, Ql 16 1 15, Qq 17 95 [(.t 16)], Qw 18 (.build none [.nilS, .nilS, .nilS, .agg [.nilS, .nilS], .nilS] [(0, (.t 8)), (1, (.t 11)), (3, (.t 14)), (4, (.t 17))]), Qw 3 (.alloc 37 (.agg [.nilS, .nilS, .nilS, .agg [.nilS, .nilS], .nilS])), Qs 6 3 18] [[], [0], [0, 1], [], [3], [0, 1, 2, 3, 4], [], [6], [0, 1, 2, 3, 4, 5, 6, 7], [], [9], [0, 1, 2, 3, 4, 5, 6, 7, 8, 9, 10], [0, 1, 2, 3, 4, 5, 6, 7, 8, 9, 10, 11], [], [0, 1, 2, 3, 4, 5, 6, 7, 8, 9, 10, 11, 12, 13]])
 (.seq (Qr ([Qf 19 2 2 1, Ql 20 1 19, Qn 21 20, Qp 22 (.mov (Qi 0))])
 (.block 0 (.loop (Qr ([Qb 23 .lss 22 21])
 (.seq (.cond (.t 23) (.skip) (.exit 0))
 (.seq (.block 1 (Qr ([Qx 24 1 20 22, Ql 25 1 24, Qm 5 25])
 (.dreg [Qf 26 2 2 3, Ql 27 1 26, Qm 28 5, Qq 29 93 [(.t 28)], Qw 30 (.buildS 29 1 (.nilS) 1 [(0, (.t 29))]), Qw 31 (.app 29 1 24 (.t 27) (.t 30)), Qf 32 2 2 3, Qs 1 32 31] [[], [0], [], [2], [2, 3], [0, 1, 2, 3, 4], [0, 1, 2, 3, 4, 5], [0, 1, 2, 3, 4, 5, 6]])))
 (.reg [Qk 33 .add 22 1, Qm 22 33])))))))
 (Qr ([QL 34 6 3, Qs 6 2 34])
 (.ret)))), [.load true 6 (.t 2)]) := by kernel_rfl
theorem m_rocpy_ok : compF Tryz.prog 7 = some (19, Qr ([Qw 1 (.box 37 (.t 0)), Qw 2 (.alloc 37 (.agg [.nilS, .nilS, .nilS, .agg [.nilS, .nilS], .nilS]))])
 (.seq (.dreg [Qf 3 0 0 1, Ql 4 1 3, Qw 5 (.app 41 1 2 (.c (.nilS)) (.t 4)), Qf 6 1 1 1, Ql 7 1 6, Qw 8 (.app 41 1 2 (.c (.nilS)) (.t 7)), Qf 9 2 2 1, Ql 10 1 9, Qq 11 22 [(.t 10)], Qf 12 3 3 1, QL 13 2 12, Qq 14 23 [(.t 13)], Qf 15 5 4 1, Ql 16 1 15, Qq 17 24 [(.t 16)], Qw 18 (.build none [.nilS, .nilS, .nilS, .agg [.nilS, .nilS], .nilS] [(0, (.t 5)), (1, (.t 8)), (2, (.t 11)), (3, (.t 14)), (4, (.t 17))]), Qs 6 2 18] [[], [0], [0, 1], [], [3], [0, 1, 2, 3, 4], [], [6], [0, 1, 2, 3, 4, 5, 6, 7], [], [9], [0, 1, 2, 3, 4, 5, 6, 7, 8, 9, 10], [], [12], [0, 1, 2, 3, 4, 5, 6, 7, 8, 9, 10, 11, 12, 13], [0, 1, 2, 3, 4, 5, 6, 7, 8, 9, 10, 11, 12, 13, 14], [0, 1, 2, 3, 4, 5, 6, 7, 8, 9, 10, 11, 12, 13, 14, 15]])
 (.ret)), [.load true 6 (.t 2)]) := by kernel_rfl
attribute [local go_sem] List.take_length
set_option maxHeartbeats 8000000 in
theorem wcopy_fr (f : Files) (F : LowF f) : Fnc Tryz.prog 94 [filV f] (fun x obs => x = filV f ∧ obs = []) := by
  refine Fnc.low ?_
  have h1 := F.d
  have h2 := F.o
  refine zgo m_wcopy_ok fun W S => ?_
  refine zcx (ocl_own f.opens (by omega)) ?_
  refine ev_adoptB 3 0 22 1 rfl rfl (by decide) rfl ?_
  refine ev_loopK [2, 3, 11, 12] (fun p : {p : Nat // p ≤ f.data.length} => [(13, .int .i64 p.1)]) (fun p => [⟨.box false 34, true, 0, filV f⟩, ⟨.box false 34, true, 0, .agg [.nilS, .nilS]⟩, ⟨.row 47, true, 0, .arr 3 (f.opens.map opnV)⟩, ⟨.box false 34, true, 0, .agg [.own 4 p.1, .own 2 0]⟩, ⟨.row 22, true, p.1, .arr 1 ((f.data.take p.1).map (slV' true 4 canonV))⟩]) (fun p => f.data.length - p.1) (⟨0, by simp⟩) 5 (by simp only [go_sem]; rfl) ?_ (by first | rfl | (simp only [go_sem]; done)) (by simp) (by first | rfl | (simp only [go_sem]; done)) (by first | rfl | (simp only [go_sem]; done)) (by first | rfl | (simp only [go_sem]; done)) ?_
  · (simp only [go_sem]; (try simp []); done)
  intro J hJ
  rintro ⟨k, hk0⟩
  by_cases hlt : k < f.data.length
  · have hs := take_snoc hlt
    have hb := F.len _ (mem_at hlt)
    have hl2 : (f.data.take k).length = k := by rw [List.length_take]; omega
    refine zst ?_
    refine zcd (ccl_fn f.data[k]! (by omega)) ?_
    exact zn5 (hJ _ (⟨k + 1, hlt⟩) (by first | omega | (dsimp only; omega) | (simp; omega))) hs
  · obtain rfl : k = f.data.length := by omega
    refine zst ?_
    refine ret m_wcopy_ok [] ?_; (first | (simp only [go_sem]; done) | (simp only [go_sem]; ((try dsimp only); (repeat' (refine And.intro ?_ ?_)) <;> first | with_reducible rfl | (simp only [go_sem]; done) | (simp only [go_sem]; rfl) | (simp only [go_sem, List.take_length]; done) | (simp only [List.take_length]; (try simp only [go_sem]); first | done | rfl) | (simp only [go_sem]; simp [List.take_length]; done) | (simp [List.take_length]; done) | rfl)))
set_option maxHeartbeats 8000000 in
theorem rcopy_fr (f : Files) (F : LowF f) : Fnc Tryz.prog 23 [filV f] (fun x obs => x = filV f ∧ obs = []) := by
  refine Fnc.low ?_
  have h1 := F.d
  have h2 := F.o
  refine zgo m_rcopy_ok fun W S => ?_
  refine ev_adoptB 3 0 22 1 rfl rfl (by decide) rfl ?_
  refine ev_loopK [2, 3, 11, 12] (fun p : {p : Nat // p ≤ f.data.length} => [(13, .int .i64 p.1)]) (fun p => [⟨.box false 34, true, 0, filV f⟩, ⟨.box false 34, true, 0, .agg [.nilS, .nilS]⟩, ⟨.row 47, true, 0, .arr 3 (f.opens.map opnV)⟩, ⟨.box false 34, true, 0, .agg [.own 4 p.1, .own 2 0]⟩, ⟨.row 22, true, p.1, .arr 1 ((f.data.take p.1).map (slV' true 4 canonV))⟩]) (fun p => f.data.length - p.1) (⟨0, by simp⟩) 5 (by simp only [go_sem]; rfl) ?_ (by first | rfl | (simp only [go_sem]; done)) (by simp) (by first | rfl | (simp only [go_sem]; done)) (by first | rfl | (simp only [go_sem]; done)) (by first | rfl | (simp only [go_sem]; done)) ?_
  · (simp only [go_sem]; (try simp []); done)
  intro J hJ
  rintro ⟨k, hk0⟩
  by_cases hlt : k < f.data.length
  · have hs := take_snoc hlt
    have hb := F.len _ (mem_at hlt)
    have hl2 : (f.data.take k).length = k := by rw [List.length_take]; omega
    refine zst ?_
    exact zn5 (hJ _ (⟨k + 1, hlt⟩) (by first | omega | (dsimp only; omega) | (simp; omega))) hs
  · obtain rfl : k = f.data.length := by omega
    refine zst ?_
    refine ret m_rcopy_ok [] ?_; (first | (simp only [go_sem]; done) | (simp only [go_sem]; ((try dsimp only); (repeat' (refine And.intro ?_ ?_)) <;> first | with_reducible rfl | (simp only [go_sem]; done) | (simp only [go_sem]; rfl) | (simp only [go_sem, List.take_length]; done) | (simp only [List.take_length]; (try simp only [go_sem]); first | done | rfl) | (simp only [go_sem]; simp [List.take_length]; done) | (simp [List.take_length]; done) | rfl)))
set_option maxHeartbeats 8000000 in
theorem copyinG_fr (wss : List (List Int)) (hl : wss.length ≤ 1000) (hw : ∀ w ∈ wss, w.length ≤ 100000) : Fnc Tryz.prog 22 [.sl false 1 (wss.map (slV' false 1 (V.int .u16)))] (fun x obs => x = .sl false 1 (wss.map (slV' false 1 (V.int .u16))) ∧ obs = []) := by
  refine Fnc.low ?_
  refine zgo m_copyin_ok fun W S => ?_
  refine ev_adopt (i := 3) (e := 29) (s := 1) rfl (by decide) ?_
  refine ev_loopK [6, 7] (fun p : {p : Nat // p ≤ wss.length} => [(3, .own 0 p.1), (8, .int .i64 p.1)]) (fun p => [⟨.row 29, true, p.1, .arr 1 ((wss.take p.1).map (slV' true 1 (V.int .u16)))⟩]) (fun p => wss.length - p.1) (⟨0, by simp⟩) 1 (by simp only [go_sem]; rfl) ?_ (by first | rfl | (simp only [go_sem]; done)) (by simp) (by first | rfl | (simp only [go_sem]; done)) (by first | rfl | (simp only [go_sem]; done)) (by first | rfl | (simp only [go_sem]; done)) ?_
  · (simp only [go_sem]; (try simp []); done)
  intro J hJ
  rintro ⟨k, hk0⟩
  by_cases hlt : k < wss.length
  · have h1 := hw _ (mem_at hlt)
    have htl : (wss.take k).length = k := by rw [List.length_take]; omega
    have hs := take_snoc hlt
    refine zst ?_
    exact zn1 (hJ _ (⟨k + 1, hlt⟩) (by first | omega | (dsimp only; omega) | (simp; omega))) hs
  · obtain rfl : k = wss.length := by omega
    refine zst ?_
    refine ret m_copyin_ok [] ?_; (first | (simp only [go_sem]; done) | (simp only [go_sem]; ((try dsimp only); (repeat' (refine And.intro ?_ ?_)) <;> first | with_reducible rfl | (simp only [go_sem]; done) | (simp only [go_sem]; rfl) | (simp only [go_sem, List.take_length]; done) | (simp only [List.take_length]; (try simp only [go_sem]); first | done | rfl) | (simp only [go_sem]; simp [List.take_length]; done) | (simp [List.take_length]; done) | rfl)))
set_option maxHeartbeats 4000000 in
theorem socpy_fr (l : List Output) (hb : l.length ≤ 1000000000) (hd : shortO 1000000000 l) : Fnc Tryz.prog 95 [.sl false 3 (l.map (outputV false))] (fun x obs => x = .sl false 3 (l.map (outputV false)) ∧ obs = []) := by
  refine Fnc.low ?_
  refine zgo m_socpy_ok fun W S => ?_
  refine ev_adopt (i := 3) (e := 45) (s := 3) rfl (by decide) ?_
  refine ev_loopK [6, 7] (fun p : {p : Nat // p ≤ l.length} => [(3, .own 0 p.1), (8, .int .i64 p.1)]) (fun p => [⟨.row 45, true, p.1, .arr 3 ((l.take p.1).map (outputV true))⟩]) (fun p => l.length - p.1) (⟨0, by simp⟩) 1 (by simp only [go_sem]; rfl) ?_ (by first | rfl | (simp only [go_sem]; done)) (by simp) (by first | rfl | (simp only [go_sem]; done)) (by first | rfl | (simp only [go_sem]; done)) (by first | rfl | (simp only [go_sem]; done)) ?_
  · (simp only [go_sem]; (try simp []); done)
  intro J hJ
  rintro ⟨k, hk0⟩
  by_cases hlt : k < l.length
  · have hdk : l[k]!.data.length ≤ 1000000000 := hd _ (mem_at hlt)
    have htl : (l.take k).length = k := by simp; omega
    refine zst ?_
    refine zcd (clcanon_fn l[k]!.data hdk) ?_
    refine ev_next 1 (hJ _ (⟨k + 1, hlt⟩) (by first | omega | (dsimp only; omega) | (simp; omega))) rfl (by simp) ?_ (by first | rfl | (simp only [go_sem]; done)) (by first | rfl | (simp only [go_sem]; done) | (simp only [take_snoc hlt]; (try simp only [go_sem]); first | done | rfl)) ?_
    · (first | rfl | (simp only [go_sem]; done) | (simp only [go_sem]; simp only [take_snoc hlt]; done) | (simp only [take_snoc hlt]; done) | (simp only [go_sem]; simp [take_snoc hlt]; done) | (simp [take_snoc hlt]; done))
    · (simp only [go_sem]; (repeat' (refine And.intro ?_ ?_)) <;> first | exact trivial | with_reducible rfl | (simp only [take_snoc hlt]; done) | (simp only [take_snoc hlt]; with_reducible rfl) | (simp [take_snoc hlt]; done) | (simp [take_snoc hlt]; omega) | (simp only [take_snoc hlt]; rfl) | skip)
  · obtain rfl : k = l.length := by omega
    refine zst ?_
    refine ret m_socpy_ok [] ?_; (first | (simp only [go_sem]; done) | (simp only [go_sem]; ((try dsimp only); (repeat' (refine And.intro ?_ ?_)) <;> first | with_reducible rfl | (simp only [go_sem]; done) | (simp only [go_sem]; rfl) | (simp only [go_sem, List.take_length]; done) | (simp only [List.take_length]; (try simp only [go_sem]); first | done | rfl) | (simp only [go_sem]; simp [List.take_length]; done) | (simp [List.take_length]; done) | rfl)))
set_option maxHeartbeats 4000000 in
theorem srcpy_fr (l : List Output) (hb : l.length ≤ 1000000000) (hd : shortO 1000000000 l) : Fnc Tryz.prog 24 [.sl false 3 (l.map (outputV false))] (fun x obs => x = .sl false 3 (l.map (outputV false)) ∧ obs = []) := by
  refine Fnc.low ?_
  refine zgo m_srcpy_ok fun W S => ?_
  refine ev_adopt (i := 3) (e := 45) (s := 3) rfl (by decide) ?_
  refine ev_loopK [6, 7] (fun p : {p : Nat // p ≤ l.length} => [(3, .own 0 p.1), (8, .int .i64 p.1)]) (fun p => [⟨.row 45, true, p.1, .arr 3 ((l.take p.1).map (outputV true))⟩]) (fun p => l.length - p.1) (⟨0, by simp⟩) 1 (by simp only [go_sem]; rfl) ?_ (by first | rfl | (simp only [go_sem]; done)) (by simp) (by first | rfl | (simp only [go_sem]; done)) (by first | rfl | (simp only [go_sem]; done)) (by first | rfl | (simp only [go_sem]; done)) ?_
  · (simp only [go_sem]; (try simp []); done)
  intro J hJ
  rintro ⟨k, hk0⟩
  by_cases hlt : k < l.length
  · have hdk : l[k]!.data.length ≤ 1000000000 := hd _ (mem_at hlt)
    have htl : (l.take k).length = k := by simp; omega
    refine zst ?_
    refine ev_next 1 (hJ _ (⟨k + 1, hlt⟩) (by first | omega | (dsimp only; omega) | (simp; omega))) rfl (by simp) ?_ (by first | rfl | (simp only [go_sem]; done)) (by first | rfl | (simp only [go_sem]; done) | (simp only [take_snoc hlt]; (try simp only [go_sem]); first | done | rfl)) ?_
    · (first | rfl | (simp only [go_sem]; done) | (simp only [go_sem]; simp only [take_snoc hlt]; done) | (simp only [take_snoc hlt]; done) | (simp only [go_sem]; simp [take_snoc hlt]; done) | (simp [take_snoc hlt]; done))
    · (simp only [go_sem]; (repeat' (refine And.intro ?_ ?_)) <;> first | exact trivial | with_reducible rfl | (simp only [take_snoc hlt]; done) | (simp only [take_snoc hlt]; with_reducible rfl) | (simp [take_snoc hlt]; done) | (simp [take_snoc hlt]; omega) | (simp only [take_snoc hlt]; rfl) | skip)
  · obtain rfl : k = l.length := by omega
    refine zst ?_
    refine ret m_srcpy_ok [] ?_; (first | (simp only [go_sem]; done) | (simp only [go_sem]; ((try dsimp only); (repeat' (refine And.intro ?_ ?_)) <;> first | with_reducible rfl | (simp only [go_sem]; done) | (simp only [go_sem]; rfl) | (simp only [go_sem, List.take_length]; done) | (simp only [List.take_length]; (try simp only [go_sem]); first | done | rfl) | (simp only [go_sem]; simp [List.take_length]; done) | (simp [List.take_length]; done) | rfl)))
theorem FitO.short {o : Rdn.Outside} (F : FitO o) : shortO 1000000000 o.outputs := fun x hx => by
  have := F.d x hx
  unfold cellsB at this; simp only [Bool.and_eq_true, decide_eq_true_eq] at this; omega
set_option maxHeartbeats 8000000 in
theorem rocpy_fn (o : Rdn.Outside) (F : FitO o) : Fnc Tryz.prog 7 [outsV o] (fun x obs => x = outsV o ∧ obs = []) := by
  refine Fnc.low ?_
  have h1 := F.c
  have h2 := F.r
  have h3 := F.i
  have h4 := F.n
  have f1 := copyinG_fr o.inputs (by omega) (fun w hw => by have := F.w w hw; omega)
  have f2 := rcopy_fr o.files F.f.low
  have f3 := srcpy_fr o.outputs (by omega) F.short
  refine zgo m_rocpy_ok fun W S => ?_
  refine zcd (f1) ?_
  refine zcd (f2) ?_
  refine zcd (f3) ?_
  exact zrt m_rocpy_ok
set_option maxHeartbeats 8000000 in
theorem wocpy_fn (o : Rdn.Outside) (F : FitO o) : Fnc Tryz.prog 49 [outsV o] (fun x obs => x = outsV o ∧ obs = []) := by
  refine Fnc.low ?_
  have h1 := F.c
  have h2 := F.r
  have h3 := F.i
  have h4 := F.n
  have f1 := clw_fn o.clock (by omega)
  have f2 := clw_fn o.random (by omega)
  have f3 := wcopy_fr o.files F.f.low
  have f4 := socpy_fr o.outputs (by omega) F.short
  refine zgo m_wocpy_ok fun W S => ?_
  refine zcd (f1) ?_
  refine zcd (f2) ?_
  refine zcd (f3) ?_
  refine zcd (f4) ?_
  refine ev_adoptB 2 2 29 1 rfl rfl (by decide) rfl ?_
  refine ev_loopK [2, 3, 20, 21] (fun p : {p : Nat // p ≤ o.inputs.length} => [(22, .int .i64 p.1)]) (fun p => [⟨.box false 37, true, 0, outsV o⟩, ⟨.box false 37, true, 0, .agg [.nilS, .nilS, .nilS, .agg [.nilS, .nilS], .nilS]⟩, ⟨.box false 37, true, 1, .agg [.sl true 1 (u16s o.clock), .sl true 1 (u16s o.random), .own 3 p.1, filV o.files, .sl false 3 (o.outputs.map (outputV false))]⟩, ⟨.row 29, true, p.1, .arr 1 ((o.inputs.take p.1).map (slV' true 1 (V.int .u16)))⟩]) (fun p => o.inputs.length - p.1) (⟨0, by simp⟩) 4 (by simp only [go_sem]; rfl) ?_ (by first | rfl | (simp only [go_sem]; done)) (by simp) (by first | rfl | (simp only [go_sem]; done)) (by first | rfl | (simp only [go_sem]; done)) (by first | rfl | (simp only [go_sem]; done)) ?_
  · (simp only [go_sem]; (try simp []); done)
  intro J hJ
  rintro ⟨k, hk0⟩
  by_cases hlt : k < o.inputs.length
  · have hs := take_snoc hlt
    have hb := F.w _ (mem_at hlt)
    have hl2 : (o.inputs.take k).length = k := by rw [List.length_take]; omega
    refine zst ?_
    refine zcd (clw_fn o.inputs[k]! (by omega)) ?_
    exact zn4 (hJ _ (⟨k + 1, hlt⟩) (by first | omega | (dsimp only; omega) | (simp; omega))) hs
  · obtain rfl : k = o.inputs.length := by omega
    refine zst ?_
    refine ret m_wocpy_ok [] ?_; (first | (simp only [go_sem]; done) | (simp only [go_sem]; ((try dsimp only); (repeat' (refine And.intro ?_ ?_)) <;> first | with_reducible rfl | (simp only [go_sem]; done) | (simp only [go_sem]; rfl) | (simp only [go_sem, List.take_length]; done) | (simp only [List.take_length]; (try simp only [go_sem]); first | done | rfl) | (simp only [go_sem]; simp [List.take_length]; done) | (simp [List.take_length]; done) | rfl)))
end Go.Proofs.YtkfpcgkmemfdaaaGreat
/- The outside at its beginning. -/
namespace Go.Proofs.YtkfpcgkmemfdaaaGreat
open Go Go.RowKit Rdn Rdn.Dp
set_option linter.unusedVariables false
set_option linter.unusedSimpArgs false
theorem m_wbeg_ok : compF Tryz.prog 19 = some (33, Qr ([Qw 8 (.alloc 37 (.agg [.nilS, .nilS, .nilS, .agg [.nilS, .nilS], .nilS])), Qp 9 (.mov (Qi 0))])
 (Qr ([Qm 14 0, Qq 15 72 [(.t 14)], Qm 13 15, Qe 16 13 0, Qe 17 13 1, Qw 10 (.alloc 34 (.agg [.nilS, .nilS])), Qs 2 10 16, Qm 11 17])
 (.seq (Qr ([Qm 18 11, Qk 19 .neq 18 0])
 (.cond (.t 19) (Qr ([Qw 20 (.build none [.nilS, .nilS, .nilS, .agg [.nilS, .nilS], .nilS] []), Qm 21 11, Qs 6 8 20, Qm 9 21])
 (.ret)) (.skip)))
 (Qr ([Qm 22 2, Qm 23 3, Qm 24 1, QL 25 2 10, Qw 26 (.build none [.nilS, .nilS, .nilS, .agg [.nilS, .nilS], .nilS] [(0, (.t 22)), (1, (.t 23)), (2, (.t 24)), (3, (.t 25))]), Qw 12 (.alloc 37 (.agg [.nilS, .nilS, .nilS, .agg [.nilS, .nilS], .nilS])), Qs 6 12 26])
 (.seq (Qr ([QL 27 6 12, Qq 28 9 [(.t 27)], Qp 29 (.un .not (.t 28))])
 (.cond (.t 29) (Qr ([Qw 30 (.build none [.nilS, .nilS, .nilS, .agg [.nilS, .nilS], .nilS] []), Qs 6 8 30, Qp 9 (.mov (Qi 3))])
 (.ret)) (.skip)))
 (Qr ([QL 31 6 12, Qq 32 49 [(.t 31)], Qs 6 8 32, Qp 9 (.mov (Qi 0))])
 (.ret)))))), [.load true 6 (.t 8), .mov (.t 9)]) := by kernel_rfl
theorem m_rsao_ok : compF Tryz.prog 12 = some (64, Qr ([Qw 2 (.box 37 (.t 0)), Qw 3 (.box 37 (.t 1)), Qc 4 (.bool false)])
 (.seq (Qr ([Qf 6 0 0 2, Ql 7 1 6, Qf 8 0 0 3, Ql 9 1 8, Qq 10 42 [(.t 7), (.t 9)], Qp 11 (.un .not (.t 10)), Qm 12 11, Q0 13 12 (.fieldA 1 1 (.t 2)), Q0 14 12 (.load false 1 (.t 13)), Q0 15 12 (.fieldA 1 1 (.t 3)), Q0 16 12 (.load false 1 (.t 15)), ⟨(some 17), (some (12, false)), (.call 42 [(.t 14), (.t 16)])⟩, Q0 18 12 (.un .not (.t 17)), Qt 19 12 18, Qm 20 19, Q0 21 20 (.fieldA 2 2 (.t 2)), Q0 22 20 (.load false 1 (.t 21)), Q0 23 20 (.len (.t 22)), Q0 24 20 (.fieldA 2 2 (.t 3)), Q0 25 20 (.load false 1 (.t 24)), Q0 26 20 (.len (.t 25)), Q0 27 20 (.bin 0 .neq (.t 23) (.t 26)), Qt 28 20 27, Qm 29 28, Q0 30 29 (.fieldA 3 3 (.t 2)), Q0 31 29 (.load true 2 (.t 30)), Q0 32 29 (.fieldA 3 3 (.t 3)), Q0 33 29 (.load true 2 (.t 32)), ⟨(some 34), (some (29, false)), (.call 43 [(.t 31), (.t 33)])⟩, Q0 35 29 (.un .not (.t 34)), Qt 36 29 35, Qm 37 36, Q0 38 37 (.fieldA 5 4 (.t 2)), Q0 39 37 (.load false 1 (.t 38)), Q0 40 37 (.fieldA 5 4 (.t 3)), Q0 41 37 (.load false 1 (.t 40)), ⟨(some 42), (some (37, false)), (.call 44 [(.t 39), (.t 41)])⟩, Q0 43 37 (.un .not (.t 42)), Qt 44 37 43])
 (.cond (.t 44) (Qr ([Qc 4 (.bool false)])
 (.ret)) (.skip)))
 (.seq (Qr ([Qf 45 2 2 2, Ql 46 1 45, Qn 47 46, Qp 48 (.mov (Qi 0))])
 (.block 0 (.loop (Qr ([Qb 49 .lss 48 47])
 (.seq (.cond (.t 49) (.skip) (.exit 0))
 (.seq (.block 1 (Qr ([Qm 50 48, Qm 5 50])
 (.seq (.dreg [Qf 51 2 2 2, Ql 52 1 51, Qm 53 5, Qx 54 1 52 53, Ql 55 1 54, Qf 56 2 2 3, Ql 57 1 56, Qm 58 5, Qx 59 1 57 58, Ql 60 1 59, Qq 61 42 [(.t 55), (.t 60)], Qp 62 (.un .not (.t 61))] [[], [0], [], [0, 1, 2], [0, 1, 2, 3], [], [5], [], [5, 6, 7], [5, 6, 7, 8], [0, 1, 2, 3, 4, 5, 6, 7, 8, 9], [0, 1, 2, 3, 4, 5, 6, 7, 8, 9, 10]])
 (.cond (.t 62) (Qr ([Qc 4 (.bool false)])
 (.ret)) (.skip)))))
 (.reg [Qk 63 .add 48 1, Qm 48 63])))))))
 (Qr ([Qc 4 (.bool true)])
 (.ret)))), [.mov (.t 4)]) := by kernel_rfl
abbrev wssV (l : List (List Int)) : V := .sl false 1 (l.map (slV' false 1 (V.int .u16)))
def noO : Rdn.Outside := ⟨[], [], [], ⟨[], []⟩, []⟩
noncomputable def sBegin (fs ins : List (List Int)) (c r : List Int) : Rdn.Outside × Int :=
  if okNew fs then (if valO ⟨c, r, ins, ⟨fs.map numC, eight⟩, []⟩ = true then (⟨c, r, ins, ⟨fs.map numC, eight⟩, []⟩, 0) else (noO, 3)) else (noO, 3)
theorem sBegin_T {fs ins : List (List Int)} {c r : List Int} (h : okNew fs) (h2 : valO ⟨c, r, ins, ⟨fs.map numC, eight⟩, []⟩ = true) : sBegin fs ins c r = (⟨c, r, ins, ⟨fs.map numC, eight⟩, []⟩, 0) := by rw [sBegin, if_pos h, if_pos h2]
theorem sBegin_F {fs ins : List (List Int)} {c r : List Int} (h : ¬ okNew fs) : sBegin fs ins c r = (noO, 3) := by rw [sBegin, if_neg h]
theorem sBegin_G {fs ins : List (List Int)} {c r : List Int} (h : okNew fs) (h2 : valO ⟨c, r, ins, ⟨fs.map numC, eight⟩, []⟩ = false) : sBegin fs ins c r = (noO, 3) := by rw [sBegin, if_pos h, if_neg (by rw [h2]; decide)]
theorem noO_V : outsV noO = .agg [.sl false 1 [], .sl false 1 [], .sl false 1 [], filV ⟨[], []⟩, .sl false 3 []] := rfl
attribute [local irreducible] eight numC sNew valO
set_option maxHeartbeats 8000000 in
theorem wbeg_fn (fs ins : List (List Int)) (c r : List Int) (hd : fs.length ≤ 1000) : Fnc Tryz.prog 19 [wssV fs, wssV ins, owV c, owV r] (fun x obs => x = .tup [outsV (sBegin fs ins c r).1, .int .i64 (sBegin fs ins c r).2] ∧ obs = []) := by
  refine Fnc.low ?_
  have fn := wnew_fn fs hd
  by_cases h : okNew fs
  · rw [sNew_T h] at fn
    have fv := woval_fn ⟨c, r, ins, ⟨fs.map numC, eight⟩, []⟩
    cases e : valO ⟨c, r, ins, ⟨fs.map numC, eight⟩, []⟩ with
    | true =>
      rw [e] at fv
      rw [sBegin_T h e]
      have fc := wocpy_fn _ (valO_to e)
      refine zgo m_wbeg_ok fun W S => ?_
      refine zcd (fn) ?_
      refine zcd (fv) ?_
      refine zcd (fc) ?_
      exact zrt m_wbeg_ok
    | false =>
      rw [e] at fv
      rw [sBegin_G h e, noO_V]
      refine zgo m_wbeg_ok fun W S => ?_
      refine zcd (fn) ?_
      refine zcd (fv) ?_
      refine ev_obSub 0 (.agg [.sl false 1 [], .sl false 1 [], .sl false 1 [], .agg [.sl false 1 [], .sl false 3 []], .sl false 3 []]) rfl (SubV.agg ⟨SubV.nil _ _, SubV.nil _ _, SubV.nil _ _, SubV.agg ⟨SubV.nil _ _, SubV.nil _ _, trivial⟩, SubV.nil _ _, trivial⟩) rfl ?_
      exact zrt m_wbeg_ok
  · rw [sNew_F h] at fn
    rw [sBegin_F h, noO_V]
    refine zgo m_wbeg_ok fun W S => ?_
    refine zcd (fn) ?_
    refine ev_obSub 0 (.agg [.sl false 1 [], .sl false 1 [], .sl false 1 [], .agg [.sl false 1 [], .sl false 3 []], .sl false 3 []]) rfl (SubV.agg ⟨SubV.nil _ _, SubV.nil _ _, SubV.nil _ _, SubV.agg ⟨SubV.nil _ _, SubV.nil _ _, trivial⟩, SubV.nil _ _, trivial⟩) rfl ?_
    exact zrt m_wbeg_ok
set_option maxHeartbeats 8000000 in
theorem rbeg_fn (fs ins : List (List Int)) (c r : List Int) (hd : fs.length ≤ 1000) (hx : ∀ x ∈ fs, x.length ≤ 100000) (hi : ins.length ≤ 1000) (hw : ∀ x ∈ ins, x.length ≤ 100000) (hc : c.length ≤ 1000000) (hr : r.length ≤ 1000000) : Fnc Tryz.prog 73 [wssV fs, wssV ins, owV c, owV r] (fun x obs => x = .tup [outsV (sBegin fs ins c r).1, .int .i64 (sBegin fs ins c r).2] ∧ obs = []) := by
  refine Fnc.low ?_
  have fn := rnew_fn fs hd (fun x h => by have := hx x h; omega)
  have fi := copyinG_fr ins hi hw
  by_cases h : okNew fs
  · rw [sNew_T h] at fn
    have fv := roval_fn ⟨c, r, ins, ⟨fs.map numC, eight⟩, []⟩
    cases e : valO ⟨c, r, ins, ⟨fs.map numC, eight⟩, []⟩ with
    | true =>
      rw [e] at fv
      rw [sBegin_T h e]
      refine zgo m_obeg_ok fun W S => ?_
      refine zcd (fn) ?_
      refine zcd (fi) ?_
      refine zcd (fv) ?_
      refine ev_obSub 0 (.agg [_, _, _, _, .sl false 3 []]) rfl (SubV.agg ⟨SubV.refl _, SubV.refl _, SubV.refl _, SubV.refl _, SubV.nil _ _, trivial⟩) rfl ?_
      exact zrt m_obeg_ok
    | false =>
      rw [e] at fv
      rw [sBegin_G h e, noO_V]
      refine zgo m_obeg_ok fun W S => ?_
      refine zcd (fn) ?_
      refine zcd (fi) ?_
      refine zcd (fv) ?_
      refine ev_obSub 0 (.agg [.sl false 1 [], .sl false 1 [], .sl false 1 [], .agg [.sl false 1 [], .sl false 3 []], .sl false 3 []]) rfl (SubV.agg ⟨SubV.nil _ _, SubV.nil _ _, SubV.nil _ _, SubV.agg ⟨SubV.nil _ _, SubV.nil _ _, trivial⟩, SubV.nil _ _, trivial⟩) rfl ?_
      exact zrt m_obeg_ok
  · rw [sNew_F h] at fn
    rw [sBegin_F h, noO_V]
    refine zgo m_obeg_ok fun W S => ?_
    refine zcd (fn) ?_
    refine ev_obSub 0 (.agg [.sl false 1 [], .sl false 1 [], .sl false 1 [], .agg [.sl false 1 [], .sl false 3 []], .sl false 3 []]) rfl (SubV.agg ⟨SubV.nil _ _, SubV.nil _ _, SubV.nil _ _, SubV.agg ⟨SubV.nil _ _, SubV.nil _ _, trivial⟩, SubV.nil _ _, trivial⟩) rfl ?_
    exact zrt m_obeg_ok
set_option maxHeartbeats 8000000 in
theorem rsao_eq (o : Rdn.Outside) : Fnc Tryz.prog 12 [outsV o, outsV o] (fun x obs => x = .bool true ∧ obs = []) := by
  refine Fnc.wf fun hw => ?_
  have hm : ∀ k, k < o.inputs.length → o.inputs[k]!.length ≤ 140737488355328 := fun k hk => by
    have := hw.1
    simp only [V.wf, V.wfs, wfs_map] at this
    have := this.2.2.1.1 _ (mem_at hk)
    simp only [slV', V.wf, List.length_map] at this
    exact this.2
  simp only [V.wfs, V.wf, wfs_map, List.length_map] at hw
  have m1 := hw.1.1.2
  have m2 := hw.1.2.1.2
  have m3 := hw.1.2.2.1.2
  have m4 := hw.1.2.2.2.2.1.2
  clear hw
  have f1 := samew_fn o.clock m1
  have f2 := samew_fn o.random m2
  have f3 := rsamf_fn o.files o.files
  have f4 := rsameo_fn o.outputs o.outputs
  rw [decT rfl] at f3
  rw [eqB_T rfl] at f4
  refine zgo m_rsao_ok fun W S => ?_
  refine zcd (f1) ?_
  refine zcd (f2) ?_
  refine zcd (f3) ?_
  refine zcd (f4) ?_
  refine ev_loopK [2, 3, 47] (fun p : {p : Nat // p ≤ o.inputs.length} => [(48, .int .i64 p.1)]) (fun _ => [⟨.box false 37, true, 0, outsV o⟩, ⟨.box false 37, true, 0, outsV o⟩]) (fun p => o.inputs.length - p.1) (⟨0, by simp⟩) 2 (by simp only [go_sem]; rfl) ?_ (by first | rfl | (simp only [go_sem]; done)) (by simp) (by first | rfl | (simp only [go_sem]; done)) (by first | rfl | (simp only [go_sem]; done)) (by first | rfl | (simp only [go_sem]; done)) ?_
  · (simp only [go_sem]; (try simp []); done)
  intro J hJ
  rintro ⟨k, hk0⟩
  by_cases hlt : k < o.inputs.length
  · have f5 := samew_fn o.inputs[k]! (hm k hlt)
    refine zst ?_
    refine zcd (f5) ?_
    exact zn2 (hJ _ (⟨k + 1, hlt⟩) (by first | omega | (dsimp only; omega) | (simp; omega))) hlt
  · obtain rfl : k = o.inputs.length := by omega
    refine zst ?_
    exact zrt m_rsao_ok
end Go.Proofs.YtkfpcgkmemfdaaaGreat
