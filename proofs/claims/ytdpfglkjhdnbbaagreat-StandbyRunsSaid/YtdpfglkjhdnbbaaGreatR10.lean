/- Standby: what is checked. -/
import Derived.Test.YtdpfglkjhdnbbaaGreatR9
import Derived.Test.YtdpfglkjhdnbbaaGreatC5
namespace Go.Proofs.YtdpfglkjhdnbbaaGreat
open Go Go.RowKit Rdn Rdn.Dp
set_option linter.unusedVariables false
set_option linter.unusedSimpArgs false
theorem m_sosame_ok : compF Tryz.prog 81 = some (80, Qr ([Qc 4 (.bool false)])
 (.seq (Qr ([Qm 8 0, Qn 9 8, Qm 10 1, Qn 11 10, Qb 12 .neq 9 11])
 (.cond (.t 12) (Qr ([Qc 4 (.bool false)])
 (.ret)) (.skip)))
 (.seq (Qr ([Qm 13 0, Qn 14 13, Qp 15 (.mov (Qi 0))])
 (.block 0 (.loop (Qr ([Qb 16 .lss 15 14])
 (.seq (.cond (.t 16) (.skip) (.exit 0))
 (.seq (.block 1 (Qr ([Qm 17 15, Qm 5 17])
 (.seq (.seq (.dreg [Qm 18 0, Qm 19 5, Qx 20 3 18 19, Qf 21 0 0 20, Ql 22 1 21, Qm 23 1, Qm 24 5, Qx 25 3 23 24, Qf 26 0 0 25, Ql 27 1 26, Qb 28 .neq 22 27, Qm 29 28, Q0 30 29 (.mov (.t 0)), Q0 31 29 (.mov (.t 5)), Q0 32 29 (.idxA 3 (.t 30) (.t 31)), Q0 33 29 (.fieldA 1 1 (.t 32)), Q0 34 29 (.load false 1 (.t 33)), Q0 35 29 (.mov (.t 1)), Q0 36 29 (.mov (.t 5)), Q0 37 29 (.idxA 3 (.t 35) (.t 36)), Q0 38 29 (.fieldA 1 1 (.t 37)), Q0 39 29 (.load false 1 (.t 38)), Q0 40 29 (.bin 0 .neq (.t 34) (.t 39)), Qt 41 29 40, Qm 42 41, Q0 43 42 (.mov (.t 0)), Q0 44 42 (.mov (.t 5)), Q0 45 42 (.idxA 3 (.t 43) (.t 44)), Q0 46 42 (.fieldA 2 2 (.t 45)), Q0 47 42 (.load false 1 (.t 46)), Q0 48 42 (.len (.t 47)), Q0 49 42 (.mov (.t 1)), Q0 50 42 (.mov (.t 5)), Q0 51 42 (.idxA 3 (.t 49) (.t 50)), Q0 52 42 (.fieldA 2 2 (.t 51)), Q0 53 42 (.load false 1 (.t 52)), Q0 54 42 (.len (.t 53)), Q0 55 42 (.bin 0 .neq (.t 48) (.t 54)), Qt 56 42 55] [[], [], [0, 1], [0, 1, 2], [0, 1, 2, 3], [], [], [5, 6], [5, 6, 7], [5, 6, 7, 8], [0, 1, 2, 3, 4, 5, 6, 7, 8, 9], [0, 1, 2, 3, 4, 5, 6, 7, 8, 9, 10], [0, 1, 2, 3, 4, 5, 6, 7, 8, 9, 10, 11], [0, 1, 2, 3, 4, 5, 6, 7, 8, 9, 10, 11], [0, 1, 2, 3, 4, 5, 6, 7, 8, 9, 10, 11, 12, 13], [0, 1, 2, 3, 4, 5, 6, 7, 8, 9, 10, 11, 12, 13, 14], [0, 1, 2, 3, 4, 5, 6, 7, 8, 9, 10, 11, 12, 13, 14, 15], [0, 1, 2, 3, 4, 5, 6, 7, 8, 9, 10, 11], [0, 1, 2, 3, 4, 5, 6, 7, 8, 9, 10, 11], [0, 1, 2, 3, 4, 5, 6, 7, 8, 9, 10, 11, 17, 18], [0, 1, 2, 3, 4, 5, 6, 7, 8, 9, 10, 11, 17, 18, 19], [0, 1, 2, 3, 4, 5, 6, 7, 8, 9, 10, 11, 17, 18, 19, 20], [0, 1, 2, 3, 4, 5, 6, 7, 8, 9, 10, 11, 12, 13, 14, 15, 16, 17, 18, 19, 20, 21], [0, 1, 2, 3, 4, 5, 6, 7, 8, 9, 10, 11, 12, 13, 14, 15, 16, 17, 18, 19, 20, 21, 22], [0, 1, 2, 3, 4, 5, 6, 7, 8, 9, 10, 11, 12, 13, 14, 15, 16, 17, 18, 19, 20, 21, 22, 23], [0, 1, 2, 3, 4, 5, 6, 7, 8, 9, 10, 11, 12, 13, 14, 15, 16, 17, 18, 19, 20, 21, 22, 23, 24], [0, 1, 2, 3, 4, 5, 6, 7, 8, 9, 10, 11, 12, 13, 14, 15, 16, 17, 18, 19, 20, 21, 22, 23, 24], [0, 1, 2, 3, 4, 5, 6, 7, 8, 9, 10, 11, 12, 13, 14, 15, 16, 17, 18, 19, 20, 21, 22, 23, 24, 25, 26], [0, 1, 2, 3, 4, 5, 6, 7, 8, 9, 10, 11, 12, 13, 14, 15, 16, 17, 18, 19, 20, 21, 22, 23, 24, 25, 26, 27], [0, 1, 2, 3, 4, 5, 6, 7, 8, 9, 10, 11, 12, 13, 14, 15, 16, 17, 18, 19, 20, 21, 22, 23, 24, 25, 26, 27, 28], [0, 1, 2, 3, 4, 5, 6, 7, 8, 9, 10, 11, 12, 13, 14, 15, 16, 17, 18, 19, 20, 21, 22, 23, 24, 25, 26, 27, 28, 29], [0, 1, 2, 3, 4, 5, 6, 7, 8, 9, 10, 11, 12, 13, 14, 15, 16, 17, 18, 19, 20, 21, 22, 23, 24], [0, 1, 2, 3, 4, 5, 6, 7, 8, 9, 10, 11, 12, 13, 14, 15, 16, 17, 18, 19, 20, 21, 22, 23, 24], [0, 1, 2, 3, 4, 5, 6, 7, 8, 9, 10, 11, 12, 13, 14, 15, 16, 17, 18, 19, 20, 21, 22, 23, 24, 31, 32], [0, 1, 2, 3, 4, 5, 6, 7, 8, 9, 10, 11, 12, 13, 14, 15, 16, 17, 18, 19, 20, 21, 22, 23, 24, 31, 32, 33], [0, 1, 2, 3, 4, 5, 6, 7, 8, 9, 10, 11, 12, 13, 14, 15, 16, 17, 18, 19, 20, 21, 22, 23, 24, 31, 32, 33, 34], [0, 1, 2, 3, 4, 5, 6, 7, 8, 9, 10, 11, 12, 13, 14, 15, 16, 17, 18, 19, 20, 21, 22, 23, 24, 31, 32, 33, 34, 35], [0, 1, 2, 3, 4, 5, 6, 7, 8, 9, 10, 11, 12, 13, 14, 15, 16, 17, 18, 19, 20, 21, 22, 23, 24, 25, 26, 27, 28, 29, 30, 31, 32, 33, 34, 35, 36], [0, 1, 2, 3, 4, 5, 6, 7, 8, 9, 10, 11, 12, 13, 14, 15, 16, 17, 18, 19, 20, 21, 22, 23, 24, 25, 26, 27, 28, 29, 30, 31, 32, 33, 34, 35, 36, 37]])
 (.cond (.t 56) (Qr ([Qc 4 (.bool false)])
 (.ret)) (.skip)))
 (Qr ([Qm 57 0, Qm 58 5, Qx 59 3 57 58, Qf 60 2 2 59, Ql 61 1 60, Qn 62 61, Qp 63 (.mov (Qi 0))])
 (.block 2 (.loop (Qr ([Qb 64 .lss 63 62])
 (.seq (.cond (.t 64) (.skip) (.exit 2))
 (.seq (.block 3 (Qr ([Qm 65 63, Qx 66 4 61 63, QL 67 4 66, Qw 7 (.alloc 69 (.agg [.int .u8 0, .int .u16 0, .int .i64 0, .int .i64 0])), Qm 6 65, Qs 4 7 67])
 (.seq (.dreg [QL 68 4 7, Qm 69 1, Qm 70 5, Qx 71 3 69 70, Qf 72 2 2 71, Ql 73 1 72, Qm 74 6, Qx 75 4 73 74, QL 76 4 75, Qp 77 (.eqs true [(some .u8), (some .u16), (some .i64), (some .i64)] (.t 68) (.t 76))] [[], [], [], [1, 2], [1, 2, 3], [1, 2, 3, 4], [], [1, 2, 3, 4, 5, 6], [1, 2, 3, 4, 5, 6, 7], [0, 1, 2, 3, 4, 5, 6, 7, 8]])
 (.cond (.t 77) (Qr ([Qc 4 (.bool false)])
 (.ret)) (.skip)))))
 (.reg [Qk 78 .add 63 1, Qm 63 78]))))))))))
 (.reg [Qk 79 .add 15 1, Qm 15 79])))))))
 (Qr ([Qc 4 (.bool true)])
 (.ret)))), [.mov (.t 4)]) := by kernel_rfl
theorem m_pshaped_ok : compF Tryz.prog 41 = some (33, Qr ([Qw 1 (.box 35 (.t 0)), Qc 2 (.bool false)])
 (.seq (Qr ([Qf 3 3 3 1, Ql 4 1 3, Qn 5 4, Qk 6 .neq 5 2, Qm 7 6, Q0 8 7 (.fieldA 4 4 (.t 1)), Q0 9 7 (.load false 1 (.t 8)), Q0 10 7 (.len (.t 9)), Q0 11 7 (.bin 0 .neq (.t 10) (Qi 2)), Qt 12 7 11, Qm 13 12, Q0 14 13 (.fieldA 5 5 (.t 1)), Q0 15 13 (.load false 1 (.t 14)), Q0 16 13 (.len (.t 15)), Q0 17 13 (.bin 0 .neq (.t 16) (Qi 2)), Qt 18 13 17])
 (.cond (.t 18) (Qr ([Qc 2 (.bool false)])
 (.ret)) (.skip)))
 (Qr ([Qf 19 5 5 1, Ql 20 1 19, Qp 21 (.idxA 1 (.t 20) (Qi 0)), Ql 22 1 21, Qn 23 22, Qk 24 .leq 23 262144, Qm 25 24, Q1 26 25 (.fieldA 5 5 (.t 1)), Q1 27 25 (.load false 1 (.t 26)), Q1 28 25 (.idxA 1 (.t 27) (Qi 1)), Q1 29 25 (.load false 1 (.t 28)), Q1 30 25 (.len (.t 29)), Q1 31 25 (.bin 0 .leq (.t 30) (Qi 262144)), Qu 32 25 31, Qm 2 32])
 (.ret))), [.mov (.t 2)]) := by kernel_rfl
theorem m_pwhole_ok : compF Tryz.prog 43 = some (90, Qr ([Qw 1 (.box 35 (.t 0)), Qc 2 (.bool false)])
 (Qr ([Qf 9 2 2 1, Ql 10 1 9, Qm 3 10])
 (.seq (Qr ([Qf 11 3 3 1, Ql 12 1 11, Qm 13 3, Qx 14 1 12 13, Ql 15 1 14, Qp 16 (.un .not (.t 15)), Qm 17 16, Q0 18 17 (.fieldA 4 4 (.t 1)), Q0 19 17 (.load false 1 (.t 18)), Q0 20 17 (.mov (.t 3)), Q0 21 17 (.idxA 1 (.t 19) (.t 20)), Q0 22 17 (.load false 1 (.t 21)), Q0 23 17 (.un .not (.t 22)), Qt 24 17 23])
 (.cond (.t 24) (Qr ([Qc 2 (.bool false)])
 (.ret)) (.skip)))
 (Qr ([Qf 26 5 5 1, Ql 27 1 26, Qm 28 3, Qx 29 1 27 28, Ql 30 1 29, Qq 31 72 [(.t 30)], Qm 25 31, Qe 32 25 0, Qe 33 25 1, Qm 4 32, Qm 5 33])
 (Qr ([Qm 35 4, Qq 36 73 [(.t 35)], Qm 34 36, Qe 37 34 0, Qe 38 34 1, Qe 39 34 2, Qw 6 (.alloc 31 (.agg [.int .i64 0, .int .i64 0, .int .i64 0, .nilS])), Qs 4 6 37, Qm 7 38, Qm 8 39])
 (Qr ([Qm 40 5, Qf 41 5 5 1, Ql 42 1 41, Qm 43 3, Qx 44 1 42 43, Ql 45 1 44, Qn 46 45, Qb 47 .eql 40 46, Qm 48 47, Q1 49 48 (.mov (.t 8)), Q1 50 48 (.bin 0 .eql (.t 49) (Qi 0)), Qu 51 48 50, Qm 52 51, Q1 53 52 (.mov (.t 7)), Q1 54 52 (.fieldA 10 7 (.t 1)), Q1 55 52 (.load false 1 (.t 54)), Q1 56 52 (.bin 0 .eql (.t 53) (.t 55)), Qu 57 52 56, Qm 58 57, Q1 59 58 (.fieldA 0 0 (.t 6)), Q1 60 58 (.load false 1 (.t 59)), Q1 61 58 (.fieldA 6 6 (.t 1)), Q1 62 58 (.fieldA 0 0 (.t 61)), Q1 63 58 (.load false 1 (.t 62)), Q1 64 58 (.bin 0 .eql (.t 60) (.t 63)), Qu 65 58 64, Qm 66 65, Q1 67 66 (.fieldA 1 1 (.t 6)), Q1 68 66 (.load false 1 (.t 67)), Q1 69 66 (.fieldA 6 6 (.t 1)), Q1 70 66 (.fieldA 1 1 (.t 69)), Q1 71 66 (.load false 1 (.t 70)), Q1 72 66 (.bin 0 .eql (.t 68) (.t 71)), Qu 73 66 72, Qm 74 73, Q1 75 74 (.fieldA 2 2 (.t 6)), Q1 76 74 (.load false 1 (.t 75)), Q1 77 74 (.fieldA 6 6 (.t 1)), Q1 78 74 (.fieldA 2 2 (.t 77)), Q1 79 74 (.load false 1 (.t 78)), Q1 80 74 (.bin 0 .eql (.t 76) (.t 79)), Qu 81 74 80, Qm 82 81, Q1 83 82 (.fieldA 3 3 (.t 6)), Q1 84 82 (.load false 1 (.t 83)), Q1 85 82 (.fieldA 6 6 (.t 1)), Q1 86 82 (.fieldA 3 3 (.t 85)), Q1 87 82 (.load false 1 (.t 86)), ⟨(some 88), (some (82, true)), (.call 81 [(.t 84), (.t 87)])⟩, Qu 89 82 88, Qm 2 89])
 (.ret)))))), [.mov (.t 2)]) := by kernel_rfl
set_option maxHeartbeats 8000000 in
theorem psame_fn (a b : List Output) : Fnc Tryz.prog 81 [.sl false 3 (a.map (outputV false)), .sl false 3 (b.map (outputV false))] (fun x obs => x = .bool (decide (a = b)) ∧ obs = []) := by
  refine Fnc.wf fun hw => ?_
  simp only [V.wfs, V.wf, wfs_map, List.length_map] at hw
  have hm := hw.1.2
  have hdat : ∀ x ∈ a, x.data.length ≤ 140737488355328 := fun x hx => (hw.1.1 x hx).2.2.1.2
  clear hw
  by_cases c0 : a.length = b.length
  rotate_left
  · rw [decF (show ¬ a = b from fun h => c0 (by rw [h]))]
    refine zgo m_sosame_ok fun W S => ?_
    exact zrt m_sosame_ok
  refine zgo m_sosame_ok fun W S => ?_
  refine ev_loopK [0, 1, 14] (fun p : {p : Nat // p ≤ a.length ∧ ∀ j, j < p → a[j]! = b[j]!} => [(15, .int .i64 p.1)]) (fun _ => []) (fun p => a.length - p.1) (⟨0, by simp⟩) 0 (by simp only [go_sem]; rfl) ?_ (by first | rfl | (simp only [go_sem]; done)) (by simp) (by first | rfl | (simp only [go_sem]; done)) (by first | rfl | (simp only [go_sem]; done)) (by first | rfl | (simp only [go_sem]; done)) ?_
  · (simp only [go_sem]; (try simp []); done)
  intro J hJ
  rintro ⟨k, hk0, hk1⟩
  have hJ0 := hJ
  by_cases hlt : k < a.length
  · have hr : ¬ a[k]! = b[k]! → decide (a = b) = false := fun c => decF fun h => c (by rw [h])
    have hS : a[k]! = b[k]! → ∀ j, j < k + 1 → a[j]! = b[j]! := fun c j hj => by
      by_cases e : j = k
      · subst e; exact c
      · exact hk1 j (by omega)
    have hx : a[k]! = b[k]! ↔ a[k]!.seq = b[k]!.seq ∧ a[k]!.socket = b[k]!.socket ∧ a[k]!.data = b[k]!.data := by
      generalize a[k]! = x
      generalize b[k]! = y
      obtain ⟨x1, x2, x3⟩ := x
      obtain ⟨y1, y2, y3⟩ := y
      simp only [Output.mk.injEq]
    by_cases c1 : a[k]!.seq = b[k]!.seq
    rotate_left
    · rw [hr fun h => c1 (by rw [h])]
      refine zst ?_
      exact zrt m_sosame_ok
    by_cases c2 : a[k]!.socket = b[k]!.socket
    rotate_left
    · rw [hr fun h => c2 (by rw [h])]
      refine zst ?_
      exact zrt m_sosame_ok
    by_cases c3 : a[k]!.data.length = b[k]!.data.length
    rotate_left
    · rw [hr fun h => c3 (by rw [h])]
      refine zst ?_
      exact zrt m_sosame_ok
    have hdk := hdat _ (mem_at hlt)
    refine zst ?_
    refine ev_loopK [0, 1, 5, 14, 15, 61, 62] (fun p : {p : Nat // p ≤ a[k]!.data.length ∧ ∀ j, j < p → a[k]!.data[j]! = b[k]!.data[j]!} => [(63, .int .i64 p.1)]) (fun _ => []) (fun p => a[k]!.data.length - p.1) (⟨0, by simp⟩) 0 (by simp only [go_sem]; rfl) ?_ (by first | rfl | (simp only [go_sem]; done)) (by simp) (by first | rfl | (simp only [go_sem]; done)) (by first | rfl | (simp only [go_sem]; done)) (by first | rfl | (simp only [go_sem]; done)) ?_
    · (simp only [go_sem]; (try simp []); done)
    intro J hJ
    rintro ⟨m, hm0, hm1⟩
    by_cases hlm : m < a[k]!.data.length
    · by_cases e : a[k]!.data[m]! = b[k]!.data[m]!
      · have hS2 : ∀ j, j < m + 1 → a[k]!.data[j]! = b[k]!.data[j]! := fun j hj => by
          by_cases e2 : j = m
          · subst e2; exact e
          · exact hm1 j (by omega)
        refine zst ?_
        exact zn0 (hJ _ (⟨m + 1, hlm, hS2⟩) (by first | omega | (dsimp only; omega) | (simp; omega))) hlm
      · rw [hr fun h => e (by rw [h])]
        refine zst ?_
        exact zrt m_sosame_ok
    · have hd := ext_at c3 fun j hj => hm1 j (by omega)
      have hS := hS (hx.2 ⟨c1, c2, hd⟩)
      have hJ := hJ0
      refine zst ?_
      exact zn0 (hJ _ (⟨k + 1, hlt, hS⟩) (by first | omega | (dsimp only; omega) | (simp; omega))) hlt
  · obtain rfl : k = a.length := by omega
    have hr := decT (ext_at c0 fun j hj => hk1 j (by omega))
    refine zst ?_
    exact zrh m_sosame_ok hr
def shdP (p : Pair) : Prop := p.up.length = 2 ∧ p.sync.length = 2 ∧ p.journals.length = 2 ∧ p.journals[0]!.length ≤ 262144 ∧ p.journals[1]!.length ≤ 262144
instance (p : Pair) : Decidable (shdP p) := by unfold shdP; infer_instance
set_option maxHeartbeats 8000000 in
theorem pshaped_fn (p : Pair) : Fnc Tryz.prog 41 [prV false p] (fun x obs => x = .bool (decide (shdP p)) ∧ obs = []) := by
  by_cases c1 : p.up.length = 2
  rotate_left
  · rw [decF (show ¬ shdP p from fun h => c1 h.1)]
    refine zgo m_pshaped_ok fun W S => ?_
    exact zrt m_pshaped_ok
  by_cases c2 : p.sync.length = 2
  rotate_left
  · rw [decF (show ¬ shdP p from fun h => c2 h.2.1)]
    refine zgo m_pshaped_ok fun W S => ?_
    exact zrt m_pshaped_ok
  by_cases c3 : p.journals.length = 2
  rotate_left
  · rw [decF (show ¬ shdP p from fun h => c3 h.2.2.1)]
    refine zgo m_pshaped_ok fun W S => ?_
    exact zrt m_pshaped_ok
  by_cases c4 : p.journals[0]!.length ≤ 262144
  rotate_left
  · rw [decF (show ¬ shdP p from fun h => c4 h.2.2.2.1)]
    refine zgo m_pshaped_ok fun W S => ?_
    exact zrt m_pshaped_ok
  by_cases c5 : p.journals[1]!.length ≤ 262144
  rotate_left
  · rw [decF (show ¬ shdP p from fun h => c5 h.2.2.2.2)]
    refine zgo m_pshaped_ok fun W S => ?_
    exact zrt m_pshaped_ok
  rw [decT (show shdP p from ⟨c1, c2, c3, c4, c5⟩)]
  refine zgo m_pshaped_ok fun W S => ?_
  exact zrt m_pshaped_ok
noncomputable def whoB (p : Pair) : Bool := p.up[p.active.toNat]! && (p.sync[p.active.toNat]! && (decide ((sRec p.journals[p.active.toNat]!).2 = p.journals[p.active.toNat]!.length) && decide (sReb (sRec p.journals[p.active.toNat]!).1 = (p.gateway, p.epoch, 0))))
theorem two_le {α : Type} [Inhabited α] {q : List (List α)} {n a : Nat} (h : q.length = 2) (h0 : q[0]!.length ≤ n) (h1 : q[1]!.length ≤ n) (ha : a < 2) : q[a]!.length ≤ n := by
  rcases (by omega : a = 0 ∨ a = 1) with rfl | rfl
  · exact h0
  · exact h1
attribute [local irreducible] sReb sRec
set_option maxHeartbeats 8000000 in
theorem pwhole_fn (p : Pair) (h : shdP p) (ha : 0 ≤ p.active) (ha2 : p.active ≤ 1) : Fnc Tryz.prog 43 [prV false p] (fun x obs => x = .bool (whoB p) ∧ obs = []) := by
  obtain ⟨h1, h2, h3, h4, h5⟩ := h
  have hj := two_le h3 h4 h5 (a := p.active.toNat) (by omega)
  have f1 := wrec_fn p.journals[p.active.toNat]! (by omega)
  have f2 := sreb_fn (sRec p.journals[p.active.toNat]!).1
  unfold whoB
  generalize hR : sRec p.journals[p.active.toNat]! = R at f1 f2 ⊢
  obtain ⟨ns, rn⟩ := R
  dsimp only at f1 f2 ⊢
  generalize sReb ns = B at f2 ⊢
  obtain ⟨⟨g1, g2, g3, g4⟩, ep, z⟩ := B
  dsimp only at f2
  have f3 := psame_fn g4 p.gateway.held
  have hq : ((⟨g1, g2, g3, g4⟩, ep, z) : Gateway × Int × Int) = (p.gateway, p.epoch, 0) ↔ g1 = p.gateway.next ∧ g2 = p.gateway.free ∧ g3 = p.gateway.acked ∧ g4 = p.gateway.held ∧ ep = p.epoch ∧ z = 0 := by
    generalize p.gateway = G
    obtain ⟨y1, y2, y3, y4⟩ := G
    simp only [Prod.mk.injEq, Gateway.mk.injEq]
    constructor
    · rintro ⟨⟨a1, a2, a3, a4⟩, a5, a6⟩; exact ⟨a1, a2, a3, a4, a5, a6⟩
    · rintro ⟨a1, a2, a3, a4, a5, a6⟩; exact ⟨⟨a1, a2, a3, a4⟩, a5, a6⟩
  by_cases d1 : p.up[p.active.toNat]! = true
  rotate_left
  · skip
    have d1' : p.up[p.active.toNat]! = false := by simpa using d1
    rw [show (p.up[p.active.toNat]! && (p.sync[p.active.toNat]! && (decide (rn = p.journals[p.active.toNat]!.length) && decide (((⟨g1, g2, g3, g4⟩, ep, z) : Gateway × Int × Int) = (p.gateway, p.epoch, 0))))) = false from by rw [d1']; rfl]
    refine zgo m_pwhole_ok fun W S => ?_
    repeat (first | (simp only [d1']; try simp only [go_sem]) | refine And.intro (by omega) ?_ | refine And.intro rfl ?_ | refine ev_ctl rfl rfl ?_ | refine evr_nil ?_ | refine evw_nil (by kernel_rfl) ?_ | (simp (disch := omega) only [takeAll, Nat.min_eq_left, Nat.min_eq_right, if_pos, if_neg, getD_map, wrapI64, modIn, fdivE, tmodE, tdivE, decT, decF, beqT, beqF, bneT, bneF, Int.toNat_natCast]; try simp only [go_sem]) | (refine ev_condTb rfl ?_ ?_; · (simp <;> omega)) | (refine ev_condFb rfl ?_ ?_; · (simp <;> omega)) | ((first | refine ev_region ?_ | refine evr_go rfl ?_ | refine evw_go rfl ?_ | refine ev_dr0 mixed rfl (by kernel_rfl) ?_ | refine ev_dr1 mixed rfl (by kernel_rfl) ?_ | refine ev_dr2 mixed rfl (by kernel_rfl) ?_); simp only [go_sem]))
    exact zrt m_pwhole_ok
  by_cases d2 : p.sync[p.active.toNat]! = true
  rotate_left
  · skip
    have d2' : p.sync[p.active.toNat]! = false := by simpa using d2
    rw [show (p.up[p.active.toNat]! && (p.sync[p.active.toNat]! && (decide (rn = p.journals[p.active.toNat]!.length) && decide (((⟨g1, g2, g3, g4⟩, ep, z) : Gateway × Int × Int) = (p.gateway, p.epoch, 0))))) = false from by rw [d2']; simp]
    refine zgo m_pwhole_ok fun W S => ?_
    repeat (first | (simp only [d1, d2']; try simp only [go_sem]) | refine And.intro (by omega) ?_ | refine And.intro rfl ?_ | refine ev_ctl rfl rfl ?_ | refine evr_nil ?_ | refine evw_nil (by kernel_rfl) ?_ | (simp (disch := omega) only [takeAll, Nat.min_eq_left, Nat.min_eq_right, if_pos, if_neg, getD_map, wrapI64, modIn, fdivE, tmodE, tdivE, decT, decF, beqT, beqF, bneT, bneF, Int.toNat_natCast]; try simp only [go_sem]) | (refine ev_condTb rfl ?_ ?_; · (simp <;> omega)) | (refine ev_condFb rfl ?_ ?_; · (simp <;> omega)) | ((first | refine ev_region ?_ | refine evr_go rfl ?_ | refine evw_go rfl ?_ | refine ev_dr0 mixed rfl (by kernel_rfl) ?_ | refine ev_dr1 mixed rfl (by kernel_rfl) ?_ | refine ev_dr2 mixed rfl (by kernel_rfl) ?_); simp only [go_sem]))
    exact zrt m_pwhole_ok
  by_cases d3 : rn = p.journals[p.active.toNat]!.length
  rotate_left
  · skip
    rw [show (p.up[p.active.toNat]! && (p.sync[p.active.toNat]! && (decide (rn = p.journals[p.active.toNat]!.length) && decide (((⟨g1, g2, g3, g4⟩, ep, z) : Gateway × Int × Int) = (p.gateway, p.epoch, 0))))) = false from by rw [decF d3]; simp]
    refine zgo m_pwhole_ok fun W S => ?_
    refine zsx (And.intro d1 (d2)) ?_
    refine zcd (f1) ?_
    refine zcd (f2) ?_
    exact zrt m_pwhole_ok
  by_cases d4 : z = 0
  rotate_left
  · skip
    rw [show (p.up[p.active.toNat]! && (p.sync[p.active.toNat]! && (decide (rn = p.journals[p.active.toNat]!.length) && decide (((⟨g1, g2, g3, g4⟩, ep, z) : Gateway × Int × Int) = (p.gateway, p.epoch, 0))))) = false from by rw [decF (fun h => d4 (hq.1 h).2.2.2.2.2)]; simp]
    refine zgo m_pwhole_ok fun W S => ?_
    refine zsx (And.intro d1 (d2)) ?_
    refine zcd (f1) ?_
    refine zcd (f2) ?_
    exact zrt m_pwhole_ok
  by_cases d5 : ep = p.epoch
  rotate_left
  · skip
    rw [show (p.up[p.active.toNat]! && (p.sync[p.active.toNat]! && (decide (rn = p.journals[p.active.toNat]!.length) && decide (((⟨g1, g2, g3, g4⟩, ep, z) : Gateway × Int × Int) = (p.gateway, p.epoch, 0))))) = false from by rw [decF (fun h => d5 (hq.1 h).2.2.2.2.1)]; simp]
    refine zgo m_pwhole_ok fun W S => ?_
    refine zsx (And.intro d1 (d2)) ?_
    refine zcd (f1) ?_
    refine zcd (f2) ?_
    exact zrt m_pwhole_ok
  by_cases d6 : g1 = p.gateway.next
  rotate_left
  · skip
    rw [show (p.up[p.active.toNat]! && (p.sync[p.active.toNat]! && (decide (rn = p.journals[p.active.toNat]!.length) && decide (((⟨g1, g2, g3, g4⟩, ep, z) : Gateway × Int × Int) = (p.gateway, p.epoch, 0))))) = false from by rw [decF (fun h => d6 (hq.1 h).1)]; simp]
    refine zgo m_pwhole_ok fun W S => ?_
    refine zsx (And.intro d1 (d2)) ?_
    refine zcd (f1) ?_
    refine zcd (f2) ?_
    exact zrt m_pwhole_ok
  by_cases d7 : g2 = p.gateway.free
  rotate_left
  · skip
    rw [show (p.up[p.active.toNat]! && (p.sync[p.active.toNat]! && (decide (rn = p.journals[p.active.toNat]!.length) && decide (((⟨g1, g2, g3, g4⟩, ep, z) : Gateway × Int × Int) = (p.gateway, p.epoch, 0))))) = false from by rw [decF (fun h => d7 (hq.1 h).2.1)]; simp]
    refine zgo m_pwhole_ok fun W S => ?_
    refine zsx (And.intro d1 (d2)) ?_
    refine zcd (f1) ?_
    refine zcd (f2) ?_
    exact zrt m_pwhole_ok
  by_cases d8 : g3 = p.gateway.acked
  rotate_left
  · skip
    rw [show (p.up[p.active.toNat]! && (p.sync[p.active.toNat]! && (decide (rn = p.journals[p.active.toNat]!.length) && decide (((⟨g1, g2, g3, g4⟩, ep, z) : Gateway × Int × Int) = (p.gateway, p.epoch, 0))))) = false from by rw [decF (fun h => d8 (hq.1 h).2.2.1)]; simp]
    refine zgo m_pwhole_ok fun W S => ?_
    refine zsx (And.intro d1 (d2)) ?_
    refine zcd (f1) ?_
    refine zcd (f2) ?_
    exact zrt m_pwhole_ok
  by_cases d9 : g4 = p.gateway.held
  rotate_left
  · skip
    rw [show (p.up[p.active.toNat]! && (p.sync[p.active.toNat]! && (decide (rn = p.journals[p.active.toNat]!.length) && decide (((⟨g1, g2, g3, g4⟩, ep, z) : Gateway × Int × Int) = (p.gateway, p.epoch, 0))))) = false from by rw [decF (fun h => d9 (hq.1 h).2.2.2.1)]; simp]
    rw [decF d9] at f3
    refine zgo m_pwhole_ok fun W S => ?_
    refine zsx (And.intro d1 (d2)) ?_
    refine zcd (f1) ?_
    refine zcd (f2) ?_
    refine zcd (f3) ?_
    exact zrt m_pwhole_ok
  rw [show (p.up[p.active.toNat]! && (p.sync[p.active.toNat]! && (decide (rn = p.journals[p.active.toNat]!.length) && decide (((⟨g1, g2, g3, g4⟩, ep, z) : Gateway × Int × Int) = (p.gateway, p.epoch, 0))))) = true from by rw [d1, d2, decT d3, decT (hq.2 ⟨d6, d7, d8, d9, d5, d4⟩)]; rfl]
  rw [decT d9] at f3
  refine zgo m_pwhole_ok fun W S => ?_
  refine zsx (And.intro d1 (d2)) ?_
  refine zcd (f1) ?_
  refine zcd (f2) ?_
  refine zcd (f3) ?_
  exact zrt m_pwhole_ok
end Go.Proofs.YtdpfglkjhdnbbaaGreat
