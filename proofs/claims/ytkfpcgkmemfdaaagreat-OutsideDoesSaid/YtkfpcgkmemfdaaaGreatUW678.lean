/- W6, W7, W8, in one text. -/
import Derived.Test.YtkfpcgkmemfdaaaGreatWMa
import Derived.Test.YtkfpcgkmemfdaaaGreatC5
import Derived.Test.YtkfpcgkmemfdaaaGreatGr
import Derived.Test.YtkfpcgkmemfdaaaGreatUK
/- Files: which cells are valid; lists joined. -/
namespace Go.Proofs.YtkfpcgkmemfdaaaGreat
open Go Go.RowKit Rdn Rdn.Dp
set_option linter.unusedVariables false
set_option linter.unusedSimpArgs false
theorem m_wcel_ok : compF Tryz.prog 77 = some (58, Qr ([Qw 1 (.box 43 (.t 0)), Qc 2 (.bool false)])
 (.seq (Qr ([Qf 4 0 0 1, Ql 5 1 4])
 (.block 0 (.seq (Qr ([Qp 7 (.bin 0 .eql (.t 5) (.c (.int .u8 0))), Qm 6 7])
 (.cond (.t 6) (.skip) (.reg [Qp 8 (.bin 0 .eql (.t 5) (.c (.int .u8 2))), Qm 6 8])))
 (.cond (.t 6) (Qr ([Qf 9 2 2 1, Ql 10 1 9, Qk 11 .eql 10 0, Qm 12 11, Q1 13 12 (.fieldA 3 3 (.t 1)), Q1 14 12 (.load false 1 (.t 13)), Q1 15 12 (.bin 0 .eql (.t 14) (Qi 0)), Qu 16 12 15, Qm 2 16])
 (.ret)) (Qr ([Qp 18 (.bin 0 .eql (.t 5) (.c (.int .u8 1))), Qm 17 18])
 (.cond (.t 17) (Qr ([Qf 19 2 2 1, Ql 20 1 19, Qk 21 .eql 20 (-1), Qm 22 21, Q1 23 22 (.fieldA 3 3 (.t 1)), Q1 24 22 (.load false 1 (.t 23)), Q1 25 22 (.bin 0 .geq (.t 24) (Qi 0)), Qu 26 22 25, Qm 27 26, Q1 28 27 (.fieldA 3 3 (.t 1)), Q1 29 27 (.load false 1 (.t 28)), Q1 30 27 (.bin 0 .leq (.t 29) (Qi 65535)), Qu 31 27 30, Qm 3 31])
 (Qr ([Qf 32 1 1 1, Ql 33 1 32, Qp 34 (.bin 0 .eql (.t 33) (.c (.int .u16 0))), Qm 35 34, Q1 36 35 (.mov (.t 3)), Q1 37 35 (.mov (.t 36)), Q0 38 37 (.fieldA 2 2 (.t 1)), Q0 39 37 (.load false 1 (.t 38)), Q0 40 37 (.bin 0 .geq (.t 39) (Qi 0)), Q0 41 37 (.mov (.t 40)), Q1 42 41 (.fieldA 2 2 (.t 1)), Q1 43 41 (.load false 1 (.t 42)), Q1 44 41 (.bin 0 .lss (.t 43) (Qi 4)), Q0 45 37 (.pick (.t 41) (.t 44) (.c (.bool false))), Q0 46 37 (.mov (.t 45)), Q1 47 46 (.fieldA 3 3 (.t 1)), Q1 48 46 (.load false 1 (.t 47)), Q1 49 46 (.bin 0 .geq (.t 48) (Qi 0)), Q0 50 37 (.pick (.t 46) (.t 49) (.c (.bool false))), Q0 51 37 (.mov (.t 50)), Q1 52 51 (.fieldA 3 3 (.t 1)), Q1 53 51 (.load false 1 (.t 52)), Q1 54 51 (.bin 0 .lss (.t 53) (Qi 32)), Q0 55 37 (.pick (.t 51) (.t 54) (.c (.bool false))), Q1 56 35 (.pick (.t 37) (.c (.bool true)) (.t 55)), Qu 57 35 56, Qm 2 57])
 (.ret))) (.skip)))))))
 (Qr ([Qc 2 (.bool false)])
 (.ret))), [.mov (.t 2)]) := by kernel_rfl
theorem m_rcel_ok : compF Tryz.prog 84 = some (57, Qr ([Qw 1 (.box 43 (.t 0)), Qc 2 (.bool false)])
 (.seq (Qr ([Qf 3 0 0 1, Ql 4 1 3])
 (.block 0 (.seq (Qr ([Qp 6 (.bin 0 .eql (.t 4) (.c (.int .u8 0))), Qm 5 6])
 (.cond (.t 5) (.skip) (.reg [Qp 7 (.bin 0 .eql (.t 4) (.c (.int .u8 2))), Qm 5 7])))
 (.cond (.t 5) (Qr ([Qf 8 2 2 1, Ql 9 1 8, Qk 10 .eql 9 0, Qm 11 10, Q1 12 11 (.fieldA 3 3 (.t 1)), Q1 13 11 (.load false 1 (.t 12)), Q1 14 11 (.bin 0 .eql (.t 13) (Qi 0)), Qu 15 11 14, Qm 2 15])
 (.ret)) (Qr ([Qp 17 (.bin 0 .eql (.t 4) (.c (.int .u8 1))), Qm 16 17])
 (.cond (.t 16) (.seq (Qr ([Qf 18 2 2 1, Ql 19 1 18, Qk 20 .eql 19 (-1)])
 (.cond (.t 20) (Qr ([Qf 21 1 1 1, Ql 22 1 21, Qp 23 (.bin 0 .eql (.t 22) (.c (.int .u16 0))), Qm 24 23, Q1 25 24 (.fieldA 3 3 (.t 1)), Q1 26 24 (.load false 1 (.t 25)), Q1 27 24 (.bin 0 .geq (.t 26) (Qi 0)), Qu 28 24 27, Qm 29 28, Q1 30 29 (.fieldA 3 3 (.t 1)), Q1 31 29 (.load false 1 (.t 30)), Q1 32 29 (.bin 0 .leq (.t 31) (Qi 65535)), Qu 33 29 32, Qm 2 33])
 (.ret)) (.skip)))
 (Qr ([Qf 34 1 1 1, Ql 35 1 34, Qp 36 (.bin 0 .eql (.t 35) (.c (.int .u16 0))), Qm 37 36, Q1 38 37 (.fieldA 2 2 (.t 1)), Q1 39 37 (.load false 1 (.t 38)), Q1 40 37 (.bin 0 .geq (.t 39) (Qi 0)), Qu 41 37 40, Qm 42 41, Q1 43 42 (.fieldA 2 2 (.t 1)), Q1 44 42 (.load false 1 (.t 43)), Q1 45 42 (.bin 0 .lss (.t 44) (Qi 4)), Qu 46 42 45, Qm 47 46, Q1 48 47 (.fieldA 3 3 (.t 1)), Q1 49 47 (.load false 1 (.t 48)), Q1 50 47 (.bin 0 .geq (.t 49) (Qi 0)), Qu 51 47 50, Qm 52 51, Q1 53 52 (.fieldA 3 3 (.t 1)), Q1 54 52 (.load false 1 (.t 53)), Q1 55 52 (.bin 0 .lss (.t 54) (Qi 32)), Qu 56 52 55, Qm 2 56])
 (.ret))) (.skip)))))))
 (Qr ([Qc 2 (.bool false)])
 (.ret))), [.mov (.t 2)]) := by kernel_rfl
theorem m_rcels_ok : compF Tryz.prog 33 = some (21, Qr ([Qc 4 (.bool false)])
 (.seq (Qr ([Qm 7 0, Qn 8 7, Qp 9 (.mov (Qi 0))])
 (.block 0 (.loop (Qr ([Qb 10 .lss 9 8])
 (.seq (.cond (.t 10) (.skip) (.exit 0))
 (.seq (.block 1 (Qr ([Qx 11 4 7 9, QL 12 4 11, Qw 6 (.alloc 43 (.agg [.int .u8 0, .int .u16 0, .int .i64 0, .int .i64 0])), Qs 4 6 12])
 (Qr ([QL 13 4 6, Qq 14 84 [(.t 13)], Qp 15 (.un .not (.t 14))])
 (.cond (.t 15) (Qr ([Qc 4 (.bool false)])
 (.ret)) (.skip)))))
 (.reg [Qk 16 .add 9 1, Qm 9 16])))))))
 (Qr ([Qm 17 0, Qn 18 17, Qm 19 1, Qb 20 .leq 18 19, Qm 4 20])
 (.ret))), [.mov (.t 4)]) := by kernel_rfl
theorem m_cel1_ok : compF Tryz.prog 76 = some (6, Qr ([Qw 1 (.box 43 (.t 0)), Qc 2 (.bool false)])
 (Qr ([QL 3 4 1, Qq 4 77 [(.t 3)], Qp 5 (.un .not (.t 4)), Qm 2 5])
 (.ret)), [.mov (.t 2)]) := by kernel_rfl
theorem m_idxc_ok : compF Tryz.prog 106 = some (19, Qr ([Qp 4 (.mov (Qi 0))])
 (.seq (Qr ([Qm 6 0, Qn 7 6, Qp 8 (.mov (Qi 0))])
 (.block 0 (.loop (Qr ([Qb 9 .lss 8 7])
 (.seq (.cond (.t 9) (.skip) (.exit 0))
 (.seq (.block 1 (Qr ([Qm 10 8, Qm 5 10])
 (Qr ([Qm 11 1, Qm 12 0, Qm 13 5, Qx 14 4 12 13, QL 15 4 14, ⟨(some 16), none, (.callv (.t 11) [(.t 15)])⟩])
 (.cond (.t 16) (Qr ([Qm 17 5, Qm 4 17])
 (.ret)) (.skip)))))
 (.reg [Qk 18 .add 8 1, Qm 8 18])))))))
 (Qr ([Qp 4 (.mov (Qi (-1)))])
 (.ret))), [.mov (.t 4)]) := by kernel_rfl
theorem m_conc_ok : compF Tryz.prog 75 = some (9, Qr ([Qc 4 (.bool false)])
 (Qr ([Qm 5 0, Qm 6 1, Qq 7 106 [(.t 5), (.t 6)], Qk 8 .geq 7 0, Qm 4 8])
 (.ret)), [.mov (.t 4)]) := by kernel_rfl
theorem m_wcels_ok : compF Tryz.prog 28 = some (14, Qr ([Qc 4 (.bool false)])
 (Qr ([Qm 5 0, Qn 6 5, Qm 7 1, Qb 8 .leq 6 7, Qm 9 8, Q1 10 9 (.mov (.t 0)), ⟨(some 11), (some (9, true)), (.call 75 [(.t 10), (.c (.fn 76))])⟩, Q1 12 9 (.un .not (.t 11)), Qu 13 9 12, Qm 4 13])
 (.ret)), [.mov (.t 4)]) := by kernel_rfl
theorem m_concat_ok : compF Tryz.prog 97 = some (36, Qr ([Qp 2 (.mov (.c (.nilS)))])
 (Qr ([Qp 3 (.mov (Qi 0))])
 (.seq (Qr ([Qm 9 0, Qn 10 9, Qp 11 (.mov (Qi 0))])
 (.block 0 (.loop (Qr ([Qb 12 .lss 11 10])
 (.seq (.cond (.t 12) (.skip) (.exit 0))
 (.seq (.block 1 (Qr ([Qx 13 1 9 11, Ql 14 1 13, Qm 5 14])
 (Qr ([Qm 15 3, Qm 16 5, Qn 17 16, Qb 18 .add 15 17, Qm 3 18])
 (Qr ([Qm 19 3, Qk 20 .lss 19 0])
 (.cond (.t 20) (.reg [Qp 21 (.bad), ⟨none, none, (.p (.bad))⟩]) (.skip))))))
 (.reg [Qk 22 .add 11 1, Qm 11 22])))))))
 (Qr ([Qm 23 3, Qq 24 110 [(.c (.nilS)), (.t 23)], Qm 6 24])
 (.seq (Qr ([Qm 25 0, Qn 26 25, Qp 27 (.mov (Qi 0))])
 (.block 2 (.loop (Qr ([Qb 28 .lss 27 26])
 (.seq (.cond (.t 28) (.skip) (.exit 2))
 (.seq (.block 3 (Qr ([Qx 29 1 25 27, Ql 30 1 29, Qm 8 30])
 (.reg [Qm 31 6, Qm 32 8, Qw 33 (.app 43 4 24 (.t 31) (.t 32)), Qm 6 33])))
 (.reg [Qk 34 .add 27 1, Qm 27 34])))))))
 (Qr ([Qm 35 6, Qm 2 35])
 (.ret)))))), [.mov (.t 2)]) := by kernel_rfl
theorem cell_split (c : Canon) {M : Prop} (a0 : c.tag = 0 → c.region ≠ 0 → M) (a1 : c.tag = 0 → c.region = 0 → c.offset ≠ 0 → M) (a2 : c.tag = 0 → c.region = 0 → c.offset = 0 → M) (a3 : c.tag = 2 → c.region ≠ 0 → M) (a4 : c.tag = 2 → c.region = 0 → c.offset ≠ 0 → M) (a5 : c.tag = 2 → c.region = 0 → c.offset = 0 → M) (a6 : c.tag ≠ 0 → c.tag ≠ 1 → c.tag ≠ 2 → M) (a7 : c.tag = 1 → c.region = -1 → c.offset < 0 → c.val ≠ 0 → M) (a8 : c.tag = 1 → c.region = -1 → c.offset < 0 → c.val = 0 → M) (a9 : c.tag = 1 → c.region = -1 → 0 ≤ c.offset → 65535 < c.offset → c.val ≠ 0 → M) (a10 : c.tag = 1 → c.region = -1 → 0 ≤ c.offset → 65535 < c.offset → c.val = 0 → M) (a11 : c.tag = 1 → c.region = -1 → 0 ≤ c.offset → c.offset ≤ 65535 → c.val ≠ 0 → M) (a12 : c.tag = 1 → c.region = -1 → 0 ≤ c.offset → c.offset ≤ 65535 → c.val = 0 → M) (a13 : c.tag = 1 → c.region ≠ -1 → c.val ≠ 0 → M) (a14 : c.tag = 1 → c.region ≠ -1 → c.region < 0 → c.val = 0 → M) (a15 : c.tag = 1 → 4 ≤ c.region → c.val = 0 → M) (a16 : c.tag = 1 → 0 ≤ c.region → c.region < 4 → c.offset < 0 → c.val = 0 → M) (a17 : c.tag = 1 → 0 ≤ c.region → c.region < 4 → 0 ≤ c.offset → 32 ≤ c.offset → c.val = 0 → M) (a18 : c.tag = 1 → 0 ≤ c.region → c.region < 4 → 0 ≤ c.offset → c.offset < 32 → c.val = 0 → M) : M := by
  by_cases t0 : c.tag = 0
  · by_cases r : c.region = 0
    · by_cases o : c.offset = 0
      · exact a2 (by omega) (by omega) (by omega)
      · exact a1 (by omega) (by omega) (by omega)
    · exact a0 (by omega) (by omega)
  by_cases t2 : c.tag = 2
  · by_cases r : c.region = 0
    · by_cases o : c.offset = 0
      · exact a5 (by omega) (by omega) (by omega)
      · exact a4 (by omega) (by omega) (by omega)
    · exact a3 (by omega) (by omega)
  by_cases t1 : c.tag = 1
  · by_cases r : c.region = -1
    · by_cases o : c.offset < 0
      · by_cases v : c.val = 0
        · exact a8 (by omega) (by omega) (by omega) (by omega)
        · exact a7 (by omega) (by omega) (by omega) (by omega)
      by_cases o2 : c.offset ≤ 65535
      · by_cases v : c.val = 0
        · exact a12 (by omega) (by omega) (by omega) (by omega) (by omega)
        · exact a11 (by omega) (by omega) (by omega) (by omega) (by omega)
      · by_cases v : c.val = 0
        · exact a10 (by omega) (by omega) (by omega) (by omega) (by omega)
        · exact a9 (by omega) (by omega) (by omega) (by omega) (by omega)
    by_cases v : c.val = 0
    · by_cases r1 : c.region < 0
      · exact a14 (by omega) (by omega) (by omega) (by omega)
      by_cases r2 : c.region < 4
      · by_cases o : c.offset < 0
        · exact a16 (by omega) (by omega) (by omega) (by omega) (by omega)
        by_cases o2 : c.offset < 32
        · exact a18 (by omega) (by omega) (by omega) (by omega) (by omega) (by omega)
        · exact a17 (by omega) (by omega) (by omega) (by omega) (by omega) (by omega)
      · exact a15 (by omega) (by omega) (by omega)
    · exact a13 (by omega) (by omega) (by omega)
  · exact a6 (by omega) (by omega) (by omega)
set_option maxHeartbeats 16000000 in
theorem wcel_fn (c : Canon) : Fnc Tryz.prog 77 [canonV c] (fun x obs => x = .bool (cellB c) ∧ obs = []) := by
  refine cell_split c ?_ ?_ ?_ ?_ ?_ ?_ ?_ ?_ ?_ ?_ ?_ ?_ ?_ ?_ ?_ ?_ ?_ ?_ ?_
  all_goals
    intros
    first
      | rw [show cellB c = true from decT (by unfold okC; omega)]
      | rw [show cellB c = false from decF (by unfold okC; omega)]
    refine zgo m_wcel_ok fun W S => ?_
    exact zrt m_wcel_ok
set_option maxHeartbeats 16000000 in
theorem rcel_fn (c : Canon) : Fnc Tryz.prog 84 [canonV c] (fun x obs => x = .bool (cellB c) ∧ obs = []) := by
  refine cell_split c ?_ ?_ ?_ ?_ ?_ ?_ ?_ ?_ ?_ ?_ ?_ ?_ ?_ ?_ ?_ ?_ ?_ ?_ ?_
  all_goals
    intros
    first
      | rw [show cellB c = true from decT (by unfold okC; omega)]
      | rw [show cellB c = false from decF (by unfold okC; omega)]
    refine zgo m_rcel_ok fun W S => ?_
    exact zrt m_rcel_ok
def badC (c : Canon) : Bool := !cellB c
set_option maxHeartbeats 4000000 in
theorem cel1_fn (c : Canon) : Fnc Tryz.prog 76 [canonV c] (fun x obs => x = .bool (badC c) ∧ obs = []) := by
  have hr : badC c = !cellB c := rfl
  refine zgo m_cel1_ok fun W S => ?_
  refine zcd (wcel_fn c) ?_
  exact zrh m_cel1_ok hr
set_option maxHeartbeats 4000000 in
theorem idxc_fn (l : List Canon) : Fnc Tryz.prog 106 [.sl false 4 (l.map canonV), .fn 76] (fun x obs => x = .int .i64 (fnd badC l) ∧ obs = []) := by
  refine Fnc.wf fun hw => ?_
  have hm : l.length ≤ 140737488355328 := by
    have := hw.1
    simp only [V.wf, List.length_map] at this
    exact this.2
  clear hw
  refine zgo m_idxc_ok fun W S => ?_
  refine ev_loopK [0, 1, 7] (fun p : {p : Nat // p ≤ l.length ∧ ∀ j, j < p → badC l[j]! = false} => [(8, .int .i64 p.1)]) (fun _ => []) (fun p => l.length - p.1) (⟨0, by simp⟩) 0 (by simp only [go_sem]; rfl) ?_ (by first | rfl | (simp only [go_sem]; done)) (by simp) (by first | rfl | (simp only [go_sem]; done)) (by first | rfl | (simp only [go_sem]; done)) (by first | rfl | (simp only [go_sem]; done)) ?_
  · (simp only [go_sem]; (try simp []); done)
  intro J hJ
  rintro ⟨k, hk0, hk1⟩
  by_cases hlt : k < l.length
  · have hc := cel1_fn l[k]!
    cases hb : badC l[k]! with
    | true =>
      rw [hb] at hc
      have hr := fnd_at (p := badC) hlt hk1 hb
      refine zst ?_
      refine zcv (hc) ?_
      exact zrh m_idxc_ok hr
    | false =>
      rw [hb] at hc
      have hS : ∀ j, j < k + 1 → badC l[j]! = false := fun j hj => by
        by_cases e : j = k
        · subst e; exact hb
        · exact hk1 j (by omega)
      refine zst ?_
      refine zcv (hc) ?_
      exact zn0 (hJ _ (⟨k + 1, hlt, hS⟩) (by first | omega | (dsimp only; omega) | (simp; omega))) hlt
  · obtain rfl : k = l.length := by omega
    have hr := fnd_no (p := badC) hk1
    refine zst ?_
    exact zrh m_idxc_ok hr
set_option maxHeartbeats 4000000 in
theorem conc_fn (l : List Canon) : Fnc Tryz.prog 75 [.sl false 4 (l.map canonV), .fn 76] (fun x obs => x = .bool (l.any badC) ∧ obs = []) := by
  have hr := fnd_ge badC l
  refine zgo m_conc_ok fun W S => ?_
  refine zcd (idxc_fn l) ?_
  exact zrh m_conc_ok hr
theorem any_bad (l : List Canon) : l.any badC = !l.all cellB := by
  induction l with
  | nil => rfl
  | cons a l ih => simp only [List.any_cons, List.all_cons, ih, badC, Bool.not_and]
set_option maxHeartbeats 4000000 in
theorem wcels_fn (l : List Canon) (n : Int) : Fnc Tryz.prog 28 [.sl false 4 (l.map canonV), .int .i64 n] (fun x obs => x = .bool (cellsB l n) ∧ obs = []) := by
  have hc := conc_fn l
  rw [any_bad] at hc
  by_cases c : (l.length : Int) ≤ n
  · have hr : cellsB l n = !!l.all cellB := by unfold cellsB; rw [decT c]; simp
    refine zgo m_wcels_ok fun W S => ?_
    refine zcd (hc) ?_
    exact zrh m_wcels_ok hr
  · have hr : cellsB l n = false := by unfold cellsB; rw [decF c]; simp
    refine zgo m_wcels_ok fun W S => ?_
    exact zrh m_wcels_ok hr
set_option maxHeartbeats 4000000 in
theorem rcels_fn (l : List Canon) (n : Int) : Fnc Tryz.prog 33 [.sl false 4 (l.map canonV), .int .i64 n] (fun x obs => x = .bool (cellsB l n) ∧ obs = []) := by
  refine Fnc.wf fun hw => ?_
  have hm : l.length ≤ 140737488355328 := by
    have := hw.1
    simp only [V.wf, List.length_map] at this
    exact this.2
  clear hw
  refine zgo m_rcels_ok fun W S => ?_
  refine ev_loopK [0, 1, 7, 8] (fun p : {p : Nat // p ≤ l.length ∧ ∀ j, j < p → cellB l[j]! = true} => [(9, .int .i64 p.1)]) (fun _ => []) (fun p => l.length - p.1) (⟨0, by simp⟩) 0 (by simp only [go_sem]; rfl) ?_ (by first | rfl | (simp only [go_sem]; done)) (by simp) (by first | rfl | (simp only [go_sem]; done)) (by first | rfl | (simp only [go_sem]; done)) (by first | rfl | (simp only [go_sem]; done)) ?_
  · (simp only [go_sem]; (try simp []); done)
  intro J hJ
  rintro ⟨k, hk0, hk1⟩
  by_cases hlt : k < l.length
  · have hc := rcel_fn l[k]!
    cases hb : cellB l[k]! with
    | true =>
      rw [hb] at hc
      have hS : ∀ j, j < k + 1 → cellB l[j]! = true := fun j hj => by
        by_cases e : j = k
        · subst e; exact hb
        · exact hk1 j (by omega)
      refine zst ?_
      refine zcd (hc) ?_
      exact zn0 (hJ _ (⟨k + 1, hlt, hS⟩) (by first | omega | (dsimp only; omega) | (simp; omega))) hlt
    | false =>
      rw [hb] at hc
      have hr : cellsB l n = false := by
        unfold cellsB
        have : l.all cellB = false := List.all_eq_false.2 ⟨_, mem_at hlt, by rw [hb]; simp⟩
        rw [this]; rfl
      refine zst ?_
      refine zcd (hc) ?_
      exact zrh m_rcels_ok hr
  · obtain rfl : k = l.length := by omega
    have ha : l.all cellB = true := List.all_eq_true.2 fun x hx => by
      obtain ⟨j, hj, rfl⟩ := at_mem hx
      exact hk1 j hj
    have hr : cellsB l n = decide ((l.length : Int) ≤ n) := by unfold cellsB; rw [ha]; rfl
    refine zst ?_
    exact zrh m_rcels_ok hr
theorem flatC_snoc {l : List (List Canon)} {k : Nat} (h : k < l.length) : (l.take (k + 1)).flatten = (l.take k).flatten ++ l[k]! := by
  rw [take_snoc h, List.flatten_append]; simp
theorem flatC_le (l : List (List Canon)) (k : Nat) : (l.take k).flatten.length ≤ l.flatten.length := by
  have : l.flatten = (l.take k).flatten ++ (l.drop k).flatten := by rw [← List.flatten_append, List.take_append_drop]
  rw [this, List.length_append]; omega
set_option maxHeartbeats 4000000 in
theorem concatC_fn (l : List (List Canon)) (hb : l.flatten.length ≤ 1000000) : Fnc Tryz.prog 97 [.sl false 1 (l.map (slV' false 4 canonV))] (fun x obs => x = .sl true 4 (l.flatten.map canonV) ∧ obs = []) := by
  refine Fnc.wf fun hw => ?_
  simp only [V.wfs, V.wf, List.length_map] at hw
  have hm := hw.1.2
  clear hw
  refine zgo m_concat_ok fun W S => ?_
  refine ev_loopK [0, 9, 10] (fun p : {p : Nat // p ≤ l.length} => [(3, .int .i64 ((l.take p.1).flatten.length : Nat)), (11, .int .i64 p.1)]) (fun _ => []) (fun p => l.length - p.1) (⟨0, by simp⟩) 0 (by simp only [go_sem]; rfl) ?_ (by first | rfl | (simp only [go_sem]; done)) (by simp) (by first | rfl | (simp only [go_sem]; done)) (by first | rfl | (simp only [go_sem]; done)) (by first | rfl | (simp only [go_sem]; done)) ?_
  · (simp only [go_sem]; (try simp []); done)
  intro J hJ
  rintro ⟨k, hk0⟩
  by_cases hlt : k < l.length
  · have h1 := flatC_le l k
    have h2 := flatC_le l (k + 1)
    have h3 := flatC_snoc hlt
    rw [h3, List.length_append] at h2
    have h4 : ((l.take (k + 1)).flatten.length : Int) = ((l.take k).flatten.length : Int) + (l[k]!.length : Int) := by rw [h3, List.length_append]; omega
    refine zst ?_
    exact zn0 (hJ _ (⟨k + 1, hlt⟩) (by first | omega | (dsimp only; omega) | (simp; omega))) h4
  · obtain rfl : k = l.length := by omega
    have hg := growC_fn l.flatten.length hb
    refine zst ?_
    refine zcx (hg) ?_
    refine ev_loopK [25, 26] (fun p : {p : Nat // p ≤ l.length} => [(6, .own 0 p.1), (27, .int .i64 p.1)]) (fun p => [⟨.row 43, true, p.1, .arr 4 ((l.take p.1).flatten.map canonV)⟩]) (fun p => l.length - p.1) (⟨0, by simp⟩) 1 (by simp only [go_sem]; rfl) ?_ (by first | rfl | (simp only [go_sem]; done)) (by simp) (by first | rfl | (simp only [go_sem]; done)) (by first | rfl | (simp only [go_sem]; done)) (by first | rfl | (simp only [go_sem]; done)) ?_
    · (simp only [go_sem]; (try simp []); done)
    intro J hJ
    rintro ⟨k, hk0⟩
    by_cases hlt : k < l.length
    · have h1 := flatC_le l (k + 1)
      have h3 := flatC_snoc hlt
      rw [h3, List.length_append] at h1
      refine zst ?_
      refine ev_next 1 (hJ _ (⟨k + 1, hlt⟩) (by first | omega | (dsimp only; omega) | (simp; omega))) rfl (by simp) ?_ (by first | rfl | (simp only [go_sem]; done)) (by first | rfl | (simp only [go_sem]; done) | (simp only [h3, List.map_append]; (try simp only [go_sem]); first | done | rfl)) ?_
      · (first | rfl | (simp only [go_sem]; done) | (simp only [go_sem]; simp only [h3, List.map_append]; done) | (simp only [h3, List.map_append]; done) | (simp only [go_sem]; simp [h3, List.map_append]; done) | (simp [h3, List.map_append]; done))
      · (simp only [go_sem]; (repeat' (refine And.intro ?_ ?_)) <;> first | exact trivial | with_reducible rfl | (simp only [h3, List.map_append]; done) | (simp only [h3, List.map_append]; with_reducible rfl) | (simp [h3, List.map_append]; done) | (simp [h3, List.map_append]; omega) | (simp only [h3, List.map_append]; rfl) | skip)
    · obtain rfl : k = l.length := by omega
      refine zst ?_
      refine ret m_concat_ok [] ?_; (first | (simp only [go_sem]; done) | (simp only [go_sem]; ((try dsimp only); (repeat' (refine And.intro ?_ ?_)) <;> first | with_reducible rfl | (simp only [go_sem]; done) | (simp only [go_sem]; rfl) | (simp only [go_sem, List.take_length]; done) | (simp only [List.take_length]; (try simp only [go_sem]); first | done | rfl) | (simp only [go_sem]; simp [List.take_length]; done) | (simp [List.take_length]; done) | rfl)))
end Go.Proofs.YtkfpcgkmemfdaaaGreat
/- Files: Write. -/
namespace Go.Proofs.YtkfpcgkmemfdaaaGreat
open Go Go.RowKit Rdn Rdn.Dp
set_option linter.unusedVariables false
set_option linter.unusedSimpArgs false
theorem m_wwrite_ok : compF Tryz.prog 52 = some (98, Qr ([Qw 3 (.box 34 (.t 0)), Qw 6 (.alloc 34 (.agg [.nilS, .nilS])), Qp 7 (.mov (Qi 0)), Qc 8 (.bool false)])
 (Qr ([QL 14 2 3, Qq 15 94 [(.t 14)], Qw 9 (.alloc 34 (.agg [.nilS, .nilS])), Qs 2 9 15])
 (.seq (Qr ([QL 16 2 3, Qm 17 1, Qq 18 96 [(.t 16), (.t 17)], Qp 19 (.un .not (.t 18)), Qm 20 19, Q0 21 20 (.fieldA 1 1 (.t 3)), Q0 22 20 (.load false 1 (.t 21)), Q0 23 20 (.mov (.t 1)), Q0 24 20 (.idxA 3 (.t 22) (.t 23)), Q0 25 20 (.fieldA 2 2 (.t 24)), Q0 26 20 (.load false 1 (.t 25)), Q0 27 20 (.un .not (.t 26)), Qt 28 20 27, Qm 29 28, Q0 30 29 (.mov (.t 2)), Q0 31 29 (.mov (.t 2)), Q0 32 29 (.len (.t 31)), ⟨(some 33), (some (29, false)), (.call 28 [(.t 30), (.t 32)])⟩, Q0 34 29 (.un .not (.t 33)), Qt 35 29 34])
 (.cond (.t 35) (Qr ([QL 36 2 9, Qs 2 6 36, Qp 7 (.mov (Qi 0)), Qc 8 (.bool false)])
 (.ret)) (.skip)))
 (Qr ([Qf 37 1 1 9, Ql 38 1 37, Qm 39 1, Qx 40 3 38 39, Qm 10 40])
 (Qr ([Qm 41 2, Qn 42 41, Qm 43 10, Qp 44 (.nilc (.t 43)), Qf 45 1 1 44, Ql 46 1 45, Qp 47 (.bin 0 .sub (Qi 64) (.t 46)), Qp 48 (.mn (.t 42) (.t 47)), Qp 49 (.mx (Qi 0) (.t 48)), Qm 11 49])
 (.seq (.dreg [Qf 50 0 0 9, Ql 51 1 50, Qm 52 10, Qp 53 (.nilc (.t 52)), Qf 54 0 0 53, Ql 55 1 54, Qx 56 1 51 55, Ql 57 1 56, Qm 12 57] [[], [0], [], [2], [2, 3], [2, 3, 4], [0, 1, 2, 3, 4, 5], [0, 1, 2, 3, 4, 5, 6], [0, 1, 2, 3, 4, 5, 6, 7]])
 (Qr ([Qm 58 12, Qm 59 12, Qn 60 59, Qm 61 10, Qp 62 (.nilc (.t 61)), Qf 63 1 1 62, Ql 64 1 63, Qm 65 11, Qb 66 .add 64 65, Qp 67 (.mn (.t 60) (.t 66)), Qw 68 (.sl 4 (.t 58) (some (.t 67)) none none), Qm 13 68])
 (.seq (.dreg [Qf 69 0 0 9, Ql 70 1 69, Qm 71 10, Qp 72 (.nilc (.t 71)), Qf 73 0 0 72, Ql 74 1 73, Qm 75 12, Qm 76 10, Qp 77 (.nilc (.t 76)), Qf 78 1 1 77, Ql 79 1 78, Qw 80 (.sl 4 (.t 75) none (some (.t 79)) none), Qm 81 2, Qm 82 11, Qw 83 (.sl 4 (.t 81) none (some (.t 82)) none), Qm 84 13, Qw 85 (.buildS 22 1 (.nilS) 3 [(0, (.t 80)), (1, (.t 83)), (2, (.t 84))]), Qq 86 97 [(.t 85)], Qx 87 1 70 74, Qs 1 87 86] [[], [0], [], [2], [2, 3], [2, 3, 4], [], [], [7], [7, 8], [7, 8, 9], [6, 7, 8, 9, 10], [], [], [12, 13], [], [6, 7, 8, 9, 10, 11, 12, 13, 14, 15], [6, 7, 8, 9, 10, 11, 12, 13, 14, 15, 16], [0, 1, 2, 3, 4, 5, 6, 7, 8, 9, 10, 11, 12, 13, 14, 15, 16, 17], [0, 1, 2, 3, 4, 5, 6, 7, 8, 9, 10, 11, 12, 13, 14, 15, 16, 17, 18]])
 (Qr ([Qm 88 10, Qp 89 (.nilc (.t 88)), Qf 90 1 1 89, Ql 91 1 90, Qm 92 11, Qb 93 .add 91 92, Qp 94 (.nilc (.t 88)), Qf 95 1 1 94, Qs 1 95 93])
 (Qr ([QL 96 2 9, Qm 97 11, Qs 2 6 96, Qm 7 97, Qc 8 (.bool true)])
 (.ret)))))))))), [.load true 2 (.t 6), .mov (.t 7), .mov (.t 8)]) := by kernel_rfl
theorem m_rwrite_ok : compF Tryz.prog 64 = some (108, Qr ([Qw 3 (.box 34 (.t 0)), Qw 6 (.alloc 34 (.agg [.nilS, .nilS])), Qp 7 (.mov (Qi 0)), Qc 8 (.bool false)])
 (Qr ([QL 14 2 3, Qq 15 23 [(.t 14)], Qw 9 (.alloc 34 (.agg [.nilS, .nilS])), Qs 2 9 15])
 (.seq (Qr ([QL 16 2 3, Qm 17 1, Qq 18 103 [(.t 16), (.t 17)], Qp 19 (.un .not (.t 18)), Qm 20 19, Q0 21 20 (.fieldA 1 1 (.t 3)), Q0 22 20 (.load false 1 (.t 21)), Q0 23 20 (.mov (.t 1)), Q0 24 20 (.idxA 3 (.t 22) (.t 23)), Q0 25 20 (.fieldA 2 2 (.t 24)), Q0 26 20 (.load false 1 (.t 25)), Q0 27 20 (.un .not (.t 26)), Qt 28 20 27, Qm 29 28, Q0 30 29 (.mov (.t 2)), Q0 31 29 (.mov (.t 2)), Q0 32 29 (.len (.t 31)), ⟨(some 33), (some (29, false)), (.call 33 [(.t 30), (.t 32)])⟩, Q0 34 29 (.un .not (.t 33)), Qt 35 29 34])
 (.cond (.t 35) (Qr ([QL 36 2 9, Qs 2 6 36, Qp 7 (.mov (Qi 0)), Qc 8 (.bool false)])
 (.ret)) (.skip)))
 (Qr ([Qf 37 1 1 9, Ql 38 1 37, Qm 39 1, Qx 40 3 38 39, Qm 10 40])
 (Qr ([Qm 41 2, Qn 42 41, Qm 43 10, Qp 44 (.nilc (.t 43)), Qf 45 1 1 44, Ql 46 1 45, Qp 47 (.bin 0 .sub (Qi 64) (.t 46)), Qp 48 (.mn (.t 42) (.t 47)), Qm 11 48])
 (.seq (.dreg [Qf 49 0 0 9, Ql 50 1 49, Qm 51 10, Qp 52 (.nilc (.t 51)), Qf 53 0 0 52, Ql 54 1 53, Qx 55 1 50 54, Ql 56 1 55, Qm 12 56] [[], [0], [], [2], [2, 3], [2, 3, 4], [0, 1, 2, 3, 4, 5], [0, 1, 2, 3, 4, 5, 6], [0, 1, 2, 3, 4, 5, 6, 7]])
 (.seq (Qr ([Qm 57 11, Qp 58 (.mov (Qi 0))])
 (.block 0 (.loop (Qr ([Qb 59 .lss 58 57])
 (.seq (.cond (.t 59) (.skip) (.exit 0))
 (.seq (.block 1 (Qr ([Qm 60 58, Qm 13 60])
 (Qr ([Qm 61 10, Qp 62 (.nilc (.t 61)), Qf 63 1 1 62, Ql 64 1 63, Qm 65 13, Qb 66 .add 64 65, Qm 67 12, Qn 68 67, Qb 69 .lss 66 68])
 (.cond (.t 69) (.dreg [Qm 70 12, Qm 71 10, Qp 72 (.nilc (.t 71)), Qf 73 1 1 72, Ql 74 1 73, Qm 75 13, Qb 76 .add 74 75, Qm 77 2, Qm 78 13, Qx 79 4 77 78, QL 80 4 79, Qx 81 4 70 76, Qs 4 81 80] [[], [], [1], [1, 2], [1, 2, 3], [], [1, 2, 3, 4, 5], [], [], [7, 8], [7, 8, 9], [0, 1, 2, 3, 4, 5, 6, 7, 8, 9, 10], [0, 1, 2, 3, 4, 5, 6, 7, 8, 9, 10, 11]]) (.reg [Qm 82 12, Qm 83 2, Qm 84 13, Qx 85 4 83 84, QL 86 4 85, Qw 87 (.buildS 43 4 (.agg [.int .u8 0, .int .u16 0, .int .i64 0, .int .i64 0]) 1 [(0, (.t 86))]), Qw 88 (.app 43 4 24 (.t 82) (.t 87)), Qm 12 88])))))
 (.reg [Qk 89 .add 58 1, Qm 58 89])))))))
 (.seq (.dreg [Qf 90 0 0 9, Ql 91 1 90, Qm 92 10, Qp 93 (.nilc (.t 92)), Qf 94 0 0 93, Ql 95 1 94, Qm 96 12, Qx 97 1 91 95, Qs 1 97 96] [[], [0], [], [2], [2, 3], [2, 3, 4], [], [0, 1, 2, 3, 4, 5, 6], [0, 1, 2, 3, 4, 5, 6, 7]])
 (Qr ([Qm 98 10, Qp 99 (.nilc (.t 98)), Qf 100 1 1 99, Ql 101 1 100, Qm 102 11, Qb 103 .add 101 102, Qp 104 (.nilc (.t 98)), Qf 105 1 1 104, Qs 1 105 103])
 (Qr ([QL 106 2 9, Qm 107 11, Qs 2 6 106, Qm 7 107, Qc 8 (.bool true)])
 (.ret)))))))))), [.load true 2 (.t 6), .mov (.t 7), .mov (.t 8)]) := by kernel_rfl
theorem cellsB_all (l : List Canon) : cellsB l l.length = l.all cellB := by unfold cellsB; rw [decT (Int.le_refl _), Bool.and_true]
theorem over_set {D c : List Canon} {a i : Nat} (ha : a ≤ D.length) (hi : i < c.length) (h : a + i < D.length) : (over D a (c.take i)).set (a + i) c[i]! = over D a (c.take (i + 1)) := by
  have h1 : (D.take a).length = a := by rw [List.length_take]; omega
  have h2 : (c.take i).length = i := by rw [List.length_take]; omega
  have h3 : (c.take (i + 1)).length = i + 1 := by rw [List.length_take]; omega
  unfold over
  rw [List.set_append_right _ _ (by rw [List.length_append]; omega), h2, h3, List.length_append, h1, h2, Nat.sub_self, take_snoc hi]
  have e : D.drop (a + i) = D[a + i]! :: D.drop (a + (i + 1)) := by rw [getElem!_pos D (a + i) h]; exact (List.getElem_cons_drop h).symm
  rw [e, List.set_cons_zero]
  simp
theorem over_app {D c : List Canon} {a i : Nat} (ha : a ≤ D.length) (hi : i < c.length) (h : ¬ a + i < D.length) : over D a (c.take i) ++ [c[i]!] = over D a (c.take (i + 1)) := by
  unfold over
  rw [take_snoc hi, List.drop_of_length_le (by rw [List.length_take]; omega), List.drop_of_length_le (by simp; omega)]
  simp
theorem over_zero (D : List Canon) (c : List Canon) (a : Nat) : over D a (c.take 0) = D := by simp [over]
theorem over_nil (D : List Canon) (a : Nat) : over D a [] = D := by simp [over]
theorem over_flat (D c : List Canon) (a n : Nat) (ha : a ≤ D.length) (hn : n ≤ c.length) : [D.take a, c.take n, D.drop (min D.length (a + n))].flatten = over D a (c.take n) := by
  have h2 : (c.take n).length = n := by rw [List.length_take]; omega
  unfold over
  rw [h2]
  simp only [List.flatten_cons, List.flatten_nil, List.append_nil, List.append_assoc]
  congr 2
  by_cases e : a + n ≤ D.length
  · rw [Nat.min_eq_right e]
  · rw [Nat.min_eq_left (by omega), List.drop_length, List.drop_of_length_le (by omega)]
theorem sWrite_T {f : Files} {h : Int} {c : List Canon} (k : opd f h) (c1 : f.opens[h.toNat]!.write = true) (c2 : c.all cellB = true) : sWrite f h c = (⟨f.data.set f.opens[h.toNat]!.file.toNat (over (dat f h) f.opens[h.toNat]!.offset.toNat (c.take (wrn f h c).toNat)), setOff f h (f.opens[h.toNat]!.offset + wrn f h c)⟩, wrn f h c, true) := by unfold sWrite; exact if_pos ⟨k, c1, c2⟩
theorem sWrite_F {f : Files} {h : Int} {c : List Canon} (k : ¬ (opd f h ∧ f.opens[h.toNat]!.write = true ∧ c.all cellB = true)) : sWrite f h c = (f, 0, false) := by unfold sWrite; exact if_neg k
attribute [local irreducible] sWrite setOff dat wrn over
set_option maxHeartbeats 8000000 in
theorem wwrite_fn (f : Files) (F : FitF f) (h : Int) (c : List Canon) (hc : c.length ≤ 100000) : Fnc Tryz.prog 52 [filV f, .int .i64 h, .sl false 4 (c.map canonV)] (fun y obs => y = .tup [filV (sWrite f h c).1, .int .i64 (sWrite f h c).2.1, .bool (sWrite f h c).2.2] ∧ obs = []) := by
  refine Fnc.low ?_
  have fO := opened_fn f F h
  have fC := wcels_fn c c.length
  rw [cellsB_all] at fC
  by_cases k : opd f h
  · have ha := F.at k
    rw [decT k] at fO
    obtain ⟨i, hi⟩ : ∃ i : Nat, h = i := ⟨h.toNat, by have := k.1; omega⟩
    subst hi
    have hT := @sWrite_T f i c k
    have hF := @sWrite_F f i c
    rw [Int.toNat_natCast] at ha hT hF
    have hd := dat_nat f i
    obtain ⟨c2, c3⟩ := opd_nat k
    cases c5 : f.opens[i]!.write with
    | false =>
      rw [hF (fun k => by rw [c5] at k; cases k.2.1)]
      refine zgo m_wwrite_ok fun W S => ?_
      refine zcx (wcopy_fn f F.low) ?_
      (first | refine callD (fO) ?_ | refine callDw (fO) ?_); refine zev ?_
      refine zsx c5 ?_
      exact zrt m_wwrite_ok
    | true =>
      cases c6 : c.all cellB with
      | false =>
        rw [c6] at fC
        rw [hF (fun k => by rw [c6] at k; cases k.2.2)]
        refine zgo m_wwrite_ok fun W S => ?_
        refine zcx (wcopy_fn f F.low) ?_
        (first | refine callD (fO) ?_ | refine callDw (fO) ?_); refine zev ?_
        refine zsx c5 ?_
        refine zcd (fC) ?_
        exact zrt m_wwrite_ok
      | true =>
        rw [c6] at fC
        rw [hT c5 c6]
        obtain ⟨D, hD⟩ : ∃ D, f.data[f.opens[i]!.file.toNat]! = D := ⟨_, rfl⟩
        rw [hD] at hd
        rw [hd] at ha ⊢
        have hm : (if 64 - f.opens[i]!.offset < (c.length : Int) then 64 - f.opens[i]!.offset else (c.length : Int)) = wrn f i c := by
          unfold wrn
          rw [Int.toNat_natCast]
          split <;> omega
        obtain ⟨K, hK⟩ : ∃ K : Nat, wrn f i c = K := ⟨(wrn f i c).toNat, by rw [← hm]; split <;> omega⟩
        have hKc : K ≤ c.length := by rw [hK] at hm; split at hm <;> omega
        have hK64 : f.opens[i]!.offset + K ≤ 64 := by rw [hK] at hm; split at hm <;> omega
        have hmx : (if (K : Int) > 0 then (K : Int) else 0) = K := by split <;> omega
        have ho := setOff_nat f i (f.opens[i]!.offset + K)
        have hfl := over_flat D c f.opens[i]!.offset.toNat K (by omega) hKc
        have hmn : (if f.opens[i]!.offset + (K : Int) < (D.length : Int) then f.opens[i]!.offset + (K : Int) else (D.length : Int)).toNat = min D.length (f.opens[i]!.offset.toNat + K) := by split <;> omega
        have hlo := over_len (d := D) (c := c.take K) (a := f.opens[i]!.offset.toNat) (by omega)
        rw [List.length_take] at hlo
        have hCC := concatC_fn [D.take f.opens[i]!.offset.toNat, c.take K, D.drop (min D.length (f.opens[i]!.offset.toNat + K))] (by rw [hfl]; omega)
        rw [hfl] at hCC
        rw [hK, Int.toNat_natCast]
        rw [hK] at hm
        refine zgo m_wwrite_ok fun W S => ?_
        refine zcx (wcopy_fn f F.low) ?_
        (first | refine callD (fO) ?_ | refine callDw (fO) ?_); refine zev ?_
        refine zsx c5 ?_
        (first | refine callD (fC) ?_ | refine callDw (fC) ?_); refine zev ?_
        repeat (first | (simp only [c5, hD, hm, hmx, hmn]; try simp only [go_sem]) | refine And.intro (by omega) ?_ | refine And.intro rfl ?_ | refine ev_ctl rfl rfl ?_ | refine evr_nil ?_ | refine evw_nil (by kernel_rfl) ?_ | (simp (disch := omega) only [takeAll, Nat.min_eq_left, Nat.min_eq_right, if_pos, if_neg, getD_map, wrapI64, modIn, fdivE, tmodE, tdivE, decT, decF, beqT, beqF, bneT, bneF, Int.toNat_natCast]; try simp only [go_sem]) | (refine ev_condTb rfl ?_ ?_; · (simp <;> omega)) | (refine ev_condFb rfl ?_ ?_; · (simp <;> omega)) | ((first | refine ev_region ?_ | refine evr_go rfl ?_ | refine evw_go rfl ?_ | refine ev_dr0 mixed rfl (by kernel_rfl) ?_ | refine ev_dr1 mixed rfl (by kernel_rfl) ?_ | refine ev_dr2 mixed rfl (by kernel_rfl) ?_); simp only [go_sem]))
        refine zcd (hCC) ?_
        exact zrh m_wwrite_ok ho
  · rw [decF k] at fO
    rw [sWrite_F (fun q => k q.1)]
    refine zgo m_wwrite_ok fun W S => ?_
    refine zcx (wcopy_fn f F.low) ?_
    refine zcd (fO) ?_
    exact zrt m_wwrite_ok
set_option maxHeartbeats 8000000 in
theorem rwrite_fn (f : Files) (F : FitF f) (h : Int) (c : List Canon) (hc : c.length ≤ 100000) : Fnc Tryz.prog 64 [filV f, .int .i64 h, .sl false 4 (c.map canonV)] (fun y obs => y = .tup [filV (sWrite f h c).1, .int .i64 (sWrite f h c).2.1, .bool (sWrite f h c).2.2] ∧ obs = []) := by
  refine Fnc.low ?_
  have fO := ropen_fn f F h
  have fC := rcels_fn c c.length
  rw [cellsB_all] at fC
  by_cases k : opd f h
  · have ha := F.at k
    rw [decT k] at fO
    obtain ⟨i, hi⟩ : ∃ i : Nat, h = i := ⟨h.toNat, by have := k.1; omega⟩
    subst hi
    have hT := @sWrite_T f i c k
    have hF := @sWrite_F f i c
    rw [Int.toNat_natCast] at ha hT hF
    have hd := dat_nat f i
    obtain ⟨c2, c3⟩ := opd_nat k
    cases c5 : f.opens[i]!.write with
    | false =>
      rw [hF (fun k => by rw [c5] at k; cases k.2.1)]
      refine zgo m_rwrite_ok fun W S => ?_
      refine zcx (rcopy_fn f F.low) ?_
      (first | refine callD (fO) ?_ | refine callDw (fO) ?_); refine zev ?_
      refine zsx c5 ?_
      exact zrt m_rwrite_ok
    | true =>
      cases c6 : c.all cellB with
      | false =>
        rw [c6] at fC
        rw [hF (fun k => by rw [c6] at k; cases k.2.2)]
        refine zgo m_rwrite_ok fun W S => ?_
        refine zcx (rcopy_fn f F.low) ?_
        (first | refine callD (fO) ?_ | refine callDw (fO) ?_); refine zev ?_
        refine zsx c5 ?_
        refine zcd (fC) ?_
        exact zrt m_rwrite_ok
      | true =>
        rw [c6] at fC
        rw [hT c5 c6]
        obtain ⟨D, hD⟩ : ∃ D, f.data[f.opens[i]!.file.toNat]! = D := ⟨_, rfl⟩
        have hRJ := rcopyJ_fn f F.low f.opens[i]!.file.toNat (by omega)
        rw [hD] at hd hRJ
        rw [hd] at ha ⊢
        have hm : (if 64 - f.opens[i]!.offset < (c.length : Int) then 64 - f.opens[i]!.offset else (c.length : Int)) = wrn f i c := by
          unfold wrn
          rw [Int.toNat_natCast]
          split <;> omega
        obtain ⟨K, hK⟩ : ∃ K : Nat, wrn f i c = K := ⟨(wrn f i c).toNat, by rw [← hm]; split <;> omega⟩
        have hKc : K ≤ c.length := by rw [hK] at hm; split at hm <;> omega
        have hK64 : f.opens[i]!.offset + K ≤ 64 := by rw [hK] at hm; split at hm <;> omega
        have ho := setOff_nat f i (f.opens[i]!.offset + K)
        rw [hK, Int.toNat_natCast]
        rw [hK] at hm
        obtain ⟨j, hj⟩ : ∃ j : Nat, f.opens[i]!.file = j := ⟨f.opens[i]!.file.toNat, by omega⟩
        obtain ⟨a, haa⟩ : ∃ a : Nat, f.opens[i]!.offset = a := ⟨f.opens[i]!.offset.toNat, by omega⟩
        rw [hj] at hRJ ha ho
        rw [haa] at ha ho hm hK64
        rw [hj, haa, Int.toNat_natCast, Int.toNat_natCast]
        rw [Int.toNat_natCast] at hRJ
        have hjl : j < f.data.length := by omega
        have hget : ((f.data.map (slV' true 4 canonV)).set j (.own 4 0)).getD j V.junk = .own 4 0 := by simp [List.getD_eq_getElem?_getD, hjl]
        have hsl : ((f.data.map (slV' true 4 canonV)).set j (.own 4 0)).length = f.data.length := by simp
        refine zgo m_rwrite_ok fun W S => ?_
        refine zcx (hRJ) ?_
        (first | refine callD (fO) ?_ | refine callDw (fO) ?_); refine zev ?_
        refine zsx c5 ?_
        (first | refine callD (fC) ?_ | refine callDw (fC) ?_); refine zev ?_
        repeat (first | (simp only [c5, hj, haa, hm, hget, hsl]; try simp only [go_sem]) | refine And.intro (by omega) ?_ | refine And.intro rfl ?_ | refine ev_ctl rfl rfl ?_ | refine evr_nil ?_ | refine evw_nil (by kernel_rfl) ?_ | (simp (disch := omega) only [takeAll, Nat.min_eq_left, Nat.min_eq_right, if_pos, if_neg, getD_map, wrapI64, modIn, fdivE, tmodE, tdivE, decT, decF, beqT, beqF, bneT, bneF, Int.toNat_natCast]; try simp only [go_sem]) | (refine ev_condTb rfl ?_ ?_; · (simp <;> omega)) | (refine ev_condFb rfl ?_ ?_; · (simp <;> omega)) | ((first | refine ev_region ?_ | refine evr_go rfl ?_ | refine evw_go rfl ?_ | refine ev_dr0 mixed rfl (by kernel_rfl) ?_ | refine ev_dr1 mixed rfl (by kernel_rfl) ?_ | refine ev_dr2 mixed rfl (by kernel_rfl) ?_); simp only [go_sem]))
        refine ev_loopK [2, 6, 9, 10, 11, 57] (fun p : {p : Nat // p ≤ K} => [(12, .own 4 ((over D a (c.take p.1)).length - D.length)), (58, .int .i64 p.1)]) (fun p => [⟨.box false 34, true, 0, filV f⟩, ⟨.box false 34, true, 0, .agg [.nilS, .nilS]⟩, ⟨.rows 22, true, 0, .arr 1 ((f.data.map (slV' true 4 canonV)).set j (.own 4 0))⟩, ⟨.row 47, true, 0, .arr 3 (f.opens.map opnV)⟩, ⟨.row 43, true, (over D a (c.take p.1)).length - D.length, .arr 4 ((over D a (c.take p.1)).map canonV)⟩, ⟨.box false 34, true, 0, .agg [.own 2 0, .own 3 0]⟩]) (fun p => K - p.1) (⟨0, by simp⟩) 6 (by simp only [go_sem]; rfl) ?_ (by first | rfl | (simp only [go_sem]; done) | (simp only [go_sem]; simp [over_nil, Nat.sub_self]; done)) (by simp) (by first | rfl | (simp only [go_sem]; done)) (by first | rfl | (simp only [go_sem]; done)) (by first | rfl | (simp only [go_sem]; done) | (simp only [over_nil, Nat.sub_self]; (try simp only [go_sem]); first | done | rfl)) ?_
        · (simp only [go_sem]; (try simp [over_nil, Nat.sub_self]); done)
        intro J hJ
        rintro ⟨p, hp⟩
        have hlo := over_len (d := D) (c := c.take p) (a := a) (by omega)
        rw [List.length_take, Nat.min_eq_left (by omega)] at hlo
        by_cases hlt : p < K
        · have hlo1 := over_len (d := D) (c := c.take (p + 1)) (a := a) (by omega)
          rw [List.length_take, Nat.min_eq_left (by omega)] at hlo1
          by_cases cb : a + p < D.length
          · have hs := over_set (c := c) (i := p) (D := D) (a := a) (by omega) (by omega) cb
            have hg : (over D a (c.take (p + 1))).length - D.length = (over D a (c.take p)).length - D.length := by omega
            have hap : ((a : Int) + (p : Int)).toNat = a + p := by omega
            repeat (first | (simp only [hj, haa, hap]; try simp only [go_sem]) | refine And.intro (by omega) ?_ | refine And.intro rfl ?_ | refine ev_ctl rfl rfl ?_ | refine evr_nil ?_ | refine evw_nil (by kernel_rfl) ?_ | (simp (disch := omega) only [takeAll, Nat.min_eq_left, Nat.min_eq_right, if_pos, if_neg, getD_map, wrapI64, modIn, fdivE, tmodE, tdivE, decT, decF, beqT, beqF, bneT, bneF, Int.toNat_natCast]; try simp only [go_sem]) | (refine ev_condTb rfl ?_ ?_; · (simp <;> omega)) | (refine ev_condFb rfl ?_ ?_; · (simp <;> omega)) | ((first | refine ev_region ?_ | refine evr_go rfl ?_ | refine evw_go rfl ?_ | refine ev_dr0 mixed rfl (by kernel_rfl) ?_ | refine ev_dr1 mixed rfl (by kernel_rfl) ?_ | refine ev_dr2 mixed rfl (by kernel_rfl) ?_); simp only [go_sem]))
            exact zn6 (hJ _ (⟨p + 1, hlt⟩) (by first | omega | (dsimp only; omega) | (simp; omega))) (And.intro hs (hg))
          · have hs := over_app (c := c) (i := p) (D := D) (a := a) (by omega) (by omega) cb
            have hg : (over D a (c.take (p + 1))).length - D.length = (over D a (c.take p)).length - D.length + 1 := by omega
            repeat (first | (simp only [hj, haa]; try simp only [go_sem]) | refine And.intro (by omega) ?_ | refine And.intro rfl ?_ | refine ev_ctl rfl rfl ?_ | refine evr_nil ?_ | refine evw_nil (by kernel_rfl) ?_ | (simp (disch := omega) only [takeAll, Nat.min_eq_left, Nat.min_eq_right, if_pos, if_neg, getD_map, wrapI64, modIn, fdivE, tmodE, tdivE, decT, decF, beqT, beqF, bneT, bneF, Int.toNat_natCast]; try simp only [go_sem]) | (refine ev_condTb rfl ?_ ?_; · (simp <;> omega)) | (refine ev_condFb rfl ?_ ?_; · (simp <;> omega)) | ((first | refine ev_region ?_ | refine evr_go rfl ?_ | refine evw_go rfl ?_ | refine ev_dr0 mixed rfl (by kernel_rfl) ?_ | refine ev_dr1 mixed rfl (by kernel_rfl) ?_ | refine ev_dr2 mixed rfl (by kernel_rfl) ?_); simp only [go_sem]))
            exact zn6 (hJ _ (⟨p + 1, hlt⟩) (by first | omega | (dsimp only; omega) | (simp; omega))) (And.intro hs (hg))
        · obtain rfl : p = K := by omega
          repeat (first | (simp only [hj, haa, hsl, hget]; try simp only [go_sem]) | refine And.intro (by omega) ?_ | refine And.intro rfl ?_ | refine ev_ctl rfl rfl ?_ | refine evr_nil ?_ | refine evw_nil (by kernel_rfl) ?_ | (simp (disch := omega) only [takeAll, Nat.min_eq_left, Nat.min_eq_right, if_pos, if_neg, getD_map, wrapI64, modIn, fdivE, tmodE, tdivE, decT, decF, beqT, beqF, bneT, bneF, Int.toNat_natCast]; try simp only [go_sem]) | (refine ev_condTb rfl ?_ ?_; · (simp <;> omega)) | (refine ev_condFb rfl ?_ ?_; · (simp <;> omega)) | ((first | refine ev_region ?_ | refine evr_go rfl ?_ | refine evw_go rfl ?_ | refine ev_dr0 mixed rfl (by kernel_rfl) ?_ | refine ev_dr1 mixed rfl (by kernel_rfl) ?_ | refine ev_dr2 mixed rfl (by kernel_rfl) ?_); simp only [go_sem]))
          have hq : ((((f.data.map (slV' true 4 canonV)).set j (.own 4 0)).set j (.own 4 ((over D a (c.take p)).length - D.length))).set j (V.sl true 4 ((over D a (c.take p)).map canonV))) = (f.data.set j (over D a (c.take p))).map (slV' true 4 canonV) := by rw [List.set_set, List.set_set, set_slV]
          refine ev_frzIn 2 j 4 rfl rfl (by simp [hjl]) ?_
          simp only [hq, List.set_cons_zero, List.set_cons_succ]
          refine ev_toRow 2 rfl (pures_lo _ _) ?_
          exact zrh m_rwrite_ok ho
  · rw [decF k] at fO
    rw [sWrite_F (fun q => k q.1)]
    refine zgo m_rwrite_ok fun W S => ?_
    refine zcx (rcopy_fn f F.low) ?_
    refine zcd (fO) ?_
    exact zrt m_rwrite_ok
end Go.Proofs.YtkfpcgkmemfdaaaGreat
/- Files: new ones of the program; the sanity check. -/
namespace Go.Proofs.YtkfpcgkmemfdaaaGreat
open Go Go.RowKit Rdn Rdn.Dp
set_option linter.unusedVariables false
set_option linter.unusedSimpArgs false
theorem m_wnum_ok : compF Tryz.prog 104 = some (19, Qr ([Qp 2 (.mov (.c (.nilS)))])
 (Qr ([Qp 3 (.mov (.c (.nilS)))])
 (.seq (Qr ([Qm 6 0, Qn 7 6, Qp 8 (.mov (Qi 0))])
 (.block 0 (.loop (Qr ([Qb 9 .lss 8 7])
 (.seq (.cond (.t 9) (.skip) (.exit 0))
 (.seq (.block 1 (Qr ([Qx 10 1 6 8, Ql 11 1 10, Qm 5 11])
 (.reg [Qm 12 3, Qm 13 5, Qw 14 (.build none [.int .u8 0, .int .u16 0, .int .i64 0, .int .i64 0] [(0, (.c (.int .u8 0))), (1, (.t 13))]), Qw 15 (.buildS 43 4 (.agg [.int .u8 0, .int .u16 0, .int .i64 0, .int .i64 0]) 1 [(0, (.t 14))]), Qw 16 (.app 43 4 24 (.t 12) (.t 15)), Qm 3 16])))
 (.reg [Qk 17 .add 8 1, Qm 8 17])))))))
 (Qr ([Qm 18 3, Qm 2 18])
 (.ret)))), [.mov (.t 2)]) := by kernel_rfl
theorem m_wnew_ok : compF Tryz.prog 72 = some (46, Qr ([Qw 2 (.alloc 34 (.agg [.nilS, .nilS])), Qp 3 (.mov (Qi 0))])
 (Qr ([Qw 8 (.mkS 47 3 24 (.agg [.int .i64 0, .int .i64 0, .bool false]) (Qi 8) (Qi 8)), Qw 9 (.build none [.nilS, .nilS] [(1, (.t 8))]), Qw 4 (.alloc 34 (.agg [.nilS, .nilS])), Qs 2 4 9])
 (.seq (Qr ([Qf 10 1 1 4, Ql 11 1 10, Qn 12 11, Qp 13 (.mov (Qi 0))])
 (.block 0 (.loop (Qr ([Qb 14 .lss 13 12])
 (.seq (.cond (.t 14) (.skip) (.exit 0))
 (.seq (.block 1 (Qr ([Qm 15 13, Qm 5 15])
 (.reg [Qf 16 1 1 4, Ql 17 1 16, Qm 18 5, Qx 19 3 17 18, Qf 20 0 0 19, ⟨none, none, (.m (.store 1 (.t 20) (Qi (-1))))⟩])))
 (.reg [Qk 21 .add 13 1, Qm 13 21])))))))
 (.seq (Qr ([Qm 22 0, Qn 23 22, Qp 24 (.mov (Qi 0))])
 (.block 2 (.loop (Qr ([Qb 25 .lss 24 23])
 (.seq (.cond (.t 25) (.skip) (.exit 2))
 (.seq (.block 3 (Qr ([Qx 26 1 22 24, Ql 27 1 26, Qm 7 27])
 (.seq (Qr ([Qm 28 0, Qn 29 28, Qk 30 .gtr 29 4, Qm 31 30, Q0 32 31 (.mov (.t 7)), Q0 33 31 (.len (.t 32)), Q0 34 31 (.bin 0 .gtr (.t 33) (Qi 64)), Qt 35 31 34])
 (.cond (.t 35) (Qr ([Qw 36 (.build none [.nilS, .nilS] []), Qs 2 2 36, Qp 3 (.mov (Qi 3))])
 (.ret)) (.skip)))
 (.dreg [Qf 37 0 0 4, Ql 38 1 37, Qm 39 7, Qq 40 104 [(.t 39)], Qw 41 (.buildS 22 1 (.nilS) 1 [(0, (.t 40))]), Qw 42 (.app 22 1 24 (.t 38) (.t 41)), Qf 43 0 0 4, Qs 1 43 42] [[], [0], [], [2], [2, 3], [0, 1, 2, 3, 4], [0, 1, 2, 3, 4, 5], [0, 1, 2, 3, 4, 5, 6]]))))
 (.reg [Qk 44 .add 24 1, Qm 24 44])))))))
 (Qr ([QL 45 2 4, Qs 2 2 45, Qp 3 (.mov (Qi 0))])
 (.ret))))), [.load true 2 (.t 2), .mov (.t 3)]) := by kernel_rfl
theorem numC_app (l : List Int) (v : Int) : numC (l ++ [v]) = numC l ++ [⟨0, v, 0, 0⟩] := by simp [numC]
set_option maxHeartbeats 4000000 in
theorem wnum_fn (l : List Int) (hl : l.length ≤ 1000000) : Fnc Tryz.prog 104 [.sl false 1 (u16s l)] (fun x obs => x = .sl true 4 ((numC l).map canonV) ∧ obs = []) := by
  refine zgo m_wnum_ok fun W S => ?_
  refine ev_adopt (i := 3) (e := 43) (s := 4) rfl (by decide) ?_
  refine ev_loopK [6, 7] (fun p : {p : Nat // p ≤ l.length} => [(3, .own 0 p.1), (8, .int .i64 p.1)]) (fun p => [⟨.row 43, true, p.1, .arr 4 ((numC (l.take p.1)).map canonV)⟩]) (fun p => l.length - p.1) (⟨0, by simp⟩) 1 (by simp only [go_sem]; rfl) ?_ (by first | rfl | (simp only [go_sem]; done) | (simp only [go_sem]; simp [numC_zero]; done)) (by simp) (by first | rfl | (simp only [go_sem]; done)) (by first | rfl | (simp only [go_sem]; done)) (by first | rfl | (simp only [go_sem]; done) | (simp only [numC_zero]; (try simp only [go_sem]); first | done | rfl)) ?_
  · (simp only [go_sem]; (try simp [numC_zero]); done)
  intro J hJ
  rintro ⟨k, hk0⟩
  by_cases hlt : k < l.length
  · have h1 := numC_len (l.take k)
    have h2 : (l.take k).length = k := by rw [List.length_take]; omega
    have hs := numC_snoc hlt
    refine zst ?_
    exact zn1 (hJ _ (⟨k + 1, hlt⟩) (by first | omega | (dsimp only; omega) | (simp; omega))) hs
  · obtain rfl : k = l.length := by omega
    refine zst ?_
    refine ret m_wnum_ok [] ?_; (first | (simp only [go_sem]; done) | (simp only [go_sem]; ((try dsimp only); (repeat' (refine And.intro ?_ ?_)) <;> first | with_reducible rfl | (simp only [go_sem]; done) | (simp only [go_sem]; rfl) | (simp only [go_sem, List.take_length]; done) | (simp only [List.take_length]; (try simp only [go_sem]); first | done | rfl) | (simp only [go_sem]; simp [List.take_length]; done) | (simp [List.take_length]; done) | rfl)))
def eight : List Opn := [shut, shut, shut, shut, shut, shut, shut, shut]
theorem eight_V : eight.map opnV = [openN, openN, openN, openN, openN, openN, openN, openN] := rfl
def okNew (data : List (List Int)) : Prop := data = [] ∨ (data.length ≤ 4 ∧ ∀ x ∈ data, x.length ≤ 64)
instance (data : List (List Int)) : Decidable (okNew data) := by unfold okNew; exact inferInstance
def sNew (data : List (List Int)) : Files × Int := if okNew data then (⟨data.map numC, eight⟩, 0) else (⟨[], []⟩, 3)
theorem sNew_T {data : List (List Int)} (h : okNew data) : sNew data = (⟨data.map numC, eight⟩, 0) := if_pos h
theorem sNew_F {data : List (List Int)} (h : ¬ okNew data) : sNew data = (⟨[], []⟩, 3) := if_neg h
attribute [local irreducible] eight numC sNew
set_option maxHeartbeats 16000000 in
theorem wnew_fn (data : List (List Int)) (hd : data.length ≤ 1000) : Fnc Tryz.prog 72 [.sl false 1 (data.map (slV' false 1 (V.int .u16)))] (fun x obs => x = .tup [filV (sNew data).1, .int .i64 (sNew data).2] ∧ obs = []) := by
  refine Fnc.wf fun hw => ?_
  have hm : ∀ k, k < data.length → data[k]!.length ≤ 140737488355328 := fun k hk => by
    have := hw.1
    simp only [V.wf, wfs_map] at this
    have := this.1 _ (mem_at hk)
    simp only [slV', V.wf, List.length_map] at this
    exact this.2
  clear hw
  refine Fnc.low ?_
  have h8 := eight_V
  refine zgo m_wnew_ok fun W S => ?_
  refine ev_unroll 9 ?_
  refine zst ?_
  refine ev_adoptB 2 0 22 1 rfl rfl (by decide) rfl ?_
  by_cases c : data.length ≤ 4
  · skip
    refine ev_loopK [0, 2, 4, 22, 23] (fun p : {p : Nat // p ≤ data.length ∧ ∀ j, j < p → data[j]!.length ≤ 64} => [(24, .int .i64 p.1)]) (fun p => [⟨.box false 34, true, 0, .agg [.nilS, .nilS]⟩, ⟨.row 47, true, 0, .arr 3 (eight.map opnV)⟩, ⟨.box false 34, true, 0, .agg [.own 3 p.1, .own 1 0]⟩, ⟨.row 22, true, p.1, .arr 1 (((data.take p.1).map numC).map (slV' true 4 canonV))⟩]) (fun p => data.length - p.1) (⟨0, by simp⟩) 4 (by simp only [go_sem]; rfl) ?_ (by first | rfl | (simp only [go_sem]; done) | (simp only [go_sem]; simp [h8]; done)) (by simp) (by first | rfl | (simp only [go_sem]; done)) (by first | rfl | (simp only [go_sem]; done)) (by first | rfl | (simp only [go_sem]; done) | (simp only [h8]; (try simp only [go_sem]); first | done | rfl)) ?_
    · (simp only [go_sem]; (try simp [h8]); done)
    intro J hJ
    rintro ⟨k, hk0, hk1⟩
    by_cases hlt : k < data.length
    · have h3 := hm k hlt
      by_cases c2 : data[k]!.length ≤ 64
      · have fn := wnum_fn data[k]! (by omega)
        have h2 : ((data.take k).map numC).length = k := by rw [List.length_map, List.length_take]; omega
        have hs : ((data.take k).map numC) ++ [numC data[k]!] = (data.take (k + 1)).map numC := by rw [take_snoc hlt, List.map_append]; rfl
        have hS : ∀ j, j < k + 1 → data[j]!.length ≤ 64 := fun j hj => by
          by_cases e : j = k
          · subst e; exact c2
          · exact hk1 j (by omega)
        refine zst ?_
        refine zcd (fn) ?_
        exact zn4 (hJ _ (⟨k + 1, hlt, hS⟩) (by first | omega | (dsimp only; omega) | (simp; omega))) hs
      · rw [sNew_F (fun h => by
          rcases h with h | h
          · rw [h] at hlt; simp at hlt
          · exact c2 (h.2 _ (mem_at hlt)))]
        refine zst ?_
        refine ev_obSub 0 (.agg [.sl false 1 [], .sl false 3 []]) rfl (SubV.agg ⟨SubV.nil _ _, SubV.nil _ _, trivial⟩) rfl ?_
        exact zrt m_wnew_ok
    · obtain rfl : k = data.length := by omega
      rw [sNew_T (.inr ⟨c, fun x hx => by obtain ⟨j, hj, rfl⟩ := at_mem hx; exact hk1 j hj⟩)]
      have hT : data.take data.length = data := List.take_length
      refine zsx hT ?_
      exact zrt m_wnew_ok
  · rw [sNew_F (fun h => by
      rcases h with h | h
      · rw [h] at c; simp at c
      · exact c h.1)]
    refine ev_unroll 1 ?_
    refine zst ?_
    refine ev_obSub 0 (.agg [.sl false 1 [], .sl false 3 []]) rfl (SubV.agg ⟨SubV.nil _ _, SubV.nil _ _, trivial⟩) rfl ?_
    exact zrt m_wnew_ok
theorem aw17_1 : sNew [[1, 2, 3]] = (⟨[[⟨0, 1, 0, 0⟩, ⟨0, 2, 0, 0⟩, ⟨0, 3, 0, 0⟩]], eight⟩, 0) := by
  rw [sNew_T (.inr ⟨by decide, by simp⟩)]; unfold numC; rfl
end Go.Proofs.YtkfpcgkmemfdaaaGreat
