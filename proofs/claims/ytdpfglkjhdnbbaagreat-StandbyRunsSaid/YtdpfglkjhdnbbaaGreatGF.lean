/- F1, F2, F9, F6, F10, in one text. -/
import Derived.Test.YtdpfglkjhdnbbaaGreatC4
import Derived.Test.YtdpfglkjhdnbbaaGreatC5
namespace Go.Proofs.YtdpfglkjhdnbbaaGreat
open Go Go.RowKit Rdn Rdn.Dp
set_option linter.unusedVariables false
set_option linter.unusedSimpArgs false
theorem m_rmod_ok : compF Tryz.prog 45 = some (15, Qr ([Qp 4 (.mov (Qi 0))])
 (Qr ([Qm 6 0, Qm 7 1, Qb 8 .rem 6 7, Qm 5 8])
 (.seq (Qr ([Qm 9 5, Qk 10 .lss 9 0])
 (.cond (.t 10) (.reg [Qm 11 5, Qm 12 1, Qb 13 .add 11 12, Qm 5 13]) (.skip)))
 (Qr ([Qm 14 5, Qm 4 14])
 (.ret)))), [.mov (.t 4)]) := by kernel_rfl
theorem m_mmod_ok : compF Tryz.prog 19 = some (8, Qr ([Qp 4 (.mov (Qi 0))])
 (Qr ([Qm 5 0, Qm 6 1, Qq 7 45 [(.t 5), (.t 6)], Qm 4 7])
 (.ret)), [.mov (.t 4)]) := by kernel_rfl
theorem m_next_ok : compF Tryz.prog 8 = some (35, Qr ([Qp 4 (.mov (Qi 0))])
 (.seq (.seq (.dreg [Qm 5 0, Qp 6 (.nilc (.t 5)), Qf 7 1 1 6, Ql 8 1 7, Qm 9 0, Qp 10 (.nilc (.t 9)), Qf 11 0 0 10, Ql 12 1 11, Qn 13 12, Qb 14 .geq 8 13] [[], [0], [0, 1], [0, 1, 2], [], [4], [4, 5], [4, 5, 6], [4, 5, 6, 7], [0, 1, 2, 3, 4, 5, 6, 7, 8]])
 (.cond (.t 14) (Qr ([Qp 4 (.mov (Qi 0))])
 (.ret)) (.skip)))
 (Qr ([Qm 15 0, Qp 16 (.nilc (.t 15)), Qf 17 1 1 16, Ql 18 1 17, Qk 19 .add 18 1, Qp 20 (.nilc (.t 15)), Qf 21 1 1 20, Qs 1 21 19])
 (.seq (.dreg [Qm 22 0, Qp 23 (.nilc (.t 22)), Qf 24 0 0 23, Ql 25 1 24, Qm 26 0, Qp 27 (.nilc (.t 26)), Qf 28 1 1 27, Ql 29 1 28, Qk 30 .sub 29 1, Qx 31 1 25 30, Ql 32 1 31, Qm 33 1, Qq 34 19 [(.t 32), (.t 33)], Qm 4 34] [[], [0], [0, 1], [0, 1, 2], [], [4], [4, 5], [4, 5, 6], [4, 5, 6, 7], [0, 1, 2, 3, 4, 5, 6, 7, 8], [0, 1, 2, 3, 4, 5, 6, 7, 8, 9], [], [0, 1, 2, 3, 4, 5, 6, 7, 8, 9, 10, 11], [0, 1, 2, 3, 4, 5, 6, 7, 8, 9, 10, 11, 12]])
 (.ret)))), [.mov (.t 4)]) := by kernel_rfl
theorem m_new_ok : compF Tryz.prog 6 = some (6, Qr ([Qp 2 (.mov (.c (.junk)))])
 (Qr ([Qm 3 0, Qw 4 (.build none [.nilS, .int .i64 0] [(0, (.t 3))]), Qw 5 (.box 54 (.t 4)), Qm 2 5])
 (.ret)), [.mov (.t 2)]) := by kernel_rfl
theorem tmod_neg {a n : Int} (hn : 0 < n) (h : a.tmod n < 0) : a.tmod n + n = a % n := by
  rw [Int.tmod_eq_emod] at h ⊢
  have h1 := Int.emod_nonneg a (show n ≠ 0 by omega)
  split at h
  · omega
  · rename_i hh; rw [if_neg hh]; omega
theorem tmod_pos {a n : Int} (hn : 0 < n) (h : ¬ a.tmod n < 0) : a.tmod n = a % n := by
  rw [Int.tmod_eq_emod] at h ⊢
  have h2 := Int.emod_lt_of_pos a hn
  split at h
  · rename_i hh; rw [if_pos hh]; omega
  · omega
set_option maxHeartbeats 4000000 in
theorem rmod_fn (a n : Int) (hn : 0 < n) : Fnc Tryz.prog 45 [.int .i64 a, .int .i64 n] (fun x obs => x = .int .i64 (a % n) ∧ obs = []) := by
  refine Fnc.wf fun hw => ?_
  simp only [V.wfs, V.wf] at hw
  have hb := inK_i64' hw.2.1
  have h1 := Int.emod_nonneg a (show n ≠ 0 by omega)
  have h2 := Int.emod_lt_of_pos a hn
  refine Fnc.intro m_rmod_ok (by simp) fun W S => ?_
  simp only [ents, Nat.zero_add, Nat.reduceAdd, Qm, Qc, Ql, QL, Qf, Qs, Qb, Qk, QB, Qn, Qe, Qx, Qt, Qu, Q0, Q1, Qp, Qw, Qq, Qr, Qi]
  by_cases h : a.tmod n < 0
  · have e := tmod_neg hn h
    refine zst ?_
    exact zrh m_rmod_ok e
  · have e := tmod_pos hn h
    refine zst ?_
    exact zrh m_rmod_ok e
set_option maxHeartbeats 4000000 in
theorem mmod_fn (a n : Int) (hn : 0 < n) : Fnc Tryz.prog 19 [.int .i64 a, .int .i64 n] (fun x obs => x = .int .i64 (a % n) ∧ obs = []) := by
  refine Fnc.intro m_mmod_ok (by simp) fun W S => ?_
  simp only [ents, Nat.zero_add, Nat.reduceAdd, Qm, Qc, Ql, QL, Qf, Qs, Qb, Qk, QB, Qn, Qe, Qx, Qt, Qu, Q0, Q1, Qp, Qw, Qq, Qr, Qi]
  refine zst ?_
  refine zcd (rmod_fn a n hn) ?_
  exact zrt m_mmod_ok
theorem FncM_wf {P : Program} {f : FuncId} {T : TypeId} {d : V} {xs : List V} {R0 : V → List Ob → V → Prop} (h : d.wf → V.wfs xs → FncM P f T d xs R0) : FncM P f T d xs R0 := fun w S b0 hS cs hcs hd vs hvs => h hd.wf hvs.wfs w S b0 hS cs hcs hd vs hvs
abbrev deckV (l : List Int) (k : Nat) : V := .agg [.sl false 1 (i64s l), .int .i64 k]
def dnx (l : List Int) (k : Nat) (n : Int) : Int := if k < l.length then l[k]! % n else 0
def dkx (l : List Int) (k : Nat) : Nat := if k < l.length then k + 1 else k
theorem dkx_le {l : List Int} {k : Nat} (h : k ≤ l.length) : dkx l k ≤ l.length := by unfold dkx; split <;> omega
theorem dnx_ge {l : List Int} {k : Nat} {n : Int} (hn : 0 < n) : 0 ≤ dnx l k n := by
  unfold dnx; split
  · exact Int.emod_nonneg _ (by omega)
  · omega
theorem dnx_lt {l : List Int} {k : Nat} {n : Int} (hn : 0 < n) : dnx l k n < n := by
  unfold dnx; split
  · exact Int.emod_lt_of_pos _ hn
  · omega
set_option maxHeartbeats 4000000 in
theorem next_fn (l : List Int) (k : Nat) (n : Int) (hk : k ≤ l.length) (hn : 0 < n) : FncM Tryz.prog 8 54 (deckV l k) [.int .i64 n] (fun x obs c => x = .int .i64 (dnx l k n) ∧ obs = [] ∧ c = deckV l (dkx l k)) := by
  refine FncM_wf fun hw hw2 => ?_
  simp only [V.wfs, V.wf, wfs_map, List.length_map] at hw
  have hl := hw.1.2
  refine FncM.intro m_next_ok (by simp) fun W S b0 hb0 => ?_
  simp only [ents, Nat.zero_add, Nat.reduceAdd, Qm, Qc, Ql, QL, Qf, Qs, Qb, Qk, QB, Qn, Qe, Qx, Qt, Qu, Q0, Q1, Qp, Qw, Qq, Qr, Qi]
  by_cases h : k < l.length
  · refine zst ?_
    refine zcd (mmod_fn (l[((k : Int) + 1 - 1).toNat]!) n hn) ?_
    apply st_returnM hb0 m_next_ok []
    · (simp only [go_sem]; rfl)
    · (first | exact trivial | (simp; done))
    · (first | (simp [outOk]; done) | exact outOk1 rfl)
    · (simp only [go_sem]; (first | done | trivial | simp [V.resOk, V.ressOk, rowV, V.pures, V.pure, pures_appE, pures_lo, pures_sls]))
    · (first | (simp only [V.res, V.ress, rowV, List.idxOf?_nil, List.idxOf?_cons, List.getElem?_cons_zero, List.getElem?_cons_succ]; first | rfl | (simp only [go_sem]; rfl)) | rfl)
    · (first | (simp only [go_sem]; rfl) | rfl)
    · rfl
    · (simp only [go_sem]; (first | done | rfl))
    exact ⟨by simp [dnx, h], rfl, by simp [dkx, h]⟩
  · refine zst ?_
    apply st_returnM hb0 m_next_ok []
    · (simp only [go_sem]; rfl)
    · (first | exact trivial | (simp; done))
    · (first | (simp [outOk]; done) | exact outOk1 rfl)
    · (simp only [go_sem]; (first | done | trivial | simp [V.resOk, V.ressOk, rowV, V.pures, V.pure, pures_appE, pures_lo, pures_sls]))
    · (first | (simp only [V.res, V.ress, rowV, List.idxOf?_nil, List.idxOf?_cons, List.getElem?_cons_zero, List.getElem?_cons_succ]; first | rfl | (simp only [go_sem]; rfl)) | rfl)
    · (first | (simp only [go_sem]; rfl) | rfl)
    · rfl
    · (simp only [go_sem]; (first | done | rfl))
    exact ⟨by simp [dnx, h], rfl, by simp [dkx, h]⟩
set_option maxHeartbeats 4000000 in
theorem new_fn (l : List Int) : Fnc Tryz.prog 6 [.sl false 1 (i64s l)] (fun x obs => x = .ptr 0 0 [] 0 ∧ obs = [⟨.box false 54, true, 0, deckV l 0⟩]) := by
  refine zgo m_new_ok fun W S => ?_
  apply st_returnP m_new_ok
  · (simp only [go_sem]; rfl)
  · (first | exact trivial | (simp; done))
  · rfl
  · (first | rfl | (simp only [go_sem]; done))
  exact ⟨rfl, rfl⟩
end Go.Proofs.YtdpfglkjhdnbbaaGreat
namespace Go.Proofs.YtdpfglkjhdnbbaaGreat
open Go Go.RowKit Rdn Rdn.Dp
set_option linter.unusedVariables false
set_option linter.unusedSimpArgs false
theorem m_word_ok : compF Tryz.prog 89 = some (21, Qr ([Qp 2 (.mov (.c (.int .u16 0)))])
 (.seq (Qr ([Qm 3 0, Qq 4 8 [(.t 3), (Qi 5)]])
 (.block 0 (.seq (Qr ([Qk 6 .eql 4 0, Qm 5 6])
 (.cond (.t 5) (.skip) (Qr ([Qk 7 .eql 4 1, Qm 5 7])
 (.cond (.t 5) (.skip) (.reg [Qk 8 .eql 4 2, Qm 5 8])))))
 (.cond (.t 5) (Qr ([Qm 9 0, Qq 10 8 [(.t 9), (Qi 8)], Qp 11 (.conv .u16 (.t 10)), Qm 2 11])
 (.ret)) (Qr ([Qk 13 .eql 4 3, Qm 12 13])
 (.cond (.t 12) (Qr ([Qm 14 0, Qq 15 8 [(.t 14), (Qi 3)], Qp 16 (.bin 0 .sub (Qi 65535) (.t 15)), Qp 17 (.conv .u16 (.t 16)), Qm 2 17])
 (.ret)) (.skip)))))))
 (Qr ([Qm 18 0, Qq 19 8 [(.t 18), (Qi 65536)], Qp 20 (.conv .u16 (.t 19)), Qm 2 20])
 (.ret))), [.mov (.t 2)]) := by kernel_rfl
def dwd (l : List Int) (k : Nat) : Int :=
  if dnx l k 5 = 0 ∨ dnx l k 5 = 1 ∨ dnx l k 5 = 2 then dnx l (dkx l k) 8 else if dnx l k 5 = 3 then 65535 - dnx l (dkx l k) 3 else dnx l (dkx l k) 65536
set_option maxHeartbeats 4000000 in
theorem word_fn (l : List Int) (k : Nat) (hk : k ≤ l.length) : FncM Tryz.prog 89 54 (deckV l k) [] (fun x obs c => x = .int .u16 (dwd l k) ∧ obs = [] ∧ c = deckV l (dkx l (dkx l k))) := by
  have hk1 := dkx_le hk
  have h1 := dnx_ge (l := l) (k := dkx l k) (n := 8) (by omega)
  have h2 := dnx_lt (l := l) (k := dkx l k) (n := 8) (by omega)
  have h3 := dnx_ge (l := l) (k := dkx l k) (n := 3) (by omega)
  have h4 := dnx_lt (l := l) (k := dkx l k) (n := 3) (by omega)
  have h5 := dnx_ge (l := l) (k := dkx l k) (n := 65536) (by omega)
  have h6 := dnx_lt (l := l) (k := dkx l k) (n := 65536) (by omega)
  refine FncM.intro m_word_ok (by simp) fun W S b0 hb0 => ?_
  simp only [ents, Nat.zero_add, Nat.reduceAdd, Qm, Qc, Ql, QL, Qf, Qs, Qb, Qk, QB, Qn, Qe, Qx, Qt, Qu, Q0, Q1, Qp, Qw, Qq, Qr, Qi]
  by_cases c0 : dnx l k 5 = 0
  · refine zst ?_
    refine zcm (next_fn l k 5 hk (by omega)) ?_
    refine zcm (next_fn l (dkx l k) 8 hk1 (by omega)) ?_
    apply st_returnM hb0 m_word_ok []
    · (simp only [go_sem]; rfl)
    · (first | exact trivial | (simp; done))
    · (first | (simp [outOk]; done) | exact outOk1 rfl)
    · (simp only [go_sem]; (first | done | trivial | simp [V.resOk, V.ressOk, rowV, V.pures, V.pure, pures_appE, pures_lo, pures_sls]))
    · (first | (simp only [V.res, V.ress, rowV, List.idxOf?_nil, List.idxOf?_cons, List.getElem?_cons_zero, List.getElem?_cons_succ]; first | rfl | (simp only [go_sem]; rfl)) | rfl)
    · (first | (simp only [go_sem]; rfl) | rfl)
    · rfl
    · (simp only [go_sem]; (first | done | rfl))
    exact ⟨by simp [dwd, c0], rfl, rfl⟩
  by_cases c1 : dnx l k 5 = 1
  · refine zst ?_
    refine zcm (next_fn l k 5 hk (by omega)) ?_
    refine zcm (next_fn l (dkx l k) 8 hk1 (by omega)) ?_
    apply st_returnM hb0 m_word_ok []
    · (simp only [go_sem]; rfl)
    · (first | exact trivial | (simp; done))
    · (first | (simp [outOk]; done) | exact outOk1 rfl)
    · (simp only [go_sem]; (first | done | trivial | simp [V.resOk, V.ressOk, rowV, V.pures, V.pure, pures_appE, pures_lo, pures_sls]))
    · (first | (simp only [V.res, V.ress, rowV, List.idxOf?_nil, List.idxOf?_cons, List.getElem?_cons_zero, List.getElem?_cons_succ]; first | rfl | (simp only [go_sem]; rfl)) | rfl)
    · (first | (simp only [go_sem]; rfl) | rfl)
    · rfl
    · (simp only [go_sem]; (first | done | rfl))
    exact ⟨by simp [dwd, c1], rfl, rfl⟩
  by_cases c2 : dnx l k 5 = 2
  · refine zst ?_
    refine zcm (next_fn l k 5 hk (by omega)) ?_
    refine zcm (next_fn l (dkx l k) 8 hk1 (by omega)) ?_
    apply st_returnM hb0 m_word_ok []
    · (simp only [go_sem]; rfl)
    · (first | exact trivial | (simp; done))
    · (first | (simp [outOk]; done) | exact outOk1 rfl)
    · (simp only [go_sem]; (first | done | trivial | simp [V.resOk, V.ressOk, rowV, V.pures, V.pure, pures_appE, pures_lo, pures_sls]))
    · (first | (simp only [V.res, V.ress, rowV, List.idxOf?_nil, List.idxOf?_cons, List.getElem?_cons_zero, List.getElem?_cons_succ]; first | rfl | (simp only [go_sem]; rfl)) | rfl)
    · (first | (simp only [go_sem]; rfl) | rfl)
    · rfl
    · (simp only [go_sem]; (first | done | rfl))
    exact ⟨by simp [dwd, c2], rfl, rfl⟩
  by_cases c3 : dnx l k 5 = 3
  · refine zst ?_
    refine zcm (next_fn l k 5 hk (by omega)) ?_
    refine zcm (next_fn l (dkx l k) 3 hk1 (by omega)) ?_
    apply st_returnM hb0 m_word_ok []
    · (simp only [go_sem]; rfl)
    · (first | exact trivial | (simp; done))
    · (first | (simp [outOk]; done) | exact outOk1 rfl)
    · (simp only [go_sem]; (first | done | trivial | simp [V.resOk, V.ressOk, rowV, V.pures, V.pure, pures_appE, pures_lo, pures_sls]))
    · (first | (simp only [V.res, V.ress, rowV, List.idxOf?_nil, List.idxOf?_cons, List.getElem?_cons_zero, List.getElem?_cons_succ]; first | rfl | (simp only [go_sem]; rfl)) | rfl)
    · (first | (simp only [go_sem]; rfl) | rfl)
    · rfl
    · (simp only [go_sem]; (first | done | rfl))
    exact ⟨by simp [dwd, c3], rfl, rfl⟩
  · refine zst ?_
    refine zcm (next_fn l k 5 hk (by omega)) ?_
    refine zcm (next_fn l (dkx l k) 65536 hk1 (by omega)) ?_
    apply st_returnM hb0 m_word_ok []
    · (simp only [go_sem]; rfl)
    · (first | exact trivial | (simp; done))
    · (first | (simp [outOk]; done) | exact outOk1 rfl)
    · (simp only [go_sem]; (first | done | trivial | simp [V.resOk, V.ressOk, rowV, V.pures, V.pure, pures_appE, pures_lo, pures_sls]))
    · (first | (simp only [V.res, V.ress, rowV, List.idxOf?_nil, List.idxOf?_cons, List.getElem?_cons_zero, List.getElem?_cons_succ]; first | rfl | (simp only [go_sem]; rfl)) | rfl)
    · (first | (simp only [go_sem]; rfl) | rfl)
    · rfl
    · (simp only [go_sem]; (first | done | rfl))
    exact ⟨by simp [dwd, c0, c1, c2, c3], rfl, rfl⟩
end Go.Proofs.YtdpfglkjhdnbbaaGreat
namespace Go.Proofs.YtdpfglkjhdnbbaaGreat
open Go Go.RowKit Rdn Rdn.Dp
set_option linter.unusedVariables false
set_option linter.unusedSimpArgs false
theorem m_few_ok : compF Tryz.prog 4 = some (6, Qr ([Qc 2 (.bool false)])
 (Qr ([Qm 3 0, Qn 4 3, Qk 5 .leq 4 400, Qm 2 5])
 (.ret)), [.mov (.t 2)]) := by kernel_rfl
theorem m_left_ok : compF Tryz.prog 9 = some (13, Qr ([Qc 2 (.bool false)])
 (.seq (.dreg [Qm 3 0, Qp 4 (.nilc (.t 3)), Qf 5 1 1 4, Ql 6 1 5, Qm 7 0, Qp 8 (.nilc (.t 7)), Qf 9 0 0 8, Ql 10 1 9, Qn 11 10, Qb 12 .lss 6 11, Qm 2 12] [[], [0], [0, 1], [0, 1, 2], [], [4], [4, 5], [4, 5, 6], [4, 5, 6, 7], [0, 1, 2, 3, 4, 5, 6, 7, 8], [0, 1, 2, 3, 4, 5, 6, 7, 8, 9]])
 (.ret)), [.mov (.t 2)]) := by kernel_rfl
set_option maxHeartbeats 4000000 in
theorem few_fn (l : List Int) : Fnc Tryz.prog 4 [.sl false 1 (i64s l)] (fun x obs => x = .bool (decide (l.length ≤ 400)) ∧ obs = []) := by
  by_cases h : l.length ≤ 400
  · skip
    refine zgo m_few_ok fun W S => ?_
    exact zrt m_few_ok
  · skip
    refine zgo m_few_ok fun W S => ?_
    exact zrt m_few_ok
set_option maxHeartbeats 4000000 in
theorem left_fn (l : List Int) (k : Nat) (hk : k ≤ l.length) : FncM Tryz.prog 9 54 (deckV l k) [] (fun x obs c => x = .bool (decide (k < l.length)) ∧ obs = [] ∧ c = deckV l k) := by
  by_cases h : k < l.length
  · rw [show decide (k < l.length) = true from decT h]
    refine zgM m_left_ok fun W S b0 hb0 => ?_
    exact zrm hb0 m_left_ok
  · rw [show decide (k < l.length) = false from decF h]
    refine zgM m_left_ok fun W S b0 hb0 => ?_
    exact zrm hb0 m_left_ok
end Go.Proofs.YtdpfglkjhdnbbaaGreat
namespace Go.Proofs.YtdpfglkjhdnbbaaGreat
open Go Go.RowKit Rdn Rdn.Dp
set_option linter.unusedVariables false
set_option linter.unusedSimpArgs false
theorem m_total_ok : compF Tryz.prog 88 = some (17, Qr ([Qp 2 (.mov (Qi 0))])
 (Qr ([Qp 3 (.mov (Qi 0))])
 (.seq (Qr ([Qm 6 0, Qn 7 6, Qp 8 (.mov (Qi 0))])
 (.block 0 (.loop (Qr ([Qb 9 .lss 8 7])
 (.seq (.cond (.t 9) (.skip) (.exit 0))
 (.seq (.block 1 (Qr ([Qx 10 1 6 8, Ql 11 1 10, Qm 5 11])
 (.reg [Qm 12 3, Qm 13 5, Qb 14 .add 12 13, Qm 3 14])))
 (.reg [Qk 15 .add 8 1, Qm 8 15])))))))
 (Qr ([Qm 16 3, Qm 2 16])
 (.ret)))), [.mov (.t 2)]) := by kernel_rfl
theorem m_at_ok : compF Tryz.prog 87 = some (30, Qr ([Qw 4 (.alloc 114 (.agg [.int .i64 0, .int .i64 0])), Qp 5 (.mov (Qi 0))])
 (.seq (Qr ([Qm 8 0, Qn 9 8, Qp 10 (.mov (Qi 0))])
 (.block 0 (.loop (Qr ([Qb 11 .lss 10 9])
 (.seq (.cond (.t 11) (.skip) (.exit 0))
 (.seq (.block 1 (Qr ([Qm 12 10, Qx 13 1 8 10, Ql 14 1 13, Qm 6 12, Qm 7 14])
 (.seq (Qr ([Qm 15 1, Qk 16 .geq 15 0, Qm 17 16, Q1 18 17 (.mov (.t 1)), Q1 19 17 (.mov (.t 7)), Q1 20 17 (.bin 0 .lss (.t 18) (.t 19)), Qu 21 17 20])
 (.cond (.t 21) (Qr ([Qm 22 6, Qm 23 1, Qw 24 (.build none [.int .i64 0, .int .i64 0] [(0, (.t 22)), (1, (.t 23))]), Qs 2 4 24, Qp 5 (.mov (Qi 0))])
 (.ret)) (.skip)))
 (.reg [Qm 25 1, Qm 26 7, Qb 27 .sub 25 26, Qm 1 27]))))
 (.reg [Qk 28 .add 10 1, Qm 10 28])))))))
 (Qr ([Qw 29 (.build none [.int .i64 0, .int .i64 0] []), Qs 2 4 29, Qp 5 (.mov (Qi 6))])
 (.ret))), [.load true 2 (.t 4), .mov (.t 5)]) := by kernel_rfl
theorem m_canon_ok : compF Tryz.prog 48 = some (34, Qr ([Qw 4 (.alloc 69 (.agg [.int .u8 0, .int .u16 0, .int .i64 0, .int .i64 0]))])
 (.seq (Qr ([Qm 7 0, Qq 8 8 [(.t 7), (Qi 6)]])
 (.block 0 (Qr ([Qk 10 .eql 8 4, Qm 9 10])
 (.cond (.t 9) (Qr ([Qm 12 1, Qm 13 0, Qm 14 1, Qq 15 88 [(.t 14)], Qq 16 8 [(.t 13), (.t 15)], Qq 17 87 [(.t 12), (.t 16)], Qm 11 17, Qe 18 11 0, Qe 19 11 1, Qw 5 (.alloc 114 (.agg [.int .i64 0, .int .i64 0])), Qs 2 5 18, Qm 6 19])
 (Qr ([Qf 20 0 0 5, Ql 21 1 20, Qf 22 1 1 5, Ql 23 1 22, Qw 24 (.build none [.int .u8 0, .int .u16 0, .int .i64 0, .int .i64 0] [(0, (.c (.int .u8 1))), (2, (.t 21)), (3, (.t 23))]), Qs 4 4 24])
 (.ret))) (Qr ([Qk 26 .eql 8 5, Qm 25 26])
 (.cond (.t 25) (Qr ([Qm 27 0, Qq 28 8 [(.t 27), (Qi 10)], Qp 29 (.conv .u16 (.t 28)), Qw 30 (.build none [.int .u8 0, .int .u16 0, .int .i64 0, .int .i64 0] [(0, (.c (.int .u8 2))), (1, (.t 29))]), Qs 4 4 30])
 (.ret)) (.skip)))))))
 (Qr ([Qm 31 0, Qq 32 89 [(.t 31)], Qw 33 (.build none [.int .u8 0, .int .u16 0, .int .i64 0, .int .i64 0] [(1, (.t 32))]), Qs 4 4 33])
 (.ret))), [.load true 4 (.t 4)]) := by kernel_rfl
theorem m_canons_ok : compF Tryz.prog 21 = some (30, Qr ([Qp 4 (.mov (.c (.nilS)))])
 (Qr ([Qp 5 (.mov (.c (.nilS)))])
 (.seq (Qr ([Qm 8 0, Qm 9 1, Qk 10 .add 9 1, Qq 11 8 [(.t 8), (.t 10)], Qm 6 11])
 (.block 0 (.loop (.seq (Qr ([Qm 12 6, Qk 13 .gtr 12 0])
 (.cond (.t 13) (.skip) (.exit 0)))
 (.seq (.block 1 (Qr ([Qm 16 0, Qw 17 (.buildS 3 1 (.int .i64 0) 2 [(0, (Qi 8)), (1, (Qi 4))]), Qq 18 48 [(.t 16), (.t 17)], Qw 7 (.alloc 69 (.agg [.int .u8 0, .int .u16 0, .int .i64 0, .int .i64 0])), Qs 4 7 18])
 (.seq (Qr ([Qm 19 0, Qq 20 8 [(.t 19), (Qi 12)], Qk 21 .eql 20 0])
 (.cond (.t 21) (.reg [Qm 22 0, Qq 23 8 [(.t 22), (Qi 65536)], Qw 24 (.build none [.int .u8 0, .int .u16 0, .int .i64 0, .int .i64 0] [(0, (.c (.int .u8 1))), (2, (Qi (-1))), (3, (.t 23))]), Qs 4 7 24]) (.skip)))
 (.reg [Qm 25 5, QL 26 4 7, Qw 27 (.buildS 69 4 (.agg [.int .u8 0, .int .u16 0, .int .i64 0, .int .i64 0]) 1 [(0, (.t 26))]), Qw 28 (.app 69 4 24 (.t 25) (.t 27)), Qm 5 28]))))
 (.reg [Qm 14 6, Qk 15 .sub 14 1, Qm 6 15]))))))
 (Qr ([Qm 29 5, Qm 4 29])
 (.ret)))), [.mov (.t 4)]) := by kernel_rfl
set_option maxHeartbeats 4000000 in
theorem total84_fn : Fnc Tryz.prog 88 [.sl false 1 [.int .i64 8, .int .i64 4]] (fun x obs => x = .int .i64 12 ∧ obs = []) := by
  refine zgo m_total_ok fun W S => ?_
  refine ev_unroll 3 ?_
  refine zst ?_
  exact zrt m_total_ok
def at84 (i : Int) : Int × Int := if i < 8 then (0, i) else (1, i - 8)
set_option maxHeartbeats 4000000 in
theorem at84_fn (i : Int) (h0 : 0 ≤ i) (h1 : i < 12) : Fnc Tryz.prog 87 [.sl false 1 [.int .i64 8, .int .i64 4], .int .i64 i] (fun x obs => x = .tup [.agg [.int .i64 (at84 i).1, .int .i64 (at84 i).2], .int .i64 0] ∧ obs = []) := by
  by_cases h : i < 8
  · skip
    refine zgo m_at_ok fun W S => ?_
    refine ev_unroll 3 ?_
    refine zst ?_
    refine ret m_at_ok [] ?_; (first | (simp only [go_sem]; done) | (simp only [go_sem]; ((try dsimp only); (repeat' (refine And.intro ?_ ?_)) <;> first | with_reducible rfl | (simp only [go_sem]; done) | (simp only [go_sem]; rfl) | (simp only [go_sem, at84, if_pos h]; done) | (simp only [at84, if_pos h]; (try simp only [go_sem]); first | done | rfl) | (simp only [go_sem]; simp [at84, if_pos h]; done) | (simp [at84, if_pos h]; done) | rfl)))
  · skip
    refine zgo m_at_ok fun W S => ?_
    refine ev_unroll 3 ?_
    refine zst ?_
    refine ret m_at_ok [] ?_; (first | (simp only [go_sem]; done) | (simp only [go_sem]; ((try dsimp only); (repeat' (refine And.intro ?_ ?_)) <;> first | with_reducible rfl | (simp only [go_sem]; done) | (simp only [go_sem]; rfl) | (simp only [go_sem, at84, if_neg h]; done) | (simp only [at84, if_neg h]; (try simp only [go_sem]); first | done | rfl) | (simp only [go_sem]; simp [at84, if_neg h]; done) | (simp [at84, if_neg h]; done) | rfl)))
def dcn (l : List Int) (k : Nat) : Canon × Nat :=
  if dnx l k 6 = 4 then (⟨1, 0, (at84 (dnx l (dkx l k) 12)).1, (at84 (dnx l (dkx l k) 12)).2⟩, dkx l (dkx l k))
  else if dnx l k 6 = 5 then (⟨2, dnx l (dkx l k) 10, 0, 0⟩, dkx l (dkx l k))
  else (⟨0, dwd l (dkx l k), 0, 0⟩, dkx l (dkx l (dkx l k)))
theorem dcn_le {l : List Int} (k : Nat) (h : k ≤ l.length) : (dcn l k).2 ≤ l.length := by
  have h3 := dkx_le (dkx_le h)
  unfold dcn
  split
  · exact h3
  · split
    · exact h3
    · exact dkx_le h3
set_option maxHeartbeats 4000000 in
theorem canon_fn (l : List Int) (k : Nat) (hk : k ≤ l.length) : FncM Tryz.prog 48 54 (deckV l k) [.sl false 1 [.int .i64 8, .int .i64 4]] (fun x obs c => x = canonV (dcn l k).1 ∧ obs = [] ∧ c = deckV l (dcn l k).2) := by
  have hk1 := dkx_le hk
  have h1 := dnx_ge (l := l) (k := dkx l k) (n := 12) (by omega)
  have h2 := dnx_lt (l := l) (k := dkx l k) (n := 12) (by omega)
  have h3 := dnx_ge (l := l) (k := dkx l k) (n := 10) (by omega)
  have h4 := dnx_lt (l := l) (k := dkx l k) (n := 10) (by omega)
  have hd : dcn l k = dcn l k := rfl
  conv at hd => rhs; unfold dcn
  by_cases c4 : dnx l k 6 = 4
  · rw [if_pos c4] at hd
    refine zgM m_canon_ok fun W S b0 hb0 => ?_
    refine zcm (next_fn l k 6 hk (by omega)) ?_
    refine zcd (total84_fn) ?_
    refine zcm (next_fn l (dkx l k) 12 hk1 (by omega)) ?_
    refine zcd (at84_fn _ h1 h2) ?_
    exact zrn hb0 m_canon_ok hd
  by_cases c5 : dnx l k 6 = 5
  · rw [if_neg c4, if_pos c5] at hd
    refine zgM m_canon_ok fun W S b0 hb0 => ?_
    refine zcm (next_fn l k 6 hk (by omega)) ?_
    refine zcm (next_fn l (dkx l k) 10 hk1 (by omega)) ?_
    exact zrn hb0 m_canon_ok hd
  · rw [if_neg c4, if_neg c5] at hd
    refine zgM m_canon_ok fun W S b0 hb0 => ?_
    refine zcm (next_fn l k 6 hk (by omega)) ?_
    refine zcm (word_fn l (dkx l k) hk1) ?_
    exact zrn hb0 m_canon_ok hd
def dc1 (l : List Int) (k : Nat) : Canon × Nat :=
  if dnx l (dcn l k).2 12 = 0 then (⟨1, 0, -1, dnx l (dkx l (dcn l k).2) 65536⟩, dkx l (dkx l (dcn l k).2)) else ((dcn l k).1, dkx l (dcn l k).2)
theorem dc1_le {l : List Int} (k : Nat) (h : k ≤ l.length) : (dc1 l k).2 ≤ l.length := by
  have h3 := dkx_le (dcn_le k h)
  unfold dc1
  split
  · exact dkx_le h3
  · exact h3
def dcs (l : List Int) (k : Nat) (n : Int) : List Canon × Nat := drw (dc1 l) (dkx l k) (dnx l k (n + 1)).toNat
theorem dcs_le {l : List Int} {k : Nat} (hk : k ≤ l.length) (n : Int) : (dcs l k n).2 ≤ l.length := drw_le (f := dc1 l) (m := l.length) dc1_le (dkx_le hk) _
end Go.Proofs.YtdpfglkjhdnbbaaGreat
namespace Go.Proofs.YtdpfglkjhdnbbaaGreat
open Go Go.RowKit Rdn Rdn.Dp
set_option linter.unusedVariables false
set_option linter.unusedSimpArgs false
set_option maxHeartbeats 4000000 in
theorem canons_sl (l : List Int) (k : Nat) (n : Int) (hk : k ≤ l.length) (hn : 0 ≤ n) (hn' : n ≤ 1000000) : FncM Tryz.prog 21 54 (deckV l k) [.int .i64 n] (fun x obs c => x = .sl false 4 ((dcs l k n).1.map canonV) ∧ obs = [] ∧ c = deckV l (dcs l k n).2) := by
  refine FncM.low ?_
  have h1 := dnx_ge (l := l) (k := k) (n := n + 1) (by omega)
  have h2 := dnx_lt (l := l) (k := k) (n := n + 1) (by omega)
  refine zgM m_canons_ok fun W S b0 hb0 => ?_
  refine zcm (next_fn l k (n + 1) hk (by omega)) ?_
  refine ev_adopt (i := 5) (e := 69) (s := 4) rfl (by decide) ?_
  refine ev_loopK [0] (fun p : {p : Nat // p ≤ (dnx l k (n + 1)).toNat} => [(5, .own 1 p.1), (6, .int .i64 (dnx l k (n + 1) - p.1))]) (fun p => [⟨.box true 54, true, 0, deckV l (drw (dc1 l) (dkx l k) p.1).2⟩, ⟨.row 69, true, p.1, .arr 4 ((drw (dc1 l) (dkx l k) p.1).1.map canonV)⟩]) (fun p => (dnx l k (n + 1)).toNat - p.1) (⟨0, by simp⟩) 2 (by simp only [go_sem]; rfl) ?_ (by first | rfl | (simp only [go_sem]; done) | (simp only [go_sem]; simp [drw]; done)) (by simp) (by first | rfl | (simp only [go_sem]; done)) (by first | rfl | (simp only [go_sem]; done)) (by first | rfl | (simp only [go_sem]; done) | (simp only [drw]; (try simp only [go_sem]); first | done | rfl)) ?_
  · (simp only [go_sem]; (try simp [drw]); done)
  intro J hJ
  rintro ⟨i, hi⟩
  have hp := drw_le (f := dc1 l) (m := l.length) dc1_le (dkx_le hk) i
  have hlen := drw_len (dc1 l) (dkx l k) i
  by_cases hlt : i < (dnx l k (n + 1)).toNat
  · skip
    generalize hq : drw (dc1 l) (dkx l k) i = q at hp hlen
    have hd : drw (dc1 l) (dkx l k) (i + 1) = (q.1 ++ [(dc1 l q.2).1], (dc1 l q.2).2) := by rw [drw, hq]
    have e1 := dcn_le q.2 hp
    by_cases h9 : dnx l (dcn l q.2).2 12 = 0
    · skip
      refine zst ?_
      refine zcf (canon_fn l q.2 hp) ?_
      refine zcm (next_fn l _ 12 e1 (by omega)) ?_
      refine zcm (next_fn l _ 65536 (dkx_le e1) (by omega)) ?_
      refine ev_next 2 (hJ _ (⟨i + 1, hlt⟩) (by first | omega | (dsimp only; omega) | (simp; omega))) rfl (by simp) ?_ (by first | rfl | (simp only [go_sem]; done)) (by first | rfl | (simp only [go_sem]; done) | (simp only [hd, dc1, if_pos h9]; (try simp only [go_sem]); first | done | rfl)) ?_
      · (first | rfl | (simp only [go_sem]; done) | (simp only [go_sem]; simp only [hd, dc1, if_pos h9]; done) | (simp only [hd, dc1, if_pos h9]; done) | (simp only [go_sem]; simp [hd, dc1, if_pos h9]; done) | (simp [hd, dc1, if_pos h9]; done))
      · (simp only [go_sem]; (repeat' (refine And.intro ?_ ?_)) <;> first | exact trivial | with_reducible rfl | (simp only [hd, dc1, if_pos h9]; done) | (simp only [hd, dc1, if_pos h9]; with_reducible rfl) | (simp [hd, dc1, if_pos h9]; done) | (simp [hd, dc1, if_pos h9]; omega) | (simp only [hd, dc1, if_pos h9]; rfl) | skip)
    · skip
      refine zst ?_
      refine zcf (canon_fn l q.2 hp) ?_
      refine zcm (next_fn l _ 12 e1 (by omega)) ?_
      refine ev_next 2 (hJ _ (⟨i + 1, hlt⟩) (by first | omega | (dsimp only; omega) | (simp; omega))) rfl (by simp) ?_ (by first | rfl | (simp only [go_sem]; done)) (by first | rfl | (simp only [go_sem]; done) | (simp only [hd, dc1, if_neg h9]; (try simp only [go_sem]); first | done | rfl)) ?_
      · (first | rfl | (simp only [go_sem]; done) | (simp only [go_sem]; simp only [hd, dc1, if_neg h9]; done) | (simp only [hd, dc1, if_neg h9]; done) | (simp only [go_sem]; simp [hd, dc1, if_neg h9]; done) | (simp [hd, dc1, if_neg h9]; done))
      · (simp only [go_sem]; (repeat' (refine And.intro ?_ ?_)) <;> first | exact trivial | with_reducible rfl | (simp only [hd, dc1, if_neg h9]; done) | (simp only [hd, dc1, if_neg h9]; with_reducible rfl) | (simp [hd, dc1, if_neg h9]; done) | (simp [hd, dc1, if_neg h9]; omega) | (simp only [hd, dc1, if_neg h9]; rfl) | skip)
  · obtain rfl : i = (dnx l k (n + 1)).toNat := by omega
    refine zst ?_
    apply st_returnM hb0 m_canons_ok []
    · (simp only [go_sem]; rfl)
    · (first | exact trivial | (simp; done))
    · (first | (simp [outOk]; done) | exact outOk1 rfl)
    · (simp only [go_sem]; (first | done | trivial | simp [V.resOk, V.ressOk, rowV, V.pures, V.pure, pures_appE, pures_lo, pures_sls]))
    · (first | (simp only [V.res, V.ress, rowV, List.idxOf?_nil, List.idxOf?_cons, List.getElem?_cons_zero, List.getElem?_cons_succ]; first | rfl | (simp only [go_sem]; rfl)) | rfl)
    · (first | (simp only [go_sem]; rfl) | rfl)
    · rfl
    · (simp only [go_sem]; (first | done | rfl))
    ((try dsimp only); (repeat' (refine And.intro ?_ ?_)) <;> first | with_reducible rfl | (simp only [go_sem]; done) | (simp only [go_sem]; rfl) | (simp only [go_sem, dcs]; done) | (simp only [dcs]; (try simp only [go_sem]); first | done | rfl) | (simp only [go_sem]; simp [dcs]; done) | (simp [dcs]; done) | rfl)
end Go.Proofs.YtdpfglkjhdnbbaaGreat
