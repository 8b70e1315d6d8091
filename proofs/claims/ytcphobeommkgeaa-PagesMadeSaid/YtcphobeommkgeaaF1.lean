/- The deck: numbers drawn out of a list. -/
import Derived.Test.YtcphobeommkgeaaC4
import Derived.Test.YtcphobeommkgeaaC5
namespace Go.Proofs.Ytcphobeommkgeaa
open Go Go.RowKit Rdn Rdn.Dp
set_option linter.unusedVariables false
set_option linter.unusedSimpArgs false
theorem m_rmod_ok : compF Try.prog 53 = some (15, Qr ([Qp 4 (.mov (Qi 0))])
 (Qr ([Qm 6 0, Qm 7 1, Qb 8 .rem 6 7, Qm 5 8])
 (.seq (Qr ([Qm 9 5, Qk 10 .lss 9 0])
 (.cond (.t 10) (.reg [Qm 11 5, Qm 12 1, Qb 13 .add 11 12, Qm 5 13]) (.skip)))
 (Qr ([Qm 14 5, Qm 4 14])
 (.ret)))), [.mov (.t 4)]) := by kernel_rfl
theorem m_mmod_ok : compF Try.prog 20 = some (8, Qr ([Qp 4 (.mov (Qi 0))])
 (Qr ([Qm 5 0, Qm 6 1, Qq 7 53 [(.t 5), (.t 6)], Qm 4 7])
 (.ret)), [.mov (.t 4)]) := by kernel_rfl
theorem m_next_ok : compF Try.prog 19 = some (35, Qr ([Qp 4 (.mov (Qi 0))])
 (.seq (.seq (.dreg [Qm 5 0, Qp 6 (.nilc (.t 5)), Qf 7 1 1 6, Ql 8 1 7, Qm 9 0, Qp 10 (.nilc (.t 9)), Qf 11 0 0 10, Ql 12 1 11, Qn 13 12, Qb 14 .geq 8 13] [[], [0], [0, 1], [0, 1, 2], [], [4], [4, 5], [4, 5, 6], [4, 5, 6, 7], [0, 1, 2, 3, 4, 5, 6, 7, 8]])
 (.cond (.t 14) (Qr ([Qp 4 (.mov (Qi 0))])
 (.ret)) (.skip)))
 (Qr ([Qm 15 0, Qp 16 (.nilc (.t 15)), Qf 17 1 1 16, Ql 18 1 17, Qk 19 .add 18 1, Qp 20 (.nilc (.t 15)), Qf 21 1 1 20, Qs 1 21 19])
 (.seq (.dreg [Qm 22 0, Qp 23 (.nilc (.t 22)), Qf 24 0 0 23, Ql 25 1 24, Qm 26 0, Qp 27 (.nilc (.t 26)), Qf 28 1 1 27, Ql 29 1 28, Qk 30 .sub 29 1, Qx 31 1 25 30, Ql 32 1 31, Qm 33 1, Qq 34 20 [(.t 32), (.t 33)], Qm 4 34] [[], [0], [0, 1], [0, 1, 2], [], [4], [4, 5], [4, 5, 6], [4, 5, 6, 7], [0, 1, 2, 3, 4, 5, 6, 7, 8], [0, 1, 2, 3, 4, 5, 6, 7, 8, 9], [], [0, 1, 2, 3, 4, 5, 6, 7, 8, 9, 10, 11], [0, 1, 2, 3, 4, 5, 6, 7, 8, 9, 10, 11, 12]])
 (.ret)))), [.mov (.t 4)]) := by kernel_rfl
theorem m_new_ok : compF Try.prog 15 = some (6, Qr ([Qp 2 (.mov (.c (.junk)))])
 (Qr ([Qm 3 0, Qw 4 (.build none [.nilS, .int .i64 0] [(0, (.t 3))]), Qw 5 (.box 91 (.t 4)), Qm 2 5])
 (.ret)), [.mov (.t 2)]) := by kernel_rfl
theorem tmod_neg {a n : Int} (hn : 0 < n) (h : a.tmod n < 0) : a.tmod n + n = a % n := by
  rw [Int.tmod_eq_emod] at h ⊢
  have h1 := Int.emod_nonneg a (show n ≠ 0 by omega)
  split at h
  · omega
  · rename_i hh; rw [if_neg hh]; omega
theorem tmod_pos {a n : Int} (hn : 0 < n) (h : ¬ a.tmod n < 0) : a.tmod n = a % n := by
  rw [Int.tmod_eq_emod] at h ⊢
  have h2 := Int.emod_lt_of_pos a hn
  split at h
  · rename_i hh; rw [if_pos hh]; omega
  · omega
set_option maxHeartbeats 4000000 in
theorem rmod_fn (a n : Int) (hn : 0 < n) : Fnc Try.prog 53 [.int .i64 a, .int .i64 n] (fun x obs => x = .int .i64 (a % n) ∧ obs = []) := by
  refine Fnc.wf fun hw => ?_
  simp only [V.wfs, V.wf] at hw
  have hb := inK_i64' hw.2.1
  have h1 := Int.emod_nonneg a (show n ≠ 0 by omega)
  have h2 := Int.emod_lt_of_pos a hn
  refine Fnc.intro m_rmod_ok (by simp) fun W S => ?_
  simp only [ents, Nat.zero_add, Nat.reduceAdd, Qm, Qc, Ql, QL, Qf, Qs, Qb, Qk, QB, Qn, Qe, Qx, Qt, Qu, Q0, Q1, Qp, Qw, Qq, Qr, Qi]
  by_cases h : a.tmod n < 0
  · have e := tmod_neg hn h
    refine zst ?_
    exact zrh m_rmod_ok e
  · have e := tmod_pos hn h
    refine zst ?_
    exact zrh m_rmod_ok e
set_option maxHeartbeats 4000000 in
theorem mmod_fn (a n : Int) (hn : 0 < n) : Fnc Try.prog 20 [.int .i64 a, .int .i64 n] (fun x obs => x = .int .i64 (a % n) ∧ obs = []) := by
  refine Fnc.intro m_mmod_ok (by simp) fun W S => ?_
  simp only [ents, Nat.zero_add, Nat.reduceAdd, Qm, Qc, Ql, QL, Qf, Qs, Qb, Qk, QB, Qn, Qe, Qx, Qt, Qu, Q0, Q1, Qp, Qw, Qq, Qr, Qi]
  refine zst ?_
  refine zcd (rmod_fn a n hn) ?_
  exact zrt m_mmod_ok
theorem FncM_wf {P : Program} {f : FuncId} {T : TypeId} {d : V} {xs : List V} {R0 : V → List Ob → V → Prop} (h : d.wf → V.wfs xs → FncM P f T d xs R0) : FncM P f T d xs R0 := fun w S b0 hS cs hcs hd vs hvs => h hd.wf hvs.wfs w S b0 hS cs hcs hd vs hvs
/-- A deck with the numbers l, of which k have been drawn. -/
abbrev deckV (l : List Int) (k : Nat) : V := .agg [.sl false 1 (i64s l), .int .i64 k]
def dnx (l : List Int) (k : Nat) (n : Int) : Int := if k < l.length then l[k]! % n else 0
def dkx (l : List Int) (k : Nat) : Nat := if k < l.length then k + 1 else k
theorem dkx_le {l : List Int} {k : Nat} (h : k ≤ l.length) : dkx l k ≤ l.length := by unfold dkx; split <;> omega
theorem dnx_ge {l : List Int} {k : Nat} {n : Int} (hn : 0 < n) : 0 ≤ dnx l k n := by
  unfold dnx; split
  · exact Int.emod_nonneg _ (by omega)
  · omega
theorem dnx_lt {l : List Int} {k : Nat} {n : Int} (hn : 0 < n) : dnx l k n < n := by
  unfold dnx; split
  · exact Int.emod_lt_of_pos _ hn
  · omega
set_option maxHeartbeats 4000000 in
theorem next_fn (l : List Int) (k : Nat) (n : Int) (hk : k ≤ l.length) (hn : 0 < n) : FncM Try.prog 19 91 (deckV l k) [.int .i64 n] (fun x obs c => x = .int .i64 (dnx l k n) ∧ obs = [] ∧ c = deckV l (dkx l k)) := by
  refine FncM_wf fun hw hw2 => ?_
  simp only [V.wfs, V.wf, wfs_map, List.length_map] at hw
  have hl := hw.1.2
  refine FncM.intro m_next_ok (by simp) fun W S b0 hb0 => ?_
  simp only [ents, Nat.zero_add, Nat.reduceAdd, Qm, Qc, Ql, QL, Qf, Qs, Qb, Qk, QB, Qn, Qe, Qx, Qt, Qu, Q0, Q1, Qp, Qw, Qq, Qr, Qi]
  by_cases h : k < l.length
  · refine zst ?_
    refine zcd (mmod_fn (l[((k : Int) + 1 - 1).toNat]!) n hn) ?_
    apply st_returnM hb0 m_next_ok []
    · (simp only [go_sem]; rfl)
    · (first | exact trivial | (simp; done))
    · (first | (simp [outOk]; done) | exact outOk1 rfl)
    · (simp only [go_sem]; (first | done | trivial | simp [V.resOk, V.ressOk, rowV, V.pures, V.pure, pures_appE, pures_lo, pures_sls]))
    · (first | (simp only [V.res, V.ress, rowV, List.idxOf?_nil, List.idxOf?_cons, List.getElem?_cons_zero, List.getElem?_cons_succ]; first | rfl | (simp only [go_sem]; rfl)) | rfl)
    · (first | (simp only [go_sem]; rfl) | rfl)
    · rfl
    · (simp only [go_sem]; (first | done | rfl))
    exact ⟨by simp [dnx, h], rfl, by simp [dkx, h]⟩
  · refine zst ?_
    apply st_returnM hb0 m_next_ok []
    · (simp only [go_sem]; rfl)
    · (first | exact trivial | (simp; done))
    · (first | (simp [outOk]; done) | exact outOk1 rfl)
    · (simp only [go_sem]; (first | done | trivial | simp [V.resOk, V.ressOk, rowV, V.pures, V.pure, pures_appE, pures_lo, pures_sls]))
    · (first | (simp only [V.res, V.ress, rowV, List.idxOf?_nil, List.idxOf?_cons, List.getElem?_cons_zero, List.getElem?_cons_succ]; first | rfl | (simp only [go_sem]; rfl)) | rfl)
    · (first | (simp only [go_sem]; rfl) | rfl)
    · rfl
    · (simp only [go_sem]; (first | done | rfl))
    exact ⟨by simp [dnx, h], rfl, by simp [dkx, h]⟩
set_option maxHeartbeats 4000000 in
theorem new_fn (l : List Int) : Fnc Try.prog 15 [.sl false 1 (i64s l)] (fun x obs => x = .ptr 0 0 [] 0 ∧ obs = [⟨.box false 91, true, 0, deckV l 0⟩]) := by
  refine zgo m_new_ok fun W S => ?_
  apply st_returnP m_new_ok
  · (simp only [go_sem]; rfl)
  · (first | exact trivial | (simp; done))
  · rfl
  · (first | rfl | (simp only [go_sem]; done))
  exact ⟨rfl, rfl⟩
end Go.Proofs.Ytcphobeommkgeaa

