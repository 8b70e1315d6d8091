/- F1, F2, K1, K2, O0, K3, K4, in one text. -/
import Derived.Test.YtkfpcgkmemfdaaaGreatC4
import Derived.Test.YtkfpcgkmemfdaaaGreatC5
/- The deck: numbers drawn out of a list. -/
namespace Go.Proofs.YtkfpcgkmemfdaaaGreat
open Go Go.RowKit Rdn Rdn.Dp
set_option linter.unusedVariables false
set_option linter.unusedSimpArgs false
theorem m_rmod_ok : compF Tryz.prog 25 = some (15, Qr ([Qp 4 (.mov (Qi 0))])
 (Qr ([Qm 6 0, Qm 7 1, Qb 8 .rem 6 7, Qm 5 8])
 (.seq (Qr ([Qm 9 5, Qk 10 .lss 9 0])
 (.cond (.t 10) (.reg [Qm 11 5, Qm 12 1, Qb 13 .add 11 12, Qm 5 13]) (.skip)))
 (Qr ([Qm 14 5, Qm 4 14])
 (.ret)))), [.mov (.t 4)]) := by kernel_rfl
theorem m_mmod_ok : compF Tryz.prog 8 = some (8, Qr ([Qp 4 (.mov (Qi 0))])
 (Qr ([Qm 5 0, Qm 6 1, Qq 7 25 [(.t 5), (.t 6)], Qm 4 7])
 (.ret)), [.mov (.t 4)]) := by kernel_rfl
theorem m_next_ok : compF Tryz.prog 21 = some (35, Qr ([Qp 4 (.mov (Qi 0))])
 (.seq (.seq (.dreg [Qm 5 0, Qp 6 (.nilc (.t 5)), Qf 7 1 1 6, Ql 8 1 7, Qm 9 0, Qp 10 (.nilc (.t 9)), Qf 11 0 0 10, Ql 12 1 11, Qn 13 12, Qb 14 .geq 8 13] [[], [0], [0, 1], [0, 1, 2], [], [4], [4, 5], [4, 5, 6], [4, 5, 6, 7], [0, 1, 2, 3, 4, 5, 6, 7, 8]])
 (.cond (.t 14) (Qr ([Qp 4 (.mov (Qi 0))])
 (.ret)) (.skip)))
 (Qr ([Qm 15 0, Qp 16 (.nilc (.t 15)), Qf 17 1 1 16, Ql 18 1 17, Qk 19 .add 18 1, Qp 20 (.nilc (.t 15)), Qf 21 1 1 20, Qs 1 21 19])
 (.seq (.dreg [Qm 22 0, Qp 23 (.nilc (.t 22)), Qf 24 0 0 23, Ql 25 1 24, Qm 26 0, Qp 27 (.nilc (.t 26)), Qf 28 1 1 27, Ql 29 1 28, Qk 30 .sub 29 1, Qx 31 1 25 30, Ql 32 1 31, Qm 33 1, Qq 34 8 [(.t 32), (.t 33)], Qm 4 34] [[], [0], [0, 1], [0, 1, 2], [], [4], [4, 5], [4, 5, 6], [4, 5, 6, 7], [0, 1, 2, 3, 4, 5, 6, 7, 8], [0, 1, 2, 3, 4, 5, 6, 7, 8, 9], [], [0, 1, 2, 3, 4, 5, 6, 7, 8, 9, 10, 11], [0, 1, 2, 3, 4, 5, 6, 7, 8, 9, 10, 11, 12]])
 (.ret)))), [.mov (.t 4)]) := by kernel_rfl
theorem m_new_ok : compF Tryz.prog 5 = some (6, Qr ([Qp 2 (.mov (.c (.junk)))])
 (Qr ([Qm 3 0, Qw 4 (.build none [.nilS, .int .i64 0] [(0, (.t 3))]), Qw 5 (.box 64 (.t 4)), Qm 2 5])
 (.ret)), [.mov (.t 2)]) := by kernel_rfl
theorem tmod_neg {a n : Int} (hn : 0 < n) (h : a.tmod n < 0) : a.tmod n + n = a % n := by
  rw [Int.tmod_eq_emod] at h ⊢
  have h1 := Int.emod_nonneg a (show n ≠ 0 by omega)
  split at h
  · omega
  · rename_i hh; rw [if_neg hh]; omega
theorem tmod_pos {a n : Int} (hn : 0 < n) (h : ¬ a.tmod n < 0) : a.tmod n = a % n := by
  rw [Int.tmod_eq_emod] at h ⊢
  have h2 := Int.emod_lt_of_pos a hn
  split at h
  · rename_i hh; rw [if_pos hh]; omega
  · omega
set_option maxHeartbeats 4000000 in
theorem rmod_fn (a n : Int) (hn : 0 < n) : Fnc Tryz.prog 25 [.int .i64 a, .int .i64 n] (fun x obs => x = .int .i64 (a % n) ∧ obs = []) := by
  refine Fnc.wf fun hw => ?_
  simp only [V.wfs, V.wf] at hw
  have hb := inK_i64' hw.2.1
  have h1 := Int.emod_nonneg a (show n ≠ 0 by omega)
  have h2 := Int.emod_lt_of_pos a hn
  refine Fnc.intro m_rmod_ok (by simp) fun W S => ?_
  simp only [ents, Nat.zero_add, Nat.reduceAdd, Qm, Qc, Ql, QL, Qf, Qs, Qb, Qk, QB, Qn, Qe, Qx, Qt, Qu, Q0, Q1, Qp, Qw, Qq, Qr, Qi]
  by_cases h : a.tmod n < 0
  · have e := tmod_neg hn h
    refine zst ?_
    exact zrh m_rmod_ok e
  · have e := tmod_pos hn h
    refine zst ?_
    exact zrh m_rmod_ok e
set_option maxHeartbeats 4000000 in
theorem mmod_fn (a n : Int) (hn : 0 < n) : Fnc Tryz.prog 8 [.int .i64 a, .int .i64 n] (fun x obs => x = .int .i64 (a % n) ∧ obs = []) := by
  refine Fnc.intro m_mmod_ok (by simp) fun W S => ?_
  simp only [ents, Nat.zero_add, Nat.reduceAdd, Qm, Qc, Ql, QL, Qf, Qs, Qb, Qk, QB, Qn, Qe, Qx, Qt, Qu, Q0, Q1, Qp, Qw, Qq, Qr, Qi]
  refine zst ?_
  refine zcd (rmod_fn a n hn) ?_
  exact zrt m_mmod_ok
theorem FncM_wf {P : Program} {f : FuncId} {T : TypeId} {d : V} {xs : List V} {R0 : V → List Ob → V → Prop} (h : d.wf → V.wfs xs → FncM P f T d xs R0) : FncM P f T d xs R0 := fun w S b0 hS cs hcs hd vs hvs => h hd.wf hvs.wfs w S b0 hS cs hcs hd vs hvs
/-- A deck with the numbers l, of which k have been drawn. -/
abbrev deckV (l : List Int) (k : Nat) : V := .agg [.sl false 1 (i64s l), .int .i64 k]
def dnx (l : List Int) (k : Nat) (n : Int) : Int := if k < l.length then l[k]! % n else 0
def dkx (l : List Int) (k : Nat) : Nat := if k < l.length then k + 1 else k
theorem dkx_le {l : List Int} {k : Nat} (h : k ≤ l.length) : dkx l k ≤ l.length := by unfold dkx; split <;> omega
theorem dnx_ge {l : List Int} {k : Nat} {n : Int} (hn : 0 < n) : 0 ≤ dnx l k n := by
  unfold dnx; split
  · exact Int.emod_nonneg _ (by omega)
  · omega
theorem dnx_lt {l : List Int} {k : Nat} {n : Int} (hn : 0 < n) : dnx l k n < n := by
  unfold dnx; split
  · exact Int.emod_lt_of_pos _ hn
  · omega
set_option maxHeartbeats 4000000 in
theorem next_fn (l : List Int) (k : Nat) (n : Int) (hk : k ≤ l.length) (hn : 0 < n) : FncM Tryz.prog 21 64 (deckV l k) [.int .i64 n] (fun x obs c => x = .int .i64 (dnx l k n) ∧ obs = [] ∧ c = deckV l (dkx l k)) := by
  refine FncM_wf fun hw hw2 => ?_
  simp only [V.wfs, V.wf, wfs_map, List.length_map] at hw
  have hl := hw.1.2
  refine FncM.intro m_next_ok (by simp) fun W S b0 hb0 => ?_
  simp only [ents, Nat.zero_add, Nat.reduceAdd, Qm, Qc, Ql, QL, Qf, Qs, Qb, Qk, QB, Qn, Qe, Qx, Qt, Qu, Q0, Q1, Qp, Qw, Qq, Qr, Qi]
  by_cases h : k < l.length
  · refine zst ?_
    refine zcd (mmod_fn (l[((k : Int) + 1 - 1).toNat]!) n hn) ?_
    apply st_returnM hb0 m_next_ok []
    · (simp only [go_sem]; rfl)
    · (first | exact trivial | (simp; done))
    · (first | (simp [outOk]; done) | exact outOk1 rfl)
    · (simp only [go_sem]; (first | done | trivial | simp [V.resOk, V.ressOk, rowV, V.pures, V.pure, pures_appE, pures_lo, pures_sls]))
    · (first | (simp only [V.res, V.ress, rowV, List.idxOf?_nil, List.idxOf?_cons, List.getElem?_cons_zero, List.getElem?_cons_succ]; first | rfl | (simp only [go_sem]; rfl)) | rfl)
    · (first | (simp only [go_sem]; rfl) | rfl)
    · rfl
    · (simp only [go_sem]; (first | done | rfl))
    exact ⟨by simp [dnx, h], rfl, by simp [dkx, h]⟩
  · refine zst ?_
    apply st_returnM hb0 m_next_ok []
    · (simp only [go_sem]; rfl)
    · (first | exact trivial | (simp; done))
    · (first | (simp [outOk]; done) | exact outOk1 rfl)
    · (simp only [go_sem]; (first | done | trivial | simp [V.resOk, V.ressOk, rowV, V.pures, V.pure, pures_appE, pures_lo, pures_sls]))
    · (first | (simp only [V.res, V.ress, rowV, List.idxOf?_nil, List.idxOf?_cons, List.getElem?_cons_zero, List.getElem?_cons_succ]; first | rfl | (simp only [go_sem]; rfl)) | rfl)
    · (first | (simp only [go_sem]; rfl) | rfl)
    · rfl
    · (simp only [go_sem]; (first | done | rfl))
    exact ⟨by simp [dnx, h], rfl, by simp [dkx, h]⟩
set_option maxHeartbeats 4000000 in
theorem new_fn (l : List Int) : Fnc Tryz.prog 5 [.sl false 1 (i64s l)] (fun x obs => x = .ptr 0 0 [] 0 ∧ obs = [⟨.box false 64, true, 0, deckV l 0⟩]) := by
  refine zgo m_new_ok fun W S => ?_
  apply st_returnP m_new_ok
  · (simp only [go_sem]; rfl)
  · (first | exact trivial | (simp; done))
  · rfl
  · (first | rfl | (simp only [go_sem]; done))
  exact ⟨rfl, rfl⟩
end Go.Proofs.YtkfpcgkmemfdaaaGreat
/- The deck: words and cells. -/
namespace Go.Proofs.YtkfpcgkmemfdaaaGreat
open Go Go.RowKit Rdn Rdn.Dp
set_option linter.unusedVariables false
set_option linter.unusedSimpArgs false
theorem m_word_ok : compF Tryz.prog 89 = some (21, Qr ([Qp 2 (.mov (.c (.int .u16 0)))])
 (.seq (Qr ([Qm 3 0, Qq 4 21 [(.t 3), (Qi 5)]])
 (.block 0 (.seq (Qr ([Qk 6 .eql 4 0, Qm 5 6])
 (.cond (.t 5) (.skip) (Qr ([Qk 7 .eql 4 1, Qm 5 7])
 (.cond (.t 5) (.skip) (.reg [Qk 8 .eql 4 2, Qm 5 8])))))
 (.cond (.t 5) (Qr ([Qm 9 0, Qq 10 21 [(.t 9), (Qi 8)], Qp 11 (.conv .u16 (.t 10)), Qm 2 11])
 (.ret)) (Qr ([Qk 13 .eql 4 3, Qm 12 13])
 (.cond (.t 12) (Qr ([Qm 14 0, Qq 15 21 [(.t 14), (Qi 3)], Qp 16 (.bin 0 .sub (Qi 65535) (.t 15)), Qp 17 (.conv .u16 (.t 16)), Qm 2 17])
 (.ret)) (.skip)))))))
 (Qr ([Qm 18 0, Qq 19 21 [(.t 18), (Qi 65536)], Qp 20 (.conv .u16 (.t 19)), Qm 2 20])
 (.ret))), [.mov (.t 2)]) := by kernel_rfl
/-- A word. -/
def dwd (l : List Int) (k : Nat) : Int :=
  if dnx l k 5 = 0 ∨ dnx l k 5 = 1 ∨ dnx l k 5 = 2 then dnx l (dkx l k) 8 else if dnx l k 5 = 3 then 65535 - dnx l (dkx l k) 3 else dnx l (dkx l k) 65536
theorem dwd_b (l : List Int) (k : Nat) : 0 ≤ dwd l k ∧ dwd l k ≤ 65535 := by
  have h1 := dnx_ge (l := l) (k := dkx l k) (n := 8) (by omega)
  have h2 := dnx_lt (l := l) (k := dkx l k) (n := 8) (by omega)
  have h3 := dnx_ge (l := l) (k := dkx l k) (n := 3) (by omega)
  have h4 := dnx_lt (l := l) (k := dkx l k) (n := 3) (by omega)
  have h5 := dnx_ge (l := l) (k := dkx l k) (n := 65536) (by omega)
  have h6 := dnx_lt (l := l) (k := dkx l k) (n := 65536) (by omega)
  unfold dwd
  split
  · omega
  · split <;> omega
set_option maxHeartbeats 4000000 in
theorem word_fn (l : List Int) (k : Nat) (hk : k ≤ l.length) : FncM Tryz.prog 89 64 (deckV l k) [] (fun x obs c => x = .int .u16 (dwd l k) ∧ obs = [] ∧ c = deckV l (dkx l (dkx l k))) := by
  have hk1 := dkx_le hk
  have h1 := dnx_ge (l := l) (k := dkx l k) (n := 8) (by omega)
  have h2 := dnx_lt (l := l) (k := dkx l k) (n := 8) (by omega)
  have h3 := dnx_ge (l := l) (k := dkx l k) (n := 3) (by omega)
  have h4 := dnx_lt (l := l) (k := dkx l k) (n := 3) (by omega)
  have h5 := dnx_ge (l := l) (k := dkx l k) (n := 65536) (by omega)
  have h6 := dnx_lt (l := l) (k := dkx l k) (n := 65536) (by omega)
  refine FncM.intro m_word_ok (by simp) fun W S b0 hb0 => ?_
  simp only [ents, Nat.zero_add, Nat.reduceAdd, Qm, Qc, Ql, QL, Qf, Qs, Qb, Qk, QB, Qn, Qe, Qx, Qt, Qu, Q0, Q1, Qp, Qw, Qq, Qr, Qi]
  by_cases c0 : dnx l k 5 = 0
  · refine zst ?_
    refine zcm (next_fn l k 5 hk (by omega)) ?_
    refine zcm (next_fn l (dkx l k) 8 hk1 (by omega)) ?_
    apply st_returnM hb0 m_word_ok []
    · (simp only [go_sem]; rfl)
    · (first | exact trivial | (simp; done))
    · (first | (simp [outOk]; done) | exact outOk1 rfl)
    · (simp only [go_sem]; (first | done | trivial | simp [V.resOk, V.ressOk, rowV, V.pures, V.pure, pures_appE, pures_lo, pures_sls]))
    · (first | (simp only [V.res, V.ress, rowV, List.idxOf?_nil, List.idxOf?_cons, List.getElem?_cons_zero, List.getElem?_cons_succ]; first | rfl | (simp only [go_sem]; rfl)) | rfl)
    · (first | (simp only [go_sem]; rfl) | rfl)
    · rfl
    · (simp only [go_sem]; (first | done | rfl))
    exact ⟨by simp [dwd, c0], rfl, rfl⟩
  by_cases c1 : dnx l k 5 = 1
  · refine zst ?_
    refine zcm (next_fn l k 5 hk (by omega)) ?_
    refine zcm (next_fn l (dkx l k) 8 hk1 (by omega)) ?_
    apply st_returnM hb0 m_word_ok []
    · (simp only [go_sem]; rfl)
    · (first | exact trivial | (simp; done))
    · (first | (simp [outOk]; done) | exact outOk1 rfl)
    · (simp only [go_sem]; (first | done | trivial | simp [V.resOk, V.ressOk, rowV, V.pures, V.pure, pures_appE, pures_lo, pures_sls]))
    · (first | (simp only [V.res, V.ress, rowV, List.idxOf?_nil, List.idxOf?_cons, List.getElem?_cons_zero, List.getElem?_cons_succ]; first | rfl | (simp only [go_sem]; rfl)) | rfl)
    · (first | (simp only [go_sem]; rfl) | rfl)
    · rfl
    · (simp only [go_sem]; (first | done | rfl))
    exact ⟨by simp [dwd, c1], rfl, rfl⟩
  by_cases c2 : dnx l k 5 = 2
  · refine zst ?_
    refine zcm (next_fn l k 5 hk (by omega)) ?_
    refine zcm (next_fn l (dkx l k) 8 hk1 (by omega)) ?_
    apply st_returnM hb0 m_word_ok []
    · (simp only [go_sem]; rfl)
    · (first | exact trivial | (simp; done))
    · (first | (simp [outOk]; done) | exact outOk1 rfl)
    · (simp only [go_sem]; (first | done | trivial | simp [V.resOk, V.ressOk, rowV, V.pures, V.pure, pures_appE, pures_lo, pures_sls]))
    · (first | (simp only [V.res, V.ress, rowV, List.idxOf?_nil, List.idxOf?_cons, List.getElem?_cons_zero, List.getElem?_cons_succ]; first | rfl | (simp only [go_sem]; rfl)) | rfl)
    · (first | (simp only [go_sem]; rfl) | rfl)
    · rfl
    · (simp only [go_sem]; (first | done | rfl))
    exact ⟨by simp [dwd, c2], rfl, rfl⟩
  by_cases c3 : dnx l k 5 = 3
  · refine zst ?_
    refine zcm (next_fn l k 5 hk (by omega)) ?_
    refine zcm (next_fn l (dkx l k) 3 hk1 (by omega)) ?_
    apply st_returnM hb0 m_word_ok []
    · (simp only [go_sem]; rfl)
    · (first | exact trivial | (simp; done))
    · (first | (simp [outOk]; done) | exact outOk1 rfl)
    · (simp only [go_sem]; (first | done | trivial | simp [V.resOk, V.ressOk, rowV, V.pures, V.pure, pures_appE, pures_lo, pures_sls]))
    · (first | (simp only [V.res, V.ress, rowV, List.idxOf?_nil, List.idxOf?_cons, List.getElem?_cons_zero, List.getElem?_cons_succ]; first | rfl | (simp only [go_sem]; rfl)) | rfl)
    · (first | (simp only [go_sem]; rfl) | rfl)
    · rfl
    · (simp only [go_sem]; (first | done | rfl))
    exact ⟨by simp [dwd, c3], rfl, rfl⟩
  · refine zst ?_
    refine zcm (next_fn l k 5 hk (by omega)) ?_
    refine zcm (next_fn l (dkx l k) 65536 hk1 (by omega)) ?_
    apply st_returnM hb0 m_word_ok []
    · (simp only [go_sem]; rfl)
    · (first | exact trivial | (simp; done))
    · (first | (simp [outOk]; done) | exact outOk1 rfl)
    · (simp only [go_sem]; (first | done | trivial | simp [V.resOk, V.ressOk, rowV, V.pures, V.pure, pures_appE, pures_lo, pures_sls]))
    · (first | (simp only [V.res, V.ress, rowV, List.idxOf?_nil, List.idxOf?_cons, List.getElem?_cons_zero, List.getElem?_cons_succ]; first | rfl | (simp only [go_sem]; rfl)) | rfl)
    · (first | (simp only [go_sem]; rfl) | rfl)
    · rfl
    · (simp only [go_sem]; (first | done | rfl))
    exact ⟨by simp [dwd, c0, c1, c2, c3], rfl, rfl⟩
end Go.Proofs.YtkfpcgkmemfdaaaGreat
/- The deck: words. -/
namespace Go.Proofs.YtkfpcgkmemfdaaaGreat
open Go Go.RowKit Rdn Rdn.Dp
set_option linter.unusedVariables false
set_option linter.unusedSimpArgs false
theorem m_words_ok : compF Tryz.prog 74 = some (21, Qr ([Qp 4 (.mov (.c (.nilS)))])
 (Qr ([Qp 5 (.mov (.c (.nilS)))])
 (.seq (Qr ([Qm 7 0, Qm 8 1, Qk 9 .add 8 1, Qq 10 21 [(.t 7), (.t 9)], Qm 6 10])
 (.block 0 (.loop (.seq (Qr ([Qm 11 6, Qk 12 .gtr 11 0])
 (.cond (.t 12) (.skip) (.exit 0)))
 (.seq (.block 1 (.reg [Qm 15 5, Qm 16 0, Qq 17 89 [(.t 16)], Qw 18 (.buildS 41 1 (.int .u16 0) 1 [(0, (.t 17))]), Qw 19 (.app 41 1 2 (.t 15) (.t 18)), Qm 5 19]))
 (.reg [Qm 13 6, Qk 14 .sub 13 1, Qm 6 14]))))))
 (Qr ([Qm 20 5, Qm 4 20])
 (.ret)))), [.mov (.t 4)]) := by kernel_rfl
/-- Words, drawn. -/
def dw1 (l : List Int) (k : Nat) : Int × Nat := (dwd l k, dkx l (dkx l k))
theorem dw1_le {l : List Int} (k : Nat) (h : k ≤ l.length) : (dw1 l k).2 ≤ l.length := dkx_le (dkx_le h)
def dws (l : List Int) (k : Nat) (n : Int) : List Int × Nat := drw (dw1 l) (dkx l k) (dnx l k (n + 1)).toNat
theorem dws_le {l : List Int} {k : Nat} (hk : k ≤ l.length) (n : Int) : (dws l k n).2 ≤ l.length := drw_le (f := dw1 l) dw1_le (dkx_le hk) _
theorem dws_len {l : List Int} {k : Nat} {n : Int} (hn : 0 ≤ n) : (dws l k n).1.length ≤ n.toNat := by
  have h2 := dnx_lt (l := l) (k := k) (n := n + 1) (by omega)
  rw [dws, drw_len]
  omega
theorem dws_ok (l : List Int) (k : Nat) (n : Int) : ∀ x ∈ (dws l k n).1, 0 ≤ x ∧ x ≤ 65535 := drw_all (p := fun x => 0 ≤ x ∧ x ≤ 65535) (fun k => dwd_b l k) _ _
set_option maxHeartbeats 4000000 in
theorem words_fn (l : List Int) (k : Nat) (n : Int) (hk : k ≤ l.length) (hn : 0 ≤ n) (hn' : n ≤ 1000000) : FncM Tryz.prog 74 64 (deckV l k) [.int .i64 n] (fun x obs c => x = .sl false 1 (u16s (dws l k n).1) ∧ obs = [] ∧ c = deckV l (dws l k n).2) := by
  refine FncM.low ?_
  have h1 := dnx_ge (l := l) (k := k) (n := n + 1) (by omega)
  have h2 := dnx_lt (l := l) (k := k) (n := n + 1) (by omega)
  refine zgM m_words_ok fun W S b0 hb0 => ?_
  refine zcm (next_fn l k (n + 1) hk (by omega)) ?_
  refine ev_adopt (i := 5) (e := 41) (s := 1) rfl (by decide) ?_
  refine ev_loopK [0] (fun p : {p : Nat // p ≤ (dnx l k (n + 1)).toNat} => [(5, .own 1 p.1), (6, .int .i64 (dnx l k (n + 1) - p.1))]) (fun p => [⟨.box true 64, true, 0, deckV l (drw (dw1 l) (dkx l k) p.1).2⟩, ⟨.row 41, true, p.1, .arr 1 (u16s (drw (dw1 l) (dkx l k) p.1).1)⟩]) (fun p => (dnx l k (n + 1)).toNat - p.1) (⟨0, by simp⟩) 2 (by simp only [go_sem]; rfl) ?_ (by first | rfl | (simp only [go_sem]; done) | (simp only [go_sem]; simp [drw]; done)) (by simp) (by first | rfl | (simp only [go_sem]; done)) (by first | rfl | (simp only [go_sem]; done)) (by first | rfl | (simp only [go_sem]; done) | (simp only [drw]; (try simp only [go_sem]); first | done | rfl)) ?_
  · (simp only [go_sem]; (try simp [drw]); done)
  intro J hJ
  rintro ⟨i, hi⟩
  have hp := drw_le (f := dw1 l) (m := l.length) dw1_le (dkx_le hk) i
  have hlen := drw_len (dw1 l) (dkx l k) i
  by_cases hlt : i < (dnx l k (n + 1)).toNat
  · skip
    generalize hq : drw (dw1 l) (dkx l k) i = q at hp hlen
    have hd : drw (dw1 l) (dkx l k) (i + 1) = (q.1 ++ [dwd l q.2], dkx l (dkx l q.2)) := by rw [drw, hq]; rfl
    refine zst ?_
    refine zcm (word_fn l q.2 hp) ?_
    exact zn2 (hJ _ (⟨i + 1, hlt⟩) (by first | omega | (dsimp only; omega) | (simp; omega))) hd
  · obtain rfl : i = (dnx l k (n + 1)).toNat := by omega
    refine zst ?_
    apply st_returnM hb0 m_words_ok []
    · (simp only [go_sem]; rfl)
    · (first | exact trivial | (simp; done))
    · (first | (simp [outOk]; done) | exact outOk1 rfl)
    · (simp only [go_sem]; (first | done | trivial | simp [V.resOk, V.ressOk, rowV, V.pures, V.pure, pures_appE, pures_lo, pures_sls]))
    · (first | (simp only [V.res, V.ress, rowV, List.idxOf?_nil, List.idxOf?_cons, List.getElem?_cons_zero, List.getElem?_cons_succ]; first | rfl | (simp only [go_sem]; rfl)) | rfl)
    · (first | (simp only [go_sem]; rfl) | rfl)
    · rfl
    · (simp only [go_sem]; (first | done | rfl))
    ((try dsimp only); (repeat' (refine And.intro ?_ ?_)) <;> first | with_reducible rfl | (simp only [go_sem]; done) | (simp only [go_sem]; rfl) | (simp only [go_sem, dws]; done) | (simp only [dws]; (try simp only [go_sem]); first | done | rfl) | (simp only [go_sem]; simp [dws]; done) | (simp [dws]; done) | rfl)
end Go.Proofs.YtkfpcgkmemfdaaaGreat
/- Files at their beginning: what is valid. -/
namespace Go.Proofs.YtkfpcgkmemfdaaaGreat
open Go Go.RowKit Rdn Rdn.Dp
set_option linter.unusedVariables false
set_option linter.unusedSimpArgs false
theorem m_cell_ok : compF Tryz.prog 84 = some (57, Qr ([Qw 1 (.box 43 (.t 0)), Qc 2 (.bool false)])
 (.seq (Qr ([Qf 3 0 0 1, Ql 4 1 3])
 (.block 0 (.seq (Qr ([Qp 6 (.bin 0 .eql (.t 4) (.c (.int .u8 0))), Qm 5 6])
 (.cond (.t 5) (.skip) (.reg [Qp 7 (.bin 0 .eql (.t 4) (.c (.int .u8 2))), Qm 5 7])))
 (.cond (.t 5) (Qr ([Qf 8 2 2 1, Ql 9 1 8, Qk 10 .eql 9 0, Qm 11 10, Q1 12 11 (.fieldA 3 3 (.t 1)), Q1 13 11 (.load false 1 (.t 12)), Q1 14 11 (.bin 0 .eql (.t 13) (Qi 0)), Qu 15 11 14, Qm 2 15])
 (.ret)) (Qr ([Qp 17 (.bin 0 .eql (.t 4) (.c (.int .u8 1))), Qm 16 17])
 (.cond (.t 16) (.seq (Qr ([Qf 18 2 2 1, Ql 19 1 18, Qk 20 .eql 19 (-1)])
 (.cond (.t 20) (Qr ([Qf 21 1 1 1, Ql 22 1 21, Qp 23 (.bin 0 .eql (.t 22) (.c (.int .u16 0))), Qm 24 23, Q1 25 24 (.fieldA 3 3 (.t 1)), Q1 26 24 (.load false 1 (.t 25)), Q1 27 24 (.bin 0 .geq (.t 26) (Qi 0)), Qu 28 24 27, Qm 29 28, Q1 30 29 (.fieldA 3 3 (.t 1)), Q1 31 29 (.load false 1 (.t 30)), Q1 32 29 (.bin 0 .leq (.t 31) (Qi 65535)), Qu 33 29 32, Qm 2 33])
 (.ret)) (.skip)))
 (Qr ([Qf 34 1 1 1, Ql 35 1 34, Qp 36 (.bin 0 .eql (.t 35) (.c (.int .u16 0))), Qm 37 36, Q1 38 37 (.fieldA 2 2 (.t 1)), Q1 39 37 (.load false 1 (.t 38)), Q1 40 37 (.bin 0 .geq (.t 39) (Qi 0)), Qu 41 37 40, Qm 42 41, Q1 43 42 (.fieldA 2 2 (.t 1)), Q1 44 42 (.load false 1 (.t 43)), Q1 45 42 (.bin 0 .lss (.t 44) (Qi 4)), Qu 46 42 45, Qm 47 46, Q1 48 47 (.fieldA 3 3 (.t 1)), Q1 49 47 (.load false 1 (.t 48)), Q1 50 47 (.bin 0 .geq (.t 49) (Qi 0)), Qu 51 47 50, Qm 52 51, Q1 53 52 (.fieldA 3 3 (.t 1)), Q1 54 52 (.load false 1 (.t 53)), Q1 55 52 (.bin 0 .lss (.t 54) (Qi 32)), Qu 56 52 55, Qm 2 56])
 (.ret))) (.skip)))))))
 (Qr ([Qc 2 (.bool false)])
 (.ret))), [.mov (.t 2)]) := by kernel_rfl
theorem m_cells_ok : compF Tryz.prog 33 = some (21, Qr ([Qc 4 (.bool false)])
 (.seq (Qr ([Qm 7 0, Qn 8 7, Qp 9 (.mov (Qi 0))])
 (.block 0 (.loop (Qr ([Qb 10 .lss 9 8])
 (.seq (.cond (.t 10) (.skip) (.exit 0))
 (.seq (.block 1 (Qr ([Qx 11 4 7 9, QL 12 4 11, Qw 6 (.alloc 43 (.agg [.int .u8 0, .int .u16 0, .int .i64 0, .int .i64 0])), Qs 4 6 12])
 (Qr ([QL 13 4 6, Qq 14 84 [(.t 13)], Qp 15 (.un .not (.t 14))])
 (.cond (.t 15) (Qr ([Qc 4 (.bool false)])
 (.ret)) (.skip)))))
 (.reg [Qk 16 .add 9 1, Qm 9 16])))))))
 (Qr ([Qm 17 0, Qn 18 17, Qm 19 1, Qb 20 .leq 18 19, Qm 4 20])
 (.ret))), [.mov (.t 4)]) := by kernel_rfl
theorem m_fval_ok : compF Tryz.prog 34 = some (83, Qr ([Qw 1 (.box 34 (.t 0)), Qc 2 (.bool false)])
 (.seq (Qr ([Qf 7 0 0 1, Ql 8 1 7, Qn 9 8, Qk 10 .gtr 9 4, Qm 11 10, Q0 12 11 (.fieldA 1 1 (.t 1)), Q0 13 11 (.load false 1 (.t 12)), Q0 14 11 (.len (.t 13)), Q0 15 11 (.bin 0 .neq (.t 14) (Qi 8)), Qt 16 11 15])
 (.cond (.t 16) (Qr ([Qc 2 (.bool false)])
 (.ret)) (.skip)))
 (.seq (Qr ([Qf 17 0 0 1, Ql 18 1 17, Qn 19 18, Qp 20 (.mov (Qi 0))])
 (.block 0 (.loop (Qr ([Qb 21 .lss 20 19])
 (.seq (.cond (.t 21) (.skip) (.exit 0))
 (.seq (.block 1 (Qr ([Qx 22 1 18 20, Ql 23 1 22, Qm 4 23])
 (Qr ([Qm 24 4, Qq 25 33 [(.t 24), (Qi 64)], Qp 26 (.un .not (.t 25))])
 (.cond (.t 26) (Qr ([Qc 2 (.bool false)])
 (.ret)) (.skip)))))
 (.reg [Qk 27 .add 20 1, Qm 20 27])))))))
 (.seq (Qr ([Qf 28 1 1 1, Ql 29 1 28, Qn 30 29, Qp 31 (.mov (Qi 0))])
 (.block 2 (.loop (Qr ([Qb 32 .lss 31 30])
 (.seq (.cond (.t 32) (.skip) (.exit 2))
 (.seq (.block 3 (Qr ([Qx 33 3 29 31, QL 34 3 33, Qw 6 (.alloc 47 (.agg [.int .i64 0, .int .i64 0, .bool false])), Qs 3 6 34])
 (.seq (.dreg [Qf 35 0 0 6, Ql 36 1 35, Qk 37 .eql 36 (-1), Qm 38 37, Q1 39 38 (.fieldA 1 1 (.t 6)), Q1 40 38 (.load false 1 (.t 39)), Q1 41 38 (.bin 0 .neq (.t 40) (Qi 0)), Q1 42 38 (.mov (.t 41)), Q0 43 42 (.fieldA 2 2 (.t 6)), Q0 44 42 (.load false 1 (.t 43)), Q1 45 38 (.pick (.t 42) (.c (.bool true)) (.t 44)), Qu 46 38 45, Qm 47 46, Q0 48 47 (.fieldA 0 0 (.t 6)), Q0 49 47 (.load false 1 (.t 48)), Q0 50 47 (.bin 0 .lss (.t 49) (Qi (-1))), Qt 51 47 50, Qm 52 51, Q0 53 52 (.fieldA 0 0 (.t 6)), Q0 54 52 (.load false 1 (.t 53)), Q0 55 52 (.fieldA 0 0 (.t 1)), Q0 56 52 (.load false 1 (.t 55)), Q0 57 52 (.len (.t 56)), Q0 58 52 (.bin 0 .geq (.t 54) (.t 57)), Qt 59 52 58, Qm 60 59, Q0 61 60 (.fieldA 0 0 (.t 6)), Q0 62 60 (.load false 1 (.t 61)), Q0 63 60 (.bin 0 .geq (.t 62) (Qi 0)), Q0 64 60 (.mov (.t 63)), Q1 65 64 (.fieldA 1 1 (.t 6)), Q1 66 64 (.load false 1 (.t 65)), Q1 67 64 (.bin 0 .lss (.t 66) (Qi 0)), Q1 68 64 (.mov (.t 67)), Q0 69 68 (.fieldA 1 1 (.t 6)), Q0 70 68 (.load false 1 (.t 69)), Q0 71 68 (.fieldA 0 0 (.t 1)), Q0 72 68 (.load false 1 (.t 71)), Q0 73 68 (.fieldA 0 0 (.t 6)), Q0 74 68 (.load false 1 (.t 73)), Q0 75 68 (.idxA 1 (.t 72) (.t 74)), Q0 76 68 (.load false 1 (.t 75)), Q0 77 68 (.len (.t 76)), Q0 78 68 (.bin 0 .gtr (.t 70) (.t 77)), Q1 79 64 (.pick (.t 68) (.c (.bool true)) (.t 78)), Q0 80 60 (.pick (.t 64) (.t 79) (.c (.bool false))), Qt 81 60 80] [[], [0], [0, 1], [0, 1, 2], [0, 1, 2, 3], [0, 1, 2, 3, 4], [0, 1, 2, 3, 4, 5], [0, 1, 2, 3, 4, 5, 6], [0, 1, 2, 3, 4, 5, 6, 7], [0, 1, 2, 3, 4, 5, 6, 7, 8], [0, 1, 2, 3, 4, 5, 6, 7, 8, 9], [0, 1, 2, 3, 4, 5, 6, 7, 8, 9, 10], [0, 1, 2, 3, 4, 5, 6, 7, 8, 9, 10, 11], [0, 1, 2, 3, 4, 5, 6, 7, 8, 9, 10, 11, 12], [0, 1, 2, 3, 4, 5, 6, 7, 8, 9, 10, 11, 12, 13], [0, 1, 2, 3, 4, 5, 6, 7, 8, 9, 10, 11, 12, 13, 14], [0, 1, 2, 3, 4, 5, 6, 7, 8, 9, 10, 11, 12, 13, 14, 15], [0, 1, 2, 3, 4, 5, 6, 7, 8, 9, 10, 11, 12, 13, 14, 15, 16], [0, 1, 2, 3, 4, 5, 6, 7, 8, 9, 10, 11, 12, 13, 14, 15, 16, 17], [0, 1, 2, 3, 4, 5, 6, 7, 8, 9, 10, 11, 12, 13, 14, 15, 16, 17, 18], [0, 1, 2, 3, 4, 5, 6, 7, 8, 9, 10, 11, 12, 13, 14, 15, 16, 17], [0, 1, 2, 3, 4, 5, 6, 7, 8, 9, 10, 11, 12, 13, 14, 15, 16, 17, 20], [0, 1, 2, 3, 4, 5, 6, 7, 8, 9, 10, 11, 12, 13, 14, 15, 16, 17, 20, 21], [0, 1, 2, 3, 4, 5, 6, 7, 8, 9, 10, 11, 12, 13, 14, 15, 16, 17, 18, 19, 20, 21, 22], [0, 1, 2, 3, 4, 5, 6, 7, 8, 9, 10, 11, 12, 13, 14, 15, 16, 17, 18, 19, 20, 21, 22, 23], [0, 1, 2, 3, 4, 5, 6, 7, 8, 9, 10, 11, 12, 13, 14, 15, 16, 17, 18, 19, 20, 21, 22, 23, 24], [0, 1, 2, 3, 4, 5, 6, 7, 8, 9, 10, 11, 12, 13, 14, 15, 16, 17, 18, 19, 20, 21, 22, 23, 24, 25], [0, 1, 2, 3, 4, 5, 6, 7, 8, 9, 10, 11, 12, 13, 14, 15, 16, 17, 18, 19, 20, 21, 22, 23, 24, 25, 26], [0, 1, 2, 3, 4, 5, 6, 7, 8, 9, 10, 11, 12, 13, 14, 15, 16, 17, 18, 19, 20, 21, 22, 23, 24, 25, 26, 27], [0, 1, 2, 3, 4, 5, 6, 7, 8, 9, 10, 11, 12, 13, 14, 15, 16, 17, 18, 19, 20, 21, 22, 23, 24, 25, 26, 27, 28], [0, 1, 2, 3, 4, 5, 6, 7, 8, 9, 10, 11, 12, 13, 14, 15, 16, 17, 18, 19, 20, 21, 22, 23, 24, 25, 26, 27, 28, 29], [0, 1, 2, 3, 4, 5, 6, 7, 8, 9, 10, 11, 12, 13, 14, 15, 16, 17, 18, 19, 20, 21, 22, 23, 24, 25, 26, 27, 28, 29, 30], [0, 1, 2, 3, 4, 5, 6, 7, 8, 9, 10, 11, 12, 13, 14, 15, 16, 17, 18, 19, 20, 21, 22, 23, 24, 25, 26, 27, 28, 29, 30, 31], [0, 1, 2, 3, 4, 5, 6, 7, 8, 9, 10, 11, 12, 13, 14, 15, 16, 17, 18, 19, 20, 21, 22, 23, 24, 25, 26, 27, 28, 29, 30, 31, 32], [0, 1, 2, 3, 4, 5, 6, 7, 8, 9, 10, 11, 12, 13, 14, 15, 16, 17, 18, 19, 20, 21, 22, 23, 24, 25, 26, 27, 28, 29, 30, 31, 32, 33], [0, 1, 2, 3, 4, 5, 6, 7, 8, 9, 10, 11, 12, 13, 14, 15, 16, 17, 18, 19, 20, 21, 22, 23, 24, 25, 26, 27, 28, 29, 30, 31, 32, 33, 34], [0, 1, 2, 3, 4, 5, 6, 7, 8, 9, 10, 11, 12, 13, 14, 15, 16, 17, 18, 19, 20, 21, 22, 23, 24, 25, 26, 27, 28, 29, 30, 31, 32, 33], [0, 1, 2, 3, 4, 5, 6, 7, 8, 9, 10, 11, 12, 13, 14, 15, 16, 17, 18, 19, 20, 21, 22, 23, 24, 25, 26, 27, 28, 29, 30, 31, 32, 33, 36], [0, 1, 2, 3, 4, 5, 6, 7, 8, 9, 10, 11, 12, 13, 14, 15, 16, 17, 18, 19, 20, 21, 22, 23, 24, 25, 26, 27, 28, 29, 30, 31, 32, 33], [0, 1, 2, 3, 4, 5, 6, 7, 8, 9, 10, 11, 12, 13, 14, 15, 16, 17, 18, 19, 20, 21, 22, 23, 24, 25, 26, 27, 28, 29, 30, 31, 32, 33, 38], [0, 1, 2, 3, 4, 5, 6, 7, 8, 9, 10, 11, 12, 13, 14, 15, 16, 17, 18, 19, 20, 21, 22, 23, 24, 25, 26, 27, 28, 29, 30, 31, 32, 33, 36, 37, 38, 39], [0, 1, 2, 3, 4, 5, 6, 7, 8, 9, 10, 11, 12, 13, 14, 15, 16, 17, 18, 19, 20, 21, 22, 23, 24, 25, 26, 27, 28, 29, 30, 31, 32, 33, 36, 37, 38, 39, 40], [0, 1, 2, 3, 4, 5, 6, 7, 8, 9, 10, 11, 12, 13, 14, 15, 16, 17, 18, 19, 20, 21, 22, 23, 24, 25, 26, 27, 28, 29, 30, 31, 32, 33, 36, 37, 38, 39, 40, 41], [0, 1, 2, 3, 4, 5, 6, 7, 8, 9, 10, 11, 12, 13, 14, 15, 16, 17, 18, 19, 20, 21, 22, 23, 24, 25, 26, 27, 28, 29, 30, 31, 32, 33, 34, 35, 36, 37, 38, 39, 40, 41, 42], [0, 1, 2, 3, 4, 5, 6, 7, 8, 9, 10, 11, 12, 13, 14, 15, 16, 17, 18, 19, 20, 21, 22, 23, 24, 25, 26, 27, 28, 29, 30, 31, 32, 33, 34, 35, 36, 37, 38, 39, 40, 41, 42, 43], [0, 1, 2, 3, 4, 5, 6, 7, 8, 9, 10, 11, 12, 13, 14, 15, 16, 17, 18, 19, 20, 21, 22, 23, 24, 25, 26, 27, 28, 29, 30, 31, 32, 33, 34, 35, 36, 37, 38, 39, 40, 41, 42, 43, 44], [0, 1, 2, 3, 4, 5, 6, 7, 8, 9, 10, 11, 12, 13, 14, 15, 16, 17, 18, 19, 20, 21, 22, 23, 24, 25, 26, 27, 28, 29, 30, 31, 32, 33, 34, 35, 36, 37, 38, 39, 40, 41, 42, 43, 44, 45]])
 (.cond (.t 81) (Qr ([Qc 2 (.bool false)])
 (.ret)) (.skip)))))
 (.reg [Qk 82 .add 31 1, Qm 31 82])))))))
 (Qr ([Qc 2 (.bool true)])
 (.ret))))), [.mov (.t 2)]) := by kernel_rfl
theorem m_copyin_ok : compF Tryz.prog 22 = some (19, Qr ([Qp 2 (.mov (.c (.nilS)))])
 (Qr ([Qp 3 (.mov (.c (.nilS)))])
 (.seq (Qr ([Qm 6 0, Qn 7 6, Qp 8 (.mov (Qi 0))])
 (.block 0 (.loop (Qr ([Qb 9 .lss 8 7])
 (.seq (.cond (.t 9) (.skip) (.exit 0))
 (.seq (.block 1 (Qr ([Qx 10 1 6 8, Ql 11 1 10, Qm 5 11])
 (.reg [Qm 12 3, Qm 13 5, Qw 14 (.app 41 1 2 (.c (.nilS)) (.t 13)), Qw 15 (.buildS 29 1 (.nilS) 1 [(0, (.t 14))]), Qw 16 (.app 29 1 24 (.t 12) (.t 15)), Qm 3 16])))
 (.reg [Qk 17 .add 8 1, Qm 8 17])))))))
 (Qr ([Qm 18 3, Qm 2 18])
 (.ret)))), [.mov (.t 2)]) := by kernel_rfl
/-- Words as canonical cells. -/
def numC (l : List Int) : List Canon := l.map fun v => ⟨0, v, 0, 0⟩
theorem numC_len (l : List Int) : (numC l).length = l.length := by simp [numC]
theorem numC_at {l : List Int} {k : Nat} (h : k < l.length) : (numC l)[k]! = ⟨0, l[k]!, 0, 0⟩ := by simp [numC, h]
theorem numC_zero : numC [] = [] := rfl
theorem numC_snoc {l : List Int} {k : Nat} (h : k < l.length) : numC (l.take k) ++ [⟨0, l[k]!, 0, 0⟩] = numC (l.take (k + 1)) := by rw [take_snoc h]; simp [numC]
set_option maxHeartbeats 4000000 in
theorem cell_fn (v : Int) : Fnc Tryz.prog 84 [canonV ⟨0, v, 0, 0⟩] (fun x obs => x = .bool true ∧ obs = []) := by
  refine zgo m_cell_ok fun W S => ?_
  exact zrt m_cell_ok
set_option maxHeartbeats 4000000 in
theorem cells_fn (l : List Int) (n : Int) (hb : l.length ≤ 140737488355328) (hn : (l.length : Int) ≤ n) : Fnc Tryz.prog 33 [.sl false 4 ((numC l).map canonV), .int .i64 n] (fun x obs => x = .bool true ∧ obs = []) := by
  have hl := numC_len l
  refine zgo m_cells_ok fun W S => ?_
  refine ev_loopK [0, 1, 7, 8] (fun p : {p : Nat // p ≤ l.length} => [(9, .int .i64 p.1)]) (fun _ => []) (fun p => l.length - p.1) (⟨0, by simp⟩) 0 (by simp only [go_sem]; rfl) ?_ (by first | rfl | (simp only [go_sem]; done)) (by simp) (by first | rfl | (simp only [go_sem]; done)) (by first | rfl | (simp only [go_sem]; done)) (by first | rfl | (simp only [go_sem]; done)) ?_
  · (simp only [go_sem]; (try simp []); done)
  intro J hJ
  rintro ⟨k, hk0⟩
  by_cases hlt : k < l.length
  · have ha := numC_at hlt
    refine zsx ha ?_
    refine zcd (cell_fn l[k]!) ?_
    exact zn0 (hJ _ (⟨k + 1, hlt⟩) (by first | omega | (dsimp only; omega) | (simp; omega))) hlt
  · obtain rfl : k = l.length := by omega
    refine zst ?_
    exact zrt m_cells_ok
abbrev openN : V := .agg [.int .i64 (-1), .int .i64 0, .bool false]
abbrev csV (w : List Int) : V := .sl false 4 ((numC w).map canonV)
abbrev fsV (w0 w1 : List Int) : V := .agg [.sl false 1 [csV w0, csV w1], .sl false 3 [openN, openN, openN, openN, openN, openN, openN, openN]]
attribute [local irreducible] numC
set_option maxRecDepth 100000 in
set_option maxHeartbeats 16000000 in
theorem fval_fn (w0 w1 : List Int) (h0 : w0.length ≤ 64) (h1 : w1.length ≤ 64) : Fnc Tryz.prog 34 [fsV w0 w1] (fun x obs => x = .bool true ∧ obs = []) := by
  refine zgo m_fval_ok fun W S => ?_
  refine ev_unroll 3 ?_
  refine zst ?_
  refine zcd (cells_fn w0 64 (by omega) (by omega)) ?_
  refine zcd (cells_fn w1 64 (by omega) (by omega)) ?_
  refine ev_unroll 9 ?_
  refine zst ?_
  exact zrt m_fval_ok
abbrev wsV (w : List Int) : V := .sl false 1 (u16s w)
set_option maxRecDepth 100000 in
set_option maxHeartbeats 16000000 in
theorem copyin_fn (w0 w1 : List Int) (h0 : w0.length ≤ 64) (h1 : w1.length ≤ 64) : Fnc Tryz.prog 22 [.sl false 1 [wsV w0, wsV w1]] (fun x obs => x = .sl false 1 [wsV w0, wsV w1] ∧ obs = []) := by
  refine Fnc.low ?_
  refine zgo m_copyin_ok fun W S => ?_
  refine ev_unroll 3 ?_
  refine zst ?_
  refine ret m_copyin_ok [] ?_; (first | (simp only [go_sem]; done) | (simp only [go_sem]; ((try dsimp only); (repeat' (refine And.intro ?_ ?_)) <;> first | with_reducible rfl | (simp only [go_sem]; done) | (simp only [go_sem]; rfl) | (simp only [go_sem, wsV]; done) | (simp only [wsV]; (try simp only [go_sem]); first | done | rfl) | (simp only [go_sem]; simp [wsV]; done) | (simp [wsV]; done) | rfl)))
end Go.Proofs.YtkfpcgkmemfdaaaGreat
/- No outputs are in order. -/
namespace Go.Proofs.YtkfpcgkmemfdaaaGreat
open Go Go.RowKit Rdn Rdn.Dp
set_option linter.unusedVariables false
set_option linter.unusedSimpArgs false
theorem m_ord0_ok : compF Tryz.prog 35 = some (33, Qr ([Qc 2 (.bool false)])
 (.seq (Qr ([Qm 5 0, Qn 6 5, Qp 7 (.mov (Qi 0))])
 (.block 0 (.loop (Qr ([Qb 8 .lss 7 6])
 (.seq (.cond (.t 8) (.skip) (.exit 0))
 (.seq (.block 1 (Qr ([Qm 9 7, Qx 10 3 5 7, QL 11 3 10, Qw 4 (.alloc 45 (.agg [.int .i64 0, .int .i64 0, .nilS])), Qm 3 9, Qs 3 4 11])
 (Qr ([Qf 12 0 0 4, Ql 13 1 12, Qm 14 3, Qb 15 .neq 13 14, Qm 16 15, Q0 17 16 (.fieldA 1 1 (.t 4)), Q0 18 16 (.load false 1 (.t 17)), Q0 19 16 (.bin 0 .lss (.t 18) (Qi 0)), Qt 20 16 19, Qm 21 20, Q0 22 21 (.fieldA 1 1 (.t 4)), Q0 23 21 (.load false 1 (.t 22)), Q0 24 21 (.bin 0 .geq (.t 23) (Qi 2)), Qt 25 21 24, Qm 26 25, Q0 27 26 (.fieldA 2 2 (.t 4)), Q0 28 26 (.load false 1 (.t 27)), Q0 29 26 (.len (.t 28)), Q0 30 26 (.bin 0 .gtr (.t 29) (Qi 16)), Qt 31 26 30])
 (.cond (.t 31) (Qr ([Qc 2 (.bool false)])
 (.ret)) (.skip)))))
 (.reg [Qk 32 .add 7 1, Qm 7 32])))))))
 (Qr ([Qc 2 (.bool true)])
 (.ret))), [.mov (.t 2)]) := by kernel_rfl
set_option maxHeartbeats 4000000 in
theorem rord0_fn : Fnc Tryz.prog 35 [.sl false 3 []] (fun x obs => x = .bool true ∧ obs = []) := by
  refine zgo m_ord0_ok fun W S => ?_
  refine ev_unroll 1 ?_
  refine zst ?_
  exact zrt m_ord0_ok
end Go.Proofs.YtkfpcgkmemfdaaaGreat
/- The outside at its beginning. -/
namespace Go.Proofs.YtkfpcgkmemfdaaaGreat
open Go Go.RowKit Rdn Rdn.Dp
set_option linter.unusedVariables false
set_option linter.unusedSimpArgs false
theorem m_fnew_ok : compF Tryz.prog 105 = some (55, Qr ([Qw 2 (.alloc 34 (.agg [.nilS, .nilS])), Qp 3 (.mov (Qi 0))])
 (Qr ([Qw 11 (.mkS 47 3 24 (.agg [.int .i64 0, .int .i64 0, .bool false]) (Qi 8) (Qi 8)), Qw 12 (.build none [.nilS, .nilS] [(1, (.t 11))]), Qw 4 (.alloc 34 (.agg [.nilS, .nilS])), Qs 2 4 12])
 (.seq (Qr ([Qf 13 1 1 4, Ql 14 1 13, Qn 15 14, Qp 16 (.mov (Qi 0))])
 (.block 0 (.loop (Qr ([Qb 17 .lss 16 15])
 (.seq (.cond (.t 17) (.skip) (.exit 0))
 (.seq (.block 1 (Qr ([Qm 18 16, Qm 5 18])
 (.reg [Qf 19 1 1 4, Ql 20 1 19, Qm 21 5, Qx 22 3 20 21, Qf 23 0 0 22, ⟨none, none, (.m (.store 1 (.t 23) (Qi (-1))))⟩])))
 (.reg [Qk 24 .add 16 1, Qm 16 24])))))))
 (.seq (Qr ([Qm 25 0, Qn 26 25, Qp 27 (.mov (Qi 0))])
 (.block 2 (.loop (Qr ([Qb 28 .lss 27 26])
 (.seq (.cond (.t 28) (.skip) (.exit 2))
 (.seq (.block 3 (Qr ([Qx 29 1 25 27, Ql 30 1 29, Qm 7 30])
 (Qr ([Qp 8 (.mov (.c (.nilS)))])
 (.seq (Qr ([Qm 31 7, Qn 32 31, Qp 33 (.mov (Qi 0))])
 (.block 4 (.loop (Qr ([Qb 34 .lss 33 32])
 (.seq (.cond (.t 34) (.skip) (.exit 4))
 (.seq (.block 5 (Qr ([Qx 35 1 31 33, Ql 36 1 35, Qm 10 36])
 (.reg [Qm 37 8, Qm 38 10, Qw 39 (.build none [.int .u8 0, .int .u16 0, .int .i64 0, .int .i64 0] [(1, (.t 38))]), Qw 40 (.buildS 43 4 (.agg [.int .u8 0, .int .u16 0, .int .i64 0, .int .i64 0]) 1 [(0, (.t 39))]), Qw 41 (.app 43 4 24 (.t 37) (.t 40)), Qm 8 41])))
 (.reg [Qk 42 .add 33 1, Qm 33 42])))))))
 (.reg [Qf 43 0 0 4, Ql 44 1 43, Qm 45 8, Qw 46 (.buildS 22 1 (.nilS) 1 [(0, (.t 45))]), Qw 47 (.app 22 1 24 (.t 44) (.t 46)), Qf 48 0 0 4, Qs 1 48 47])))))
 (.reg [Qk 49 .add 27 1, Qm 27 49])))))))
 (.seq (Qr ([QL 50 2 4, Qq 51 34 [(.t 50)], Qp 52 (.un .not (.t 51))])
 (.cond (.t 52) (Qr ([Qw 53 (.build none [.nilS, .nilS] []), Qs 2 2 53, Qp 3 (.mov (Qi 3))])
 (.ret)) (.skip)))
 (Qr ([QL 54 2 4, Qs 2 2 54, Qp 3 (.mov (Qi 0))])
 (.ret)))))), [.load true 2 (.t 2), .mov (.t 3)]) := by kernel_rfl
theorem m_oval_ok : compF Tryz.prog 10 = some (62, Qr ([Qw 1 (.box 37 (.t 0)), Qc 2 (.bool false)])
 (.seq (Qr ([Qf 7 2 2 1, Ql 8 1 7, Qn 9 8, Qp 10 (.mov (Qi 0))])
 (.block 0 (.loop (Qr ([Qb 11 .lss 10 9])
 (.seq (.cond (.t 11) (.skip) (.exit 0))
 (.seq (.block 1 (Qr ([Qx 12 1 8 10, Ql 13 1 12, Qm 4 13])
 (Qr ([Qm 14 4, Qn 15 14, Qk 16 .gtr 15 64])
 (.cond (.t 16) (Qr ([Qc 2 (.bool false)])
 (.ret)) (.skip)))))
 (.reg [Qk 17 .add 10 1, Qm 10 17])))))))
 (.seq (Qr ([Qf 18 5 4 1, Ql 19 1 18, Qn 20 19, Qp 21 (.mov (Qi 0))])
 (.block 2 (.loop (Qr ([Qb 22 .lss 21 20])
 (.seq (.cond (.t 22) (.skip) (.exit 2))
 (.seq (.block 3 (Qr ([Qx 23 3 19 21, QL 24 3 23, Qw 6 (.alloc 45 (.agg [.int .i64 0, .int .i64 0, .nilS])), Qs 3 6 24])
 (Qr ([Qf 25 2 2 6, Ql 26 1 25, Qq 27 33 [(.t 26), (Qi 16)], Qp 28 (.un .not (.t 27))])
 (.cond (.t 28) (Qr ([Qc 2 (.bool false)])
 (.ret)) (.skip)))))
 (.reg [Qk 29 .add 21 1, Qm 21 29])))))))
 (Qr ([Qf 30 0 0 1, Ql 31 1 30, Qn 32 31, Qk 33 .leq 32 64, Qm 34 33, Q1 35 34 (.fieldA 1 1 (.t 1)), Q1 36 34 (.load false 1 (.t 35)), Q1 37 34 (.len (.t 36)), Q1 38 34 (.bin 0 .leq (.t 37) (Qi 64)), Qu 39 34 38, Qm 40 39, Q1 41 40 (.fieldA 2 2 (.t 1)), Q1 42 40 (.load false 1 (.t 41)), Q1 43 40 (.len (.t 42)), Q1 44 40 (.bin 0 .leq (.t 43) (Qi 2)), Qu 45 40 44, Qm 46 45, Q1 47 46 (.fieldA 3 3 (.t 1)), Q1 48 46 (.load true 2 (.t 47)), ⟨(some 49), (some (46, true)), (.call 34 [(.t 48)])⟩, Qu 50 46 49, Qm 51 50, Q1 52 51 (.fieldA 5 4 (.t 1)), Q1 53 51 (.load false 1 (.t 52)), Q1 54 51 (.len (.t 53)), Q1 55 51 (.bin 0 .leq (.t 54) (Qi 200)), Qu 56 51 55, Qm 57 56, Q1 58 57 (.fieldA 5 4 (.t 1)), Q1 59 57 (.load false 1 (.t 58)), ⟨(some 60), (some (57, true)), (.call 35 [(.t 59)])⟩, Qu 61 57 60, Qm 2 61])
 (.ret)))), [.mov (.t 2)]) := by kernel_rfl

set_option maxRecDepth 100000 in
set_option maxHeartbeats 16000000 in
theorem fnew_fn (w0 w1 : List Int) (h0 : w0.length ≤ 64) (h1 : w1.length ≤ 64) : Fnc Tryz.prog 105 [.sl false 1 [wsV w0, wsV w1]] (fun x obs => x = .tup [fsV w0 w1, .int .i64 0] ∧ obs = []) := by
  refine Fnc.low ?_
  refine zgo m_fnew_ok fun W S => ?_
  refine ev_unroll 9 ?_
  refine zst ?_
  refine ev_unroll 3 ?_
  refine zst ?_
  refine ev_adopt (i := 8) (e := 43) (s := 4) rfl (by decide) ?_
  refine ev_loopK [2, 4, 25, 26, 27, 31, 32] (fun p : {p : Nat // p ≤ w0.length} => [(8, .own 3 p.1), (33, .int .i64 p.1)]) (fun p => [⟨.box false 34, true, 0, .agg [.nilS, .nilS]⟩, ⟨.row 47, true, 0, .arr 3 [openN, openN, openN, openN, openN, openN, openN, openN]⟩, ⟨.box false 34, true, 0, .agg [.nilS, .own 1 0]⟩, ⟨.row 43, true, p.1, .arr 4 ((numC (w0.take p.1)).map canonV)⟩]) (fun p => w0.length - p.1) (⟨0, by simp⟩) 4 (by simp only [go_sem]; rfl) ?_ (by first | rfl | (simp only [go_sem]; done) | (simp only [go_sem]; simp [numC_zero]; done)) (by simp) (by first | rfl | (simp only [go_sem]; done)) (by first | rfl | (simp only [go_sem]; done)) (by first | rfl | (simp only [go_sem]; done) | (simp only [numC_zero]; (try simp only [go_sem]); first | done | rfl)) ?_
  · (simp only [go_sem]; (try simp [numC_zero]); done)
  intro J hJ
  rintro ⟨k, hk0⟩
  by_cases hlt : k < w0.length
  · have hl := numC_len (w0.take k)
    have hl2 : (w0.take k).length = k := by rw [List.length_take]; omega
    have hs := numC_snoc hlt
    refine zst ?_
    exact zn4 (hJ _ (⟨k + 1, hlt⟩) (by first | omega | (dsimp only; omega) | (simp; omega))) hs
  obtain rfl : k = w0.length := by omega
  refine zst ?_
  refine ev_adopt (i := 8) (e := 43) (s := 4) rfl (by decide) ?_
  refine ev_loopK [2, 4, 25, 26, 27, 31, 32] (fun p : {p : Nat // p ≤ w1.length} => [(8, .own 6 p.1), (33, .int .i64 p.1)]) (fun p => [⟨.box false 34, true, 0, .agg [.nilS, .nilS]⟩, ⟨.row 47, true, 0, .arr 3 [openN, openN, openN, openN, openN, openN, openN, openN]⟩, ⟨.box false 34, true, 0, .agg [.own 5 0, .own 1 0]⟩, ⟨.row 43, false, w0.length, .arr 4 ((numC w0).map canonV)⟩, ⟨.row 22, true, 0, .arr 1 [.sl true 4 ((numC w0).map canonV)]⟩, ⟨.row 22, true, 0, .arr 1 [.sl true 4 ((numC w0).map canonV)]⟩, ⟨.row 43, true, p.1, .arr 4 ((numC (w1.take p.1)).map canonV)⟩]) (fun p => w1.length - p.1) (⟨0, by simp⟩) 7 (by simp only [go_sem]; rfl) ?_ (by first | rfl | (simp only [go_sem]; done) | (simp only [go_sem]; simp [numC_zero]; done)) (by simp) (by first | rfl | (simp only [go_sem]; done)) (by first | rfl | (simp only [go_sem]; done)) (by first | rfl | (simp only [go_sem]; done) | (simp only [numC_zero]; (try simp only [go_sem]); first | done | rfl)) ?_
  · (simp only [go_sem]; (try simp [numC_zero]); done)
  intro J hJ
  rintro ⟨k, hk0⟩
  by_cases hlt : k < w1.length
  · have hl := numC_len (w1.take k)
    have hl2 : (w1.take k).length = k := by rw [List.length_take]; omega
    have hs := numC_snoc hlt
    refine zst ?_
    exact zn7 (hJ _ (⟨k + 1, hlt⟩) (by first | omega | (dsimp only; omega) | (simp; omega))) hs
  obtain rfl : k = w1.length := by omega
  refine zst ?_
  refine zcd (fval_fn w0 w1 h0 h1) ?_
  exact zrt m_fnew_ok
set_option maxRecDepth 100000 in
set_option maxHeartbeats 16000000 in
theorem oval_fn (c r i0 i1 w0 w1 : List Int) (hc : c.length ≤ 64) (hr : r.length ≤ 64) (hi0 : i0.length ≤ 64) (hi1 : i1.length ≤ 64) (h0 : w0.length ≤ 64) (h1 : w1.length ≤ 64) : Fnc Tryz.prog 10 [.agg [wsV c, wsV r, .sl false 1 [wsV i0, wsV i1], fsV w0 w1, .nilS]] (fun x obs => x = .bool true ∧ obs = []) := by
  have fo := rord0_fn
  refine zgo m_oval_ok fun W S => ?_
  refine ev_unroll 3 ?_
  refine zst ?_
  refine ev_unroll 1 ?_
  refine zst ?_
  refine zcd (fval_fn w0 w1 h0 h1) ?_
  refine zcd (fo) ?_
  exact zrt m_oval_ok
end Go.Proofs.YtkfpcgkmemfdaaaGreat
/- The outside, drawn. -/
namespace Go.Proofs.YtkfpcgkmemfdaaaGreat
open Go Go.RowKit Rdn Rdn.Dp
set_option linter.unusedVariables false
set_option linter.unusedSimpArgs false
theorem m_obeg_ok : compF Tryz.prog 73 = some (35, Qr ([Qw 8 (.alloc 37 (.agg [.nilS, .nilS, .nilS, .agg [.nilS, .nilS], .nilS])), Qp 9 (.mov (Qi 0))])
 (Qr ([Qm 14 0, Qq 15 105 [(.t 14)], Qm 13 15, Qe 16 13 0, Qe 17 13 1, Qw 10 (.alloc 34 (.agg [.nilS, .nilS])), Qs 2 10 16, Qm 11 17])
 (.seq (Qr ([Qm 18 11, Qk 19 .neq 18 0])
 (.cond (.t 19) (Qr ([Qw 20 (.build none [.nilS, .nilS, .nilS, .agg [.nilS, .nilS], .nilS] []), Qm 21 11, Qs 6 8 20, Qm 9 21])
 (.ret)) (.skip)))
 (.seq (.dreg [Qm 22 2, Qw 23 (.app 41 1 2 (.c (.nilS)) (.t 22)), Qm 24 3, Qw 25 (.app 41 1 2 (.c (.nilS)) (.t 24)), Qm 26 1, Qq 27 22 [(.t 26)], QL 28 2 10, Qw 29 (.build none [.nilS, .nilS, .nilS, .agg [.nilS, .nilS], .nilS] [(0, (.t 23)), (1, (.t 25)), (2, (.t 27)), (3, (.t 28))]), Qw 12 (.alloc 37 (.agg [.nilS, .nilS, .nilS, .agg [.nilS, .nilS], .nilS])), Qs 6 12 29] [[], [0], [], [0, 1, 2], [], [0, 1, 2, 3, 4], [], [0, 1, 2, 3, 4, 5, 6], [], [0, 1, 2, 3, 4, 5, 6, 7, 8]])
 (.seq (Qr ([QL 30 6 12, Qq 31 10 [(.t 30)], Qp 32 (.un .not (.t 31))])
 (.cond (.t 32) (Qr ([Qw 33 (.build none [.nilS, .nilS, .nilS, .agg [.nilS, .nilS], .nilS] []), Qs 6 8 33, Qp 9 (.mov (Qi 3))])
 (.ret)) (.skip)))
 (Qr ([QL 34 6 12, Qs 6 8 34, Qp 9 (.mov (Qi 0))])
 (.ret)))))), [.load true 6 (.t 8), .mov (.t 9)]) := by kernel_rfl
theorem m_outs_ok : compF Tryz.prog 20 = some (24, Qr ([Qw 2 (.alloc 37 (.agg [.nilS, .nilS, .nilS, .agg [.nilS, .nilS], .nilS]))])
 (Qr ([Qm 6 0, Qq 7 74 [(.t 6), (Qi 5)], Qm 8 0, Qq 9 74 [(.t 8), (Qi 3)], Qw 10 (.buildS 29 1 (.nilS) 2 [(0, (.t 7)), (1, (.t 9))]), Qm 11 0, Qq 12 74 [(.t 11), (Qi 8)], Qm 13 0, Qq 14 74 [(.t 13), (Qi 4)], Qw 15 (.buildS 29 1 (.nilS) 2 [(0, (.t 12)), (1, (.t 14))]), Qm 16 0, Qq 17 74 [(.t 16), (Qi 5)], Qm 18 0, Qq 19 74 [(.t 18), (Qi 5)], Qq 20 73 [(.t 10), (.t 15), (.t 17), (.t 19)], Qm 5 20, Qe 21 5 0, Qe 22 5 1, Qw 3 (.alloc 37 (.agg [.nilS, .nilS, .nilS, .agg [.nilS, .nilS], .nilS])), Qs 6 3 21, Qm 4 22])
 (Qr ([QL 23 6 3, Qs 6 2 23])
 (.ret))), [.load true 6 (.t 2)]) := by kernel_rfl
set_option maxHeartbeats 8000000 in
theorem obeg_fn (c r i0 i1 w0 w1 : List Int) (hc : c.length ≤ 64) (hr : r.length ≤ 64) (hi0 : i0.length ≤ 64) (hi1 : i1.length ≤ 64) (h0 : w0.length ≤ 64) (h1 : w1.length ≤ 64) : Fnc Tryz.prog 73 [.sl false 1 [wsV w0, wsV w1], .sl false 1 [wsV i0, wsV i1], wsV c, wsV r] (fun x obs => x = .tup [.agg [wsV c, wsV r, .sl false 1 [wsV i0, wsV i1], fsV w0 w1, .nilS], .int .i64 0] ∧ obs = []) := by
  refine Fnc.low ?_
  refine zgo m_obeg_ok fun W S => ?_
  refine zcd (fnew_fn w0 w1 h0 h1) ?_
  refine zcd (copyin_fn i0 i1 hi0 hi1) ?_
  refine zcd (oval_fn c r i0 i1 w0 w1 hc hr hi0 hi1 h0 h1) ?_
  exact zrt m_obeg_ok
set_option maxHeartbeats 8000000 in
theorem outs_fn (l : List Int) (k : Nat) (hk : k ≤ l.length) : FncM Tryz.prog 20 64 (deckV l k) [] (fun x obs d => x = .agg [wsV (dws l (dws l (dws l (dws l (dws l k 5).2 3).2 8).2 4).2 5).1, wsV (dws l (dws l (dws l (dws l (dws l (dws l k 5).2 3).2 8).2 4).2 5).2 5).1, .sl false 1 [wsV (dws l (dws l (dws l k 5).2 3).2 8).1, wsV (dws l (dws l (dws l (dws l k 5).2 3).2 8).2 4).1], fsV (dws l k 5).1 (dws l (dws l k 5).2 3).1, .nilS] ∧ obs = [] ∧ d = deckV l (dws l (dws l (dws l (dws l (dws l (dws l k 5).2 3).2 8).2 4).2 5).2 5).2) := by
  refine FncM.low ?_
  have k1 := dws_le hk 5
  have n1 := dws_len (l := l) (k := k) (n := 5) (by omega)
  have f1 := words_fn l k 5 hk (by omega) (by omega)
  generalize dws l k 5 = q1 at k1 n1 f1
  have k2 := dws_le k1 3
  have n2 := dws_len (l := l) (k := q1.2) (n := 3) (by omega)
  have f2 := words_fn l q1.2 3 k1 (by omega) (by omega)
  generalize dws l q1.2 3 = q2 at k2 n2 f2
  have k3 := dws_le k2 8
  have n3 := dws_len (l := l) (k := q2.2) (n := 8) (by omega)
  have f3 := words_fn l q2.2 8 k2 (by omega) (by omega)
  generalize dws l q2.2 8 = q3 at k3 n3 f3
  have k4 := dws_le k3 4
  have n4 := dws_len (l := l) (k := q3.2) (n := 4) (by omega)
  have f4 := words_fn l q3.2 4 k3 (by omega) (by omega)
  generalize dws l q3.2 4 = q4 at k4 n4 f4
  have k5 := dws_le k4 5
  have n5 := dws_len (l := l) (k := q4.2) (n := 5) (by omega)
  have f5 := words_fn l q4.2 5 k4 (by omega) (by omega)
  generalize dws l q4.2 5 = q5 at k5 n5 f5
  have n6 := dws_len (l := l) (k := q5.2) (n := 5) (by omega)
  have f6 := words_fn l q5.2 5 k5 (by omega) (by omega)
  generalize dws l q5.2 5 = q6 at n6 f6
  refine zgM m_outs_ok fun W S b0 hb0 => ?_
  refine zcm (f1) ?_
  refine zcm (f2) ?_
  refine zcm (f3) ?_
  refine zcm (f4) ?_
  refine zcm (f5) ?_
  refine zcm (f6) ?_
  refine evr_calmA ?_; refine zev ?_
  refine zcd (obeg_fn q5.1 q6.1 q3.1 q4.1 q1.1 q2.1 (by omega) (by omega) (by omega) (by omega) (by omega) (by omega)) ?_
  exact zrm hb0 m_outs_ok
end Go.Proofs.YtkfpcgkmemfdaaaGreat
