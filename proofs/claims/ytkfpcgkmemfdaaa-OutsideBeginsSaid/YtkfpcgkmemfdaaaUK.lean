/- F1, F2, K1, K2, O0, K3, K4, in one text. -/
import Derived.Test.YtkfpcgkmemfdaaaDz
import Derived.Test.YtkfpcgkmemfdaaaZt
import Derived.Test.YtkfpcgkmemfdaaaDd
/- The deck: numbers drawn out of a list. -/
namespace Go.Proofs.Ytkfpcgkmemfdaaa
open Go Go.RowKit Rdn Rdn.Dp
set_option linter.unusedVariables false
set_option linter.unusedSimpArgs false
def m_rmod : MC := .seq (.reg [⟨(some 4), none, (.p (.mov (.c (.int .i64 0))))⟩])
 (.seq (.reg [⟨(some 6), none, (.p (.mov (.t 0)))⟩, ⟨(some 7), none, (.p (.mov (.t 1)))⟩, ⟨(some 8), none, (.p (.bin 0 .rem (.t 6) (.t 7)))⟩, ⟨(some 5), none, (.p (.mov (.t 8)))⟩])
 (.seq (.seq (.reg [⟨(some 9), none, (.p (.mov (.t 5)))⟩, ⟨(some 10), none, (.p (.bin 0 .lss (.t 9) (.c (.int .i64 0))))⟩])
 (.cond (.t 10) (.reg [⟨(some 11), none, (.p (.mov (.t 5)))⟩, ⟨(some 12), none, (.p (.mov (.t 1)))⟩, ⟨(some 13), none, (.p (.bin 0 .add (.t 11) (.t 12)))⟩, ⟨(some 5), none, (.p (.mov (.t 13)))⟩]) (.skip)))
 (.seq (.reg [⟨(some 14), none, (.p (.mov (.t 5)))⟩, ⟨(some 4), none, (.p (.mov (.t 14)))⟩])
 (.ret))))
theorem m_rmod_ok : compF Try.prog 55 = some (15, m_rmod, [.mov (.t 4)]) := by kernel_rfl
def m_mmod : MC := .seq (.reg [⟨(some 4), none, (.p (.mov (.c (.int .i64 0))))⟩])
 (.seq (.reg [⟨(some 5), none, (.p (.mov (.t 0)))⟩, ⟨(some 6), none, (.p (.mov (.t 1)))⟩, ⟨(some 7), none, (.call 55 [(.t 5), (.t 6)])⟩, ⟨(some 4), none, (.p (.mov (.t 7)))⟩])
 (.ret))
theorem m_mmod_ok : compF Try.prog 21 = some (8, m_mmod, [.mov (.t 4)]) := by kernel_rfl
def m_next : MC := .seq (.reg [⟨(some 4), none, (.p (.mov (.c (.int .i64 0))))⟩])
 (.seq (.seq (.dreg [⟨(some 5), none, (.p (.mov (.t 0)))⟩, ⟨(some 6), none, (.p (.nilc (.t 5)))⟩, ⟨(some 7), none, (.p (.fieldA 1 1 (.t 6)))⟩, ⟨(some 8), none, (.p (.load false 1 (.t 7)))⟩, ⟨(some 9), none, (.p (.mov (.t 0)))⟩, ⟨(some 10), none, (.p (.nilc (.t 9)))⟩, ⟨(some 11), none, (.p (.fieldA 0 0 (.t 10)))⟩, ⟨(some 12), none, (.p (.load false 1 (.t 11)))⟩, ⟨(some 13), none, (.p (.len (.t 12)))⟩, ⟨(some 14), none, (.p (.bin 0 .geq (.t 8) (.t 13)))⟩] [[], [0], [0, 1], [0, 1, 2], [], [4], [4, 5], [4, 5, 6], [4, 5, 6, 7], [0, 1, 2, 3, 4, 5, 6, 7, 8]])
 (.cond (.t 14) (.seq (.reg [⟨(some 4), none, (.p (.mov (.c (.int .i64 0))))⟩])
 (.ret)) (.skip)))
 (.seq (.reg [⟨(some 15), none, (.p (.mov (.t 0)))⟩, ⟨(some 16), none, (.p (.nilc (.t 15)))⟩, ⟨(some 17), none, (.p (.fieldA 1 1 (.t 16)))⟩, ⟨(some 18), none, (.p (.load false 1 (.t 17)))⟩, ⟨(some 19), none, (.p (.bin 0 .add (.t 18) (.c (.int .i64 1))))⟩, ⟨(some 20), none, (.p (.nilc (.t 15)))⟩, ⟨(some 21), none, (.p (.fieldA 1 1 (.t 20)))⟩, ⟨none, none, (.m (.store 1 (.t 21) (.t 19)))⟩])
 (.seq (.dreg [⟨(some 22), none, (.p (.mov (.t 0)))⟩, ⟨(some 23), none, (.p (.nilc (.t 22)))⟩, ⟨(some 24), none, (.p (.fieldA 0 0 (.t 23)))⟩, ⟨(some 25), none, (.p (.load false 1 (.t 24)))⟩, ⟨(some 26), none, (.p (.mov (.t 0)))⟩, ⟨(some 27), none, (.p (.nilc (.t 26)))⟩, ⟨(some 28), none, (.p (.fieldA 1 1 (.t 27)))⟩, ⟨(some 29), none, (.p (.load false 1 (.t 28)))⟩, ⟨(some 30), none, (.p (.bin 0 .sub (.t 29) (.c (.int .i64 1))))⟩, ⟨(some 31), none, (.p (.idxA 1 (.t 25) (.t 30)))⟩, ⟨(some 32), none, (.p (.load false 1 (.t 31)))⟩, ⟨(some 33), none, (.p (.mov (.t 1)))⟩, ⟨(some 34), none, (.call 21 [(.t 32), (.t 33)])⟩, ⟨(some 4), none, (.p (.mov (.t 34)))⟩] [[], [0], [0, 1], [0, 1, 2], [], [4], [4, 5], [4, 5, 6], [4, 5, 6, 7], [0, 1, 2, 3, 4, 5, 6, 7, 8], [0, 1, 2, 3, 4, 5, 6, 7, 8, 9], [], [0, 1, 2, 3, 4, 5, 6, 7, 8, 9, 10, 11], [0, 1, 2, 3, 4, 5, 6, 7, 8, 9, 10, 11, 12]])
 (.ret))))
theorem m_next_ok : compF Try.prog 32 = some (35, m_next, [.mov (.t 4)]) := by kernel_rfl
def m_new : MC := .seq (.reg [⟨(some 2), none, (.p (.mov (.c (.junk))))⟩])
 (.seq (.reg [⟨(some 3), none, (.p (.mov (.t 0)))⟩, ⟨(some 4), none, (.m (.build none [.nilS, .int .i64 0] [(0, (.t 3))]))⟩, ⟨(some 5), none, (.m (.box 72 (.t 4)))⟩, ⟨(some 2), none, (.p (.mov (.t 5)))⟩])
 (.ret))
theorem m_new_ok : compF Try.prog 11 = some (6, m_new, [.mov (.t 2)]) := by kernel_rfl
theorem tmod_neg {a n : Int} (hn : 0 < n) (h : a.tmod n < 0) : a.tmod n + n = a % n := by
  rw [Int.tmod_eq_emod] at h ⊢
  have h1 := Int.emod_nonneg a (show n ≠ 0 by omega)
  split at h
  · omega
  · rename_i hh; rw [if_neg hh]; omega
theorem tmod_pos {a n : Int} (hn : 0 < n) (h : ¬ a.tmod n < 0) : a.tmod n = a % n := by
  rw [Int.tmod_eq_emod] at h ⊢
  have h2 := Int.emod_lt_of_pos a hn
  split at h
  · rename_i hh; rw [if_pos hh]; omega
  · omega
set_option maxHeartbeats 4000000 in
theorem rmod_fn (a n : Int) (hn : 0 < n) : Fnc Try.prog 55 [.int .i64 a, .int .i64 n] (fun x obs => x = .int .i64 (a % n) ∧ obs = []) := by
  refine Fnc.wf fun hw => ?_
  simp only [V.wfs, V.wf] at hw
  have hb := inK_i64' hw.2.1
  have h1 := Int.emod_nonneg a (show n ≠ 0 by omega)
  have h2 := Int.emod_lt_of_pos a hn
  refine Fnc.intro m_rmod_ok (by simp) fun W S => ?_
  unfold m_rmod
  simp only [ents, Nat.zero_add, Nat.reduceAdd]
  by_cases h : a.tmod n < 0
  · have e := tmod_neg hn h
    refine zst ?_
    refine ret m_rmod_ok [] ?_; exact zfh e
  · have e := tmod_pos hn h
    refine zst ?_
    refine ret m_rmod_ok [] ?_; exact zfh e
set_option maxHeartbeats 4000000 in
theorem mmod_fn (a n : Int) (hn : 0 < n) : Fnc Try.prog 21 [.int .i64 a, .int .i64 n] (fun x obs => x = .int .i64 (a % n) ∧ obs = []) := by
  refine Fnc.intro m_mmod_ok (by simp) fun W S => ?_
  unfold m_mmod
  simp only [ents, Nat.zero_add, Nat.reduceAdd]
  refine zst ?_
  (first | refine callD (rmod_fn a n hn) ?_ | refine callDw (rmod_fn a n hn) ?_); simp only [go_sem]
  refine zst ?_
  refine ret m_mmod_ok [] ?_; exact zfn
theorem FncM_wf {P : Program} {f : FuncId} {T : TypeId} {d : V} {xs : List V} {R0 : V → List Ob → V → Prop} (h : d.wf → V.wfs xs → FncM P f T d xs R0) : FncM P f T d xs R0 := fun w S b0 hS cs hcs hd vs hvs => h hd.wf hvs.wfs w S b0 hS cs hcs hd vs hvs
/-- A deck with the numbers l, of which k have been drawn. -/
abbrev deckV (l : List Int) (k : Nat) : V := .agg [.sl false 1 (i64s l), .int .i64 k]
def dnx (l : List Int) (k : Nat) (n : Int) : Int := if k < l.length then l[k]! % n else 0
def dkx (l : List Int) (k : Nat) : Nat := if k < l.length then k + 1 else k
theorem dkx_le {l : List Int} {k : Nat} (h : k ≤ l.length) : dkx l k ≤ l.length := by unfold dkx; split <;> omega
theorem dnx_ge {l : List Int} {k : Nat} {n : Int} (hn : 0 < n) : 0 ≤ dnx l k n := by
  unfold dnx; split
  · exact Int.emod_nonneg _ (by omega)
  · omega
theorem dnx_lt {l : List Int} {k : Nat} {n : Int} (hn : 0 < n) : dnx l k n < n := by
  unfold dnx; split
  · exact Int.emod_lt_of_pos _ hn
  · omega
set_option maxHeartbeats 4000000 in
theorem next_fn (l : List Int) (k : Nat) (n : Int) (hk : k ≤ l.length) (hn : 0 < n) : FncM Try.prog 32 72 (deckV l k) [.int .i64 n] (fun x obs c => x = .int .i64 (dnx l k n) ∧ obs = [] ∧ c = deckV l (dkx l k)) := by
  refine FncM_wf fun hw hw2 => ?_
  simp only [V.wfs, V.wf, wfs_map, List.length_map] at hw
  have hl := hw.1.2
  refine FncM.intro m_next_ok (by simp) fun W S b0 hb0 => ?_
  unfold m_next
  simp only [ents, Nat.zero_add, Nat.reduceAdd]
  by_cases h : k < l.length
  · refine zst ?_
    (first | refine callD (mmod_fn (l[((k : Int) + 1 - 1).toNat]!) n hn) ?_ | refine callDw (mmod_fn (l[((k : Int) + 1 - 1).toNat]!) n hn) ?_); simp only [go_sem]
    refine zst ?_
    apply st_returnM hb0 m_next_ok []
    · (simp only [go_sem]; rfl)
    · (first | exact trivial | (simp; done))
    · (first | (simp [outOk]; done) | exact outOk1 rfl)
    · (simp only [go_sem]; (first | done | trivial | simp [V.resOk, V.ressOk, rowV, V.pures, V.pure, pures_appE, pures_lo, pures_sls]))
    · (first | (simp only [V.res, V.ress, rowV, List.idxOf?_nil, List.idxOf?_cons, List.getElem?_cons_zero, List.getElem?_cons_succ]; first | rfl | (simp only [go_sem]; rfl)) | rfl)
    · (first | (simp only [go_sem]; rfl) | rfl)
    · rfl
    · (simp only [go_sem]; (first | done | rfl))
    exact ⟨by simp [dnx, h], rfl, by simp [dkx, h]⟩
  · refine zst ?_
    apply st_returnM hb0 m_next_ok []
    · (simp only [go_sem]; rfl)
    · (first | exact trivial | (simp; done))
    · (first | (simp [outOk]; done) | exact outOk1 rfl)
    · (simp only [go_sem]; (first | done | trivial | simp [V.resOk, V.ressOk, rowV, V.pures, V.pure, pures_appE, pures_lo, pures_sls]))
    · (first | (simp only [V.res, V.ress, rowV, List.idxOf?_nil, List.idxOf?_cons, List.getElem?_cons_zero, List.getElem?_cons_succ]; first | rfl | (simp only [go_sem]; rfl)) | rfl)
    · (first | (simp only [go_sem]; rfl) | rfl)
    · rfl
    · (simp only [go_sem]; (first | done | rfl))
    exact ⟨by simp [dnx, h], rfl, by simp [dkx, h]⟩
set_option maxHeartbeats 4000000 in
theorem new_fn (l : List Int) : Fnc Try.prog 11 [.sl false 1 (i64s l)] (fun x obs => x = .ptr 0 0 [] 0 ∧ obs = [⟨.box false 72, true, 0, deckV l 0⟩]) := by
  refine Fnc.intro m_new_ok (by simp) fun W S => ?_
  unfold m_new
  simp only [ents, Nat.zero_add, Nat.reduceAdd]
  refine zst ?_
  apply st_returnP m_new_ok
  · (simp only [go_sem]; rfl)
  · (first | exact trivial | (simp; done))
  · rfl
  · (first | rfl | (simp only [go_sem]; done))
  exact ⟨rfl, rfl⟩
end Go.Proofs.Ytkfpcgkmemfdaaa
/- The deck: words and cells. -/
namespace Go.Proofs.Ytkfpcgkmemfdaaa
open Go Go.RowKit Rdn Rdn.Dp
set_option linter.unusedVariables false
set_option linter.unusedSimpArgs false
def m_word : MC := .seq (.reg [⟨(some 2), none, (.p (.mov (.c (.int .u16 0))))⟩])
 (.seq (.seq (.reg [⟨(some 3), none, (.p (.mov (.t 0)))⟩, ⟨(some 4), none, (.call 32 [(.t 3), (.c (.int .i64 5))])⟩])
 (.block 0 (.seq (.seq (.reg [⟨(some 6), none, (.p (.bin 0 .eql (.t 4) (.c (.int .i64 0))))⟩, ⟨(some 5), none, (.p (.mov (.t 6)))⟩])
 (.cond (.t 5) (.skip) (.seq (.reg [⟨(some 7), none, (.p (.bin 0 .eql (.t 4) (.c (.int .i64 1))))⟩, ⟨(some 5), none, (.p (.mov (.t 7)))⟩])
 (.cond (.t 5) (.skip) (.reg [⟨(some 8), none, (.p (.bin 0 .eql (.t 4) (.c (.int .i64 2))))⟩, ⟨(some 5), none, (.p (.mov (.t 8)))⟩])))))
 (.cond (.t 5) (.seq (.reg [⟨(some 9), none, (.p (.mov (.t 0)))⟩, ⟨(some 10), none, (.call 32 [(.t 9), (.c (.int .i64 8))])⟩, ⟨(some 11), none, (.p (.conv .u16 (.t 10)))⟩, ⟨(some 2), none, (.p (.mov (.t 11)))⟩])
 (.ret)) (.seq (.reg [⟨(some 13), none, (.p (.bin 0 .eql (.t 4) (.c (.int .i64 3))))⟩, ⟨(some 12), none, (.p (.mov (.t 13)))⟩])
 (.cond (.t 12) (.seq (.reg [⟨(some 14), none, (.p (.mov (.t 0)))⟩, ⟨(some 15), none, (.call 32 [(.t 14), (.c (.int .i64 3))])⟩, ⟨(some 16), none, (.p (.bin 0 .sub (.c (.int .i64 65535)) (.t 15)))⟩, ⟨(some 17), none, (.p (.conv .u16 (.t 16)))⟩, ⟨(some 2), none, (.p (.mov (.t 17)))⟩])
 (.ret)) (.skip)))))))
 (.seq (.reg [⟨(some 18), none, (.p (.mov (.t 0)))⟩, ⟨(some 19), none, (.call 32 [(.t 18), (.c (.int .i64 65536))])⟩, ⟨(some 20), none, (.p (.conv .u16 (.t 19)))⟩, ⟨(some 2), none, (.p (.mov (.t 20)))⟩])
 (.ret)))
theorem m_word_ok : compF Try.prog 81 = some (21, m_word, [.mov (.t 2)]) := by kernel_rfl
/-- A word. -/
def dwd (l : List Int) (k : Nat) : Int :=
  if dnx l k 5 = 0 ∨ dnx l k 5 = 1 ∨ dnx l k 5 = 2 then dnx l (dkx l k) 8 else if dnx l k 5 = 3 then 65535 - dnx l (dkx l k) 3 else dnx l (dkx l k) 65536
theorem dwd_b (l : List Int) (k : Nat) : 0 ≤ dwd l k ∧ dwd l k ≤ 65535 := by
  have h1 := dnx_ge (l := l) (k := dkx l k) (n := 8) (by omega)
  have h2 := dnx_lt (l := l) (k := dkx l k) (n := 8) (by omega)
  have h3 := dnx_ge (l := l) (k := dkx l k) (n := 3) (by omega)
  have h4 := dnx_lt (l := l) (k := dkx l k) (n := 3) (by omega)
  have h5 := dnx_ge (l := l) (k := dkx l k) (n := 65536) (by omega)
  have h6 := dnx_lt (l := l) (k := dkx l k) (n := 65536) (by omega)
  unfold dwd
  split
  · omega
  · split <;> omega
set_option maxHeartbeats 4000000 in
theorem word_fn (l : List Int) (k : Nat) (hk : k ≤ l.length) : FncM Try.prog 81 72 (deckV l k) [] (fun x obs c => x = .int .u16 (dwd l k) ∧ obs = [] ∧ c = deckV l (dkx l (dkx l k))) := by
  have hk1 := dkx_le hk
  have h1 := dnx_ge (l := l) (k := dkx l k) (n := 8) (by omega)
  have h2 := dnx_lt (l := l) (k := dkx l k) (n := 8) (by omega)
  have h3 := dnx_ge (l := l) (k := dkx l k) (n := 3) (by omega)
  have h4 := dnx_lt (l := l) (k := dkx l k) (n := 3) (by omega)
  have h5 := dnx_ge (l := l) (k := dkx l k) (n := 65536) (by omega)
  have h6 := dnx_lt (l := l) (k := dkx l k) (n := 65536) (by omega)
  refine FncM.intro m_word_ok (by simp) fun W S b0 hb0 => ?_
  unfold m_word
  simp only [ents, Nat.zero_add, Nat.reduceAdd]
  by_cases c0 : dnx l k 5 = 0
  · refine zst ?_
    (first | apply st_callMD (next_fn l k 5 hk (by omega)) rfl | apply evw_callM (next_fn l k 5 hk (by omega)) rfl)
    · (simp only [go_sem]; rfl)
    · rfl
    · (first | rfl | (simp only [go_sem]; done))
    · (first | rfl | (simp only [go_sem]; done) | (simp only [go_sem]; rfl))
    · (first | rfl | (simp only [go_sem]; done))
    · (first | rfl | (simp only [go_sem]; done) | (simp only [go_sem]; rfl))
    · (first | rfl | simp [V.pureT, V.pure, V.pures, pures_lo, pures_sls])
    (first | refine ev_all (fu := [(), (), (), (), (), (), (), ()]) ?_ | refine evw_all (md := []) (fu := [(), (), (), (), (), (), (), ()]) ?_); refine zev ?_
    refine zst ?_
    (first | apply st_callMD (next_fn l (dkx l k) 8 hk1 (by omega)) rfl | apply evw_callM (next_fn l (dkx l k) 8 hk1 (by omega)) rfl)
    · (simp only [go_sem]; rfl)
    · rfl
    · (first | rfl | (simp only [go_sem]; done))
    · (first | rfl | (simp only [go_sem]; done) | (simp only [go_sem]; rfl))
    · (first | rfl | (simp only [go_sem]; done))
    · (first | rfl | (simp only [go_sem]; done) | (simp only [go_sem]; rfl))
    · (first | rfl | simp [V.pureT, V.pure, V.pures, pures_lo, pures_sls])
    (first | refine ev_all (fu := [(), (), (), (), (), (), (), ()]) ?_ | refine evw_all (md := []) (fu := [(), (), (), (), (), (), (), ()]) ?_); refine zev ?_
    refine zst ?_
    apply st_returnM hb0 m_word_ok []
    · (simp only [go_sem]; rfl)
    · (first | exact trivial | (simp; done))
    · (first | (simp [outOk]; done) | exact outOk1 rfl)
    · (simp only [go_sem]; (first | done | trivial | simp [V.resOk, V.ressOk, rowV, V.pures, V.pure, pures_appE, pures_lo, pures_sls]))
    · (first | (simp only [V.res, V.ress, rowV, List.idxOf?_nil, List.idxOf?_cons, List.getElem?_cons_zero, List.getElem?_cons_succ]; first | rfl | (simp only [go_sem]; rfl)) | rfl)
    · (first | (simp only [go_sem]; rfl) | rfl)
    · rfl
    · (simp only [go_sem]; (first | done | rfl))
    exact ⟨by simp [dwd, c0], rfl, rfl⟩
  by_cases c1 : dnx l k 5 = 1
  · refine zst ?_
    (first | apply st_callMD (next_fn l k 5 hk (by omega)) rfl | apply evw_callM (next_fn l k 5 hk (by omega)) rfl)
    · (simp only [go_sem]; rfl)
    · rfl
    · (first | rfl | (simp only [go_sem]; done))
    · (first | rfl | (simp only [go_sem]; done) | (simp only [go_sem]; rfl))
    · (first | rfl | (simp only [go_sem]; done))
    · (first | rfl | (simp only [go_sem]; done) | (simp only [go_sem]; rfl))
    · (first | rfl | simp [V.pureT, V.pure, V.pures, pures_lo, pures_sls])
    (first | refine ev_all (fu := [(), (), (), (), (), (), (), ()]) ?_ | refine evw_all (md := []) (fu := [(), (), (), (), (), (), (), ()]) ?_); refine zev ?_
    refine zst ?_
    (first | apply st_callMD (next_fn l (dkx l k) 8 hk1 (by omega)) rfl | apply evw_callM (next_fn l (dkx l k) 8 hk1 (by omega)) rfl)
    · (simp only [go_sem]; rfl)
    · rfl
    · (first | rfl | (simp only [go_sem]; done))
    · (first | rfl | (simp only [go_sem]; done) | (simp only [go_sem]; rfl))
    · (first | rfl | (simp only [go_sem]; done))
    · (first | rfl | (simp only [go_sem]; done) | (simp only [go_sem]; rfl))
    · (first | rfl | simp [V.pureT, V.pure, V.pures, pures_lo, pures_sls])
    (first | refine ev_all (fu := [(), (), (), (), (), (), (), ()]) ?_ | refine evw_all (md := []) (fu := [(), (), (), (), (), (), (), ()]) ?_); refine zev ?_
    refine zst ?_
    apply st_returnM hb0 m_word_ok []
    · (simp only [go_sem]; rfl)
    · (first | exact trivial | (simp; done))
    · (first | (simp [outOk]; done) | exact outOk1 rfl)
    · (simp only [go_sem]; (first | done | trivial | simp [V.resOk, V.ressOk, rowV, V.pures, V.pure, pures_appE, pures_lo, pures_sls]))
    · (first | (simp only [V.res, V.ress, rowV, List.idxOf?_nil, List.idxOf?_cons, List.getElem?_cons_zero, List.getElem?_cons_succ]; first | rfl | (simp only [go_sem]; rfl)) | rfl)
    · (first | (simp only [go_sem]; rfl) | rfl)
    · rfl
    · (simp only [go_sem]; (first | done | rfl))
    exact ⟨by simp [dwd, c1], rfl, rfl⟩
  by_cases c2 : dnx l k 5 = 2
  · refine zst ?_
    (first | apply st_callMD (next_fn l k 5 hk (by omega)) rfl | apply evw_callM (next_fn l k 5 hk (by omega)) rfl)
    · (simp only [go_sem]; rfl)
    · rfl
    · (first | rfl | (simp only [go_sem]; done))
    · (first | rfl | (simp only [go_sem]; done) | (simp only [go_sem]; rfl))
    · (first | rfl | (simp only [go_sem]; done))
    · (first | rfl | (simp only [go_sem]; done) | (simp only [go_sem]; rfl))
    · (first | rfl | simp [V.pureT, V.pure, V.pures, pures_lo, pures_sls])
    (first | refine ev_all (fu := [(), (), (), (), (), (), (), ()]) ?_ | refine evw_all (md := []) (fu := [(), (), (), (), (), (), (), ()]) ?_); refine zev ?_
    refine zst ?_
    (first | apply st_callMD (next_fn l (dkx l k) 8 hk1 (by omega)) rfl | apply evw_callM (next_fn l (dkx l k) 8 hk1 (by omega)) rfl)
    · (simp only [go_sem]; rfl)
    · rfl
    · (first | rfl | (simp only [go_sem]; done))
    · (first | rfl | (simp only [go_sem]; done) | (simp only [go_sem]; rfl))
    · (first | rfl | (simp only [go_sem]; done))
    · (first | rfl | (simp only [go_sem]; done) | (simp only [go_sem]; rfl))
    · (first | rfl | simp [V.pureT, V.pure, V.pures, pures_lo, pures_sls])
    (first | refine ev_all (fu := [(), (), (), (), (), (), (), ()]) ?_ | refine evw_all (md := []) (fu := [(), (), (), (), (), (), (), ()]) ?_); refine zev ?_
    refine zst ?_
    apply st_returnM hb0 m_word_ok []
    · (simp only [go_sem]; rfl)
    · (first | exact trivial | (simp; done))
    · (first | (simp [outOk]; done) | exact outOk1 rfl)
    · (simp only [go_sem]; (first | done | trivial | simp [V.resOk, V.ressOk, rowV, V.pures, V.pure, pures_appE, pures_lo, pures_sls]))
    · (first | (simp only [V.res, V.ress, rowV, List.idxOf?_nil, List.idxOf?_cons, List.getElem?_cons_zero, List.getElem?_cons_succ]; first | rfl | (simp only [go_sem]; rfl)) | rfl)
    · (first | (simp only [go_sem]; rfl) | rfl)
    · rfl
    · (simp only [go_sem]; (first | done | rfl))
    exact ⟨by simp [dwd, c2], rfl, rfl⟩
  by_cases c3 : dnx l k 5 = 3
  · refine zst ?_
    (first | apply st_callMD (next_fn l k 5 hk (by omega)) rfl | apply evw_callM (next_fn l k 5 hk (by omega)) rfl)
    · (simp only [go_sem]; rfl)
    · rfl
    · (first | rfl | (simp only [go_sem]; done))
    · (first | rfl | (simp only [go_sem]; done) | (simp only [go_sem]; rfl))
    · (first | rfl | (simp only [go_sem]; done))
    · (first | rfl | (simp only [go_sem]; done) | (simp only [go_sem]; rfl))
    · (first | rfl | simp [V.pureT, V.pure, V.pures, pures_lo, pures_sls])
    (first | refine ev_all (fu := [(), (), (), (), (), (), (), ()]) ?_ | refine evw_all (md := []) (fu := [(), (), (), (), (), (), (), ()]) ?_); refine zev ?_
    refine zst ?_
    (first | apply st_callMD (next_fn l (dkx l k) 3 hk1 (by omega)) rfl | apply evw_callM (next_fn l (dkx l k) 3 hk1 (by omega)) rfl)
    · (simp only [go_sem]; rfl)
    · rfl
    · (first | rfl | (simp only [go_sem]; done))
    · (first | rfl | (simp only [go_sem]; done) | (simp only [go_sem]; rfl))
    · (first | rfl | (simp only [go_sem]; done))
    · (first | rfl | (simp only [go_sem]; done) | (simp only [go_sem]; rfl))
    · (first | rfl | simp [V.pureT, V.pure, V.pures, pures_lo, pures_sls])
    (first | refine ev_all (fu := [(), (), (), (), (), (), (), ()]) ?_ | refine evw_all (md := []) (fu := [(), (), (), (), (), (), (), ()]) ?_); refine zev ?_
    refine zst ?_
    apply st_returnM hb0 m_word_ok []
    · (simp only [go_sem]; rfl)
    · (first | exact trivial | (simp; done))
    · (first | (simp [outOk]; done) | exact outOk1 rfl)
    · (simp only [go_sem]; (first | done | trivial | simp [V.resOk, V.ressOk, rowV, V.pures, V.pure, pures_appE, pures_lo, pures_sls]))
    · (first | (simp only [V.res, V.ress, rowV, List.idxOf?_nil, List.idxOf?_cons, List.getElem?_cons_zero, List.getElem?_cons_succ]; first | rfl | (simp only [go_sem]; rfl)) | rfl)
    · (first | (simp only [go_sem]; rfl) | rfl)
    · rfl
    · (simp only [go_sem]; (first | done | rfl))
    exact ⟨by simp [dwd, c3], rfl, rfl⟩
  · refine zst ?_
    (first | apply st_callMD (next_fn l k 5 hk (by omega)) rfl | apply evw_callM (next_fn l k 5 hk (by omega)) rfl)
    · (simp only [go_sem]; rfl)
    · rfl
    · (first | rfl | (simp only [go_sem]; done))
    · (first | rfl | (simp only [go_sem]; done) | (simp only [go_sem]; rfl))
    · (first | rfl | (simp only [go_sem]; done))
    · (first | rfl | (simp only [go_sem]; done) | (simp only [go_sem]; rfl))
    · (first | rfl | simp [V.pureT, V.pure, V.pures, pures_lo, pures_sls])
    (first | refine ev_all (fu := [(), (), (), (), (), (), (), ()]) ?_ | refine evw_all (md := []) (fu := [(), (), (), (), (), (), (), ()]) ?_); refine zev ?_
    refine zst ?_
    (first | apply st_callMD (next_fn l (dkx l k) 65536 hk1 (by omega)) rfl | apply evw_callM (next_fn l (dkx l k) 65536 hk1 (by omega)) rfl)
    · (simp only [go_sem]; rfl)
    · rfl
    · (first | rfl | (simp only [go_sem]; done))
    · (first | rfl | (simp only [go_sem]; done) | (simp only [go_sem]; rfl))
    · (first | rfl | (simp only [go_sem]; done))
    · (first | rfl | (simp only [go_sem]; done) | (simp only [go_sem]; rfl))
    · (first | rfl | simp [V.pureT, V.pure, V.pures, pures_lo, pures_sls])
    (first | refine ev_all (fu := [(), (), (), (), (), (), (), ()]) ?_ | refine evw_all (md := []) (fu := [(), (), (), (), (), (), (), ()]) ?_); refine zev ?_
    refine zst ?_
    apply st_returnM hb0 m_word_ok []
    · (simp only [go_sem]; rfl)
    · (first | exact trivial | (simp; done))
    · (first | (simp [outOk]; done) | exact outOk1 rfl)
    · (simp only [go_sem]; (first | done | trivial | simp [V.resOk, V.ressOk, rowV, V.pures, V.pure, pures_appE, pures_lo, pures_sls]))
    · (first | (simp only [V.res, V.ress, rowV, List.idxOf?_nil, List.idxOf?_cons, List.getElem?_cons_zero, List.getElem?_cons_succ]; first | rfl | (simp only [go_sem]; rfl)) | rfl)
    · (first | (simp only [go_sem]; rfl) | rfl)
    · rfl
    · (simp only [go_sem]; (first | done | rfl))
    exact ⟨by simp [dwd, c0, c1, c2, c3], rfl, rfl⟩
end Go.Proofs.Ytkfpcgkmemfdaaa
/- The deck: words. -/
namespace Go.Proofs.Ytkfpcgkmemfdaaa
open Go Go.RowKit Rdn Rdn.Dp
set_option linter.unusedVariables false
set_option linter.unusedSimpArgs false
def m_words : MC := .seq (.reg [⟨(some 4), none, (.p (.mov (.c (.nilS))))⟩])
 (.seq (.reg [⟨(some 5), none, (.p (.mov (.c (.nilS))))⟩])
 (.seq (.seq (.reg [⟨(some 7), none, (.p (.mov (.t 0)))⟩, ⟨(some 8), none, (.p (.mov (.t 1)))⟩, ⟨(some 9), none, (.p (.bin 0 .add (.t 8) (.c (.int .i64 1))))⟩, ⟨(some 10), none, (.call 32 [(.t 7), (.t 9)])⟩, ⟨(some 6), none, (.p (.mov (.t 10)))⟩])
 (.block 0 (.loop (.seq (.seq (.reg [⟨(some 11), none, (.p (.mov (.t 6)))⟩, ⟨(some 12), none, (.p (.bin 0 .gtr (.t 11) (.c (.int .i64 0))))⟩])
 (.cond (.t 12) (.skip) (.exit 0)))
 (.seq (.block 1 (.reg [⟨(some 15), none, (.p (.mov (.t 5)))⟩, ⟨(some 16), none, (.p (.mov (.t 0)))⟩, ⟨(some 17), none, (.call 81 [(.t 16)])⟩, ⟨(some 18), none, (.m (.buildS 45 1 (.int .u16 0) 1 [(0, (.t 17))]))⟩, ⟨(some 19), none, (.m (.app 45 1 2 (.t 15) (.t 18)))⟩, ⟨(some 5), none, (.p (.mov (.t 19)))⟩]))
 (.reg [⟨(some 13), none, (.p (.mov (.t 6)))⟩, ⟨(some 14), none, (.p (.bin 0 .sub (.t 13) (.c (.int .i64 1))))⟩, ⟨(some 6), none, (.p (.mov (.t 14)))⟩]))))))
 (.seq (.reg [⟨(some 20), none, (.p (.mov (.t 5)))⟩, ⟨(some 4), none, (.p (.mov (.t 20)))⟩])
 (.ret))))
theorem m_words_ok : compF Try.prog 67 = some (21, m_words, [.mov (.t 4)]) := by kernel_rfl
/-- Words, drawn. -/
def dw1 (l : List Int) (k : Nat) : Int × Nat := (dwd l k, dkx l (dkx l k))
theorem dw1_le {l : List Int} (k : Nat) (h : k ≤ l.length) : (dw1 l k).2 ≤ l.length := dkx_le (dkx_le h)
def dws (l : List Int) (k : Nat) (n : Int) : List Int × Nat := drw (dw1 l) (dkx l k) (dnx l k (n + 1)).toNat
theorem dws_le {l : List Int} {k : Nat} (hk : k ≤ l.length) (n : Int) : (dws l k n).2 ≤ l.length := drw_le (f := dw1 l) dw1_le (dkx_le hk) _
theorem dws_len {l : List Int} {k : Nat} {n : Int} (hn : 0 ≤ n) : (dws l k n).1.length ≤ n.toNat := by
  have h2 := dnx_lt (l := l) (k := k) (n := n + 1) (by omega)
  rw [dws, drw_len]
  omega
theorem dws_ok (l : List Int) (k : Nat) (n : Int) : ∀ x ∈ (dws l k n).1, 0 ≤ x ∧ x ≤ 65535 := drw_all (p := fun x => 0 ≤ x ∧ x ≤ 65535) (fun k => dwd_b l k) _ _
set_option maxHeartbeats 4000000 in
theorem words_fn (l : List Int) (k : Nat) (n : Int) (hk : k ≤ l.length) (hn : 0 ≤ n) (hn' : n ≤ 1000000) : FncM Try.prog 67 72 (deckV l k) [.int .i64 n] (fun x obs c => x = .sl false 1 (u16s (dws l k n).1) ∧ obs = [] ∧ c = deckV l (dws l k n).2) := by
  refine FncM.low ?_
  have h1 := dnx_ge (l := l) (k := k) (n := n + 1) (by omega)
  have h2 := dnx_lt (l := l) (k := k) (n := n + 1) (by omega)
  refine FncM.intro m_words_ok (by simp) fun W S b0 hb0 => ?_
  unfold m_words
  simp only [ents, Nat.zero_add, Nat.reduceAdd]
  refine zst ?_
  (first | apply st_callMD (next_fn l k (n + 1) hk (by omega)) rfl | apply evw_callM (next_fn l k (n + 1) hk (by omega)) rfl)
  · (simp only [go_sem]; rfl)
  · rfl
  · (first | rfl | (simp only [go_sem]; done))
  · (first | rfl | (simp only [go_sem]; done) | (simp only [go_sem]; rfl))
  · (first | rfl | (simp only [go_sem]; done))
  · (first | rfl | (simp only [go_sem]; done) | (simp only [go_sem]; rfl))
  · (first | rfl | simp [V.pureT, V.pure, V.pures, pures_lo, pures_sls])
  (first | refine ev_all (fu := [(), (), (), (), (), (), (), ()]) ?_ | refine evw_all (md := []) (fu := [(), (), (), (), (), (), (), ()]) ?_); refine zev ?_
  refine zst ?_
  refine ev_adopt (i := 5) (e := 45) (s := 1) rfl (by decide) ?_
  refine ev_loopK [0] (fun p : {p : Nat // p ≤ (dnx l k (n + 1)).toNat} => [(5, .own 1 p.1), (6, .int .i64 (dnx l k (n + 1) - p.1))]) (fun p => [⟨.box true 72, true, 0, deckV l (drw (dw1 l) (dkx l k) p.1).2⟩, ⟨.row 45, true, p.1, .arr 1 (u16s (drw (dw1 l) (dkx l k) p.1).1)⟩]) (fun p => (dnx l k (n + 1)).toNat - p.1) (⟨0, by simp⟩) 2 (by simp only [go_sem]; rfl) ?_ (by first | rfl | (simp only [go_sem]; done) | (simp only [go_sem]; simp [drw]; done)) (by simp) (by first | rfl | (simp only [go_sem]; done)) (by first | rfl | (simp only [go_sem]; done)) (by first | rfl | (simp only [go_sem]; done) | (simp only [drw]; (try simp only [go_sem]); first | done | rfl)) ?_
  · (simp only [go_sem]; (try simp [drw]); done)
  intro J hJ
  rintro ⟨i, hi⟩
  have hp := drw_le (f := dw1 l) (m := l.length) dw1_le (dkx_le hk) i
  have hlen := drw_len (dw1 l) (dkx l k) i
  by_cases hlt : i < (dnx l k (n + 1)).toNat
  · skip
    generalize hq : drw (dw1 l) (dkx l k) i = q at hp hlen
    have hd : drw (dw1 l) (dkx l k) (i + 1) = (q.1 ++ [dwd l q.2], dkx l (dkx l q.2)) := by rw [drw, hq]; rfl
    refine zst ?_
    (first | apply st_callMD (word_fn l q.2 hp) rfl | apply evw_callM (word_fn l q.2 hp) rfl)
    · (simp only [go_sem]; rfl)
    · rfl
    · (first | rfl | (simp only [go_sem]; done))
    · (first | rfl | (simp only [go_sem]; done) | (simp only [go_sem]; rfl))
    · (first | rfl | (simp only [go_sem]; done))
    · (first | rfl | (simp only [go_sem]; done) | (simp only [go_sem]; rfl))
    · (first | rfl | simp [V.pureT, V.pure, V.pures, pures_lo, pures_sls])
    (first | refine ev_all (fu := [(), (), (), (), (), (), (), ()]) ?_ | refine evw_all (md := []) (fu := [(), (), (), (), (), (), (), ()]) ?_); refine zev ?_
    refine zst ?_
    refine ev_next 2 (hJ _ (⟨i + 1, hlt⟩) (by first | omega | (dsimp only; omega) | (simp; omega))) rfl (by simp) ?_ (by first | rfl | (simp only [go_sem]; done)) (by first | rfl | (simp only [go_sem]; done) | (simp only [hd]; (try simp only [go_sem]); first | done | rfl)) ?_
    · exact zna hd
    · exact znb hd
  · obtain rfl : i = (dnx l k (n + 1)).toNat := by omega
    refine zst ?_
    apply st_returnM hb0 m_words_ok []
    · (simp only [go_sem]; rfl)
    · (first | exact trivial | (simp; done))
    · (first | (simp [outOk]; done) | exact outOk1 rfl)
    · (simp only [go_sem]; (first | done | trivial | simp [V.resOk, V.ressOk, rowV, V.pures, V.pure, pures_appE, pures_lo, pures_sls]))
    · (first | (simp only [V.res, V.ress, rowV, List.idxOf?_nil, List.idxOf?_cons, List.getElem?_cons_zero, List.getElem?_cons_succ]; first | rfl | (simp only [go_sem]; rfl)) | rfl)
    · (first | (simp only [go_sem]; rfl) | rfl)
    · rfl
    · (simp only [go_sem]; (first | done | rfl))
    ((try dsimp only); (repeat' (refine And.intro ?_ ?_)) <;> first | with_reducible rfl | (simp only [go_sem]; done) | (simp only [go_sem]; rfl) | (simp only [go_sem, dws]; done) | (simp only [dws]; (try simp only [go_sem]); first | done | rfl) | (simp only [go_sem]; simp [dws]; done) | (simp [dws]; done) | rfl)
end Go.Proofs.Ytkfpcgkmemfdaaa
/- Files at their beginning: what is valid. -/
namespace Go.Proofs.Ytkfpcgkmemfdaaa
open Go Go.RowKit Rdn Rdn.Dp
set_option linter.unusedVariables false
set_option linter.unusedSimpArgs false
def m_cell : MC := .seq (.reg [⟨(some 1), none, (.m (.box 47 (.t 0)))⟩, ⟨(some 2), none, (.p (.mov (.c (.bool false))))⟩])
 (.seq (.seq (.reg [⟨(some 3), none, (.p (.fieldA 0 0 (.t 1)))⟩, ⟨(some 4), none, (.p (.load false 1 (.t 3)))⟩])
 (.block 0 (.seq (.seq (.reg [⟨(some 6), none, (.p (.bin 0 .eql (.t 4) (.c (.int .u8 0))))⟩, ⟨(some 5), none, (.p (.mov (.t 6)))⟩])
 (.cond (.t 5) (.skip) (.reg [⟨(some 7), none, (.p (.bin 0 .eql (.t 4) (.c (.int .u8 2))))⟩, ⟨(some 5), none, (.p (.mov (.t 7)))⟩])))
 (.cond (.t 5) (.seq (.reg [⟨(some 8), none, (.p (.fieldA 2 2 (.t 1)))⟩, ⟨(some 9), none, (.p (.load false 1 (.t 8)))⟩, ⟨(some 10), none, (.p (.bin 0 .eql (.t 9) (.c (.int .i64 0))))⟩, ⟨(some 11), none, (.p (.mov (.t 10)))⟩, ⟨(some 12), (some (11, true)), (.p (.fieldA 3 3 (.t 1)))⟩, ⟨(some 13), (some (11, true)), (.p (.load false 1 (.t 12)))⟩, ⟨(some 14), (some (11, true)), (.p (.bin 0 .eql (.t 13) (.c (.int .i64 0))))⟩, ⟨(some 15), none, (.p (.pick (.t 11) (.t 14) (.c (.bool false))))⟩, ⟨(some 2), none, (.p (.mov (.t 15)))⟩])
 (.ret)) (.seq (.reg [⟨(some 17), none, (.p (.bin 0 .eql (.t 4) (.c (.int .u8 1))))⟩, ⟨(some 16), none, (.p (.mov (.t 17)))⟩])
 (.cond (.t 16) (.seq (.seq (.reg [⟨(some 18), none, (.p (.fieldA 2 2 (.t 1)))⟩, ⟨(some 19), none, (.p (.load false 1 (.t 18)))⟩, ⟨(some 20), none, (.p (.bin 0 .eql (.t 19) (.c (.int .i64 (-1)))))⟩])
 (.cond (.t 20) (.seq (.reg [⟨(some 21), none, (.p (.fieldA 1 1 (.t 1)))⟩, ⟨(some 22), none, (.p (.load false 1 (.t 21)))⟩, ⟨(some 23), none, (.p (.bin 0 .eql (.t 22) (.c (.int .u16 0))))⟩, ⟨(some 24), none, (.p (.mov (.t 23)))⟩, ⟨(some 25), (some (24, true)), (.p (.fieldA 3 3 (.t 1)))⟩, ⟨(some 26), (some (24, true)), (.p (.load false 1 (.t 25)))⟩, ⟨(some 27), (some (24, true)), (.p (.bin 0 .geq (.t 26) (.c (.int .i64 0))))⟩, ⟨(some 28), none, (.p (.pick (.t 24) (.t 27) (.c (.bool false))))⟩, ⟨(some 29), none, (.p (.mov (.t 28)))⟩, ⟨(some 30), (some (29, true)), (.p (.fieldA 3 3 (.t 1)))⟩, ⟨(some 31), (some (29, true)), (.p (.load false 1 (.t 30)))⟩, ⟨(some 32), (some (29, true)), (.p (.bin 0 .leq (.t 31) (.c (.int .i64 65535))))⟩, ⟨(some 33), none, (.p (.pick (.t 29) (.t 32) (.c (.bool false))))⟩, ⟨(some 2), none, (.p (.mov (.t 33)))⟩])
 (.ret)) (.skip)))
 (.seq (.reg [⟨(some 34), none, (.p (.fieldA 1 1 (.t 1)))⟩, ⟨(some 35), none, (.p (.load false 1 (.t 34)))⟩, ⟨(some 36), none, (.p (.bin 0 .eql (.t 35) (.c (.int .u16 0))))⟩, ⟨(some 37), none, (.p (.mov (.t 36)))⟩, ⟨(some 38), (some (37, true)), (.p (.fieldA 2 2 (.t 1)))⟩, ⟨(some 39), (some (37, true)), (.p (.load false 1 (.t 38)))⟩, ⟨(some 40), (some (37, true)), (.p (.bin 0 .geq (.t 39) (.c (.int .i64 0))))⟩, ⟨(some 41), none, (.p (.pick (.t 37) (.t 40) (.c (.bool false))))⟩, ⟨(some 42), none, (.p (.mov (.t 41)))⟩, ⟨(some 43), (some (42, true)), (.p (.fieldA 2 2 (.t 1)))⟩, ⟨(some 44), (some (42, true)), (.p (.load false 1 (.t 43)))⟩, ⟨(some 45), (some (42, true)), (.p (.bin 0 .lss (.t 44) (.c (.int .i64 4))))⟩, ⟨(some 46), none, (.p (.pick (.t 42) (.t 45) (.c (.bool false))))⟩, ⟨(some 47), none, (.p (.mov (.t 46)))⟩, ⟨(some 48), (some (47, true)), (.p (.fieldA 3 3 (.t 1)))⟩, ⟨(some 49), (some (47, true)), (.p (.load false 1 (.t 48)))⟩, ⟨(some 50), (some (47, true)), (.p (.bin 0 .geq (.t 49) (.c (.int .i64 0))))⟩, ⟨(some 51), none, (.p (.pick (.t 47) (.t 50) (.c (.bool false))))⟩, ⟨(some 52), none, (.p (.mov (.t 51)))⟩, ⟨(some 53), (some (52, true)), (.p (.fieldA 3 3 (.t 1)))⟩, ⟨(some 54), (some (52, true)), (.p (.load false 1 (.t 53)))⟩, ⟨(some 55), (some (52, true)), (.p (.bin 0 .lss (.t 54) (.c (.int .i64 32))))⟩, ⟨(some 56), none, (.p (.pick (.t 52) (.t 55) (.c (.bool false))))⟩, ⟨(some 2), none, (.p (.mov (.t 56)))⟩])
 (.ret))) (.skip)))))))
 (.seq (.reg [⟨(some 2), none, (.p (.mov (.c (.bool false))))⟩])
 (.ret)))
theorem m_cell_ok : compF Try.prog 51 = some (57, m_cell, [.mov (.t 2)]) := by kernel_rfl
def m_cells : MC := .seq (.reg [⟨(some 4), none, (.p (.mov (.c (.bool false))))⟩])
 (.seq (.seq (.reg [⟨(some 7), none, (.p (.mov (.t 0)))⟩, ⟨(some 8), none, (.p (.len (.t 7)))⟩, ⟨(some 9), none, (.p (.mov (.c (.int .i64 0))))⟩])
 (.block 0 (.loop (.seq (.reg [⟨(some 10), none, (.p (.bin 0 .lss (.t 9) (.t 8)))⟩])
 (.seq (.cond (.t 10) (.skip) (.exit 0))
 (.seq (.block 1 (.seq (.reg [⟨(some 11), none, (.p (.idxA 4 (.t 7) (.t 9)))⟩, ⟨(some 12), none, (.p (.load true 4 (.t 11)))⟩, ⟨(some 6), none, (.m (.alloc 47 (.agg [.int .u8 0, .int .u16 0, .int .i64 0, .int .i64 0])))⟩, ⟨none, none, (.m (.store 4 (.t 6) (.t 12)))⟩])
 (.seq (.reg [⟨(some 13), none, (.p (.load true 4 (.t 6)))⟩, ⟨(some 14), none, (.call 51 [(.t 13)])⟩, ⟨(some 15), none, (.p (.un .not (.t 14)))⟩])
 (.cond (.t 15) (.seq (.reg [⟨(some 4), none, (.p (.mov (.c (.bool false))))⟩])
 (.ret)) (.skip)))))
 (.reg [⟨(some 16), none, (.p (.bin 0 .add (.t 9) (.c (.int .i64 1))))⟩, ⟨(some 9), none, (.p (.mov (.t 16)))⟩])))))))
 (.seq (.reg [⟨(some 17), none, (.p (.mov (.t 0)))⟩, ⟨(some 18), none, (.p (.len (.t 17)))⟩, ⟨(some 19), none, (.p (.mov (.t 1)))⟩, ⟨(some 20), none, (.p (.bin 0 .leq (.t 18) (.t 19)))⟩, ⟨(some 4), none, (.p (.mov (.t 20)))⟩])
 (.ret)))
theorem m_cells_ok : compF Try.prog 48 = some (21, m_cells, [.mov (.t 4)]) := by kernel_rfl
def m_fval : MC := .seq (.reg [⟨(some 1), none, (.m (.box 28 (.t 0)))⟩, ⟨(some 2), none, (.p (.mov (.c (.bool false))))⟩])
 (.seq (.seq (.reg [⟨(some 7), none, (.p (.fieldA 0 0 (.t 1)))⟩, ⟨(some 8), none, (.p (.load false 1 (.t 7)))⟩, ⟨(some 9), none, (.p (.len (.t 8)))⟩, ⟨(some 10), none, (.p (.bin 0 .gtr (.t 9) (.c (.int .i64 4))))⟩, ⟨(some 11), none, (.p (.mov (.t 10)))⟩, ⟨(some 12), (some (11, false)), (.p (.fieldA 1 1 (.t 1)))⟩, ⟨(some 13), (some (11, false)), (.p (.load false 1 (.t 12)))⟩, ⟨(some 14), (some (11, false)), (.p (.len (.t 13)))⟩, ⟨(some 15), (some (11, false)), (.p (.bin 0 .neq (.t 14) (.c (.int .i64 8))))⟩, ⟨(some 16), none, (.p (.pick (.t 11) (.c (.bool true)) (.t 15)))⟩])
 (.cond (.t 16) (.seq (.reg [⟨(some 2), none, (.p (.mov (.c (.bool false))))⟩])
 (.ret)) (.skip)))
 (.seq (.seq (.reg [⟨(some 17), none, (.p (.fieldA 0 0 (.t 1)))⟩, ⟨(some 18), none, (.p (.load false 1 (.t 17)))⟩, ⟨(some 19), none, (.p (.len (.t 18)))⟩, ⟨(some 20), none, (.p (.mov (.c (.int .i64 0))))⟩])
 (.block 0 (.loop (.seq (.reg [⟨(some 21), none, (.p (.bin 0 .lss (.t 20) (.t 19)))⟩])
 (.seq (.cond (.t 21) (.skip) (.exit 0))
 (.seq (.block 1 (.seq (.reg [⟨(some 22), none, (.p (.idxA 1 (.t 18) (.t 20)))⟩, ⟨(some 23), none, (.p (.load false 1 (.t 22)))⟩, ⟨(some 4), none, (.p (.mov (.t 23)))⟩])
 (.seq (.reg [⟨(some 24), none, (.p (.mov (.t 4)))⟩, ⟨(some 25), none, (.call 48 [(.t 24), (.c (.int .i64 64))])⟩, ⟨(some 26), none, (.p (.un .not (.t 25)))⟩])
 (.cond (.t 26) (.seq (.reg [⟨(some 2), none, (.p (.mov (.c (.bool false))))⟩])
 (.ret)) (.skip)))))
 (.reg [⟨(some 27), none, (.p (.bin 0 .add (.t 20) (.c (.int .i64 1))))⟩, ⟨(some 20), none, (.p (.mov (.t 27)))⟩])))))))
 (.seq (.seq (.reg [⟨(some 28), none, (.p (.fieldA 1 1 (.t 1)))⟩, ⟨(some 29), none, (.p (.load false 1 (.t 28)))⟩, ⟨(some 30), none, (.p (.len (.t 29)))⟩, ⟨(some 31), none, (.p (.mov (.c (.int .i64 0))))⟩])
 (.block 2 (.loop (.seq (.reg [⟨(some 32), none, (.p (.bin 0 .lss (.t 31) (.t 30)))⟩])
 (.seq (.cond (.t 32) (.skip) (.exit 2))
 (.seq (.block 3 (.seq (.reg [⟨(some 33), none, (.p (.idxA 3 (.t 29) (.t 31)))⟩, ⟨(some 34), none, (.p (.load true 3 (.t 33)))⟩, ⟨(some 6), none, (.m (.alloc 102 (.agg [.int .i64 0, .int .i64 0, .bool false])))⟩, ⟨none, none, (.m (.store 3 (.t 6) (.t 34)))⟩])
 (.seq (.dreg [⟨(some 35), none, (.p (.fieldA 0 0 (.t 6)))⟩, ⟨(some 36), none, (.p (.load false 1 (.t 35)))⟩, ⟨(some 37), none, (.p (.bin 0 .eql (.t 36) (.c (.int .i64 (-1)))))⟩, ⟨(some 38), none, (.p (.mov (.t 37)))⟩, ⟨(some 39), (some (38, true)), (.p (.fieldA 1 1 (.t 6)))⟩, ⟨(some 40), (some (38, true)), (.p (.load false 1 (.t 39)))⟩, ⟨(some 41), (some (38, true)), (.p (.bin 0 .neq (.t 40) (.c (.int .i64 0))))⟩, ⟨(some 42), (some (38, true)), (.p (.mov (.t 41)))⟩, ⟨(some 43), (some (42, false)), (.p (.fieldA 2 2 (.t 6)))⟩, ⟨(some 44), (some (42, false)), (.p (.load false 1 (.t 43)))⟩, ⟨(some 45), (some (38, true)), (.p (.pick (.t 42) (.c (.bool true)) (.t 44)))⟩, ⟨(some 46), none, (.p (.pick (.t 38) (.t 45) (.c (.bool false))))⟩, ⟨(some 47), none, (.p (.mov (.t 46)))⟩, ⟨(some 48), (some (47, false)), (.p (.fieldA 0 0 (.t 6)))⟩, ⟨(some 49), (some (47, false)), (.p (.load false 1 (.t 48)))⟩, ⟨(some 50), (some (47, false)), (.p (.bin 0 .lss (.t 49) (.c (.int .i64 (-1)))))⟩, ⟨(some 51), none, (.p (.pick (.t 47) (.c (.bool true)) (.t 50)))⟩, ⟨(some 52), none, (.p (.mov (.t 51)))⟩, ⟨(some 53), (some (52, false)), (.p (.fieldA 0 0 (.t 6)))⟩, ⟨(some 54), (some (52, false)), (.p (.load false 1 (.t 53)))⟩, ⟨(some 55), (some (52, false)), (.p (.fieldA 0 0 (.t 1)))⟩, ⟨(some 56), (some (52, false)), (.p (.load false 1 (.t 55)))⟩, ⟨(some 57), (some (52, false)), (.p (.len (.t 56)))⟩, ⟨(some 58), (some (52, false)), (.p (.bin 0 .geq (.t 54) (.t 57)))⟩, ⟨(some 59), none, (.p (.pick (.t 52) (.c (.bool true)) (.t 58)))⟩, ⟨(some 60), none, (.p (.mov (.t 59)))⟩, ⟨(some 61), (some (60, false)), (.p (.fieldA 0 0 (.t 6)))⟩, ⟨(some 62), (some (60, false)), (.p (.load false 1 (.t 61)))⟩, ⟨(some 63), (some (60, false)), (.p (.bin 0 .geq (.t 62) (.c (.int .i64 0))))⟩, ⟨(some 64), (some (60, false)), (.p (.mov (.t 63)))⟩, ⟨(some 65), (some (64, true)), (.p (.fieldA 1 1 (.t 6)))⟩, ⟨(some 66), (some (64, true)), (.p (.load false 1 (.t 65)))⟩, ⟨(some 67), (some (64, true)), (.p (.bin 0 .lss (.t 66) (.c (.int .i64 0))))⟩, ⟨(some 68), (some (64, true)), (.p (.mov (.t 67)))⟩, ⟨(some 69), (some (68, false)), (.p (.fieldA 1 1 (.t 6)))⟩, ⟨(some 70), (some (68, false)), (.p (.load false 1 (.t 69)))⟩, ⟨(some 71), (some (68, false)), (.p (.fieldA 0 0 (.t 1)))⟩, ⟨(some 72), (some (68, false)), (.p (.load false 1 (.t 71)))⟩, ⟨(some 73), (some (68, false)), (.p (.fieldA 0 0 (.t 6)))⟩, ⟨(some 74), (some (68, false)), (.p (.load false 1 (.t 73)))⟩, ⟨(some 75), (some (68, false)), (.p (.idxA 1 (.t 72) (.t 74)))⟩, ⟨(some 76), (some (68, false)), (.p (.load false 1 (.t 75)))⟩, ⟨(some 77), (some (68, false)), (.p (.len (.t 76)))⟩, ⟨(some 78), (some (68, false)), (.p (.bin 0 .gtr (.t 70) (.t 77)))⟩, ⟨(some 79), (some (64, true)), (.p (.pick (.t 68) (.c (.bool true)) (.t 78)))⟩, ⟨(some 80), (some (60, false)), (.p (.pick (.t 64) (.t 79) (.c (.bool false))))⟩, ⟨(some 81), none, (.p (.pick (.t 60) (.c (.bool true)) (.t 80)))⟩] [[], [0], [0, 1], [0, 1, 2], [0, 1, 2, 3], [0, 1, 2, 3, 4], [0, 1, 2, 3, 4, 5], [0, 1, 2, 3, 4, 5, 6], [0, 1, 2, 3, 4, 5, 6, 7], [0, 1, 2, 3, 4, 5, 6, 7, 8], [0, 1, 2, 3, 4, 5, 6, 7, 8, 9], [0, 1, 2, 3, 4, 5, 6, 7, 8, 9, 10], [0, 1, 2, 3, 4, 5, 6, 7, 8, 9, 10, 11], [0, 1, 2, 3, 4, 5, 6, 7, 8, 9, 10, 11, 12], [0, 1, 2, 3, 4, 5, 6, 7, 8, 9, 10, 11, 12, 13], [0, 1, 2, 3, 4, 5, 6, 7, 8, 9, 10, 11, 12, 13, 14], [0, 1, 2, 3, 4, 5, 6, 7, 8, 9, 10, 11, 12, 13, 14, 15], [0, 1, 2, 3, 4, 5, 6, 7, 8, 9, 10, 11, 12, 13, 14, 15, 16], [0, 1, 2, 3, 4, 5, 6, 7, 8, 9, 10, 11, 12, 13, 14, 15, 16, 17], [0, 1, 2, 3, 4, 5, 6, 7, 8, 9, 10, 11, 12, 13, 14, 15, 16, 17, 18], [0, 1, 2, 3, 4, 5, 6, 7, 8, 9, 10, 11, 12, 13, 14, 15, 16, 17], [0, 1, 2, 3, 4, 5, 6, 7, 8, 9, 10, 11, 12, 13, 14, 15, 16, 17, 20], [0, 1, 2, 3, 4, 5, 6, 7, 8, 9, 10, 11, 12, 13, 14, 15, 16, 17, 20, 21], [0, 1, 2, 3, 4, 5, 6, 7, 8, 9, 10, 11, 12, 13, 14, 15, 16, 17, 18, 19, 20, 21, 22], [0, 1, 2, 3, 4, 5, 6, 7, 8, 9, 10, 11, 12, 13, 14, 15, 16, 17, 18, 19, 20, 21, 22, 23], [0, 1, 2, 3, 4, 5, 6, 7, 8, 9, 10, 11, 12, 13, 14, 15, 16, 17, 18, 19, 20, 21, 22, 23, 24], [0, 1, 2, 3, 4, 5, 6, 7, 8, 9, 10, 11, 12, 13, 14, 15, 16, 17, 18, 19, 20, 21, 22, 23, 24, 25], [0, 1, 2, 3, 4, 5, 6, 7, 8, 9, 10, 11, 12, 13, 14, 15, 16, 17, 18, 19, 20, 21, 22, 23, 24, 25, 26], [0, 1, 2, 3, 4, 5, 6, 7, 8, 9, 10, 11, 12, 13, 14, 15, 16, 17, 18, 19, 20, 21, 22, 23, 24, 25, 26, 27], [0, 1, 2, 3, 4, 5, 6, 7, 8, 9, 10, 11, 12, 13, 14, 15, 16, 17, 18, 19, 20, 21, 22, 23, 24, 25, 26, 27, 28], [0, 1, 2, 3, 4, 5, 6, 7, 8, 9, 10, 11, 12, 13, 14, 15, 16, 17, 18, 19, 20, 21, 22, 23, 24, 25, 26, 27, 28, 29], [0, 1, 2, 3, 4, 5, 6, 7, 8, 9, 10, 11, 12, 13, 14, 15, 16, 17, 18, 19, 20, 21, 22, 23, 24, 25, 26, 27, 28, 29, 30], [0, 1, 2, 3, 4, 5, 6, 7, 8, 9, 10, 11, 12, 13, 14, 15, 16, 17, 18, 19, 20, 21, 22, 23, 24, 25, 26, 27, 28, 29, 30, 31], [0, 1, 2, 3, 4, 5, 6, 7, 8, 9, 10, 11, 12, 13, 14, 15, 16, 17, 18, 19, 20, 21, 22, 23, 24, 25, 26, 27, 28, 29, 30, 31, 32], [0, 1, 2, 3, 4, 5, 6, 7, 8, 9, 10, 11, 12, 13, 14, 15, 16, 17, 18, 19, 20, 21, 22, 23, 24, 25, 26, 27, 28, 29, 30, 31, 32, 33], [0, 1, 2, 3, 4, 5, 6, 7, 8, 9, 10, 11, 12, 13, 14, 15, 16, 17, 18, 19, 20, 21, 22, 23, 24, 25, 26, 27, 28, 29, 30, 31, 32, 33, 34], [0, 1, 2, 3, 4, 5, 6, 7, 8, 9, 10, 11, 12, 13, 14, 15, 16, 17, 18, 19, 20, 21, 22, 23, 24, 25, 26, 27, 28, 29, 30, 31, 32, 33], [0, 1, 2, 3, 4, 5, 6, 7, 8, 9, 10, 11, 12, 13, 14, 15, 16, 17, 18, 19, 20, 21, 22, 23, 24, 25, 26, 27, 28, 29, 30, 31, 32, 33, 36], [0, 1, 2, 3, 4, 5, 6, 7, 8, 9, 10, 11, 12, 13, 14, 15, 16, 17, 18, 19, 20, 21, 22, 23, 24, 25, 26, 27, 28, 29, 30, 31, 32, 33], [0, 1, 2, 3, 4, 5, 6, 7, 8, 9, 10, 11, 12, 13, 14, 15, 16, 17, 18, 19, 20, 21, 22, 23, 24, 25, 26, 27, 28, 29, 30, 31, 32, 33, 38], [0, 1, 2, 3, 4, 5, 6, 7, 8, 9, 10, 11, 12, 13, 14, 15, 16, 17, 18, 19, 20, 21, 22, 23, 24, 25, 26, 27, 28, 29, 30, 31, 32, 33, 36, 37, 38, 39], [0, 1, 2, 3, 4, 5, 6, 7, 8, 9, 10, 11, 12, 13, 14, 15, 16, 17, 18, 19, 20, 21, 22, 23, 24, 25, 26, 27, 28, 29, 30, 31, 32, 33, 36, 37, 38, 39, 40], [0, 1, 2, 3, 4, 5, 6, 7, 8, 9, 10, 11, 12, 13, 14, 15, 16, 17, 18, 19, 20, 21, 22, 23, 24, 25, 26, 27, 28, 29, 30, 31, 32, 33, 36, 37, 38, 39, 40, 41], [0, 1, 2, 3, 4, 5, 6, 7, 8, 9, 10, 11, 12, 13, 14, 15, 16, 17, 18, 19, 20, 21, 22, 23, 24, 25, 26, 27, 28, 29, 30, 31, 32, 33, 34, 35, 36, 37, 38, 39, 40, 41, 42], [0, 1, 2, 3, 4, 5, 6, 7, 8, 9, 10, 11, 12, 13, 14, 15, 16, 17, 18, 19, 20, 21, 22, 23, 24, 25, 26, 27, 28, 29, 30, 31, 32, 33, 34, 35, 36, 37, 38, 39, 40, 41, 42, 43], [0, 1, 2, 3, 4, 5, 6, 7, 8, 9, 10, 11, 12, 13, 14, 15, 16, 17, 18, 19, 20, 21, 22, 23, 24, 25, 26, 27, 28, 29, 30, 31, 32, 33, 34, 35, 36, 37, 38, 39, 40, 41, 42, 43, 44], [0, 1, 2, 3, 4, 5, 6, 7, 8, 9, 10, 11, 12, 13, 14, 15, 16, 17, 18, 19, 20, 21, 22, 23, 24, 25, 26, 27, 28, 29, 30, 31, 32, 33, 34, 35, 36, 37, 38, 39, 40, 41, 42, 43, 44, 45]])
 (.cond (.t 81) (.seq (.reg [⟨(some 2), none, (.p (.mov (.c (.bool false))))⟩])
 (.ret)) (.skip)))))
 (.reg [⟨(some 82), none, (.p (.bin 0 .add (.t 31) (.c (.int .i64 1))))⟩, ⟨(some 31), none, (.p (.mov (.t 82)))⟩])))))))
 (.seq (.reg [⟨(some 2), none, (.p (.mov (.c (.bool true))))⟩])
 (.ret)))))
theorem m_fval_ok : compF Try.prog 49 = some (83, m_fval, [.mov (.t 2)]) := by kernel_rfl
def m_copyin : MC := .seq (.reg [⟨(some 2), none, (.p (.mov (.c (.nilS))))⟩])
 (.seq (.reg [⟨(some 3), none, (.p (.mov (.c (.nilS))))⟩])
 (.seq (.seq (.reg [⟨(some 6), none, (.p (.mov (.t 0)))⟩, ⟨(some 7), none, (.p (.len (.t 6)))⟩, ⟨(some 8), none, (.p (.mov (.c (.int .i64 0))))⟩])
 (.block 0 (.loop (.seq (.reg [⟨(some 9), none, (.p (.bin 0 .lss (.t 8) (.t 7)))⟩])
 (.seq (.cond (.t 9) (.skip) (.exit 0))
 (.seq (.block 1 (.seq (.reg [⟨(some 10), none, (.p (.idxA 1 (.t 6) (.t 8)))⟩, ⟨(some 11), none, (.p (.load false 1 (.t 10)))⟩, ⟨(some 5), none, (.p (.mov (.t 11)))⟩])
 (.reg [⟨(some 12), none, (.p (.mov (.t 3)))⟩, ⟨(some 13), none, (.p (.mov (.t 5)))⟩, ⟨(some 14), none, (.m (.app 45 1 2 (.c (.nilS)) (.t 13)))⟩, ⟨(some 15), none, (.m (.buildS 23 1 (.nilS) 1 [(0, (.t 14))]))⟩, ⟨(some 16), none, (.m (.app 23 1 24 (.t 12) (.t 15)))⟩, ⟨(some 3), none, (.p (.mov (.t 16)))⟩])))
 (.reg [⟨(some 17), none, (.p (.bin 0 .add (.t 8) (.c (.int .i64 1))))⟩, ⟨(some 8), none, (.p (.mov (.t 17)))⟩])))))))
 (.seq (.reg [⟨(some 18), none, (.p (.mov (.t 3)))⟩, ⟨(some 2), none, (.p (.mov (.t 18)))⟩])
 (.ret))))
theorem m_copyin_ok : compF Try.prog 27 = some (19, m_copyin, [.mov (.t 2)]) := by kernel_rfl
/-- Words as canonical cells. -/
def numC (l : List Int) : List Canon := l.map fun v => ⟨0, v, 0, 0⟩
theorem numC_len (l : List Int) : (numC l).length = l.length := by simp [numC]
theorem numC_at {l : List Int} {k : Nat} (h : k < l.length) : (numC l)[k]! = ⟨0, l[k]!, 0, 0⟩ := by simp [numC, h]
theorem numC_zero : numC [] = [] := rfl
theorem numC_snoc {l : List Int} {k : Nat} (h : k < l.length) : numC (l.take k) ++ [⟨0, l[k]!, 0, 0⟩] = numC (l.take (k + 1)) := by rw [take_snoc h]; simp [numC]
set_option maxHeartbeats 4000000 in
theorem cell_fn (v : Int) : Fnc Try.prog 51 [canonV ⟨0, v, 0, 0⟩] (fun x obs => x = .bool true ∧ obs = []) := by
  refine Fnc.intro m_cell_ok (by simp) fun W S => ?_
  unfold m_cell
  simp only [ents, Nat.zero_add, Nat.reduceAdd]
  refine zst ?_
  refine ret m_cell_ok [] ?_; exact zfn
set_option maxHeartbeats 4000000 in
theorem cells_fn (l : List Int) (n : Int) (hb : l.length ≤ 140737488355328) (hn : (l.length : Int) ≤ n) : Fnc Try.prog 48 [.sl false 4 ((numC l).map canonV), .int .i64 n] (fun x obs => x = .bool true ∧ obs = []) := by
  have hl := numC_len l
  refine Fnc.intro m_cells_ok (by simp) fun W S => ?_
  unfold m_cells
  simp only [ents, Nat.zero_add, Nat.reduceAdd]
  refine zst ?_
  refine ev_loopK [0, 1, 7, 8] (fun p : {p : Nat // p ≤ l.length} => [(9, .int .i64 p.1)]) (fun _ => []) (fun p => l.length - p.1) (⟨0, by simp⟩) 0 (by simp only [go_sem]; rfl) ?_ (by first | rfl | (simp only [go_sem]; done)) (by simp) (by first | rfl | (simp only [go_sem]; done)) (by first | rfl | (simp only [go_sem]; done)) (by first | rfl | (simp only [go_sem]; done)) ?_
  · (simp only [go_sem]; (try simp []); done)
  intro J hJ
  rintro ⟨k, hk0⟩
  by_cases hlt : k < l.length
  · have ha := numC_at hlt
    refine zsx ha ?_
    (first | refine callD (cell_fn l[k]!) ?_ | refine callDw (cell_fn l[k]!) ?_); simp only [go_sem]
    refine zst ?_
    refine ev_next 0 (hJ _ (⟨k + 1, hlt⟩) (by first | omega | (dsimp only; omega) | (simp; omega))) rfl (by simp) ?_ (by first | rfl | (simp only [go_sem]; done)) (by first | rfl | (simp only [go_sem]; done) | (simp only [hlt]; (try simp only [go_sem]); first | done | rfl)) ?_
    · exact zna hlt
    · exact znb hlt
  · obtain rfl : k = l.length := by omega
    refine zst ?_
    refine ret m_cells_ok [] ?_; exact zfn
abbrev openN : V := .agg [.int .i64 (-1), .int .i64 0, .bool false]
abbrev csV (w : List Int) : V := .sl false 4 ((numC w).map canonV)
abbrev fsV (w0 w1 : List Int) : V := .agg [.sl false 1 [csV w0, csV w1], .sl false 3 [openN, openN, openN, openN, openN, openN, openN, openN]]
attribute [local irreducible] numC
set_option maxRecDepth 100000 in
set_option maxHeartbeats 16000000 in
theorem fval_fn (w0 w1 : List Int) (h0 : w0.length ≤ 64) (h1 : w1.length ≤ 64) : Fnc Try.prog 49 [fsV w0 w1] (fun x obs => x = .bool true ∧ obs = []) := by
  refine Fnc.intro m_fval_ok (by simp) fun W S => ?_
  unfold m_fval
  simp only [ents, Nat.zero_add, Nat.reduceAdd]
  refine zst ?_
  refine ev_unroll 3 ?_
  refine zst ?_
  (first | refine callD (cells_fn w0 64 (by omega) (by omega)) ?_ | refine callDw (cells_fn w0 64 (by omega) (by omega)) ?_); simp only [go_sem]
  refine zst ?_
  (first | refine callD (cells_fn w1 64 (by omega) (by omega)) ?_ | refine callDw (cells_fn w1 64 (by omega) (by omega)) ?_); simp only [go_sem]
  refine zst ?_
  refine ev_unroll 9 ?_
  refine zst ?_
  refine ret m_fval_ok [] ?_; exact zfn
abbrev wsV (w : List Int) : V := .sl false 1 (u16s w)
set_option maxRecDepth 100000 in
set_option maxHeartbeats 16000000 in
theorem copyin_fn (w0 w1 : List Int) (h0 : w0.length ≤ 64) (h1 : w1.length ≤ 64) : Fnc Try.prog 27 [.sl false 1 [wsV w0, wsV w1]] (fun x obs => x = .sl false 1 [wsV w0, wsV w1] ∧ obs = []) := by
  refine Fnc.low ?_
  refine Fnc.intro m_copyin_ok (by simp) fun W S => ?_
  unfold m_copyin
  simp only [ents, Nat.zero_add, Nat.reduceAdd]
  refine zst ?_
  refine ev_unroll 3 ?_
  refine zst ?_
  refine ret m_copyin_ok [] ?_; (first | (simp only [go_sem]; done) | (simp only [go_sem]; ((try dsimp only); (repeat' (refine And.intro ?_ ?_)) <;> first | with_reducible rfl | (simp only [go_sem]; done) | (simp only [go_sem]; rfl) | (simp only [go_sem, wsV]; done) | (simp only [wsV]; (try simp only [go_sem]); first | done | rfl) | (simp only [go_sem]; simp [wsV]; done) | (simp [wsV]; done) | rfl)))
end Go.Proofs.Ytkfpcgkmemfdaaa
/- No outputs are in order. -/
namespace Go.Proofs.Ytkfpcgkmemfdaaa
open Go Go.RowKit Rdn Rdn.Dp
set_option linter.unusedVariables false
set_option linter.unusedSimpArgs false
def m_ord0 : MC := .seq (.reg [⟨(some 2), none, (.p (.mov (.c (.bool false))))⟩])
 (.seq (.seq (.reg [⟨(some 5), none, (.p (.mov (.t 0)))⟩, ⟨(some 6), none, (.p (.len (.t 5)))⟩, ⟨(some 7), none, (.p (.mov (.c (.int .i64 0))))⟩])
 (.block 0 (.loop (.seq (.reg [⟨(some 8), none, (.p (.bin 0 .lss (.t 7) (.t 6)))⟩])
 (.seq (.cond (.t 8) (.skip) (.exit 0))
 (.seq (.block 1 (.seq (.reg [⟨(some 9), none, (.p (.mov (.t 7)))⟩, ⟨(some 10), none, (.p (.idxA 3 (.t 5) (.t 7)))⟩, ⟨(some 11), none, (.p (.load true 3 (.t 10)))⟩, ⟨(some 4), none, (.m (.alloc 55 (.agg [.int .i64 0, .int .i64 0, .nilS])))⟩, ⟨(some 3), none, (.p (.mov (.t 9)))⟩, ⟨none, none, (.m (.store 3 (.t 4) (.t 11)))⟩])
 (.seq (.reg [⟨(some 12), none, (.p (.fieldA 0 0 (.t 4)))⟩, ⟨(some 13), none, (.p (.load false 1 (.t 12)))⟩, ⟨(some 14), none, (.p (.mov (.t 3)))⟩, ⟨(some 15), none, (.p (.bin 0 .neq (.t 13) (.t 14)))⟩, ⟨(some 16), none, (.p (.mov (.t 15)))⟩, ⟨(some 17), (some (16, false)), (.p (.fieldA 1 1 (.t 4)))⟩, ⟨(some 18), (some (16, false)), (.p (.load false 1 (.t 17)))⟩, ⟨(some 19), (some (16, false)), (.p (.bin 0 .lss (.t 18) (.c (.int .i64 0))))⟩, ⟨(some 20), none, (.p (.pick (.t 16) (.c (.bool true)) (.t 19)))⟩, ⟨(some 21), none, (.p (.mov (.t 20)))⟩, ⟨(some 22), (some (21, false)), (.p (.fieldA 1 1 (.t 4)))⟩, ⟨(some 23), (some (21, false)), (.p (.load false 1 (.t 22)))⟩, ⟨(some 24), (some (21, false)), (.p (.bin 0 .geq (.t 23) (.c (.int .i64 2))))⟩, ⟨(some 25), none, (.p (.pick (.t 21) (.c (.bool true)) (.t 24)))⟩, ⟨(some 26), none, (.p (.mov (.t 25)))⟩, ⟨(some 27), (some (26, false)), (.p (.fieldA 2 2 (.t 4)))⟩, ⟨(some 28), (some (26, false)), (.p (.load false 1 (.t 27)))⟩, ⟨(some 29), (some (26, false)), (.p (.len (.t 28)))⟩, ⟨(some 30), (some (26, false)), (.p (.bin 0 .gtr (.t 29) (.c (.int .i64 16))))⟩, ⟨(some 31), none, (.p (.pick (.t 26) (.c (.bool true)) (.t 30)))⟩])
 (.cond (.t 31) (.seq (.reg [⟨(some 2), none, (.p (.mov (.c (.bool false))))⟩])
 (.ret)) (.skip)))))
 (.reg [⟨(some 32), none, (.p (.bin 0 .add (.t 7) (.c (.int .i64 1))))⟩, ⟨(some 7), none, (.p (.mov (.t 32)))⟩])))))))
 (.seq (.reg [⟨(some 2), none, (.p (.mov (.c (.bool true))))⟩])
 (.ret)))
theorem m_ord0_ok : compF Try.prog 50 = some (33, m_ord0, [.mov (.t 2)]) := by kernel_rfl
set_option maxHeartbeats 4000000 in
theorem rord0_fn : Fnc Try.prog 50 [.sl false 3 []] (fun x obs => x = .bool true ∧ obs = []) := by
  refine Fnc.intro m_ord0_ok (by simp) fun W S => ?_
  unfold m_ord0
  simp only [ents, Nat.zero_add, Nat.reduceAdd]
  refine zst ?_
  refine ev_unroll 1 ?_
  refine zst ?_
  refine ret m_ord0_ok [] ?_; exact zfn
end Go.Proofs.Ytkfpcgkmemfdaaa
/- The outside at its beginning. -/
namespace Go.Proofs.Ytkfpcgkmemfdaaa
open Go Go.RowKit Rdn Rdn.Dp
set_option linter.unusedVariables false
set_option linter.unusedSimpArgs false
def m_fnew : MC := .seq (.reg [⟨(some 2), none, (.m (.alloc 28 (.agg [.nilS, .nilS])))⟩, ⟨(some 3), none, (.p (.mov (.c (.int .i64 0))))⟩])
 (.seq (.reg [⟨(some 11), none, (.m (.mkS 102 3 24 (.agg [.int .i64 0, .int .i64 0, .bool false]) (.c (.int .i64 8)) (.c (.int .i64 8))))⟩, ⟨(some 12), none, (.m (.build none [.nilS, .nilS] [(1, (.t 11))]))⟩, ⟨(some 4), none, (.m (.alloc 28 (.agg [.nilS, .nilS])))⟩, ⟨none, none, (.m (.store 2 (.t 4) (.t 12)))⟩])
 (.seq (.seq (.reg [⟨(some 13), none, (.p (.fieldA 1 1 (.t 4)))⟩, ⟨(some 14), none, (.p (.load false 1 (.t 13)))⟩, ⟨(some 15), none, (.p (.len (.t 14)))⟩, ⟨(some 16), none, (.p (.mov (.c (.int .i64 0))))⟩])
 (.block 0 (.loop (.seq (.reg [⟨(some 17), none, (.p (.bin 0 .lss (.t 16) (.t 15)))⟩])
 (.seq (.cond (.t 17) (.skip) (.exit 0))
 (.seq (.block 1 (.seq (.reg [⟨(some 18), none, (.p (.mov (.t 16)))⟩, ⟨(some 5), none, (.p (.mov (.t 18)))⟩])
 (.reg [⟨(some 19), none, (.p (.fieldA 1 1 (.t 4)))⟩, ⟨(some 20), none, (.p (.load false 1 (.t 19)))⟩, ⟨(some 21), none, (.p (.mov (.t 5)))⟩, ⟨(some 22), none, (.p (.idxA 3 (.t 20) (.t 21)))⟩, ⟨(some 23), none, (.p (.fieldA 0 0 (.t 22)))⟩, ⟨none, none, (.m (.store 1 (.t 23) (.c (.int .i64 (-1)))))⟩])))
 (.reg [⟨(some 24), none, (.p (.bin 0 .add (.t 16) (.c (.int .i64 1))))⟩, ⟨(some 16), none, (.p (.mov (.t 24)))⟩])))))))
 (.seq (.seq (.reg [⟨(some 25), none, (.p (.mov (.t 0)))⟩, ⟨(some 26), none, (.p (.len (.t 25)))⟩, ⟨(some 27), none, (.p (.mov (.c (.int .i64 0))))⟩])
 (.block 2 (.loop (.seq (.reg [⟨(some 28), none, (.p (.bin 0 .lss (.t 27) (.t 26)))⟩])
 (.seq (.cond (.t 28) (.skip) (.exit 2))
 (.seq (.block 3 (.seq (.reg [⟨(some 29), none, (.p (.idxA 1 (.t 25) (.t 27)))⟩, ⟨(some 30), none, (.p (.load false 1 (.t 29)))⟩, ⟨(some 7), none, (.p (.mov (.t 30)))⟩])
 (.seq (.reg [⟨(some 8), none, (.p (.mov (.c (.nilS))))⟩])
 (.seq (.seq (.reg [⟨(some 31), none, (.p (.mov (.t 7)))⟩, ⟨(some 32), none, (.p (.len (.t 31)))⟩, ⟨(some 33), none, (.p (.mov (.c (.int .i64 0))))⟩])
 (.block 4 (.loop (.seq (.reg [⟨(some 34), none, (.p (.bin 0 .lss (.t 33) (.t 32)))⟩])
 (.seq (.cond (.t 34) (.skip) (.exit 4))
 (.seq (.block 5 (.seq (.reg [⟨(some 35), none, (.p (.idxA 1 (.t 31) (.t 33)))⟩, ⟨(some 36), none, (.p (.load false 1 (.t 35)))⟩, ⟨(some 10), none, (.p (.mov (.t 36)))⟩])
 (.reg [⟨(some 37), none, (.p (.mov (.t 8)))⟩, ⟨(some 38), none, (.p (.mov (.t 10)))⟩, ⟨(some 39), none, (.m (.build none [.int .u8 0, .int .u16 0, .int .i64 0, .int .i64 0] [(1, (.t 38))]))⟩, ⟨(some 40), none, (.m (.buildS 47 4 (.agg [.int .u8 0, .int .u16 0, .int .i64 0, .int .i64 0]) 1 [(0, (.t 39))]))⟩, ⟨(some 41), none, (.m (.app 47 4 24 (.t 37) (.t 40)))⟩, ⟨(some 8), none, (.p (.mov (.t 41)))⟩])))
 (.reg [⟨(some 42), none, (.p (.bin 0 .add (.t 33) (.c (.int .i64 1))))⟩, ⟨(some 33), none, (.p (.mov (.t 42)))⟩])))))))
 (.reg [⟨(some 43), none, (.p (.fieldA 0 0 (.t 4)))⟩, ⟨(some 44), none, (.p (.load false 1 (.t 43)))⟩, ⟨(some 45), none, (.p (.mov (.t 8)))⟩, ⟨(some 46), none, (.m (.buildS 41 1 (.nilS) 1 [(0, (.t 45))]))⟩, ⟨(some 47), none, (.m (.app 41 1 24 (.t 44) (.t 46)))⟩, ⟨(some 48), none, (.p (.fieldA 0 0 (.t 4)))⟩, ⟨none, none, (.m (.store 1 (.t 48) (.t 47)))⟩])))))
 (.reg [⟨(some 49), none, (.p (.bin 0 .add (.t 27) (.c (.int .i64 1))))⟩, ⟨(some 27), none, (.p (.mov (.t 49)))⟩])))))))
 (.seq (.seq (.reg [⟨(some 50), none, (.p (.load true 2 (.t 4)))⟩, ⟨(some 51), none, (.call 49 [(.t 50)])⟩, ⟨(some 52), none, (.p (.un .not (.t 51)))⟩])
 (.cond (.t 52) (.seq (.reg [⟨(some 53), none, (.m (.build none [.nilS, .nilS] []))⟩, ⟨none, none, (.m (.store 2 (.t 2) (.t 53)))⟩, ⟨(some 3), none, (.p (.mov (.c (.int .i64 3))))⟩])
 (.ret)) (.skip)))
 (.seq (.reg [⟨(some 54), none, (.p (.load true 2 (.t 4)))⟩, ⟨none, none, (.m (.store 2 (.t 2) (.t 54)))⟩, ⟨(some 3), none, (.p (.mov (.c (.int .i64 0))))⟩])
 (.ret))))))
theorem m_fnew_ok : compF Try.prog 26 = some (55, m_fnew, [.load true 2 (.t 2), .mov (.t 3)]) := by kernel_rfl
def m_oval : MC := .seq (.reg [⟨(some 1), none, (.m (.box 31 (.t 0)))⟩, ⟨(some 2), none, (.p (.mov (.c (.bool false))))⟩])
 (.seq (.seq (.reg [⟨(some 7), none, (.p (.fieldA 2 2 (.t 1)))⟩, ⟨(some 8), none, (.p (.load false 1 (.t 7)))⟩, ⟨(some 9), none, (.p (.len (.t 8)))⟩, ⟨(some 10), none, (.p (.mov (.c (.int .i64 0))))⟩])
 (.block 0 (.loop (.seq (.reg [⟨(some 11), none, (.p (.bin 0 .lss (.t 10) (.t 9)))⟩])
 (.seq (.cond (.t 11) (.skip) (.exit 0))
 (.seq (.block 1 (.seq (.reg [⟨(some 12), none, (.p (.idxA 1 (.t 8) (.t 10)))⟩, ⟨(some 13), none, (.p (.load false 1 (.t 12)))⟩, ⟨(some 4), none, (.p (.mov (.t 13)))⟩])
 (.seq (.reg [⟨(some 14), none, (.p (.mov (.t 4)))⟩, ⟨(some 15), none, (.p (.len (.t 14)))⟩, ⟨(some 16), none, (.p (.bin 0 .gtr (.t 15) (.c (.int .i64 64))))⟩])
 (.cond (.t 16) (.seq (.reg [⟨(some 2), none, (.p (.mov (.c (.bool false))))⟩])
 (.ret)) (.skip)))))
 (.reg [⟨(some 17), none, (.p (.bin 0 .add (.t 10) (.c (.int .i64 1))))⟩, ⟨(some 10), none, (.p (.mov (.t 17)))⟩])))))))
 (.seq (.seq (.reg [⟨(some 18), none, (.p (.fieldA 5 4 (.t 1)))⟩, ⟨(some 19), none, (.p (.load false 1 (.t 18)))⟩, ⟨(some 20), none, (.p (.len (.t 19)))⟩, ⟨(some 21), none, (.p (.mov (.c (.int .i64 0))))⟩])
 (.block 2 (.loop (.seq (.reg [⟨(some 22), none, (.p (.bin 0 .lss (.t 21) (.t 20)))⟩])
 (.seq (.cond (.t 22) (.skip) (.exit 2))
 (.seq (.block 3 (.seq (.reg [⟨(some 23), none, (.p (.idxA 3 (.t 19) (.t 21)))⟩, ⟨(some 24), none, (.p (.load true 3 (.t 23)))⟩, ⟨(some 6), none, (.m (.alloc 55 (.agg [.int .i64 0, .int .i64 0, .nilS])))⟩, ⟨none, none, (.m (.store 3 (.t 6) (.t 24)))⟩])
 (.seq (.reg [⟨(some 25), none, (.p (.fieldA 2 2 (.t 6)))⟩, ⟨(some 26), none, (.p (.load false 1 (.t 25)))⟩, ⟨(some 27), none, (.call 48 [(.t 26), (.c (.int .i64 16))])⟩, ⟨(some 28), none, (.p (.un .not (.t 27)))⟩])
 (.cond (.t 28) (.seq (.reg [⟨(some 2), none, (.p (.mov (.c (.bool false))))⟩])
 (.ret)) (.skip)))))
 (.reg [⟨(some 29), none, (.p (.bin 0 .add (.t 21) (.c (.int .i64 1))))⟩, ⟨(some 21), none, (.p (.mov (.t 29)))⟩])))))))
 (.seq (.reg [⟨(some 30), none, (.p (.fieldA 0 0 (.t 1)))⟩, ⟨(some 31), none, (.p (.load false 1 (.t 30)))⟩, ⟨(some 32), none, (.p (.len (.t 31)))⟩, ⟨(some 33), none, (.p (.bin 0 .leq (.t 32) (.c (.int .i64 64))))⟩, ⟨(some 34), none, (.p (.mov (.t 33)))⟩, ⟨(some 35), (some (34, true)), (.p (.fieldA 1 1 (.t 1)))⟩, ⟨(some 36), (some (34, true)), (.p (.load false 1 (.t 35)))⟩, ⟨(some 37), (some (34, true)), (.p (.len (.t 36)))⟩, ⟨(some 38), (some (34, true)), (.p (.bin 0 .leq (.t 37) (.c (.int .i64 64))))⟩, ⟨(some 39), none, (.p (.pick (.t 34) (.t 38) (.c (.bool false))))⟩, ⟨(some 40), none, (.p (.mov (.t 39)))⟩, ⟨(some 41), (some (40, true)), (.p (.fieldA 2 2 (.t 1)))⟩, ⟨(some 42), (some (40, true)), (.p (.load false 1 (.t 41)))⟩, ⟨(some 43), (some (40, true)), (.p (.len (.t 42)))⟩, ⟨(some 44), (some (40, true)), (.p (.bin 0 .leq (.t 43) (.c (.int .i64 2))))⟩, ⟨(some 45), none, (.p (.pick (.t 40) (.t 44) (.c (.bool false))))⟩, ⟨(some 46), none, (.p (.mov (.t 45)))⟩, ⟨(some 47), (some (46, true)), (.p (.fieldA 3 3 (.t 1)))⟩, ⟨(some 48), (some (46, true)), (.p (.load true 2 (.t 47)))⟩, ⟨(some 49), (some (46, true)), (.call 49 [(.t 48)])⟩, ⟨(some 50), none, (.p (.pick (.t 46) (.t 49) (.c (.bool false))))⟩, ⟨(some 51), none, (.p (.mov (.t 50)))⟩, ⟨(some 52), (some (51, true)), (.p (.fieldA 5 4 (.t 1)))⟩, ⟨(some 53), (some (51, true)), (.p (.load false 1 (.t 52)))⟩, ⟨(some 54), (some (51, true)), (.p (.len (.t 53)))⟩, ⟨(some 55), (some (51, true)), (.p (.bin 0 .leq (.t 54) (.c (.int .i64 200))))⟩, ⟨(some 56), none, (.p (.pick (.t 51) (.t 55) (.c (.bool false))))⟩, ⟨(some 57), none, (.p (.mov (.t 56)))⟩, ⟨(some 58), (some (57, true)), (.p (.fieldA 5 4 (.t 1)))⟩, ⟨(some 59), (some (57, true)), (.p (.load false 1 (.t 58)))⟩, ⟨(some 60), (some (57, true)), (.call 50 [(.t 59)])⟩, ⟨(some 61), none, (.p (.pick (.t 57) (.t 60) (.c (.bool false))))⟩, ⟨(some 2), none, (.p (.mov (.t 61)))⟩])
 (.ret))))
theorem m_oval_ok : compF Try.prog 15 = some (62, m_oval, [.mov (.t 2)]) := by kernel_rfl

set_option maxRecDepth 100000 in
set_option maxHeartbeats 16000000 in
theorem fnew_fn (w0 w1 : List Int) (h0 : w0.length ≤ 64) (h1 : w1.length ≤ 64) : Fnc Try.prog 26 [.sl false 1 [wsV w0, wsV w1]] (fun x obs => x = .tup [fsV w0 w1, .int .i64 0] ∧ obs = []) := by
  refine Fnc.low ?_
  refine Fnc.intro m_fnew_ok (by simp) fun W S => ?_
  unfold m_fnew
  simp only [ents, Nat.zero_add, Nat.reduceAdd]
  refine zst ?_
  refine ev_unroll 9 ?_
  refine zst ?_
  refine ev_unroll 3 ?_
  refine zst ?_
  refine ev_adopt (i := 8) (e := 47) (s := 4) rfl (by decide) ?_
  refine ev_loopK [2, 4, 25, 26, 27, 31, 32] (fun p : {p : Nat // p ≤ w0.length} => [(8, .own 3 p.1), (33, .int .i64 p.1)]) (fun p => [⟨.box false 28, true, 0, .agg [.nilS, .nilS]⟩, ⟨.row 102, true, 0, .arr 3 [openN, openN, openN, openN, openN, openN, openN, openN]⟩, ⟨.box false 28, true, 0, .agg [.nilS, .own 1 0]⟩, ⟨.row 47, true, p.1, .arr 4 ((numC (w0.take p.1)).map canonV)⟩]) (fun p => w0.length - p.1) (⟨0, by simp⟩) 4 (by simp only [go_sem]; rfl) ?_ (by first | rfl | (simp only [go_sem]; done) | (simp only [go_sem]; simp [numC_zero]; done)) (by simp) (by first | rfl | (simp only [go_sem]; done)) (by first | rfl | (simp only [go_sem]; done)) (by first | rfl | (simp only [go_sem]; done) | (simp only [numC_zero]; (try simp only [go_sem]); first | done | rfl)) ?_
  · (simp only [go_sem]; (try simp [numC_zero]); done)
  intro J hJ
  rintro ⟨k, hk0⟩
  by_cases hlt : k < w0.length
  · have hl := numC_len (w0.take k)
    have hl2 : (w0.take k).length = k := by rw [List.length_take]; omega
    have hs := numC_snoc hlt
    refine zst ?_
    refine ev_next 4 (hJ _ (⟨k + 1, hlt⟩) (by first | omega | (dsimp only; omega) | (simp; omega))) rfl (by simp) ?_ (by first | rfl | (simp only [go_sem]; done)) (by first | rfl | (simp only [go_sem]; done) | (simp only [hs]; (try simp only [go_sem]); first | done | rfl)) ?_
    · exact zna hs
    · exact znb hs
  obtain rfl : k = w0.length := by omega
  refine zst ?_
  refine ev_adopt (i := 8) (e := 47) (s := 4) rfl (by decide) ?_
  refine ev_loopK [2, 4, 25, 26, 27, 31, 32] (fun p : {p : Nat // p ≤ w1.length} => [(8, .own 6 p.1), (33, .int .i64 p.1)]) (fun p => [⟨.box false 28, true, 0, .agg [.nilS, .nilS]⟩, ⟨.row 102, true, 0, .arr 3 [openN, openN, openN, openN, openN, openN, openN, openN]⟩, ⟨.box false 28, true, 0, .agg [.own 5 0, .own 1 0]⟩, ⟨.row 47, false, w0.length, .arr 4 ((numC w0).map canonV)⟩, ⟨.row 41, true, 0, .arr 1 [.sl true 4 ((numC w0).map canonV)]⟩, ⟨.row 41, true, 0, .arr 1 [.sl true 4 ((numC w0).map canonV)]⟩, ⟨.row 47, true, p.1, .arr 4 ((numC (w1.take p.1)).map canonV)⟩]) (fun p => w1.length - p.1) (⟨0, by simp⟩) 7 (by simp only [go_sem]; rfl) ?_ (by first | rfl | (simp only [go_sem]; done) | (simp only [go_sem]; simp [numC_zero]; done)) (by simp) (by first | rfl | (simp only [go_sem]; done)) (by first | rfl | (simp only [go_sem]; done)) (by first | rfl | (simp only [go_sem]; done) | (simp only [numC_zero]; (try simp only [go_sem]); first | done | rfl)) ?_
  · (simp only [go_sem]; (try simp [numC_zero]); done)
  intro J hJ
  rintro ⟨k, hk0⟩
  by_cases hlt : k < w1.length
  · have hl := numC_len (w1.take k)
    have hl2 : (w1.take k).length = k := by rw [List.length_take]; omega
    have hs := numC_snoc hlt
    refine zst ?_
    refine ev_next 7 (hJ _ (⟨k + 1, hlt⟩) (by first | omega | (dsimp only; omega) | (simp; omega))) rfl (by simp) ?_ (by first | rfl | (simp only [go_sem]; done)) (by first | rfl | (simp only [go_sem]; done) | (simp only [hs]; (try simp only [go_sem]); first | done | rfl)) ?_
    · exact zna hs
    · exact znb hs
  obtain rfl : k = w1.length := by omega
  refine zst ?_
  (first | refine callD (fval_fn w0 w1 h0 h1) ?_ | refine callDw (fval_fn w0 w1 h0 h1) ?_); simp only [go_sem]
  refine zst ?_
  refine ret m_fnew_ok [] ?_; exact zfn
set_option maxRecDepth 100000 in
set_option maxHeartbeats 16000000 in
theorem oval_fn (c r i0 i1 w0 w1 : List Int) (hc : c.length ≤ 64) (hr : r.length ≤ 64) (hi0 : i0.length ≤ 64) (hi1 : i1.length ≤ 64) (h0 : w0.length ≤ 64) (h1 : w1.length ≤ 64) : Fnc Try.prog 15 [.agg [wsV c, wsV r, .sl false 1 [wsV i0, wsV i1], fsV w0 w1, .nilS]] (fun x obs => x = .bool true ∧ obs = []) := by
  have fo := rord0_fn
  refine Fnc.intro m_oval_ok (by simp) fun W S => ?_
  unfold m_oval
  simp only [ents, Nat.zero_add, Nat.reduceAdd]
  refine zst ?_
  refine ev_unroll 3 ?_
  refine zst ?_
  refine ev_unroll 1 ?_
  refine zst ?_
  (first | refine callD (fval_fn w0 w1 h0 h1) ?_ | refine callDw (fval_fn w0 w1 h0 h1) ?_); simp only [go_sem]
  refine zst ?_
  (first | refine callD (fo) ?_ | refine callDw (fo) ?_); simp only [go_sem]
  refine zst ?_
  refine ret m_oval_ok [] ?_; exact zfn
end Go.Proofs.Ytkfpcgkmemfdaaa
/- The outside, drawn. -/
namespace Go.Proofs.Ytkfpcgkmemfdaaa
open Go Go.RowKit Rdn Rdn.Dp
set_option linter.unusedVariables false
set_option linter.unusedSimpArgs false
def m_obeg : MC := .seq (.reg [⟨(some 8), none, (.m (.alloc 31 (.agg [.nilS, .nilS, .nilS, .agg [.nilS, .nilS], .nilS])))⟩, ⟨(some 9), none, (.p (.mov (.c (.int .i64 0))))⟩])
 (.seq (.reg [⟨(some 14), none, (.p (.mov (.t 0)))⟩, ⟨(some 15), none, (.call 26 [(.t 14)])⟩, ⟨(some 13), none, (.p (.mov (.t 15)))⟩, ⟨(some 16), none, (.p (.ext (.t 13) 0))⟩, ⟨(some 17), none, (.p (.ext (.t 13) 1))⟩, ⟨(some 10), none, (.m (.alloc 28 (.agg [.nilS, .nilS])))⟩, ⟨none, none, (.m (.store 2 (.t 10) (.t 16)))⟩, ⟨(some 11), none, (.p (.mov (.t 17)))⟩])
 (.seq (.seq (.reg [⟨(some 18), none, (.p (.mov (.t 11)))⟩, ⟨(some 19), none, (.p (.bin 0 .neq (.t 18) (.c (.int .i64 0))))⟩])
 (.cond (.t 19) (.seq (.reg [⟨(some 20), none, (.m (.build none [.nilS, .nilS, .nilS, .agg [.nilS, .nilS], .nilS] []))⟩, ⟨(some 21), none, (.p (.mov (.t 11)))⟩, ⟨none, none, (.m (.store 6 (.t 8) (.t 20)))⟩, ⟨(some 9), none, (.p (.mov (.t 21)))⟩])
 (.ret)) (.skip)))
 (.seq (.dreg [⟨(some 22), none, (.p (.mov (.t 2)))⟩, ⟨(some 23), none, (.m (.app 45 1 2 (.c (.nilS)) (.t 22)))⟩, ⟨(some 24), none, (.p (.mov (.t 3)))⟩, ⟨(some 25), none, (.m (.app 45 1 2 (.c (.nilS)) (.t 24)))⟩, ⟨(some 26), none, (.p (.mov (.t 1)))⟩, ⟨(some 27), none, (.call 27 [(.t 26)])⟩, ⟨(some 28), none, (.p (.load true 2 (.t 10)))⟩, ⟨(some 29), none, (.m (.build none [.nilS, .nilS, .nilS, .agg [.nilS, .nilS], .nilS] [(0, (.t 23)), (1, (.t 25)), (2, (.t 27)), (3, (.t 28))]))⟩, ⟨(some 12), none, (.m (.alloc 31 (.agg [.nilS, .nilS, .nilS, .agg [.nilS, .nilS], .nilS])))⟩, ⟨none, none, (.m (.store 6 (.t 12) (.t 29)))⟩] [[], [0], [], [0, 1, 2], [], [0, 1, 2, 3, 4], [], [0, 1, 2, 3, 4, 5, 6], [], [0, 1, 2, 3, 4, 5, 6, 7, 8]])
 (.seq (.seq (.reg [⟨(some 30), none, (.p (.load true 6 (.t 12)))⟩, ⟨(some 31), none, (.call 15 [(.t 30)])⟩, ⟨(some 32), none, (.p (.un .not (.t 31)))⟩])
 (.cond (.t 32) (.seq (.reg [⟨(some 33), none, (.m (.build none [.nilS, .nilS, .nilS, .agg [.nilS, .nilS], .nilS] []))⟩, ⟨none, none, (.m (.store 6 (.t 8) (.t 33)))⟩, ⟨(some 9), none, (.p (.mov (.c (.int .i64 3))))⟩])
 (.ret)) (.skip)))
 (.seq (.reg [⟨(some 34), none, (.p (.load true 6 (.t 12)))⟩, ⟨none, none, (.m (.store 6 (.t 8) (.t 34)))⟩, ⟨(some 9), none, (.p (.mov (.c (.int .i64 0))))⟩])
 (.ret))))))
theorem m_obeg_ok : compF Try.prog 9 = some (35, m_obeg, [.load true 6 (.t 8), .mov (.t 9)]) := by kernel_rfl
def m_outs : MC := .seq (.reg [⟨(some 2), none, (.m (.alloc 31 (.agg [.nilS, .nilS, .nilS, .agg [.nilS, .nilS], .nilS])))⟩])
 (.seq (.reg [⟨(some 6), none, (.p (.mov (.t 0)))⟩, ⟨(some 7), none, (.call 67 [(.t 6), (.c (.int .i64 5))])⟩, ⟨(some 8), none, (.p (.mov (.t 0)))⟩, ⟨(some 9), none, (.call 67 [(.t 8), (.c (.int .i64 3))])⟩, ⟨(some 10), none, (.m (.buildS 23 1 (.nilS) 2 [(0, (.t 7)), (1, (.t 9))]))⟩, ⟨(some 11), none, (.p (.mov (.t 0)))⟩, ⟨(some 12), none, (.call 67 [(.t 11), (.c (.int .i64 8))])⟩, ⟨(some 13), none, (.p (.mov (.t 0)))⟩, ⟨(some 14), none, (.call 67 [(.t 13), (.c (.int .i64 4))])⟩, ⟨(some 15), none, (.m (.buildS 23 1 (.nilS) 2 [(0, (.t 12)), (1, (.t 14))]))⟩, ⟨(some 16), none, (.p (.mov (.t 0)))⟩, ⟨(some 17), none, (.call 67 [(.t 16), (.c (.int .i64 5))])⟩, ⟨(some 18), none, (.p (.mov (.t 0)))⟩, ⟨(some 19), none, (.call 67 [(.t 18), (.c (.int .i64 5))])⟩, ⟨(some 20), none, (.call 9 [(.t 10), (.t 15), (.t 17), (.t 19)])⟩, ⟨(some 5), none, (.p (.mov (.t 20)))⟩, ⟨(some 21), none, (.p (.ext (.t 5) 0))⟩, ⟨(some 22), none, (.p (.ext (.t 5) 1))⟩, ⟨(some 3), none, (.m (.alloc 31 (.agg [.nilS, .nilS, .nilS, .agg [.nilS, .nilS], .nilS])))⟩, ⟨none, none, (.m (.store 6 (.t 3) (.t 21)))⟩, ⟨(some 4), none, (.p (.mov (.t 22)))⟩])
 (.seq (.reg [⟨(some 23), none, (.p (.load true 6 (.t 3)))⟩, ⟨none, none, (.m (.store 6 (.t 2) (.t 23)))⟩])
 (.ret)))
theorem m_outs_ok : compF Try.prog 31 = some (24, m_outs, [.load true 6 (.t 2)]) := by kernel_rfl
set_option maxHeartbeats 8000000 in
theorem obeg_fn (c r i0 i1 w0 w1 : List Int) (hc : c.length ≤ 64) (hr : r.length ≤ 64) (hi0 : i0.length ≤ 64) (hi1 : i1.length ≤ 64) (h0 : w0.length ≤ 64) (h1 : w1.length ≤ 64) : Fnc Try.prog 9 [.sl false 1 [wsV w0, wsV w1], .sl false 1 [wsV i0, wsV i1], wsV c, wsV r] (fun x obs => x = .tup [.agg [wsV c, wsV r, .sl false 1 [wsV i0, wsV i1], fsV w0 w1, .nilS], .int .i64 0] ∧ obs = []) := by
  refine Fnc.low ?_
  refine Fnc.intro m_obeg_ok (by simp) fun W S => ?_
  unfold m_obeg
  simp only [ents, Nat.zero_add, Nat.reduceAdd]
  refine zst ?_
  (first | refine callD (fnew_fn w0 w1 h0 h1) ?_ | refine callDw (fnew_fn w0 w1 h0 h1) ?_); simp only [go_sem]
  refine zst ?_
  (first | refine callD (copyin_fn i0 i1 hi0 hi1) ?_ | refine callDw (copyin_fn i0 i1 hi0 hi1) ?_); simp only [go_sem]
  refine zst ?_
  (first | refine callD (oval_fn c r i0 i1 w0 w1 hc hr hi0 hi1 h0 h1) ?_ | refine callDw (oval_fn c r i0 i1 w0 w1 hc hr hi0 hi1 h0 h1) ?_); simp only [go_sem]
  refine zst ?_
  refine ret m_obeg_ok [] ?_; exact zfn
set_option maxHeartbeats 8000000 in
theorem outs_fn (l : List Int) (k : Nat) (hk : k ≤ l.length) : FncM Try.prog 31 72 (deckV l k) [] (fun x obs d => x = .agg [wsV (dws l (dws l (dws l (dws l (dws l k 5).2 3).2 8).2 4).2 5).1, wsV (dws l (dws l (dws l (dws l (dws l (dws l k 5).2 3).2 8).2 4).2 5).2 5).1, .sl false 1 [wsV (dws l (dws l (dws l k 5).2 3).2 8).1, wsV (dws l (dws l (dws l (dws l k 5).2 3).2 8).2 4).1], fsV (dws l k 5).1 (dws l (dws l k 5).2 3).1, .nilS] ∧ obs = [] ∧ d = deckV l (dws l (dws l (dws l (dws l (dws l (dws l k 5).2 3).2 8).2 4).2 5).2 5).2) := by
  refine FncM.low ?_
  have k1 := dws_le hk 5
  have n1 := dws_len (l := l) (k := k) (n := 5) (by omega)
  have f1 := words_fn l k 5 hk (by omega) (by omega)
  generalize dws l k 5 = q1 at k1 n1 f1
  have k2 := dws_le k1 3
  have n2 := dws_len (l := l) (k := q1.2) (n := 3) (by omega)
  have f2 := words_fn l q1.2 3 k1 (by omega) (by omega)
  generalize dws l q1.2 3 = q2 at k2 n2 f2
  have k3 := dws_le k2 8
  have n3 := dws_len (l := l) (k := q2.2) (n := 8) (by omega)
  have f3 := words_fn l q2.2 8 k2 (by omega) (by omega)
  generalize dws l q2.2 8 = q3 at k3 n3 f3
  have k4 := dws_le k3 4
  have n4 := dws_len (l := l) (k := q3.2) (n := 4) (by omega)
  have f4 := words_fn l q3.2 4 k3 (by omega) (by omega)
  generalize dws l q3.2 4 = q4 at k4 n4 f4
  have k5 := dws_le k4 5
  have n5 := dws_len (l := l) (k := q4.2) (n := 5) (by omega)
  have f5 := words_fn l q4.2 5 k4 (by omega) (by omega)
  generalize dws l q4.2 5 = q5 at k5 n5 f5
  have n6 := dws_len (l := l) (k := q5.2) (n := 5) (by omega)
  have f6 := words_fn l q5.2 5 k5 (by omega) (by omega)
  generalize dws l q5.2 5 = q6 at n6 f6
  refine FncM.intro m_outs_ok (by simp) fun W S b0 hb0 => ?_
  unfold m_outs
  simp only [ents, Nat.zero_add, Nat.reduceAdd]
  refine zst ?_
  (first | apply st_callMD (f1) rfl | apply evw_callM (f1) rfl)
  · (simp only [go_sem]; rfl)
  · rfl
  · (first | rfl | (simp only [go_sem]; done))
  · (first | rfl | (simp only [go_sem]; done) | (simp only [go_sem]; rfl))
  · (first | rfl | (simp only [go_sem]; done))
  · (first | rfl | (simp only [go_sem]; done) | (simp only [go_sem]; rfl))
  · (first | rfl | simp [V.pureT, V.pure, V.pures, pures_lo, pures_sls])
  (first | refine ev_all (fu := [(), (), (), (), (), (), (), ()]) ?_ | refine evw_all (md := []) (fu := [(), (), (), (), (), (), (), ()]) ?_); refine zev ?_
  refine zst ?_
  (first | apply st_callMD (f2) rfl | apply evw_callM (f2) rfl)
  · (simp only [go_sem]; rfl)
  · rfl
  · (first | rfl | (simp only [go_sem]; done))
  · (first | rfl | (simp only [go_sem]; done) | (simp only [go_sem]; rfl))
  · (first | rfl | (simp only [go_sem]; done))
  · (first | rfl | (simp only [go_sem]; done) | (simp only [go_sem]; rfl))
  · (first | rfl | simp [V.pureT, V.pure, V.pures, pures_lo, pures_sls])
  (first | refine ev_all (fu := [(), (), (), (), (), (), (), ()]) ?_ | refine evw_all (md := []) (fu := [(), (), (), (), (), (), (), ()]) ?_); refine zev ?_
  refine zst ?_
  (first | apply st_callMD (f3) rfl | apply evw_callM (f3) rfl)
  · (simp only [go_sem]; rfl)
  · rfl
  · (first | rfl | (simp only [go_sem]; done))
  · (first | rfl | (simp only [go_sem]; done) | (simp only [go_sem]; rfl))
  · (first | rfl | (simp only [go_sem]; done))
  · (first | rfl | (simp only [go_sem]; done) | (simp only [go_sem]; rfl))
  · (first | rfl | simp [V.pureT, V.pure, V.pures, pures_lo, pures_sls])
  (first | refine ev_all (fu := [(), (), (), (), (), (), (), ()]) ?_ | refine evw_all (md := []) (fu := [(), (), (), (), (), (), (), ()]) ?_); refine zev ?_
  refine zst ?_
  (first | apply st_callMD (f4) rfl | apply evw_callM (f4) rfl)
  · (simp only [go_sem]; rfl)
  · rfl
  · (first | rfl | (simp only [go_sem]; done))
  · (first | rfl | (simp only [go_sem]; done) | (simp only [go_sem]; rfl))
  · (first | rfl | (simp only [go_sem]; done))
  · (first | rfl | (simp only [go_sem]; done) | (simp only [go_sem]; rfl))
  · (first | rfl | simp [V.pureT, V.pure, V.pures, pures_lo, pures_sls])
  (first | refine ev_all (fu := [(), (), (), (), (), (), (), ()]) ?_ | refine evw_all (md := []) (fu := [(), (), (), (), (), (), (), ()]) ?_); refine zev ?_
  refine zst ?_
  (first | apply st_callMD (f5) rfl | apply evw_callM (f5) rfl)
  · (simp only [go_sem]; rfl)
  · rfl
  · (first | rfl | (simp only [go_sem]; done))
  · (first | rfl | (simp only [go_sem]; done) | (simp only [go_sem]; rfl))
  · (first | rfl | (simp only [go_sem]; done))
  · (first | rfl | (simp only [go_sem]; done) | (simp only [go_sem]; rfl))
  · (first | rfl | simp [V.pureT, V.pure, V.pures, pures_lo, pures_sls])
  (first | refine ev_all (fu := [(), (), (), (), (), (), (), ()]) ?_ | refine evw_all (md := []) (fu := [(), (), (), (), (), (), (), ()]) ?_); refine zev ?_
  refine zst ?_
  (first | apply st_callMD (f6) rfl | apply evw_callM (f6) rfl)
  · (simp only [go_sem]; rfl)
  · rfl
  · (first | rfl | (simp only [go_sem]; done))
  · (first | rfl | (simp only [go_sem]; done) | (simp only [go_sem]; rfl))
  · (first | rfl | (simp only [go_sem]; done))
  · (first | rfl | (simp only [go_sem]; done) | (simp only [go_sem]; rfl))
  · (first | rfl | simp [V.pureT, V.pure, V.pures, pures_lo, pures_sls])
  (first | refine ev_all (fu := [(), (), (), (), (), (), (), ()]) ?_ | refine evw_all (md := []) (fu := [(), (), (), (), (), (), (), ()]) ?_); refine zev ?_
  refine zst ?_
  refine evr_calmA ?_; (refine zev ?_); (first | refine callD (obeg_fn q5.1 q6.1 q3.1 q4.1 q1.1 q2.1 (by omega) (by omega) (by omega) (by omega) (by omega) (by omega)) ?_ | refine callDw (obeg_fn q5.1 q6.1 q3.1 q4.1 q1.1 q2.1 (by omega) (by omega) (by omega) (by omega) (by omega) (by omega)) ?_); simp only [go_sem]
  refine zst ?_
  apply st_returnM hb0 m_outs_ok []
  · (simp only [go_sem]; rfl)
  · (first | exact trivial | (simp; done))
  · (first | (simp [outOk]; done) | exact outOk1 rfl)
  · (simp only [go_sem]; (first | done | trivial | simp [V.resOk, V.ressOk, rowV, V.pures, V.pure, pures_appE, pures_lo, pures_sls]))
  · (first | (simp only [V.res, V.ress, rowV, List.idxOf?_nil, List.idxOf?_cons, List.getElem?_cons_zero, List.getElem?_cons_succ]; first | rfl | (simp only [go_sem]; rfl)) | rfl)
  · (first | (simp only [go_sem]; rfl) | rfl)
  · rfl
  · (simp only [go_sem]; (first | done | rfl))
  ((try dsimp only); (repeat' (refine And.intro ?_ ?_)) <;> first | with_reducible rfl | (simp only [go_sem]; done) | (simp only [go_sem]; rfl) | (simp only []; (try simp only [go_sem]); first | done | rfl) | (simp only [go_sem]; simp []; done) | (simp []; done) | rfl)
end Go.Proofs.Ytkfpcgkmemfdaaa
