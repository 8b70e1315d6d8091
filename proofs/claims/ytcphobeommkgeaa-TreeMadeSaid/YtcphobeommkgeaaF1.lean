/- The deck: numbers drawn out of a list. -/
import Derived.Test.YtcphobeommkgeaaDz
import Derived.Test.YtcphobeommkgeaaZt
import Derived.Test.YtcphobeommkgeaaDd
namespace Go.Proofs.Ytcphobeommkgeaa
open Go Go.RowKit Rdn Rdn.Dp
set_option linter.unusedVariables false
set_option linter.unusedSimpArgs false
def m_rmod : MC := .seq (.reg [⟨(some 4), none, (.p (.mov (.c (.int .i64 0))))⟩])
 (.seq (.reg [⟨(some 6), none, (.p (.mov (.t 0)))⟩, ⟨(some 7), none, (.p (.mov (.t 1)))⟩, ⟨(some 8), none, (.p (.bin 0 .rem (.t 6) (.t 7)))⟩, ⟨(some 5), none, (.p (.mov (.t 8)))⟩])
 (.seq (.seq (.reg [⟨(some 9), none, (.p (.mov (.t 5)))⟩, ⟨(some 10), none, (.p (.bin 0 .lss (.t 9) (.c (.int .i64 0))))⟩])
 (.cond (.t 10) (.reg [⟨(some 11), none, (.p (.mov (.t 5)))⟩, ⟨(some 12), none, (.p (.mov (.t 1)))⟩, ⟨(some 13), none, (.p (.bin 0 .add (.t 11) (.t 12)))⟩, ⟨(some 5), none, (.p (.mov (.t 13)))⟩]) (.skip)))
 (.seq (.reg [⟨(some 14), none, (.p (.mov (.t 5)))⟩, ⟨(some 4), none, (.p (.mov (.t 14)))⟩])
 (.ret))))
theorem m_rmod_ok : compF Try.prog 53 = some (15, m_rmod, [.mov (.t 4)]) := by kernel_rfl
def m_mmod : MC := .seq (.reg [⟨(some 4), none, (.p (.mov (.c (.int .i64 0))))⟩])
 (.seq (.reg [⟨(some 5), none, (.p (.mov (.t 0)))⟩, ⟨(some 6), none, (.p (.mov (.t 1)))⟩, ⟨(some 7), none, (.call 53 [(.t 5), (.t 6)])⟩, ⟨(some 4), none, (.p (.mov (.t 7)))⟩])
 (.ret))
theorem m_mmod_ok : compF Try.prog 20 = some (8, m_mmod, [.mov (.t 4)]) := by kernel_rfl
def m_next : MC := .seq (.reg [⟨(some 4), none, (.p (.mov (.c (.int .i64 0))))⟩])
 (.seq (.seq (.dreg [⟨(some 5), none, (.p (.mov (.t 0)))⟩, ⟨(some 6), none, (.p (.nilc (.t 5)))⟩, ⟨(some 7), none, (.p (.fieldA 1 1 (.t 6)))⟩, ⟨(some 8), none, (.p (.load false 1 (.t 7)))⟩, ⟨(some 9), none, (.p (.mov (.t 0)))⟩, ⟨(some 10), none, (.p (.nilc (.t 9)))⟩, ⟨(some 11), none, (.p (.fieldA 0 0 (.t 10)))⟩, ⟨(some 12), none, (.p (.load false 1 (.t 11)))⟩, ⟨(some 13), none, (.p (.len (.t 12)))⟩, ⟨(some 14), none, (.p (.bin 0 .geq (.t 8) (.t 13)))⟩] [[], [0], [0, 1], [0, 1, 2], [], [4], [4, 5], [4, 5, 6], [4, 5, 6, 7], [0, 1, 2, 3, 4, 5, 6, 7, 8]])
 (.cond (.t 14) (.seq (.reg [⟨(some 4), none, (.p (.mov (.c (.int .i64 0))))⟩])
 (.ret)) (.skip)))
 (.seq (.reg [⟨(some 15), none, (.p (.mov (.t 0)))⟩, ⟨(some 16), none, (.p (.nilc (.t 15)))⟩, ⟨(some 17), none, (.p (.fieldA 1 1 (.t 16)))⟩, ⟨(some 18), none, (.p (.load false 1 (.t 17)))⟩, ⟨(some 19), none, (.p (.bin 0 .add (.t 18) (.c (.int .i64 1))))⟩, ⟨(some 20), none, (.p (.nilc (.t 15)))⟩, ⟨(some 21), none, (.p (.fieldA 1 1 (.t 20)))⟩, ⟨none, none, (.m (.store 1 (.t 21) (.t 19)))⟩])
 (.seq (.dreg [⟨(some 22), none, (.p (.mov (.t 0)))⟩, ⟨(some 23), none, (.p (.nilc (.t 22)))⟩, ⟨(some 24), none, (.p (.fieldA 0 0 (.t 23)))⟩, ⟨(some 25), none, (.p (.load false 1 (.t 24)))⟩, ⟨(some 26), none, (.p (.mov (.t 0)))⟩, ⟨(some 27), none, (.p (.nilc (.t 26)))⟩, ⟨(some 28), none, (.p (.fieldA 1 1 (.t 27)))⟩, ⟨(some 29), none, (.p (.load false 1 (.t 28)))⟩, ⟨(some 30), none, (.p (.bin 0 .sub (.t 29) (.c (.int .i64 1))))⟩, ⟨(some 31), none, (.p (.idxA 1 (.t 25) (.t 30)))⟩, ⟨(some 32), none, (.p (.load false 1 (.t 31)))⟩, ⟨(some 33), none, (.p (.mov (.t 1)))⟩, ⟨(some 34), none, (.call 20 [(.t 32), (.t 33)])⟩, ⟨(some 4), none, (.p (.mov (.t 34)))⟩] [[], [0], [0, 1], [0, 1, 2], [], [4], [4, 5], [4, 5, 6], [4, 5, 6, 7], [0, 1, 2, 3, 4, 5, 6, 7, 8], [0, 1, 2, 3, 4, 5, 6, 7, 8, 9], [], [0, 1, 2, 3, 4, 5, 6, 7, 8, 9, 10, 11], [0, 1, 2, 3, 4, 5, 6, 7, 8, 9, 10, 11, 12]])
 (.ret))))
theorem m_next_ok : compF Try.prog 19 = some (35, m_next, [.mov (.t 4)]) := by kernel_rfl
def m_new : MC := .seq (.reg [⟨(some 2), none, (.p (.mov (.c (.junk))))⟩])
 (.seq (.reg [⟨(some 3), none, (.p (.mov (.t 0)))⟩, ⟨(some 4), none, (.m (.build none [.nilS, .int .i64 0] [(0, (.t 3))]))⟩, ⟨(some 5), none, (.m (.box 91 (.t 4)))⟩, ⟨(some 2), none, (.p (.mov (.t 5)))⟩])
 (.ret))
theorem m_new_ok : compF Try.prog 15 = some (6, m_new, [.mov (.t 2)]) := by kernel_rfl
theorem tmod_neg {a n : Int} (hn : 0 < n) (h : a.tmod n < 0) : a.tmod n + n = a % n := by
  rw [Int.tmod_eq_emod] at h ⊢
  have h1 := Int.emod_nonneg a (show n ≠ 0 by omega)
  split at h
  · omega
  · rename_i hh; rw [if_neg hh]; omega
theorem tmod_pos {a n : Int} (hn : 0 < n) (h : ¬ a.tmod n < 0) : a.tmod n = a % n := by
  rw [Int.tmod_eq_emod] at h ⊢
  have h2 := Int.emod_lt_of_pos a hn
  split at h
  · rename_i hh; rw [if_pos hh]; omega
  · omega
set_option maxHeartbeats 4000000 in
theorem rmod_fn (a n : Int) (hn : 0 < n) : Fnc Try.prog 53 [.int .i64 a, .int .i64 n] (fun x obs => x = .int .i64 (a % n) ∧ obs = []) := by
  refine Fnc.wf fun hw => ?_
  simp only [V.wfs, V.wf] at hw
  have hb := inK_i64' hw.2.1
  have h1 := Int.emod_nonneg a (show n ≠ 0 by omega)
  have h2 := Int.emod_lt_of_pos a hn
  refine Fnc.intro m_rmod_ok (by simp) fun W S => ?_
  unfold m_rmod
  simp only [ents, Nat.zero_add, Nat.reduceAdd]
  by_cases h : a.tmod n < 0
  · have e := tmod_neg hn h
    refine zst ?_
    refine ret m_rmod_ok [] ?_; (first | (simp only [go_sem]; done) | (simp only [go_sem]; ((try dsimp only); (repeat' (refine And.intro ?_ ?_)) <;> first | with_reducible rfl | (simp only [go_sem]; done) | (simp only [go_sem]; rfl) | (simp only [go_sem, e]; done) | (simp only [e]; (try simp only [go_sem]); first | done | rfl) | (simp only [go_sem]; simp [e]; done) | (simp [e]; done) | rfl)))
  · have e := tmod_pos hn h
    refine zst ?_
    refine ret m_rmod_ok [] ?_; (first | (simp only [go_sem]; done) | (simp only [go_sem]; ((try dsimp only); (repeat' (refine And.intro ?_ ?_)) <;> first | with_reducible rfl | (simp only [go_sem]; done) | (simp only [go_sem]; rfl) | (simp only [go_sem, e]; done) | (simp only [e]; (try simp only [go_sem]); first | done | rfl) | (simp only [go_sem]; simp [e]; done) | (simp [e]; done) | rfl)))
set_option maxHeartbeats 4000000 in
theorem mmod_fn (a n : Int) (hn : 0 < n) : Fnc Try.prog 20 [.int .i64 a, .int .i64 n] (fun x obs => x = .int .i64 (a % n) ∧ obs = []) := by
  refine Fnc.intro m_mmod_ok (by simp) fun W S => ?_
  unfold m_mmod
  simp only [ents, Nat.zero_add, Nat.reduceAdd]
  refine zst ?_
  (first | refine callD (rmod_fn a n hn) ?_ | refine callDw (rmod_fn a n hn) ?_); simp only [go_sem]
  refine zst ?_
  refine ret m_mmod_ok [] ?_; (first | (simp only [go_sem]; done) | (simp only [go_sem]; ((try dsimp only); (repeat' (refine And.intro ?_ ?_)) <;> first | with_reducible rfl | (simp only [go_sem]; done) | (simp only [go_sem]; rfl) | (simp only []; (try simp only [go_sem]); first | done | rfl) | (simp only [go_sem]; simp []; done) | (simp []; done) | rfl)))
theorem FncM_wf {P : Program} {f : FuncId} {T : TypeId} {d : V} {xs : List V} {R0 : V → List Ob → V → Prop} (h : d.wf → V.wfs xs → FncM P f T d xs R0) : FncM P f T d xs R0 := fun w S b0 hS cs hcs hd vs hvs => h hd.wf hvs.wfs w S b0 hS cs hcs hd vs hvs
/-- A deck with the numbers l, of which k have been drawn. -/
abbrev deckV (l : List Int) (k : Nat) : V := .agg [.sl false 1 (i64s l), .int .i64 k]
def dnx (l : List Int) (k : Nat) (n : Int) : Int := if k < l.length then l[k]! % n else 0
def dkx (l : List Int) (k : Nat) : Nat := if k < l.length then k + 1 else k
theorem dkx_le {l : List Int} {k : Nat} (h : k ≤ l.length) : dkx l k ≤ l.length := by unfold dkx; split <;> omega
theorem dnx_ge {l : List Int} {k : Nat} {n : Int} (hn : 0 < n) : 0 ≤ dnx l k n := by
  unfold dnx; split
  · exact Int.emod_nonneg _ (by omega)
  · omega
theorem dnx_lt {l : List Int} {k : Nat} {n : Int} (hn : 0 < n) : dnx l k n < n := by
  unfold dnx; split
  · exact Int.emod_lt_of_pos _ hn
  · omega
set_option maxHeartbeats 4000000 in
theorem next_fn (l : List Int) (k : Nat) (n : Int) (hk : k ≤ l.length) (hn : 0 < n) : FncM Try.prog 19 91 (deckV l k) [.int .i64 n] (fun x obs c => x = .int .i64 (dnx l k n) ∧ obs = [] ∧ c = deckV l (dkx l k)) := by
  refine FncM_wf fun hw hw2 => ?_
  simp only [V.wfs, V.wf, wfs_map, List.length_map] at hw
  have hl := hw.1.2
  refine FncM.intro m_next_ok (by simp) fun W S b0 hb0 => ?_
  unfold m_next
  simp only [ents, Nat.zero_add, Nat.reduceAdd]
  by_cases h : k < l.length
  · refine zst ?_
    (first | refine callD (mmod_fn (l[((k : Int) + 1 - 1).toNat]!) n hn) ?_ | refine callDw (mmod_fn (l[((k : Int) + 1 - 1).toNat]!) n hn) ?_); simp only [go_sem]
    refine zst ?_
    apply st_returnM hb0 m_next_ok []
    · (simp only [go_sem]; rfl)
    · (first | exact trivial | (simp; done))
    · (first | (simp [outOk]; done) | exact outOk1 rfl)
    · (simp only [go_sem]; (first | done | trivial | simp [V.resOk, V.ressOk, rowV, V.pures, V.pure, pures_appE, pures_lo, pures_sls]))
    · (first | (simp only [V.res, V.ress, rowV, List.idxOf?_nil, List.idxOf?_cons, List.getElem?_cons_zero, List.getElem?_cons_succ]; first | rfl | (simp only [go_sem]; rfl)) | rfl)
    · (first | (simp only [go_sem]; rfl) | rfl)
    · rfl
    · (simp only [go_sem]; (first | done | rfl))
    exact ⟨by simp [dnx, h], rfl, by simp [dkx, h]⟩
  · refine zst ?_
    apply st_returnM hb0 m_next_ok []
    · (simp only [go_sem]; rfl)
    · (first | exact trivial | (simp; done))
    · (first | (simp [outOk]; done) | exact outOk1 rfl)
    · (simp only [go_sem]; (first | done | trivial | simp [V.resOk, V.ressOk, rowV, V.pures, V.pure, pures_appE, pures_lo, pures_sls]))
    · (first | (simp only [V.res, V.ress, rowV, List.idxOf?_nil, List.idxOf?_cons, List.getElem?_cons_zero, List.getElem?_cons_succ]; first | rfl | (simp only [go_sem]; rfl)) | rfl)
    · (first | (simp only [go_sem]; rfl) | rfl)
    · rfl
    · (simp only [go_sem]; (first | done | rfl))
    exact ⟨by simp [dnx, h], rfl, by simp [dkx, h]⟩
set_option maxHeartbeats 4000000 in
theorem new_fn (l : List Int) : Fnc Try.prog 15 [.sl false 1 (i64s l)] (fun x obs => x = .ptr 0 0 [] 0 ∧ obs = [⟨.box false 91, true, 0, deckV l 0⟩]) := by
  refine Fnc.intro m_new_ok (by simp) fun W S => ?_
  unfold m_new
  simp only [ents, Nat.zero_add, Nat.reduceAdd]
  refine zst ?_
  apply st_returnP m_new_ok
  · (simp only [go_sem]; rfl)
  · (first | exact trivial | (simp; done))
  · rfl
  · (first | rfl | (simp only [go_sem]; done))
  exact ⟨rfl, rfl⟩
end Go.Proofs.Ytcphobeommkgeaa

