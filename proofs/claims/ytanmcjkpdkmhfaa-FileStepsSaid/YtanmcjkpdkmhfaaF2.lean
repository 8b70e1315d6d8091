/- The deck: words and cells. -/
import Derived.Test.YtanmcjkpdkmhfaaF1
import Derived.Test.YtanmcjkpdkmhfaaZt
namespace Go.Proofs.Ytanmcjkpdkmhfaa
open Go Go.RowKit Rdn Rdn.Dp
set_option linter.unusedVariables false
set_option linter.unusedSimpArgs false
def m_word : MC := .seq (.reg [⟨(some 2), none, (.p (.mov (.c (.int .u16 0))))⟩])
 (.seq (.seq (.reg [⟨(some 3), none, (.p (.mov (.t 0)))⟩, ⟨(some 4), none, (.call 27 [(.t 3), (.c (.int .i64 5))])⟩])
 (.block 0 (.seq (.seq (.reg [⟨(some 6), none, (.p (.bin 0 .eql (.t 4) (.c (.int .i64 0))))⟩, ⟨(some 5), none, (.p (.mov (.t 6)))⟩])
 (.cond (.t 5) (.skip) (.seq (.reg [⟨(some 7), none, (.p (.bin 0 .eql (.t 4) (.c (.int .i64 1))))⟩, ⟨(some 5), none, (.p (.mov (.t 7)))⟩])
 (.cond (.t 5) (.skip) (.reg [⟨(some 8), none, (.p (.bin 0 .eql (.t 4) (.c (.int .i64 2))))⟩, ⟨(some 5), none, (.p (.mov (.t 8)))⟩])))))
 (.cond (.t 5) (.seq (.reg [⟨(some 9), none, (.p (.mov (.t 0)))⟩, ⟨(some 10), none, (.call 27 [(.t 9), (.c (.int .i64 8))])⟩, ⟨(some 11), none, (.p (.conv .u16 (.t 10)))⟩, ⟨(some 2), none, (.p (.mov (.t 11)))⟩])
 (.ret)) (.seq (.reg [⟨(some 13), none, (.p (.bin 0 .eql (.t 4) (.c (.int .i64 3))))⟩, ⟨(some 12), none, (.p (.mov (.t 13)))⟩])
 (.cond (.t 12) (.seq (.reg [⟨(some 14), none, (.p (.mov (.t 0)))⟩, ⟨(some 15), none, (.call 27 [(.t 14), (.c (.int .i64 3))])⟩, ⟨(some 16), none, (.p (.bin 0 .sub (.c (.int .i64 65535)) (.t 15)))⟩, ⟨(some 17), none, (.p (.conv .u16 (.t 16)))⟩, ⟨(some 2), none, (.p (.mov (.t 17)))⟩])
 (.ret)) (.skip)))))))
 (.seq (.reg [⟨(some 18), none, (.p (.mov (.t 0)))⟩, ⟨(some 19), none, (.call 27 [(.t 18), (.c (.int .i64 65536))])⟩, ⟨(some 20), none, (.p (.conv .u16 (.t 19)))⟩, ⟨(some 2), none, (.p (.mov (.t 20)))⟩])
 (.ret)))
theorem m_word_ok : compF Try.prog 59 = some (21, m_word, [.mov (.t 2)]) := by kernel_rfl
/-- A word. -/
def dwd (l : List Int) (k : Nat) : Int :=
  if dnx l k 5 = 0 ∨ dnx l k 5 = 1 ∨ dnx l k 5 = 2 then dnx l (dkx l k) 8 else if dnx l k 5 = 3 then 65535 - dnx l (dkx l k) 3 else dnx l (dkx l k) 65536
theorem dwd_b (l : List Int) (k : Nat) : 0 ≤ dwd l k ∧ dwd l k ≤ 65535 := by
  have h1 := dnx_ge (l := l) (k := dkx l k) (n := 8) (by omega)
  have h2 := dnx_lt (l := l) (k := dkx l k) (n := 8) (by omega)
  have h3 := dnx_ge (l := l) (k := dkx l k) (n := 3) (by omega)
  have h4 := dnx_lt (l := l) (k := dkx l k) (n := 3) (by omega)
  have h5 := dnx_ge (l := l) (k := dkx l k) (n := 65536) (by omega)
  have h6 := dnx_lt (l := l) (k := dkx l k) (n := 65536) (by omega)
  unfold dwd
  split
  · omega
  · split <;> omega
set_option maxHeartbeats 4000000 in
theorem word_fn (l : List Int) (k : Nat) (hk : k ≤ l.length) : FncM Try.prog 59 66 (deckV l k) [] (fun x obs c => x = .int .u16 (dwd l k) ∧ obs = [] ∧ c = deckV l (dkx l (dkx l k))) := by
  have hk1 := dkx_le hk
  have h1 := dnx_ge (l := l) (k := dkx l k) (n := 8) (by omega)
  have h2 := dnx_lt (l := l) (k := dkx l k) (n := 8) (by omega)
  have h3 := dnx_ge (l := l) (k := dkx l k) (n := 3) (by omega)
  have h4 := dnx_lt (l := l) (k := dkx l k) (n := 3) (by omega)
  have h5 := dnx_ge (l := l) (k := dkx l k) (n := 65536) (by omega)
  have h6 := dnx_lt (l := l) (k := dkx l k) (n := 65536) (by omega)
  refine FncM.intro m_word_ok (by simp) fun W S b0 hb0 => ?_
  unfold m_word
  simp only [ents, Nat.zero_add, Nat.reduceAdd]
  by_cases c0 : dnx l k 5 = 0
  · refine zst ?_
    (first | apply st_callMD (next_fn l k 5 hk (by omega)) rfl | apply evw_callM (next_fn l k 5 hk (by omega)) rfl)
    · (simp only [go_sem]; rfl)
    · rfl
    · (first | rfl | (simp only [go_sem]; done))
    · (first | rfl | (simp only [go_sem]; done) | (simp only [go_sem]; rfl))
    · (first | rfl | (simp only [go_sem]; done))
    · (first | rfl | (simp only [go_sem]; done) | (simp only [go_sem]; rfl))
    · (first | rfl | simp [V.pureT, V.pure, V.pures, pures_lo, pures_sls])
    (first | refine ev_all (fu := [(), (), (), (), (), (), (), ()]) ?_ | refine evw_all (md := []) (fu := [(), (), (), (), (), (), (), ()]) ?_); refine zev ?_
    refine zst ?_
    (first | apply st_callMD (next_fn l (dkx l k) 8 hk1 (by omega)) rfl | apply evw_callM (next_fn l (dkx l k) 8 hk1 (by omega)) rfl)
    · (simp only [go_sem]; rfl)
    · rfl
    · (first | rfl | (simp only [go_sem]; done))
    · (first | rfl | (simp only [go_sem]; done) | (simp only [go_sem]; rfl))
    · (first | rfl | (simp only [go_sem]; done))
    · (first | rfl | (simp only [go_sem]; done) | (simp only [go_sem]; rfl))
    · (first | rfl | simp [V.pureT, V.pure, V.pures, pures_lo, pures_sls])
    (first | refine ev_all (fu := [(), (), (), (), (), (), (), ()]) ?_ | refine evw_all (md := []) (fu := [(), (), (), (), (), (), (), ()]) ?_); refine zev ?_
    refine zst ?_
    apply st_returnM hb0 m_word_ok []
    · (simp only [go_sem]; rfl)
    · (first | exact trivial | (simp; done))
    · (first | (simp [outOk]; done) | exact outOk1 rfl)
    · (simp only [go_sem]; (first | done | trivial | simp [V.resOk, V.ressOk, rowV, V.pures, V.pure, pures_appE, pures_lo, pures_sls]))
    · (first | (simp only [V.res, V.ress, rowV, List.idxOf?_nil, List.idxOf?_cons, List.getElem?_cons_zero, List.getElem?_cons_succ]; first | rfl | (simp only [go_sem]; rfl)) | rfl)
    · (first | (simp only [go_sem]; rfl) | rfl)
    · rfl
    · (simp only [go_sem]; (first | done | rfl))
    exact ⟨by simp [dwd, c0], rfl, rfl⟩
  by_cases c1 : dnx l k 5 = 1
  · refine zst ?_
    (first | apply st_callMD (next_fn l k 5 hk (by omega)) rfl | apply evw_callM (next_fn l k 5 hk (by omega)) rfl)
    · (simp only [go_sem]; rfl)
    · rfl
    · (first | rfl | (simp only [go_sem]; done))
    · (first | rfl | (simp only [go_sem]; done) | (simp only [go_sem]; rfl))
    · (first | rfl | (simp only [go_sem]; done))
    · (first | rfl | (simp only [go_sem]; done) | (simp only [go_sem]; rfl))
    · (first | rfl | simp [V.pureT, V.pure, V.pures, pures_lo, pures_sls])
    (first | refine ev_all (fu := [(), (), (), (), (), (), (), ()]) ?_ | refine evw_all (md := []) (fu := [(), (), (), (), (), (), (), ()]) ?_); refine zev ?_
    refine zst ?_
    (first | apply st_callMD (next_fn l (dkx l k) 8 hk1 (by omega)) rfl | apply evw_callM (next_fn l (dkx l k) 8 hk1 (by omega)) rfl)
    · (simp only [go_sem]; rfl)
    · rfl
    · (first | rfl | (simp only [go_sem]; done))
    · (first | rfl | (simp only [go_sem]; done) | (simp only [go_sem]; rfl))
    · (first | rfl | (simp only [go_sem]; done))
    · (first | rfl | (simp only [go_sem]; done) | (simp only [go_sem]; rfl))
    · (first | rfl | simp [V.pureT, V.pure, V.pures, pures_lo, pures_sls])
    (first | refine ev_all (fu := [(), (), (), (), (), (), (), ()]) ?_ | refine evw_all (md := []) (fu := [(), (), (), (), (), (), (), ()]) ?_); refine zev ?_
    refine zst ?_
    apply st_returnM hb0 m_word_ok []
    · (simp only [go_sem]; rfl)
    · (first | exact trivial | (simp; done))
    · (first | (simp [outOk]; done) | exact outOk1 rfl)
    · (simp only [go_sem]; (first | done | trivial | simp [V.resOk, V.ressOk, rowV, V.pures, V.pure, pures_appE, pures_lo, pures_sls]))
    · (first | (simp only [V.res, V.ress, rowV, List.idxOf?_nil, List.idxOf?_cons, List.getElem?_cons_zero, List.getElem?_cons_succ]; first | rfl | (simp only [go_sem]; rfl)) | rfl)
    · (first | (simp only [go_sem]; rfl) | rfl)
    · rfl
    · (simp only [go_sem]; (first | done | rfl))
    exact ⟨by simp [dwd, c1], rfl, rfl⟩
  by_cases c2 : dnx l k 5 = 2
  · refine zst ?_
    (first | apply st_callMD (next_fn l k 5 hk (by omega)) rfl | apply evw_callM (next_fn l k 5 hk (by omega)) rfl)
    · (simp only [go_sem]; rfl)
    · rfl
    · (first | rfl | (simp only [go_sem]; done))
    · (first | rfl | (simp only [go_sem]; done) | (simp only [go_sem]; rfl))
    · (first | rfl | (simp only [go_sem]; done))
    · (first | rfl | (simp only [go_sem]; done) | (simp only [go_sem]; rfl))
    · (first | rfl | simp [V.pureT, V.pure, V.pures, pures_lo, pures_sls])
    (first | refine ev_all (fu := [(), (), (), (), (), (), (), ()]) ?_ | refine evw_all (md := []) (fu := [(), (), (), (), (), (), (), ()]) ?_); refine zev ?_
    refine zst ?_
    (first | apply st_callMD (next_fn l (dkx l k) 8 hk1 (by omega)) rfl | apply evw_callM (next_fn l (dkx l k) 8 hk1 (by omega)) rfl)
    · (simp only [go_sem]; rfl)
    · rfl
    · (first | rfl | (simp only [go_sem]; done))
    · (first | rfl | (simp only [go_sem]; done) | (simp only [go_sem]; rfl))
    · (first | rfl | (simp only [go_sem]; done))
    · (first | rfl | (simp only [go_sem]; done) | (simp only [go_sem]; rfl))
    · (first | rfl | simp [V.pureT, V.pure, V.pures, pures_lo, pures_sls])
    (first | refine ev_all (fu := [(), (), (), (), (), (), (), ()]) ?_ | refine evw_all (md := []) (fu := [(), (), (), (), (), (), (), ()]) ?_); refine zev ?_
    refine zst ?_
    apply st_returnM hb0 m_word_ok []
    · (simp only [go_sem]; rfl)
    · (first | exact trivial | (simp; done))
    · (first | (simp [outOk]; done) | exact outOk1 rfl)
    · (simp only [go_sem]; (first | done | trivial | simp [V.resOk, V.ressOk, rowV, V.pures, V.pure, pures_appE, pures_lo, pures_sls]))
    · (first | (simp only [V.res, V.ress, rowV, List.idxOf?_nil, List.idxOf?_cons, List.getElem?_cons_zero, List.getElem?_cons_succ]; first | rfl | (simp only [go_sem]; rfl)) | rfl)
    · (first | (simp only [go_sem]; rfl) | rfl)
    · rfl
    · (simp only [go_sem]; (first | done | rfl))
    exact ⟨by simp [dwd, c2], rfl, rfl⟩
  by_cases c3 : dnx l k 5 = 3
  · refine zst ?_
    (first | apply st_callMD (next_fn l k 5 hk (by omega)) rfl | apply evw_callM (next_fn l k 5 hk (by omega)) rfl)
    · (simp only [go_sem]; rfl)
    · rfl
    · (first | rfl | (simp only [go_sem]; done))
    · (first | rfl | (simp only [go_sem]; done) | (simp only [go_sem]; rfl))
    · (first | rfl | (simp only [go_sem]; done))
    · (first | rfl | (simp only [go_sem]; done) | (simp only [go_sem]; rfl))
    · (first | rfl | simp [V.pureT, V.pure, V.pures, pures_lo, pures_sls])
    (first | refine ev_all (fu := [(), (), (), (), (), (), (), ()]) ?_ | refine evw_all (md := []) (fu := [(), (), (), (), (), (), (), ()]) ?_); refine zev ?_
    refine zst ?_
    (first | apply st_callMD (next_fn l (dkx l k) 3 hk1 (by omega)) rfl | apply evw_callM (next_fn l (dkx l k) 3 hk1 (by omega)) rfl)
    · (simp only [go_sem]; rfl)
    · rfl
    · (first | rfl | (simp only [go_sem]; done))
    · (first | rfl | (simp only [go_sem]; done) | (simp only [go_sem]; rfl))
    · (first | rfl | (simp only [go_sem]; done))
    · (first | rfl | (simp only [go_sem]; done) | (simp only [go_sem]; rfl))
    · (first | rfl | simp [V.pureT, V.pure, V.pures, pures_lo, pures_sls])
    (first | refine ev_all (fu := [(), (), (), (), (), (), (), ()]) ?_ | refine evw_all (md := []) (fu := [(), (), (), (), (), (), (), ()]) ?_); refine zev ?_
    refine zst ?_
    apply st_returnM hb0 m_word_ok []
    · (simp only [go_sem]; rfl)
    · (first | exact trivial | (simp; done))
    · (first | (simp [outOk]; done) | exact outOk1 rfl)
    · (simp only [go_sem]; (first | done | trivial | simp [V.resOk, V.ressOk, rowV, V.pures, V.pure, pures_appE, pures_lo, pures_sls]))
    · (first | (simp only [V.res, V.ress, rowV, List.idxOf?_nil, List.idxOf?_cons, List.getElem?_cons_zero, List.getElem?_cons_succ]; first | rfl | (simp only [go_sem]; rfl)) | rfl)
    · (first | (simp only [go_sem]; rfl) | rfl)
    · rfl
    · (simp only [go_sem]; (first | done | rfl))
    exact ⟨by simp [dwd, c3], rfl, rfl⟩
  · refine zst ?_
    (first | apply st_callMD (next_fn l k 5 hk (by omega)) rfl | apply evw_callM (next_fn l k 5 hk (by omega)) rfl)
    · (simp only [go_sem]; rfl)
    · rfl
    · (first | rfl | (simp only [go_sem]; done))
    · (first | rfl | (simp only [go_sem]; done) | (simp only [go_sem]; rfl))
    · (first | rfl | (simp only [go_sem]; done))
    · (first | rfl | (simp only [go_sem]; done) | (simp only [go_sem]; rfl))
    · (first | rfl | simp [V.pureT, V.pure, V.pures, pures_lo, pures_sls])
    (first | refine ev_all (fu := [(), (), (), (), (), (), (), ()]) ?_ | refine evw_all (md := []) (fu := [(), (), (), (), (), (), (), ()]) ?_); refine zev ?_
    refine zst ?_
    (first | apply st_callMD (next_fn l (dkx l k) 65536 hk1 (by omega)) rfl | apply evw_callM (next_fn l (dkx l k) 65536 hk1 (by omega)) rfl)
    · (simp only [go_sem]; rfl)
    · rfl
    · (first | rfl | (simp only [go_sem]; done))
    · (first | rfl | (simp only [go_sem]; done) | (simp only [go_sem]; rfl))
    · (first | rfl | (simp only [go_sem]; done))
    · (first | rfl | (simp only [go_sem]; done) | (simp only [go_sem]; rfl))
    · (first | rfl | simp [V.pureT, V.pure, V.pures, pures_lo, pures_sls])
    (first | refine ev_all (fu := [(), (), (), (), (), (), (), ()]) ?_ | refine evw_all (md := []) (fu := [(), (), (), (), (), (), (), ()]) ?_); refine zev ?_
    refine zst ?_
    apply st_returnM hb0 m_word_ok []
    · (simp only [go_sem]; rfl)
    · (first | exact trivial | (simp; done))
    · (first | (simp [outOk]; done) | exact outOk1 rfl)
    · (simp only [go_sem]; (first | done | trivial | simp [V.resOk, V.ressOk, rowV, V.pures, V.pure, pures_appE, pures_lo, pures_sls]))
    · (first | (simp only [V.res, V.ress, rowV, List.idxOf?_nil, List.idxOf?_cons, List.getElem?_cons_zero, List.getElem?_cons_succ]; first | rfl | (simp only [go_sem]; rfl)) | rfl)
    · (first | (simp only [go_sem]; rfl) | rfl)
    · rfl
    · (simp only [go_sem]; (first | done | rfl))
    exact ⟨by simp [dwd, c0, c1, c2, c3], rfl, rfl⟩
end Go.Proofs.Ytanmcjkpdkmhfaa
