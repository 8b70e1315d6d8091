/- The deck: words. -/
import Derived.Test.YtanmcjkpdkmhfaaF2
import Derived.Test.YtanmcjkpdkmhfaaZt
namespace Go.Proofs.Ytanmcjkpdkmhfaa
open Go Go.RowKit Rdn Rdn.Dp
set_option linter.unusedVariables false
set_option linter.unusedSimpArgs false
def m_words : MC := .seq (.reg [⟨(some 4), none, (.p (.mov (.c (.nilS))))⟩])
 (.seq (.reg [⟨(some 5), none, (.p (.mov (.c (.nilS))))⟩])
 (.seq (.seq (.reg [⟨(some 7), none, (.p (.mov (.t 0)))⟩, ⟨(some 8), none, (.p (.mov (.t 1)))⟩, ⟨(some 9), none, (.p (.bin 0 .add (.t 8) (.c (.int .i64 1))))⟩, ⟨(some 10), none, (.call 27 [(.t 7), (.t 9)])⟩, ⟨(some 6), none, (.p (.mov (.t 10)))⟩])
 (.block 0 (.loop (.seq (.seq (.reg [⟨(some 11), none, (.p (.mov (.t 6)))⟩, ⟨(some 12), none, (.p (.bin 0 .gtr (.t 11) (.c (.int .i64 0))))⟩])
 (.cond (.t 12) (.skip) (.exit 0)))
 (.seq (.block 1 (.reg [⟨(some 15), none, (.p (.mov (.t 5)))⟩, ⟨(some 16), none, (.p (.mov (.t 0)))⟩, ⟨(some 17), none, (.call 59 [(.t 16)])⟩, ⟨(some 18), none, (.m (.buildS 69 1 (.int .u16 0) 1 [(0, (.t 17))]))⟩, ⟨(some 19), none, (.m (.app 69 1 2 (.t 15) (.t 18)))⟩, ⟨(some 5), none, (.p (.mov (.t 19)))⟩]))
 (.reg [⟨(some 13), none, (.p (.mov (.t 6)))⟩, ⟨(some 14), none, (.p (.bin 0 .sub (.t 13) (.c (.int .i64 1))))⟩, ⟨(some 6), none, (.p (.mov (.t 14)))⟩]))))))
 (.seq (.reg [⟨(some 20), none, (.p (.mov (.t 5)))⟩, ⟨(some 4), none, (.p (.mov (.t 20)))⟩])
 (.ret))))
theorem m_words_ok : compF Try.prog 54 = some (21, m_words, [.mov (.t 4)]) := by kernel_rfl
/-- Words, drawn. -/
def dw1 (l : List Int) (k : Nat) : Int × Nat := (dwd l k, dkx l (dkx l k))
theorem dw1_le {l : List Int} (k : Nat) (h : k ≤ l.length) : (dw1 l k).2 ≤ l.length := dkx_le (dkx_le h)
def dws (l : List Int) (k : Nat) (n : Int) : List Int × Nat := drw (dw1 l) (dkx l k) (dnx l k (n + 1)).toNat
theorem dws_le {l : List Int} {k : Nat} (hk : k ≤ l.length) (n : Int) : (dws l k n).2 ≤ l.length := drw_le (f := dw1 l) dw1_le (dkx_le hk) _
theorem dws_len {l : List Int} {k : Nat} {n : Int} (hn : 0 ≤ n) : (dws l k n).1.length ≤ n.toNat := by
  have h2 := dnx_lt (l := l) (k := k) (n := n + 1) (by omega)
  rw [dws, drw_len]
  omega
theorem dws_ok (l : List Int) (k : Nat) (n : Int) : ∀ x ∈ (dws l k n).1, 0 ≤ x ∧ x ≤ 65535 := drw_all (p := fun x => 0 ≤ x ∧ x ≤ 65535) (fun k => dwd_b l k) _ _
set_option maxHeartbeats 4000000 in
theorem words_fn (l : List Int) (k : Nat) (n : Int) (hk : k ≤ l.length) (hn : 0 ≤ n) (hn' : n ≤ 1000000) : FncM Try.prog 54 66 (deckV l k) [.int .i64 n] (fun x obs c => x = .sl false 1 (u16s (dws l k n).1) ∧ obs = [] ∧ c = deckV l (dws l k n).2) := by
  refine FncM.low ?_
  have h1 := dnx_ge (l := l) (k := k) (n := n + 1) (by omega)
  have h2 := dnx_lt (l := l) (k := k) (n := n + 1) (by omega)
  refine FncM.intro m_words_ok (by simp) fun W S b0 hb0 => ?_
  unfold m_words
  simp only [ents, Nat.zero_add, Nat.reduceAdd]
  refine zst ?_
  (first | apply st_callMD (next_fn l k (n + 1) hk (by omega)) rfl | apply evw_callM (next_fn l k (n + 1) hk (by omega)) rfl)
  · (simp only [go_sem]; rfl)
  · rfl
  · (first | rfl | (simp only [go_sem]; done))
  · (first | rfl | (simp only [go_sem]; done) | (simp only [go_sem]; rfl))
  · (first | rfl | (simp only [go_sem]; done))
  · (first | rfl | (simp only [go_sem]; done) | (simp only [go_sem]; rfl))
  · (first | rfl | simp [V.pureT, V.pure, V.pures, pures_lo, pures_sls])
  (first | refine ev_all (fu := [(), (), (), (), (), (), (), ()]) ?_ | refine evw_all (md := []) (fu := [(), (), (), (), (), (), (), ()]) ?_); refine zev ?_
  refine zst ?_
  refine ev_adopt (i := 5) (e := 69) (s := 1) rfl (by decide) ?_
  refine ev_loopK [0] (fun p : {p : Nat // p ≤ (dnx l k (n + 1)).toNat} => [(5, .own 1 p.1), (6, .int .i64 (dnx l k (n + 1) - p.1))]) (fun p => [⟨.box true 66, true, 0, deckV l (drw (dw1 l) (dkx l k) p.1).2⟩, ⟨.row 69, true, p.1, .arr 1 (u16s (drw (dw1 l) (dkx l k) p.1).1)⟩]) (fun p => (dnx l k (n + 1)).toNat - p.1) (⟨0, by simp⟩) 2 (by simp only [go_sem]; rfl) ?_ (by first | rfl | (simp only [go_sem]; done) | (simp only [go_sem]; simp [drw]; done)) (by simp) (by first | rfl | (simp only [go_sem]; done)) (by first | rfl | (simp only [go_sem]; done)) (by first | rfl | (simp only [go_sem]; done) | (simp only [drw]; (try simp only [go_sem]); first | done | rfl)) ?_
  · (simp only [go_sem]; (try simp [drw]); done)
  intro J hJ
  rintro ⟨i, hi⟩
  have hp := drw_le (f := dw1 l) (m := l.length) dw1_le (dkx_le hk) i
  have hlen := drw_len (dw1 l) (dkx l k) i
  by_cases hlt : i < (dnx l k (n + 1)).toNat
  · skip
    generalize hq : drw (dw1 l) (dkx l k) i = q at hp hlen
    have hd : drw (dw1 l) (dkx l k) (i + 1) = (q.1 ++ [dwd l q.2], dkx l (dkx l q.2)) := by rw [drw, hq]; rfl
    refine zst ?_
    (first | apply st_callMD (word_fn l q.2 hp) rfl | apply evw_callM (word_fn l q.2 hp) rfl)
    · (simp only [go_sem]; rfl)
    · rfl
    · (first | rfl | (simp only [go_sem]; done))
    · (first | rfl | (simp only [go_sem]; done) | (simp only [go_sem]; rfl))
    · (first | rfl | (simp only [go_sem]; done))
    · (first | rfl | (simp only [go_sem]; done) | (simp only [go_sem]; rfl))
    · (first | rfl | simp [V.pureT, V.pure, V.pures, pures_lo, pures_sls])
    (first | refine ev_all (fu := [(), (), (), (), (), (), (), ()]) ?_ | refine evw_all (md := []) (fu := [(), (), (), (), (), (), (), ()]) ?_); refine zev ?_
    refine zst ?_
    refine ev_next 2 (hJ _ (⟨i + 1, hlt⟩) (by first | omega | (dsimp only; omega) | (simp; omega))) rfl (by simp) ?_ (by first | rfl | (simp only [go_sem]; done)) (by first | rfl | (simp only [go_sem]; done) | (simp only [hd]; (try simp only [go_sem]); first | done | rfl)) ?_
    · (first | rfl | (simp only [go_sem]; done) | (simp only [go_sem]; simp only [hd]; done) | (simp only [hd]; done) | (simp only [go_sem]; simp [hd]; done) | (simp [hd]; done))
    · (simp only [go_sem]; (repeat' (refine And.intro ?_ ?_)) <;> first | exact trivial | with_reducible rfl | (simp only [hd]; done) | (simp only [hd]; with_reducible rfl) | (simp [hd]; done) | (simp [hd]; omega) | (simp only [hd]; rfl) | skip)
  · obtain rfl : i = (dnx l k (n + 1)).toNat := by omega
    refine zst ?_
    apply st_returnM hb0 m_words_ok []
    · (simp only [go_sem]; rfl)
    · (first | exact trivial | (simp; done))
    · (first | (simp [outOk]; done) | exact outOk1 rfl)
    · (simp only [go_sem]; (first | done | trivial | simp [V.resOk, V.ressOk, rowV, V.pures, V.pure, pures_appE, pures_lo, pures_sls]))
    · (first | (simp only [V.res, V.ress, rowV, List.idxOf?_nil, List.idxOf?_cons, List.getElem?_cons_zero, List.getElem?_cons_succ]; first | rfl | (simp only [go_sem]; rfl)) | rfl)
    · (first | (simp only [go_sem]; rfl) | rfl)
    · rfl
    · (simp only [go_sem]; (first | done | rfl))
    ((try dsimp only); (repeat' (refine And.intro ?_ ?_)) <;> first | with_reducible rfl | (simp only [go_sem]; done) | (simp only [go_sem]; rfl) | (simp only [go_sem, dws]; done) | (simp only [dws]; (try simp only [go_sem]); first | done | rfl) | (simp only [go_sem]; simp [dws]; done) | (simp [dws]; done) | rfl)
end Go.Proofs.Ytanmcjkpdkmhfaa
