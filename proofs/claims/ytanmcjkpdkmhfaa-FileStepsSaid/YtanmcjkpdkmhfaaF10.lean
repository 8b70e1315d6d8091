/- The deck: canonical cells that nobody writes any more. -/
import Derived.Test.YtanmcjkpdkmhfaaF6
import Derived.Test.YtanmcjkpdkmhfaaZt
namespace Go.Proofs.Ytanmcjkpdkmhfaa
open Go Go.RowKit Rdn Rdn.Dp
set_option linter.unusedVariables false
set_option linter.unusedSimpArgs false
set_option maxHeartbeats 4000000 in
theorem canons_sl (l : List Int) (k : Nat) (n : Int) (hk : k ≤ l.length) (hn : 0 ≤ n) (hn' : n ≤ 1000000) : FncM Try.prog 18 66 (deckV l k) [.int .i64 n] (fun x obs c => x = .sl false 4 ((dcs l k n).1.map canonV) ∧ obs = [] ∧ c = deckV l (dcs l k n).2) := by
  refine FncM.low ?_
  have h1 := dnx_ge (l := l) (k := k) (n := n + 1) (by omega)
  have h2 := dnx_lt (l := l) (k := k) (n := n + 1) (by omega)
  refine FncM.intro m_canons_ok (by simp) fun W S b0 hb0 => ?_
  unfold m_canons
  simp only [ents, Nat.zero_add, Nat.reduceAdd]
  refine zst ?_
  (first | apply st_callMD (next_fn l k (n + 1) hk (by omega)) rfl | apply evw_callM (next_fn l k (n + 1) hk (by omega)) rfl)
  · (simp only [go_sem]; rfl)
  · rfl
  · (first | rfl | (simp only [go_sem]; done))
  · (first | rfl | (simp only [go_sem]; done) | (simp only [go_sem]; rfl))
  · (first | rfl | (simp only [go_sem]; done))
  · (first | rfl | (simp only [go_sem]; done) | (simp only [go_sem]; rfl))
  · (first | rfl | simp [V.pureT, V.pure, V.pures, pures_lo, pures_sls])
  (first | refine ev_all (fu := [(), (), (), (), (), (), (), ()]) ?_ | refine evw_all (md := []) (fu := [(), (), (), (), (), (), (), ()]) ?_); refine zev ?_
  refine zst ?_
  refine ev_adopt (i := 5) (e := 71) (s := 4) rfl (by decide) ?_
  refine ev_loopK [0] (fun p : {p : Nat // p ≤ (dnx l k (n + 1)).toNat} => [(5, .own 1 p.1), (6, .int .i64 (dnx l k (n + 1) - p.1))]) (fun p => [⟨.box true 66, true, 0, deckV l (drw (dc1 l) (dkx l k) p.1).2⟩, ⟨.row 71, true, p.1, .arr 4 ((drw (dc1 l) (dkx l k) p.1).1.map canonV)⟩]) (fun p => (dnx l k (n + 1)).toNat - p.1) (⟨0, by simp⟩) 2 (by simp only [go_sem]; rfl) ?_ (by first | rfl | (simp only [go_sem]; done) | (simp only [go_sem]; simp [drw]; done)) (by simp) (by first | rfl | (simp only [go_sem]; done)) (by first | rfl | (simp only [go_sem]; done)) (by first | rfl | (simp only [go_sem]; done) | (simp only [drw]; (try simp only [go_sem]); first | done | rfl)) ?_
  · (simp only [go_sem]; (try simp [drw]); done)
  intro J hJ
  rintro ⟨i, hi⟩
  have hp := drw_le (f := dc1 l) (m := l.length) dc1_le (dkx_le hk) i
  have hlen := drw_len (dc1 l) (dkx l k) i
  by_cases hlt : i < (dnx l k (n + 1)).toNat
  · skip
    generalize hq : drw (dc1 l) (dkx l k) i = q at hp hlen
    have hd : drw (dc1 l) (dkx l k) (i + 1) = (q.1 ++ [(dc1 l q.2).1], (dc1 l q.2).2) := by rw [drw, hq]
    have e1 := dcn_le q.2 hp
    by_cases h9 : dnx l (dcn l q.2).2 12 = 0
    · skip
      refine zst ?_
      refine evr_calmC ?_; (refine zev ?_)
      apply st_callMD (canon_fn l q.2 hp) rfl
      · (simp only [go_sem]; rfl)
      · rfl
      · (first | rfl | (simp only [go_sem]; done))
      · (first | rfl | (simp only [go_sem]; done) | (simp only [go_sem]; rfl))
      · (first | rfl | (simp only [go_sem]; done))
      · (first | rfl | (simp only [go_sem]; done) | (simp only [go_sem]; rfl))
      · (first | rfl | simp [V.pureT, V.pure, V.pures, pures_lo, pures_sls])
      (first | refine ev_all (fu := [(), (), (), (), (), (), (), ()]) ?_ | refine evw_all (md := []) (fu := [(), (), (), (), (), (), (), ()]) ?_); refine zev ?_
      refine zst ?_
      (first | apply st_callMD (next_fn l _ 12 e1 (by omega)) rfl | apply evw_callM (next_fn l _ 12 e1 (by omega)) rfl)
      · (simp only [go_sem]; rfl)
      · rfl
      · (first | rfl | (simp only [go_sem]; done))
      · (first | rfl | (simp only [go_sem]; done) | (simp only [go_sem]; rfl))
      · (first | rfl | (simp only [go_sem]; done))
      · (first | rfl | (simp only [go_sem]; done) | (simp only [go_sem]; rfl))
      · (first | rfl | simp [V.pureT, V.pure, V.pures, pures_lo, pures_sls])
      (first | refine ev_all (fu := [(), (), (), (), (), (), (), ()]) ?_ | refine evw_all (md := []) (fu := [(), (), (), (), (), (), (), ()]) ?_); refine zev ?_
      refine zst ?_
      (first | apply st_callMD (next_fn l _ 65536 (dkx_le e1) (by omega)) rfl | apply evw_callM (next_fn l _ 65536 (dkx_le e1) (by omega)) rfl)
      · (simp only [go_sem]; rfl)
      · rfl
      · (first | rfl | (simp only [go_sem]; done))
      · (first | rfl | (simp only [go_sem]; done) | (simp only [go_sem]; rfl))
      · (first | rfl | (simp only [go_sem]; done))
      · (first | rfl | (simp only [go_sem]; done) | (simp only [go_sem]; rfl))
      · (first | rfl | simp [V.pureT, V.pure, V.pures, pures_lo, pures_sls])
      (first | refine ev_all (fu := [(), (), (), (), (), (), (), ()]) ?_ | refine evw_all (md := []) (fu := [(), (), (), (), (), (), (), ()]) ?_); refine zev ?_
      refine zst ?_
      refine ev_next 2 (hJ _ (⟨i + 1, hlt⟩) (by first | omega | (dsimp only; omega) | (simp; omega))) rfl (by simp) ?_ (by first | rfl | (simp only [go_sem]; done)) (by first | rfl | (simp only [go_sem]; done) | (simp only [hd, dc1, if_pos h9]; (try simp only [go_sem]); first | done | rfl)) ?_
      · (first | rfl | (simp only [go_sem]; done) | (simp only [go_sem]; simp only [hd, dc1, if_pos h9]; done) | (simp only [hd, dc1, if_pos h9]; done) | (simp only [go_sem]; simp [hd, dc1, if_pos h9]; done) | (simp [hd, dc1, if_pos h9]; done))
      · (simp only [go_sem]; (repeat' (refine And.intro ?_ ?_)) <;> first | exact trivial | with_reducible rfl | (simp only [hd, dc1, if_pos h9]; done) | (simp only [hd, dc1, if_pos h9]; with_reducible rfl) | (simp [hd, dc1, if_pos h9]; done) | (simp [hd, dc1, if_pos h9]; omega) | (simp only [hd, dc1, if_pos h9]; rfl) | skip)
    · skip
      refine zst ?_
      refine evr_calmC ?_; (refine zev ?_)
      apply st_callMD (canon_fn l q.2 hp) rfl
      · (simp only [go_sem]; rfl)
      · rfl
      · (first | rfl | (simp only [go_sem]; done))
      · (first | rfl | (simp only [go_sem]; done) | (simp only [go_sem]; rfl))
      · (first | rfl | (simp only [go_sem]; done))
      · (first | rfl | (simp only [go_sem]; done) | (simp only [go_sem]; rfl))
      · (first | rfl | simp [V.pureT, V.pure, V.pures, pures_lo, pures_sls])
      (first | refine ev_all (fu := [(), (), (), (), (), (), (), ()]) ?_ | refine evw_all (md := []) (fu := [(), (), (), (), (), (), (), ()]) ?_); refine zev ?_
      refine zst ?_
      (first | apply st_callMD (next_fn l _ 12 e1 (by omega)) rfl | apply evw_callM (next_fn l _ 12 e1 (by omega)) rfl)
      · (simp only [go_sem]; rfl)
      · rfl
      · (first | rfl | (simp only [go_sem]; done))
      · (first | rfl | (simp only [go_sem]; done) | (simp only [go_sem]; rfl))
      · (first | rfl | (simp only [go_sem]; done))
      · (first | rfl | (simp only [go_sem]; done) | (simp only [go_sem]; rfl))
      · (first | rfl | simp [V.pureT, V.pure, V.pures, pures_lo, pures_sls])
      (first | refine ev_all (fu := [(), (), (), (), (), (), (), ()]) ?_ | refine evw_all (md := []) (fu := [(), (), (), (), (), (), (), ()]) ?_); refine zev ?_
      refine zst ?_
      refine ev_next 2 (hJ _ (⟨i + 1, hlt⟩) (by first | omega | (dsimp only; omega) | (simp; omega))) rfl (by simp) ?_ (by first | rfl | (simp only [go_sem]; done)) (by first | rfl | (simp only [go_sem]; done) | (simp only [hd, dc1, if_neg h9]; (try simp only [go_sem]); first | done | rfl)) ?_
      · (first | rfl | (simp only [go_sem]; done) | (simp only [go_sem]; simp only [hd, dc1, if_neg h9]; done) | (simp only [hd, dc1, if_neg h9]; done) | (simp only [go_sem]; simp [hd, dc1, if_neg h9]; done) | (simp [hd, dc1, if_neg h9]; done))
      · (simp only [go_sem]; (repeat' (refine And.intro ?_ ?_)) <;> first | exact trivial | with_reducible rfl | (simp only [hd, dc1, if_neg h9]; done) | (simp only [hd, dc1, if_neg h9]; with_reducible rfl) | (simp [hd, dc1, if_neg h9]; done) | (simp [hd, dc1, if_neg h9]; omega) | (simp only [hd, dc1, if_neg h9]; rfl) | skip)
  · obtain rfl : i = (dnx l k (n + 1)).toNat := by omega
    refine zst ?_
    apply st_returnM hb0 m_canons_ok []
    · (simp only [go_sem]; rfl)
    · (first | exact trivial | (simp; done))
    · (first | (simp [outOk]; done) | exact outOk1 rfl)
    · (simp only [go_sem]; (first | done | trivial | simp [V.resOk, V.ressOk, rowV, V.pures, V.pure, pures_appE, pures_lo, pures_sls]))
    · (first | (simp only [V.res, V.ress, rowV, List.idxOf?_nil, List.idxOf?_cons, List.getElem?_cons_zero, List.getElem?_cons_succ]; first | rfl | (simp only [go_sem]; rfl)) | rfl)
    · (first | (simp only [go_sem]; rfl) | rfl)
    · rfl
    · (simp only [go_sem]; (first | done | rfl))
    ((try dsimp only); (repeat' (refine And.intro ?_ ?_)) <;> first | with_reducible rfl | (simp only [go_sem]; done) | (simp only [go_sem]; rfl) | (simp only [go_sem, dcs]; done) | (simp only [dcs]; (try simp only [go_sem]); first | done | rfl) | (simp only [go_sem]; simp [dcs]; done) | (simp [dcs]; done) | rfl)
end Go.Proofs.Ytanmcjkpdkmhfaa
