/- Outputs of sockets, drawn; the sanity check of chapter 18. -/
import Derived.Test.YtibfpmochioopaaF6
import Derived.Test.YtibfpmochioopaaG2
import Derived.Test.YtibfpmochioopaaG3
namespace Go.Proofs.Ytibfpmochioopaa
open Go Go.RowKit Rdn Rdn.Dp
set_option linter.unusedVariables false
set_option linter.unusedSimpArgs false
def m_outl : MC := .seq (.reg [⟨(some 4), none, (.p (.mov (.c (.nilS))))⟩])
 (.seq (.reg [⟨(some 5), none, (.p (.mov (.c (.nilS))))⟩])
 (.seq (.seq (.reg [⟨(some 7), none, (.p (.mov (.t 0)))⟩, ⟨(some 8), none, (.p (.mov (.t 1)))⟩, ⟨(some 9), none, (.p (.bin 0 .add (.t 8) (.c (.int .i64 1))))⟩, ⟨(some 10), none, (.call 23 [(.t 7), (.t 9)])⟩, ⟨(some 6), none, (.p (.mov (.t 10)))⟩])
 (.block 0 (.loop (.seq (.seq (.reg [⟨(some 11), none, (.p (.mov (.t 6)))⟩, ⟨(some 12), none, (.p (.bin 0 .gtr (.t 11) (.c (.int .i64 0))))⟩])
 (.cond (.t 12) (.skip) (.exit 0)))
 (.seq (.block 1 (.reg [⟨(some 16), none, (.p (.mov (.t 5)))⟩, ⟨(some 17), none, (.p (.mov (.t 0)))⟩, ⟨(some 18), none, (.call 23 [(.t 17), (.c (.int .i64 2))])⟩, ⟨(some 19), none, (.p (.mov (.t 0)))⟩, ⟨(some 20), none, (.call 10 [(.t 19), (.c (.int .i64 4))])⟩, ⟨(some 21), none, (.call 12 [(.t 16), (.t 18), (.t 20)])⟩, ⟨(some 15), none, (.p (.mov (.t 21)))⟩, ⟨(some 22), none, (.p (.ext (.t 15) 0))⟩, ⟨(some 23), none, (.p (.ext (.t 15) 1))⟩, ⟨(some 24), none, (.p (.ext (.t 15) 2))⟩, ⟨(some 5), none, (.p (.mov (.t 22)))⟩]))
 (.reg [⟨(some 13), none, (.p (.mov (.t 6)))⟩, ⟨(some 14), none, (.p (.bin 0 .sub (.t 13) (.c (.int .i64 1))))⟩, ⟨(some 6), none, (.p (.mov (.t 14)))⟩]))))))
 (.seq (.reg [⟨(some 25), none, (.p (.mov (.t 5)))⟩, ⟨(some 4), none, (.p (.mov (.t 25)))⟩])
 (.ret))))
theorem m_outl_ok : compF Try.prog 7 = some (26, m_outl, [.mov (.t 4)]) := by kernel_rfl
theorem sSend_len (l : List Output) (s : Int) (d : List Canon) : (sSend l s d).1.length ≤ l.length + 1 := by
  unfold sSend
  split
  · simp
  · simp
theorem sSend_short {m : Nat} {l : List Output} (h : shortO m l) (s : Int) {d : List Canon} (hd : d.length ≤ m) : shortO m (sSend l s d).1 := by
  unfold sSend
  split
  · exact h
  · intro o ho
    rcases List.mem_append.1 ho with h' | h'
    · exact h o h'
    · simp at h'; subst h'; exact hd
/-- Outputs, drawn one after the other. -/
def dos (l : List Int) (k : Nat) : Nat → List Output × Nat
  | 0 => ([], k)
  | i + 1 => ((sSend (dos l k i).1 (dnx l (dos l k i).2 2) (dcs l (dkx l (dos l k i).2) 4).1).1, (dcs l (dkx l (dos l k i).2) 4).2)
theorem dos_le {l : List Int} {k : Nat} (hk : k ≤ l.length) : ∀ i, (dos l k i).2 ≤ l.length
  | 0 => hk
  | i + 1 => dcs_le (dkx_le (dos_le hk i)) 4
theorem dos_len (l : List Int) (k : Nat) : ∀ i, (dos l k i).1.length ≤ i
  | 0 => by simp [dos]
  | i + 1 => by
    have h := sSend_len (dos l k i).1 (dnx l (dos l k i).2 2) (dcs l (dkx l (dos l k i).2) 4).1
    have ih := dos_len l k i
    rw [dos]
    show (sSend _ _ _).1.length ≤ _
    omega
theorem dos_short (l : List Int) (k : Nat) : ∀ i, shortO 4 (dos l k i).1
  | 0 => by simp [dos, shortO]
  | i + 1 => sSend_short (dos_short l k i) _ (by have := dcs_len (l := l) (k := dkx l (dos l k i).2) (n := 4) (by omega); omega)
theorem shortO.mono {m n : Nat} {l : List Output} (h : shortO m l) (hmn : m ≤ n) : shortO n l := fun o ho => Nat.le_trans (h o ho) hmn
def dou (l : List Int) (k : Nat) (n : Int) : List Output × Nat := dos l (dkx l k) (dnx l k (n + 1)).toNat
theorem dou_le {l : List Int} {k : Nat} (hk : k ≤ l.length) (n : Int) : (dou l k n).2 ≤ l.length := dos_le (dkx_le hk) _
theorem dou_len {l : List Int} {k : Nat} {n : Int} (hn : 0 ≤ n) : (dou l k n).1.length ≤ n.toNat := by
  have h2 := dnx_lt (l := l) (k := k) (n := n + 1) (by omega)
  have h3 := dos_len l (dkx l k) (dnx l k (n + 1)).toNat
  rw [dou]
  omega
theorem dou_short (l : List Int) (k : Nat) (n : Int) : shortO 4 (dou l k n).1 := dos_short _ _ _
attribute [local irreducible] sSend dcs
set_option maxHeartbeats 4000000 in
theorem outl_fn (l : List Int) (k : Nat) (n : Int) (hk : k ≤ l.length) (hn : 0 ≤ n) (hn' : n ≤ 100000) : FncM Try.prog 7 62 (deckV l k) [.int .i64 n] (fun x obs c => x = .sl false 3 ((dou l k n).1.map (outputV false)) ∧ obs = [] ∧ c = deckV l (dou l k n).2) := by
  refine FncM.low ?_
  have h1 := dnx_ge (l := l) (k := k) (n := n + 1) (by omega)
  have h2 := dnx_lt (l := l) (k := k) (n := n + 1) (by omega)
  refine FncM.intro m_outl_ok (by simp) fun W S b0 hb0 => ?_
  unfold m_outl
  simp only [ents, Nat.zero_add, Nat.reduceAdd]
  repeat (first | refine And.intro (by omega) ?_ | refine And.intro rfl ?_ | refine ev_ctl rfl rfl ?_ | refine evr_nil ?_ | refine evw_nil (by kernel_rfl) ?_ | (simp (disch := omega) only [takeAll, Nat.min_eq_left, Nat.min_eq_right, if_pos, if_neg, getD_map, wrapI64, modIn, fdivE, tmodE, tdivE, decT, decF, beqT, beqF, bneT, bneF, Int.toNat_natCast]; try simp only [go_sem]) | (refine ev_condTb rfl ?_ ?_; · (simp <;> omega)) | (refine ev_condFb rfl ?_ ?_; · (simp <;> omega)) | ((first | refine ev_region ?_ | refine evr_go rfl ?_ | refine evw_go rfl ?_ | refine ev_dr0 mixed rfl (by kernel_rfl) ?_ | refine ev_dr1 mixed rfl (by kernel_rfl) ?_ | refine ev_dr2 mixed rfl (by kernel_rfl) ?_); simp only [go_sem]))
  (first | apply st_callMD (next_fn l k (n + 1) hk (by omega)) rfl | apply evw_callM (next_fn l k (n + 1) hk (by omega)) rfl)
  · (simp only [go_sem]; rfl)
  · rfl
  · (first | rfl | (simp only [go_sem]; done))
  · (first | rfl | (simp only [go_sem]; done) | (simp only [go_sem]; rfl))
  · (first | rfl | (simp only [go_sem]; done))
  · (first | rfl | (simp only [go_sem]; done) | (simp only [go_sem]; rfl))
  · (first | rfl | simp [V.pureT, V.pure, V.pures, pures_lo, pures_sls])
  (first | refine ev_all (fu := [(), (), (), (), (), (), (), ()]) ?_ | refine evw_all (md := []) (fu := [(), (), (), (), (), (), (), ()]) ?_); simp only [go_sem]; repeat (first | refine And.intro (by omega) ?_ | refine And.intro rfl ?_ | (simp (disch := omega) only [takeAll, Nat.min_eq_left, Nat.min_eq_right, if_pos, if_neg, getD_map, wrapI64, modIn, fdivE, tmodE, tdivE, decT, decF, beqT, beqF, bneT, bneF, Int.toNat_natCast]; try simp only [go_sem]))
  repeat (first | refine And.intro (by omega) ?_ | refine And.intro rfl ?_ | refine ev_ctl rfl rfl ?_ | refine evr_nil ?_ | refine evw_nil (by kernel_rfl) ?_ | (simp (disch := omega) only [takeAll, Nat.min_eq_left, Nat.min_eq_right, if_pos, if_neg, getD_map, wrapI64, modIn, fdivE, tmodE, tdivE, decT, decF, beqT, beqF, bneT, bneF, Int.toNat_natCast]; try simp only [go_sem]) | (refine ev_condTb rfl ?_ ?_; · (simp <;> omega)) | (refine ev_condFb rfl ?_ ?_; · (simp <;> omega)) | ((first | refine ev_region ?_ | refine evr_go rfl ?_ | refine evw_go rfl ?_ | refine ev_dr0 mixed rfl (by kernel_rfl) ?_ | refine ev_dr1 mixed rfl (by kernel_rfl) ?_ | refine ev_dr2 mixed rfl (by kernel_rfl) ?_); simp only [go_sem]))
  refine ev_nil2 5 false 3 rfl ?_
  refine ev_loopK [0] (fun p : {p : Nat // p ≤ (dnx l k (n + 1)).toNat} => [(5, .sl false 3 ((dos l (dkx l k) p.1).1.map (outputV false))), (6, .int .i64 (dnx l k (n + 1) - p.1))]) (fun p => [⟨.box true 62, true, 0, deckV l (dos l (dkx l k) p.1).2⟩]) (fun p => (dnx l k (n + 1)).toNat - p.1) (⟨0, by simp⟩) 1 (by simp only [go_sem]; rfl) ?_ (by first | rfl | (simp only [go_sem]; done)) (by simp) (by first | rfl | (simp only [go_sem]; done)) (by first | rfl | (simp only [go_sem]; done)) (by first | rfl | (simp only [go_sem]; done)) ?_
  · (simp only [go_sem]; (try simp [dos]); done)
  intro J hJ
  rintro ⟨i, hi⟩
  have hp := dos_le (l := l) (dkx_le hk) i
  have hlen := dos_len l (dkx l k) i
  have hsh := dos_short l (dkx l k) i
  by_cases hlt : i < (dnx l k (n + 1)).toNat
  · skip
    have hd : dos l (dkx l k) (i + 1) = ((sSend (dos l (dkx l k) i).1 (dnx l (dos l (dkx l k) i).2 2) (dcs l (dkx l (dos l (dkx l k) i).2) 4).1).1, (dcs l (dkx l (dos l (dkx l k) i).2) 4).2) := rfl
    generalize dos l (dkx l k) i = q at hp hlen hd hsh
    have n1 := dcs_len (l := l) (k := dkx l q.2) (n := 4) (by omega)
    repeat (first | refine And.intro (by omega) ?_ | refine And.intro rfl ?_ | refine ev_ctl rfl rfl ?_ | refine evr_nil ?_ | refine evw_nil (by kernel_rfl) ?_ | (simp (disch := omega) only [takeAll, Nat.min_eq_left, Nat.min_eq_right, if_pos, if_neg, getD_map, wrapI64, modIn, fdivE, tmodE, tdivE, decT, decF, beqT, beqF, bneT, bneF, Int.toNat_natCast]; try simp only [go_sem]) | (refine ev_condTb rfl ?_ ?_; · (simp <;> omega)) | (refine ev_condFb rfl ?_ ?_; · (simp <;> omega)) | ((first | refine ev_region ?_ | refine evr_go rfl ?_ | refine evw_go rfl ?_ | refine ev_dr0 mixed rfl (by kernel_rfl) ?_ | refine ev_dr1 mixed rfl (by kernel_rfl) ?_ | refine ev_dr2 mixed rfl (by kernel_rfl) ?_); simp only [go_sem]))
    (first | apply st_callMD (next_fn l q.2 2 hp (by omega)) rfl | apply evw_callM (next_fn l q.2 2 hp (by omega)) rfl)
    · (simp only [go_sem]; rfl)
    · rfl
    · (first | rfl | (simp only [go_sem]; done))
    · (first | rfl | (simp only [go_sem]; done) | (simp only [go_sem]; rfl))
    · (first | rfl | (simp only [go_sem]; done))
    · (first | rfl | (simp only [go_sem]; done) | (simp only [go_sem]; rfl))
    · (first | rfl | simp [V.pureT, V.pure, V.pures, pures_lo, pures_sls])
    (first | refine ev_all (fu := [(), (), (), (), (), (), (), ()]) ?_ | refine evw_all (md := []) (fu := [(), (), (), (), (), (), (), ()]) ?_); simp only [go_sem]; repeat (first | refine And.intro (by omega) ?_ | refine And.intro rfl ?_ | (simp (disch := omega) only [takeAll, Nat.min_eq_left, Nat.min_eq_right, if_pos, if_neg, getD_map, wrapI64, modIn, fdivE, tmodE, tdivE, decT, decF, beqT, beqF, bneT, bneF, Int.toNat_natCast]; try simp only [go_sem]))
    repeat (first | refine And.intro (by omega) ?_ | refine And.intro rfl ?_ | refine ev_ctl rfl rfl ?_ | refine evr_nil ?_ | refine evw_nil (by kernel_rfl) ?_ | (simp (disch := omega) only [takeAll, Nat.min_eq_left, Nat.min_eq_right, if_pos, if_neg, getD_map, wrapI64, modIn, fdivE, tmodE, tdivE, decT, decF, beqT, beqF, bneT, bneF, Int.toNat_natCast]; try simp only [go_sem]) | (refine ev_condTb rfl ?_ ?_; · (simp <;> omega)) | (refine ev_condFb rfl ?_ ?_; · (simp <;> omega)) | ((first | refine ev_region ?_ | refine evr_go rfl ?_ | refine evw_go rfl ?_ | refine ev_dr0 mixed rfl (by kernel_rfl) ?_ | refine ev_dr1 mixed rfl (by kernel_rfl) ?_ | refine ev_dr2 mixed rfl (by kernel_rfl) ?_); simp only [go_sem]))
    apply st_callMR (canons_fn l (dkx l q.2) 4 (dkx_le hp) (by omega) (by omega)) rfl
    · (simp only [go_sem]; rfl)
    · rfl
    · (first | rfl | (simp only [go_sem]; done))
    · (first | rfl | (simp only [go_sem]; done) | (simp only [go_sem]; rfl))
    · (first | rfl | (simp only [go_sem]; done))
    · (first | rfl | (simp only [go_sem]; done) | (simp only [go_sem]; rfl))
    · (first | rfl | simp [V.pureT, V.pure, V.pures, pures_lo, pures_sls])
    refine ev_all (fu := [(), (), (), (), (), (), (), ()]) ?_; simp only [go_sem]; repeat (first | refine And.intro (by omega) ?_ | refine And.intro rfl ?_ | (simp (disch := omega) only [takeAll, Nat.min_eq_left, Nat.min_eq_right, if_pos, if_neg, getD_map, wrapI64, modIn, fdivE, tmodE, tdivE, decT, decF, beqT, beqF, bneT, bneF, Int.toNat_natCast]; try simp only [go_sem]))
    repeat (first | refine And.intro (by omega) ?_ | refine And.intro rfl ?_ | refine ev_ctl rfl rfl ?_ | refine evr_nil ?_ | refine evw_nil (by kernel_rfl) ?_ | (simp (disch := omega) only [takeAll, Nat.min_eq_left, Nat.min_eq_right, if_pos, if_neg, getD_map, wrapI64, modIn, fdivE, tmodE, tdivE, decT, decF, beqT, beqF, bneT, bneF, Int.toNat_natCast]; try simp only [go_sem]) | (refine ev_condTb rfl ?_ ?_; · (simp <;> omega)) | (refine ev_condFb rfl ?_ ?_; · (simp <;> omega)) | ((first | refine ev_region ?_ | refine evr_go rfl ?_ | refine evw_go rfl ?_ | refine ev_dr0 mixed rfl (by kernel_rfl) ?_ | refine ev_dr1 mixed rfl (by kernel_rfl) ?_ | refine ev_dr2 mixed rfl (by kernel_rfl) ?_); simp only [go_sem]))
    refine evr_calmC ?_; (simp only [go_sem]; repeat (first | refine And.intro (by omega) ?_ | refine And.intro rfl ?_ | (simp (disch := omega) only [takeAll, Nat.min_eq_left, Nat.min_eq_right, if_pos, if_neg, getD_map, wrapI64, modIn, fdivE, tmodE, tdivE, decT, decF, beqT, beqF, bneT, bneF, Int.toNat_natCast]; try simp only [go_sem]))); (first | refine callD (rsend_fn q.1 (dnx l q.2 2) (dcs l (dkx l q.2) 4).1 (by omega) (hsh.mono (by omega)) (by omega)) ?_ | refine callDw (rsend_fn q.1 (dnx l q.2 2) (dcs l (dkx l q.2) 4).1 (by omega) (hsh.mono (by omega)) (by omega)) ?_); simp only [go_sem]
    repeat (first | refine And.intro (by omega) ?_ | refine And.intro rfl ?_ | refine ev_ctl rfl rfl ?_ | refine evr_nil ?_ | refine evw_nil (by kernel_rfl) ?_ | (simp (disch := omega) only [takeAll, Nat.min_eq_left, Nat.min_eq_right, if_pos, if_neg, getD_map, wrapI64, modIn, fdivE, tmodE, tdivE, decT, decF, beqT, beqF, bneT, bneF, Int.toNat_natCast]; try simp only [go_sem]) | (refine ev_condTb rfl ?_ ?_; · (simp <;> omega)) | (refine ev_condFb rfl ?_ ?_; · (simp <;> omega)) | ((first | refine ev_region ?_ | refine evr_go rfl ?_ | refine evw_go rfl ?_ | refine ev_dr0 mixed rfl (by kernel_rfl) ?_ | refine ev_dr1 mixed rfl (by kernel_rfl) ?_ | refine ev_dr2 mixed rfl (by kernel_rfl) ?_); simp only [go_sem]))
    refine ev_next 1 (hJ _ (⟨i + 1, hlt⟩) (by first | omega | (dsimp only; omega) | (simp; omega))) rfl (by simp) ?_ (by first | rfl | (simp only [go_sem]; done)) (by first | rfl | (simp only [go_sem]; done)) ?_
    · (first | rfl | (simp only [go_sem]; done) | (simp only [go_sem]; simp only [hd]; done) | (simp only [go_sem]; simp [hd]; done) | (simp [hd]; done))
    · (simp only [go_sem]; (repeat' (refine And.intro ?_ ?_)) <;> first | exact trivial | with_reducible rfl | (simp only [hd]; done) | (simp only [hd]; with_reducible rfl) | (simp [hd]; done) | (simp [hd]; omega) | (simp only [hd]; rfl) | skip)
  · obtain rfl : i = (dnx l k (n + 1)).toNat := by omega
    repeat (first | refine And.intro (by omega) ?_ | refine And.intro rfl ?_ | refine ev_ctl rfl rfl ?_ | refine evr_nil ?_ | refine evw_nil (by kernel_rfl) ?_ | (simp (disch := omega) only [takeAll, Nat.min_eq_left, Nat.min_eq_right, if_pos, if_neg, getD_map, wrapI64, modIn, fdivE, tmodE, tdivE, decT, decF, beqT, beqF, bneT, bneF, Int.toNat_natCast]; try simp only [go_sem]) | (refine ev_condTb rfl ?_ ?_; · (simp <;> omega)) | (refine ev_condFb rfl ?_ ?_; · (simp <;> omega)) | ((first | refine ev_region ?_ | refine evr_go rfl ?_ | refine evw_go rfl ?_ | refine ev_dr0 mixed rfl (by kernel_rfl) ?_ | refine ev_dr1 mixed rfl (by kernel_rfl) ?_ | refine ev_dr2 mixed rfl (by kernel_rfl) ?_); simp only [go_sem]))
    apply st_returnM hb0 m_outl_ok []
    · (simp only [go_sem]; rfl)
    · (first | exact trivial | (simp; done))
    · (first | (simp [outOk]; done) | exact outOk1 rfl)
    · (simp only [go_sem]; (first | done | trivial | simp [V.resOk, V.ressOk, rowV, V.pures, V.pure, pures_appE, pures_lo, pures_sls]))
    · (first | (simp only [V.res, V.ress, rowV, List.idxOf?_nil, List.idxOf?_cons, List.getElem?_cons_zero, List.getElem?_cons_succ]; first | rfl | (simp only [go_sem]; rfl)) | rfl)
    · (first | (simp only [go_sem]; rfl) | rfl)
    · rfl
    · (simp only [go_sem]; (first | done | rfl))
    ((try dsimp only); (repeat' (refine And.intro ?_ ?_)) <;> first | with_reducible rfl | (simp only [go_sem]; done) | (simp only [go_sem]; rfl) | (simp only [dou]; (try simp only [go_sem]); first | done | rfl) | (simp only [go_sem]; simp [dou]; done) | (simp [dou]; done) | rfl)
end Go.Proofs.Ytibfpmochioopaa
