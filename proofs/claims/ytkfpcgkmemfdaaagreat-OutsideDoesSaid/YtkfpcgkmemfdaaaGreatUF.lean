/- F6, F10, in one text. -/
import Derived.Test.YtkfpcgkmemfdaaaGreatUK
import Derived.Test.YtkfpcgkmemfdaaaGreatC5
import Derived.Test.YtkfpcgkmemfdaaaGreatC4
/- The deck: canonical cells. -/
namespace Go.Proofs.YtkfpcgkmemfdaaaGreat
open Go Go.RowKit Rdn Rdn.Dp
set_option linter.unusedVariables false
set_option linter.unusedSimpArgs false
theorem m_total_ok : compF Tryz.prog 88 = some (17, Qr ([Qp 2 (.mov (Qi 0))])
 (Qr ([Qp 3 (.mov (Qi 0))])
 (.seq (Qr ([Qm 6 0, Qn 7 6, Qp 8 (.mov (Qi 0))])
 (.block 0 (.loop (Qr ([Qb 9 .lss 8 7])
 (.seq (.cond (.t 9) (.skip) (.exit 0))
 (.seq (.block 1 (Qr ([Qx 10 1 6 8, Ql 11 1 10, Qm 5 11])
 (.reg [Qm 12 3, Qm 13 5, Qb 14 .add 12 13, Qm 3 14])))
 (.reg [Qk 15 .add 8 1, Qm 8 15])))))))
 (Qr ([Qm 16 3, Qm 2 16])
 (.ret)))), [.mov (.t 2)]) := by kernel_rfl
theorem m_at_ok : compF Tryz.prog 87 = some (30, Qr ([Qw 4 (.alloc 120 (.agg [.int .i64 0, .int .i64 0])), Qp 5 (.mov (Qi 0))])
 (.seq (Qr ([Qm 8 0, Qn 9 8, Qp 10 (.mov (Qi 0))])
 (.block 0 (.loop (Qr ([Qb 11 .lss 10 9])
 (.seq (.cond (.t 11) (.skip) (.exit 0))
 (.seq (.block 1 (Qr ([Qm 12 10, Qx 13 1 8 10, Ql 14 1 13, Qm 6 12, Qm 7 14])
 (.seq (Qr ([Qm 15 1, Qk 16 .geq 15 0, Qm 17 16, Q1 18 17 (.mov (.t 1)), Q1 19 17 (.mov (.t 7)), Q1 20 17 (.bin 0 .lss (.t 18) (.t 19)), Qu 21 17 20])
 (.cond (.t 21) (Qr ([Qm 22 6, Qm 23 1, Qw 24 (.build none [.int .i64 0, .int .i64 0] [(0, (.t 22)), (1, (.t 23))]), Qs 2 4 24, Qp 5 (.mov (Qi 0))])
 (.ret)) (.skip)))
 (.reg [Qm 25 1, Qm 26 7, Qb 27 .sub 25 26, Qm 1 27]))))
 (.reg [Qk 28 .add 10 1, Qm 10 28])))))))
 (Qr ([Qw 29 (.build none [.int .i64 0, .int .i64 0] []), Qs 2 4 29, Qp 5 (.mov (Qi 6))])
 (.ret))), [.load true 2 (.t 4), .mov (.t 5)]) := by kernel_rfl
theorem m_canon_ok : compF Tryz.prog 45 = some (34, Qr ([Qw 4 (.alloc 43 (.agg [.int .u8 0, .int .u16 0, .int .i64 0, .int .i64 0]))])
 (.seq (Qr ([Qm 7 0, Qq 8 21 [(.t 7), (Qi 6)]])
 (.block 0 (Qr ([Qk 10 .eql 8 4, Qm 9 10])
 (.cond (.t 9) (Qr ([Qm 12 1, Qm 13 0, Qm 14 1, Qq 15 88 [(.t 14)], Qq 16 21 [(.t 13), (.t 15)], Qq 17 87 [(.t 12), (.t 16)], Qm 11 17, Qe 18 11 0, Qe 19 11 1, Qw 5 (.alloc 120 (.agg [.int .i64 0, .int .i64 0])), Qs 2 5 18, Qm 6 19])
 (Qr ([Qf 20 0 0 5, Ql 21 1 20, Qf 22 1 1 5, Ql 23 1 22, Qw 24 (.build none [.int .u8 0, .int .u16 0, .int .i64 0, .int .i64 0] [(0, (.c (.int .u8 1))), (2, (.t 21)), (3, (.t 23))]), Qs 4 4 24])
 (.ret))) (Qr ([Qk 26 .eql 8 5, Qm 25 26])
 (.cond (.t 25) (Qr ([Qm 27 0, Qq 28 21 [(.t 27), (Qi 10)], Qp 29 (.conv .u16 (.t 28)), Qw 30 (.build none [.int .u8 0, .int .u16 0, .int .i64 0, .int .i64 0] [(0, (.c (.int .u8 2))), (1, (.t 29))]), Qs 4 4 30])
 (.ret)) (.skip)))))))
 (Qr ([Qm 31 0, Qq 32 89 [(.t 31)], Qw 33 (.build none [.int .u8 0, .int .u16 0, .int .i64 0, .int .i64 0] [(1, (.t 32))]), Qs 4 4 33])
 (.ret))), [.load true 4 (.t 4)]) := by kernel_rfl
theorem m_canons_ok : compF Tryz.prog 46 = some (30, Qr ([Qp 4 (.mov (.c (.nilS)))])
 (Qr ([Qp 5 (.mov (.c (.nilS)))])
 (.seq (Qr ([Qm 8 0, Qm 9 1, Qk 10 .add 9 1, Qq 11 21 [(.t 8), (.t 10)], Qm 6 11])
 (.block 0 (.loop (.seq (Qr ([Qm 12 6, Qk 13 .gtr 12 0])
 (.cond (.t 13) (.skip) (.exit 0)))
 (.seq (.block 1 (Qr ([Qm 16 0, Qw 17 (.buildS 3 1 (.int .i64 0) 2 [(0, (Qi 8)), (1, (Qi 4))]), Qq 18 45 [(.t 16), (.t 17)], Qw 7 (.alloc 43 (.agg [.int .u8 0, .int .u16 0, .int .i64 0, .int .i64 0])), Qs 4 7 18])
 (.seq (Qr ([Qm 19 0, Qq 20 21 [(.t 19), (Qi 12)], Qk 21 .eql 20 0])
 (.cond (.t 21) (.reg [Qm 22 0, Qq 23 21 [(.t 22), (Qi 65536)], Qw 24 (.build none [.int .u8 0, .int .u16 0, .int .i64 0, .int .i64 0] [(0, (.c (.int .u8 1))), (2, (Qi (-1))), (3, (.t 23))]), Qs 4 7 24]) (.skip)))
 (.reg [Qm 25 5, QL 26 4 7, Qw 27 (.buildS 43 4 (.agg [.int .u8 0, .int .u16 0, .int .i64 0, .int .i64 0]) 1 [(0, (.t 26))]), Qw 28 (.app 43 4 24 (.t 25) (.t 27)), Qm 5 28]))))
 (.reg [Qm 14 6, Qk 15 .sub 14 1, Qm 6 15]))))))
 (Qr ([Qm 29 5, Qm 4 29])
 (.ret)))), [.mov (.t 4)]) := by kernel_rfl
set_option maxHeartbeats 4000000 in
theorem total84_fn : Fnc Tryz.prog 88 [.sl false 1 [.int .i64 8, .int .i64 4]] (fun x obs => x = .int .i64 12 ∧ obs = []) := by
  refine zgo m_total_ok fun W S => ?_
  refine ev_unroll 3 ?_
  refine zst ?_
  exact zrt m_total_ok
/-- The place of a number in two regions of 8 and 4 cells. -/
def at84 (i : Int) : Int × Int := if i < 8 then (0, i) else (1, i - 8)
set_option maxHeartbeats 4000000 in
theorem at84_fn (i : Int) (h0 : 0 ≤ i) (h1 : i < 12) : Fnc Tryz.prog 87 [.sl false 1 [.int .i64 8, .int .i64 4], .int .i64 i] (fun x obs => x = .tup [.agg [.int .i64 (at84 i).1, .int .i64 (at84 i).2], .int .i64 0] ∧ obs = []) := by
  by_cases h : i < 8
  · skip
    refine zgo m_at_ok fun W S => ?_
    refine ev_unroll 3 ?_
    refine zst ?_
    refine ret m_at_ok [] ?_; (first | (simp only [go_sem]; done) | (simp only [go_sem]; ((try dsimp only); (repeat' (refine And.intro ?_ ?_)) <;> first | with_reducible rfl | (simp only [go_sem]; done) | (simp only [go_sem]; rfl) | (simp only [go_sem, at84, if_pos h]; done) | (simp only [at84, if_pos h]; (try simp only [go_sem]); first | done | rfl) | (simp only [go_sem]; simp [at84, if_pos h]; done) | (simp [at84, if_pos h]; done) | rfl)))
  · skip
    refine zgo m_at_ok fun W S => ?_
    refine ev_unroll 3 ?_
    refine zst ?_
    refine ret m_at_ok [] ?_; (first | (simp only [go_sem]; done) | (simp only [go_sem]; ((try dsimp only); (repeat' (refine And.intro ?_ ?_)) <;> first | with_reducible rfl | (simp only [go_sem]; done) | (simp only [go_sem]; rfl) | (simp only [go_sem, at84, if_neg h]; done) | (simp only [at84, if_neg h]; (try simp only [go_sem]); first | done | rfl) | (simp only [go_sem]; simp [at84, if_neg h]; done) | (simp [at84, if_neg h]; done) | rfl)))
/-- A canonical cell, drawn at a position. -/
def dcn (l : List Int) (k : Nat) : Canon × Nat :=
  if dnx l k 6 = 4 then (⟨1, 0, (at84 (dnx l (dkx l k) 12)).1, (at84 (dnx l (dkx l k) 12)).2⟩, dkx l (dkx l k))
  else if dnx l k 6 = 5 then (⟨2, dnx l (dkx l k) 10, 0, 0⟩, dkx l (dkx l k))
  else (⟨0, dwd l (dkx l k), 0, 0⟩, dkx l (dkx l (dkx l k)))
theorem dcn_le {l : List Int} (k : Nat) (h : k ≤ l.length) : (dcn l k).2 ≤ l.length := by
  have h3 := dkx_le (dkx_le h)
  unfold dcn
  split
  · exact h3
  · split
    · exact h3
    · exact dkx_le h3
set_option maxHeartbeats 4000000 in
theorem canon_fn (l : List Int) (k : Nat) (hk : k ≤ l.length) : FncM Tryz.prog 45 64 (deckV l k) [.sl false 1 [.int .i64 8, .int .i64 4]] (fun x obs c => x = canonV (dcn l k).1 ∧ obs = [] ∧ c = deckV l (dcn l k).2) := by
  have hk1 := dkx_le hk
  have h1 := dnx_ge (l := l) (k := dkx l k) (n := 12) (by omega)
  have h2 := dnx_lt (l := l) (k := dkx l k) (n := 12) (by omega)
  have h3 := dnx_ge (l := l) (k := dkx l k) (n := 10) (by omega)
  have h4 := dnx_lt (l := l) (k := dkx l k) (n := 10) (by omega)
  have hd : dcn l k = dcn l k := rfl
  conv at hd => rhs; unfold dcn
  by_cases c4 : dnx l k 6 = 4
  · rw [if_pos c4] at hd
    refine zgM m_canon_ok fun W S b0 hb0 => ?_
    refine zcm (next_fn l k 6 hk (by omega)) ?_
    refine zcd (total84_fn) ?_
    refine zcm (next_fn l (dkx l k) 12 hk1 (by omega)) ?_
    refine zcd (at84_fn _ h1 h2) ?_
    exact zrn hb0 m_canon_ok hd
  by_cases c5 : dnx l k 6 = 5
  · rw [if_neg c4, if_pos c5] at hd
    refine zgM m_canon_ok fun W S b0 hb0 => ?_
    refine zcm (next_fn l k 6 hk (by omega)) ?_
    refine zcm (next_fn l (dkx l k) 10 hk1 (by omega)) ?_
    exact zrn hb0 m_canon_ok hd
  · rw [if_neg c4, if_neg c5] at hd
    refine zgM m_canon_ok fun W S b0 hb0 => ?_
    refine zcm (next_fn l k 6 hk (by omega)) ?_
    refine zcm (word_fn l (dkx l k) hk1) ?_
    exact zrn hb0 m_canon_ok hd
/-- A canonical cell, now and then a wild one. -/
def dc1 (l : List Int) (k : Nat) : Canon × Nat :=
  if dnx l (dcn l k).2 12 = 0 then (⟨1, 0, -1, dnx l (dkx l (dcn l k).2) 65536⟩, dkx l (dkx l (dcn l k).2)) else ((dcn l k).1, dkx l (dcn l k).2)
theorem dc1_le {l : List Int} (k : Nat) (h : k ≤ l.length) : (dc1 l k).2 ≤ l.length := by
  have h3 := dkx_le (dcn_le k h)
  unfold dc1
  split
  · exact dkx_le h3
  · exact h3
def dcs (l : List Int) (k : Nat) (n : Int) : List Canon × Nat := drw (dc1 l) (dkx l k) (dnx l k (n + 1)).toNat
theorem dcs_le {l : List Int} {k : Nat} (hk : k ≤ l.length) (n : Int) : (dcs l k n).2 ≤ l.length := drw_le (f := dc1 l) (m := l.length) dc1_le (dkx_le hk) _
theorem dcs_len {l : List Int} {k : Nat} {n : Int} (hn : 0 ≤ n) : (dcs l k n).1.length ≤ n.toNat := by
  have h2 := dnx_lt (l := l) (k := k) (n := n + 1) (by omega)
  rw [dcs, drw_len]
  omega
set_option maxHeartbeats 4000000 in
theorem canons_fn (l : List Int) (k : Nat) (n : Int) (hk : k ≤ l.length) (hn : 0 ≤ n) (hn' : n ≤ 1000000) : FncM Tryz.prog 46 64 (deckV l k) [.int .i64 n] (fun x obs c => x = .own 0 0 ∧ obs = [⟨.row 43, true, 0, .arr 4 ((dcs l k n).1.map canonV)⟩] ∧ c = deckV l (dcs l k n).2) := by
  refine FncM.low ?_
  have h1 := dnx_ge (l := l) (k := k) (n := n + 1) (by omega)
  have h2 := dnx_lt (l := l) (k := k) (n := n + 1) (by omega)
  refine zgM m_canons_ok fun W S b0 hb0 => ?_
  refine zcm (next_fn l k (n + 1) hk (by omega)) ?_
  refine ev_adopt (i := 5) (e := 43) (s := 4) rfl (by decide) ?_
  refine ev_loopK [0] (fun p : {p : Nat // p ≤ (dnx l k (n + 1)).toNat} => [(5, .own 1 p.1), (6, .int .i64 (dnx l k (n + 1) - p.1))]) (fun p => [⟨.box true 64, true, 0, deckV l (drw (dc1 l) (dkx l k) p.1).2⟩, ⟨.row 43, true, p.1, .arr 4 ((drw (dc1 l) (dkx l k) p.1).1.map canonV)⟩]) (fun p => (dnx l k (n + 1)).toNat - p.1) (⟨0, by simp⟩) 2 (by simp only [go_sem]; rfl) ?_ (by first | rfl | (simp only [go_sem]; done) | (simp only [go_sem]; simp [drw]; done)) (by simp) (by first | rfl | (simp only [go_sem]; done)) (by first | rfl | (simp only [go_sem]; done)) (by first | rfl | (simp only [go_sem]; done) | (simp only [drw]; (try simp only [go_sem]); first | done | rfl)) ?_
  · (simp only [go_sem]; (try simp [drw]); done)
  intro J hJ
  rintro ⟨i, hi⟩
  have hp := drw_le (f := dc1 l) (m := l.length) dc1_le (dkx_le hk) i
  have hlen := drw_len (dc1 l) (dkx l k) i
  by_cases hlt : i < (dnx l k (n + 1)).toNat
  · skip
    generalize hq : drw (dc1 l) (dkx l k) i = q at hp hlen
    have hd : drw (dc1 l) (dkx l k) (i + 1) = (q.1 ++ [(dc1 l q.2).1], (dc1 l q.2).2) := by rw [drw, hq]
    have e1 := dcn_le q.2 hp
    by_cases h9 : dnx l (dcn l q.2).2 12 = 0
    · skip
      refine zst ?_
      refine zcf (canon_fn l q.2 hp) ?_
      refine zcm (next_fn l _ 12 e1 (by omega)) ?_
      refine zcm (next_fn l _ 65536 (dkx_le e1) (by omega)) ?_
      refine ev_next 2 (hJ _ (⟨i + 1, hlt⟩) (by first | omega | (dsimp only; omega) | (simp; omega))) rfl (by simp) ?_ (by first | rfl | (simp only [go_sem]; done)) (by first | rfl | (simp only [go_sem]; done) | (simp only [hd, dc1, if_pos h9]; (try simp only [go_sem]); first | done | rfl)) ?_
      · (first | rfl | (simp only [go_sem]; done) | (simp only [go_sem]; simp only [hd, dc1, if_pos h9]; done) | (simp only [hd, dc1, if_pos h9]; done) | (simp only [go_sem]; simp [hd, dc1, if_pos h9]; done) | (simp [hd, dc1, if_pos h9]; done))
      · (simp only [go_sem]; (repeat' (refine And.intro ?_ ?_)) <;> first | exact trivial | with_reducible rfl | (simp only [hd, dc1, if_pos h9]; done) | (simp only [hd, dc1, if_pos h9]; with_reducible rfl) | (simp [hd, dc1, if_pos h9]; done) | (simp [hd, dc1, if_pos h9]; omega) | (simp only [hd, dc1, if_pos h9]; rfl) | skip)
    · skip
      refine zst ?_
      refine zcf (canon_fn l q.2 hp) ?_
      refine zcm (next_fn l _ 12 e1 (by omega)) ?_
      refine ev_next 2 (hJ _ (⟨i + 1, hlt⟩) (by first | omega | (dsimp only; omega) | (simp; omega))) rfl (by simp) ?_ (by first | rfl | (simp only [go_sem]; done)) (by first | rfl | (simp only [go_sem]; done) | (simp only [hd, dc1, if_neg h9]; (try simp only [go_sem]); first | done | rfl)) ?_
      · (first | rfl | (simp only [go_sem]; done) | (simp only [go_sem]; simp only [hd, dc1, if_neg h9]; done) | (simp only [hd, dc1, if_neg h9]; done) | (simp only [go_sem]; simp [hd, dc1, if_neg h9]; done) | (simp [hd, dc1, if_neg h9]; done))
      · (simp only [go_sem]; (repeat' (refine And.intro ?_ ?_)) <;> first | exact trivial | with_reducible rfl | (simp only [hd, dc1, if_neg h9]; done) | (simp only [hd, dc1, if_neg h9]; with_reducible rfl) | (simp [hd, dc1, if_neg h9]; done) | (simp [hd, dc1, if_neg h9]; omega) | (simp only [hd, dc1, if_neg h9]; rfl) | skip)
  · obtain rfl : i = (dnx l k (n + 1)).toNat := by omega
    refine zst ?_
    apply st_returnM hb0 m_canons_ok [1]
    · (simp only [go_sem]; rfl)
    · (first | exact trivial | (simp; done))
    · (first | (simp [outOk]; done) | exact outOk1 rfl)
    · (simp only [go_sem]; (first | done | trivial | simp [V.resOk, V.ressOk, rowV, V.pures, V.pure, pures_appE, pures_lo, pures_sls]))
    · (first | (simp only [V.res, V.ress, rowV, List.idxOf?_nil, List.idxOf?_cons, List.getElem?_cons_zero, List.getElem?_cons_succ]; first | rfl | (simp only [go_sem]; rfl)) | rfl)
    · (first | (simp only [go_sem]; rfl) | rfl)
    · rfl
    · (simp only [go_sem]; (first | done | rfl))
    ((try dsimp only); (repeat' (refine And.intro ?_ ?_)) <;> first | with_reducible rfl | (simp only [go_sem]; done) | (simp only [go_sem]; rfl) | (simp only [go_sem, dcs]; done) | (simp only [dcs]; (try simp only [go_sem]); first | done | rfl) | (simp only [go_sem]; simp [dcs]; done) | (simp [dcs]; done) | rfl)
end Go.Proofs.YtkfpcgkmemfdaaaGreat
/- The deck: canonical cells that nobody writes any more. -/
namespace Go.Proofs.YtkfpcgkmemfdaaaGreat
open Go Go.RowKit Rdn Rdn.Dp
set_option linter.unusedVariables false
set_option linter.unusedSimpArgs false
set_option maxHeartbeats 4000000 in
theorem canons_sl (l : List Int) (k : Nat) (n : Int) (hk : k ≤ l.length) (hn : 0 ≤ n) (hn' : n ≤ 1000000) : FncM Tryz.prog 46 64 (deckV l k) [.int .i64 n] (fun x obs c => x = .sl false 4 ((dcs l k n).1.map canonV) ∧ obs = [] ∧ c = deckV l (dcs l k n).2) := by
  refine FncM.low ?_
  have h1 := dnx_ge (l := l) (k := k) (n := n + 1) (by omega)
  have h2 := dnx_lt (l := l) (k := k) (n := n + 1) (by omega)
  refine zgM m_canons_ok fun W S b0 hb0 => ?_
  refine zcm (next_fn l k (n + 1) hk (by omega)) ?_
  refine ev_adopt (i := 5) (e := 43) (s := 4) rfl (by decide) ?_
  refine ev_loopK [0] (fun p : {p : Nat // p ≤ (dnx l k (n + 1)).toNat} => [(5, .own 1 p.1), (6, .int .i64 (dnx l k (n + 1) - p.1))]) (fun p => [⟨.box true 64, true, 0, deckV l (drw (dc1 l) (dkx l k) p.1).2⟩, ⟨.row 43, true, p.1, .arr 4 ((drw (dc1 l) (dkx l k) p.1).1.map canonV)⟩]) (fun p => (dnx l k (n + 1)).toNat - p.1) (⟨0, by simp⟩) 2 (by simp only [go_sem]; rfl) ?_ (by first | rfl | (simp only [go_sem]; done) | (simp only [go_sem]; simp [drw]; done)) (by simp) (by first | rfl | (simp only [go_sem]; done)) (by first | rfl | (simp only [go_sem]; done)) (by first | rfl | (simp only [go_sem]; done) | (simp only [drw]; (try simp only [go_sem]); first | done | rfl)) ?_
  · (simp only [go_sem]; (try simp [drw]); done)
  intro J hJ
  rintro ⟨i, hi⟩
  have hp := drw_le (f := dc1 l) (m := l.length) dc1_le (dkx_le hk) i
  have hlen := drw_len (dc1 l) (dkx l k) i
  by_cases hlt : i < (dnx l k (n + 1)).toNat
  · skip
    generalize hq : drw (dc1 l) (dkx l k) i = q at hp hlen
    have hd : drw (dc1 l) (dkx l k) (i + 1) = (q.1 ++ [(dc1 l q.2).1], (dc1 l q.2).2) := by rw [drw, hq]
    have e1 := dcn_le q.2 hp
    by_cases h9 : dnx l (dcn l q.2).2 12 = 0
    · skip
      refine zst ?_
      refine zcf (canon_fn l q.2 hp) ?_
      refine zcm (next_fn l _ 12 e1 (by omega)) ?_
      refine zcm (next_fn l _ 65536 (dkx_le e1) (by omega)) ?_
      refine ev_next 2 (hJ _ (⟨i + 1, hlt⟩) (by first | omega | (dsimp only; omega) | (simp; omega))) rfl (by simp) ?_ (by first | rfl | (simp only [go_sem]; done)) (by first | rfl | (simp only [go_sem]; done) | (simp only [hd, dc1, if_pos h9]; (try simp only [go_sem]); first | done | rfl)) ?_
      · (first | rfl | (simp only [go_sem]; done) | (simp only [go_sem]; simp only [hd, dc1, if_pos h9]; done) | (simp only [hd, dc1, if_pos h9]; done) | (simp only [go_sem]; simp [hd, dc1, if_pos h9]; done) | (simp [hd, dc1, if_pos h9]; done))
      · (simp only [go_sem]; (repeat' (refine And.intro ?_ ?_)) <;> first | exact trivial | with_reducible rfl | (simp only [hd, dc1, if_pos h9]; done) | (simp only [hd, dc1, if_pos h9]; with_reducible rfl) | (simp [hd, dc1, if_pos h9]; done) | (simp [hd, dc1, if_pos h9]; omega) | (simp only [hd, dc1, if_pos h9]; rfl) | skip)
    · skip
      refine zst ?_
      refine zcf (canon_fn l q.2 hp) ?_
      refine zcm (next_fn l _ 12 e1 (by omega)) ?_
      refine ev_next 2 (hJ _ (⟨i + 1, hlt⟩) (by first | omega | (dsimp only; omega) | (simp; omega))) rfl (by simp) ?_ (by first | rfl | (simp only [go_sem]; done)) (by first | rfl | (simp only [go_sem]; done) | (simp only [hd, dc1, if_neg h9]; (try simp only [go_sem]); first | done | rfl)) ?_
      · (first | rfl | (simp only [go_sem]; done) | (simp only [go_sem]; simp only [hd, dc1, if_neg h9]; done) | (simp only [hd, dc1, if_neg h9]; done) | (simp only [go_sem]; simp [hd, dc1, if_neg h9]; done) | (simp [hd, dc1, if_neg h9]; done))
      · (simp only [go_sem]; (repeat' (refine And.intro ?_ ?_)) <;> first | exact trivial | with_reducible rfl | (simp only [hd, dc1, if_neg h9]; done) | (simp only [hd, dc1, if_neg h9]; with_reducible rfl) | (simp [hd, dc1, if_neg h9]; done) | (simp [hd, dc1, if_neg h9]; omega) | (simp only [hd, dc1, if_neg h9]; rfl) | skip)
  · obtain rfl : i = (dnx l k (n + 1)).toNat := by omega
    refine zst ?_
    apply st_returnM hb0 m_canons_ok []
    · (simp only [go_sem]; rfl)
    · (first | exact trivial | (simp; done))
    · (first | (simp [outOk]; done) | exact outOk1 rfl)
    · (simp only [go_sem]; (first | done | trivial | simp [V.resOk, V.ressOk, rowV, V.pures, V.pure, pures_appE, pures_lo, pures_sls]))
    · (first | (simp only [V.res, V.ress, rowV, List.idxOf?_nil, List.idxOf?_cons, List.getElem?_cons_zero, List.getElem?_cons_succ]; first | rfl | (simp only [go_sem]; rfl)) | rfl)
    · (first | (simp only [go_sem]; rfl) | rfl)
    · rfl
    · (simp only [go_sem]; (first | done | rfl))
    ((try dsimp only); (repeat' (refine And.intro ?_ ?_)) <;> first | with_reducible rfl | (simp only [go_sem]; done) | (simp only [go_sem]; rfl) | (simp only [go_sem, dcs]; done) | (simp only [dcs]; (try simp only [go_sem]); first | done | rfl) | (simp only [go_sem]; simp [dcs]; done) | (simp [dcs]; done) | rfl)
end Go.Proofs.YtkfpcgkmemfdaaaGreat
