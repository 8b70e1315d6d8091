/- States drawn near one. -/
import Derived.Test.YtcphobeommkgeaaP23
import Derived.Test.YtcphobeommkgeaaC5
import Derived.Test.YtcphobeommkgeaaP24
namespace Go.Proofs.Ytcphobeommkgeaa
open Go Go.RowKit Rdn Rdn.Dp
set_option linter.unusedVariables false
set_option linter.unusedSimpArgs false
theorem m_near_ok : compF Try.prog 18 = some (58, Qr ([Qw 4 (.box 30 (.t 1)), Qw 6 (.alloc 30 (.agg [.nilS, .nilS]))])
 (Qr ([QL 10 2 4, Qq 11 47 [(.t 10)], Qw 7 (.alloc 30 (.agg [.nilS, .nilS])), Qs 2 7 11])
 (.seq (Qr ([Qp 8 (.mov (Qi 0))])
 (.block 0 (.loop (.seq (Qr ([Qm 12 8, Qm 13 2, Qb 14 .lss 12 13])
 (.cond (.t 14) (.skip) (.exit 0)))
 (.seq (.block 1 (.seq (Qr ([Qf 17 1 1 7, Ql 18 1 17, Qn 19 18, Qk 20 .gtr 19 0, Qm 21 20, Q1 22 21 (.mov (.t 0)), ⟨(some 23), (some (21, true)), (.call 19 [(.t 22), (Qi 3)])⟩, Q1 24 21 (.bin 0 .eql (.t 23) (Qi 2)), Qu 25 21 24])
 (.cond (.t 25) (.seq (.dreg [Qf 26 1 1 7, Ql 27 1 26, Qm 28 0, Qf 29 1 1 7, Ql 30 1 29, Qn 31 30, Qq 32 19 [(.t 28), (.t 31)], Qm 33 0, Qq 34 44 [(.t 33)], Qx 35 8 27 32, Qs 8 35 34] [[], [0], [], [], [3], [3, 4], [2, 3, 4, 5], [], [2, 3, 4, 5, 6, 7], [0, 1, 2, 3, 4, 5, 6, 7, 8], [0, 1, 2, 3, 4, 5, 6, 7, 8, 9]])
 (.exit 1)) (.skip)))
 (Qr ([Qm 36 0, Qf 37 0 0 7, Ql 38 1 37, Qn 39 38, Qq 40 19 [(.t 36), (.t 39)], Qm 9 40])
 (.dreg [Qf 41 0 0 7, Ql 42 1 41, Qm 43 9, Qx 44 1 42 43, Ql 45 1 44, Qm 46 0, Qf 47 0 0 7, Ql 48 1 47, Qm 49 9, Qx 50 1 48 49, Ql 51 1 50, Qn 52 51, Qq 53 19 [(.t 46), (.t 52)], Qm 54 0, Qq 55 51 [(.t 54)], Qx 56 4 45 53, Qs 4 56 55] [[], [0], [], [0, 1, 2], [0, 1, 2, 3], [], [], [6], [], [6, 7, 8], [6, 7, 8, 9], [6, 7, 8, 9, 10], [5, 6, 7, 8, 9, 10, 11], [], [5, 6, 7, 8, 9, 10, 11, 12, 13], [0, 1, 2, 3, 4, 5, 6, 7, 8, 9, 10, 11, 12, 13, 14], [0, 1, 2, 3, 4, 5, 6, 7, 8, 9, 10, 11, 12, 13, 14, 15]]))))
 (.reg [Qm 15 8, Qk 16 .add 15 1, Qm 8 16]))))))
 (Qr ([QL 57 2 7, Qs 2 6 57])
 (.ret)))), [.load true 2 (.t 6)]) := by kernel_rfl
attribute [local irreducible] srg sc1 sv1 nrs
theorem fine_pos {s : State} (h : Fine s) {j : Nat} (hj : j < s.regions.length) : 1 ≤ (s.regions[j]!).length ∧ (s.regions[j]!).length ≤ 32 := by
  obtain ⟨⟨h0, h1, h2⟩, h3, h4, h5⟩ := h
  exact h2 j hj
theorem nrg_at {l : List Int} {rg : List (List Canon)} {th : List View} {K w a : Nat} (hw : dnx l K (rg.length : Int) = w) (ha : dnx l (dkx l K) ((rg[w]!).length : Int) = a) : nrg l ⟨rg, th⟩ K = (nR ⟨rg, th⟩ w a (sc1 l (dkx l (dkx l K))).1, (sc1 l (dkx l (dkx l K))).2) := by
  unfold nrg
  simp only [hw, Int.toNat_natCast, ha]
theorem sget_eq {rg : List (List Canon)} {w : Nat} {x : List Canon} (h : w < rg.length) : (rg.set w x)[w]! = x := by
  rw [getElem!_pos _ _ (by simpa using h)]; simp
theorem sget_ne {rg : List (List Canon)} {w j : Nat} {x : List Canon} (h : w ≠ j) : (rg.set w x)[j]! = rg[j]! := by
  simp [List.getElem!_eq_getElem?_getD, List.getElem?_set_ne h]
theorem rows1 (rg : List (List Canon)) (h : rg.length = 1) : [V.sl true 4 ((rg[0]!).map canonV)] = rg.map (slV' true 4 canonV) := by
  match rg, h with
  | [x], _ => rfl
theorem rows2 (rg : List (List Canon)) (h : rg.length = 2) : [V.sl true 4 ((rg[0]!).map canonV), V.sl true 4 ((rg[1]!).map canonV)] = rg.map (slV' true 4 canonV) := by
  match rg, h with
  | [x, y], _ => rfl
theorem rows3 (rg : List (List Canon)) (h : rg.length = 3) : [V.sl true 4 ((rg[0]!).map canonV), V.sl true 4 ((rg[1]!).map canonV), V.sl true 4 ((rg[2]!).map canonV)] = rg.map (slV' true 4 canonV) := by
  match rg, h with
  | [x, y, z], _ => rfl
set_option maxHeartbeats 16000000 in
theorem near1_fn (l : List Int) (s : State) (kk n : Nat) (hF : Fine s) (hR : s.regions.length = 1) (hk : kk ≤ l.length) (hn : n ≤ 100) : FncM Try.prog 18 91 (deckV l kk) [staV s, .int .i64 n] (fun x obs c => x = staV (nrs l (s, kk) n).1 ∧ obs = [] ∧ c = deckV l (nrs l (s, kk) n).2) := by
  refine FncM.low ?_
  have L : LowS s := fine_low hF
  have ht := fine_thr hF
  have z0 : nrs l (s, kk) 0 = (s, kk) := by unfold nrs; rfl
  refine zgM m_near_ok fun W S b0 hb0 => ?_
  refine zcx (zcopy1_fn s L hR ht) ?_
  refine ev_loopK [0, 2, 6, 7] (fun p : {p : Nat // p ≤ n} => [(8, .int .i64 p.1)]) (fun p => [⟨.box true 91, true, 0, deckV l (nrs l (s, kk) p.1).2⟩, ⟨.box false 30, true, 0, staV s⟩, ⟨.box false 30, true, 0, .agg [.nilS, .nilS]⟩, ⟨.rows false 40, true, 0, .arr 1 [.own 5 0]⟩, ⟨.row 43, true, 0, .arr 8 ((nrs l (s, kk) p.1).1.threads.map (viewV true))⟩, ⟨.row 84, true, 0, .arr 4 ((nrs l (s, kk) p.1).1.regions[0]!.map canonV)⟩, ⟨.box false 30, true, 0, .agg [.own 3 0, .own 4 0]⟩]) (fun p => n - p.1) (⟨0, by simp⟩) 7 (by simp only [go_sem]; rfl) ?_ (by first | rfl | (simp only [go_sem]; done) | (simp only [go_sem]; simp [z0]; done)) (by simp) (by first | rfl | (simp only [go_sem]; done)) (by first | rfl | (simp only [go_sem]; done)) (by first | rfl | (simp only [go_sem]; done) | (simp only [z0]; (try simp only [go_sem]); first | done | rfl)) ?_
  · (simp only [go_sem]; (try simp [z0]); done)
  intro J hJ
  rintro ⟨p, hp0⟩
  obtain ⟨q1, q2, q3, q4⟩ := nrs_fine (l := l) (x := (s, kk)) hF hk p
  have hsu : nrs l (s, kk) (p + 1) = nst l (nrs l (s, kk) p) := by conv => lhs; unfold nrs
  by_cases hlt : p < n
  · generalize nrs l (s, kk) p = x at q1 q2 q3 q4 hsu ⊢
    obtain ⟨⟨rg, th⟩, k⟩ := x
    dsimp only at q1 q2 q3 q4 hsu ⊢
    rw [hR] at q3
    by_cases c1 : 0 < th.length
    · refine zst ?_
      refine zcm (next_fn l k 3 q2 (by omega)) ?_
      by_cases c2 : dnx l k 3 = 2
      · have hz : nst l (⟨rg, th⟩, k) = (nT ⟨rg, th⟩ (dnx l (dkx l k) th.length).toNat (sv1 l (dkx l (dkx l k))).1, (sv1 l (dkx l (dkx l k))).2) := by unfold nst; rw [if_pos c1, if_pos c2]
        have g0 := dnx_ge (l := l) (k := dkx l k) (n := (th.length : Int)) (by omega)
        have g1 := dnx_lt (l := l) (k := dkx l k) (n := (th.length : Int)) (by omega)
        obtain ⟨a, ha⟩ := Int.eq_ofNat_of_zero_le g0
        rw [ha] at hz g1
        refine zst ?_
        refine Rdn.Dp.zcn (next_fn l (dkx l k) th.length (dkx_le q2) (by omega)) ?_
        rw [ha]
        refine zst ?_
        refine zcm (sview_fn l (dkx l (dkx l k)) (dkx_le (dkx_le q2))) ?_
        simp only [Int.toNat_natCast] at hz
        have hm : (th.map (viewV true)).set a (viewV true (sv1 l (dkx l (dkx l k))).1) = (th.set a (sv1 l (dkx l (dkx l k))).1).map (viewV true) := List.map_set.symm
        refine ev_next 7 (hJ _ (⟨p + 1, hlt⟩) (by first | omega | (dsimp only; omega) | (simp; omega))) rfl (by simp) ?_ (by first | rfl | (simp only [go_sem]; done)) (by first | rfl | (simp only [go_sem]; done) | (simp only [hsu, hz, nT, hm]; (try simp only [go_sem]); first | done | rfl)) ?_
        · (first | rfl | (simp only [go_sem]; done) | (simp only [go_sem]; simp only [hsu, hz, nT, hm]; done) | (simp only [hsu, hz, nT, hm]; done) | (simp only [go_sem]; simp [hsu, hz, nT, hm]; done) | (simp [hsu, hz, nT, hm]; done))
        · (simp only [go_sem]; (repeat' (refine And.intro ?_ ?_)) <;> first | exact trivial | with_reducible rfl | (simp only [hsu, hz, nT, hm]; done) | (simp only [hsu, hz, nT, hm]; with_reducible rfl) | (simp [hsu, hz, nT, hm]; done) | (simp [hsu, hz, nT, hm]; omega) | (simp only [hsu, hz, nT, hm]; rfl) | skip)
      · have hz : nst l (⟨rg, th⟩, k) = nrg l ⟨rg, th⟩ (dkx l k) := by unfold nst; rw [if_pos c1, if_neg c2]
        have hk1 := dkx_le q2
        rw [hz] at hsu
        clear hz
        generalize dkx l k = K at hsu hk1 ⊢
        refine zst ?_
        have g0 := dnx_ge (l := l) (k := K) (n := 1) (by omega)
        have g1 := dnx_lt (l := l) (k := K) (n := 1) (by omega)
        have w0 : dnx l K 1 = 0 := by omega
        have wl : dnx l K (rg.length : Int) = 0 := by rw [q3]; exact w0
        have hp : 1 ≤ (rg[0]!).length := (fine_pos q1 (j := 0) (by dsimp only; omega)).1
        have hp2 : (rg[0]!).length ≤ 32 := (fine_pos q1 (j := 0) (by dsimp only; omega)).2
        have b0 := dnx_ge (l := l) (k := dkx l K) (n := ((rg[0]!).length : Int)) (by omega)
        have b1 := dnx_lt (l := l) (k := dkx l K) (n := ((rg[0]!).length : Int)) (by omega)
        obtain ⟨a, ha⟩ := Int.eq_ofNat_of_zero_le b0
        rw [ha] at b1
        have hz : nrg l ⟨rg, th⟩ K = (nR ⟨rg, th⟩ 0 a (sc1 l (dkx l (dkx l K))).1, (sc1 l (dkx l (dkx l K))).2) := nrg_at wl ha
        refine Rdn.Dp.zcn (next_fn l K 1 hk1 (by omega)) ?_
        rw [w0]
        refine zst ?_
        refine Rdn.Dp.zcn (next_fn l (dkx l K) (rg[0]!).length (dkx_le hk1) (by omega)) ?_
        rw [ha]
        refine zst ?_
        refine zcm (scell_fn l (dkx l (dkx l K)) (dkx_le (dkx_le hk1))) ?_
        have hm : ((rg[0]!).map canonV).set a (canonV (sc1 l (dkx l (dkx l K))).1) = ((rg[0]!).set a (sc1 l (dkx l (dkx l K))).1).map canonV := List.map_set.symm
        have s0 : (rg.set 0 ((rg[0]!).set a (sc1 l (dkx l (dkx l K))).1))[0]! = (rg[0]!).set a (sc1 l (dkx l (dkx l K))).1 := sget_eq (by omega)
        refine ev_next 7 (hJ _ (⟨p + 1, hlt⟩) (by first | omega | (dsimp only; omega) | (simp; omega))) rfl (by simp) ?_ (by first | rfl | (simp only [go_sem]; done)) (by first | rfl | (simp only [go_sem]; done) | (simp only [hsu, hz, nR, hm, s0]; (try simp only [go_sem]); first | done | rfl)) ?_
        · (first | rfl | (simp only [go_sem]; done) | (simp only [go_sem]; simp only [hsu, hz, nR, hm, s0]; done) | (simp only [hsu, hz, nR, hm, s0]; done) | (simp only [go_sem]; simp [hsu, hz, nR, hm, s0]; done) | (simp [hsu, hz, nR, hm, s0]; done))
        · (simp only [go_sem]; (repeat' (refine And.intro ?_ ?_)) <;> first | exact trivial | with_reducible rfl | (simp only [hsu, hz, nR, hm, s0]; done) | (simp only [hsu, hz, nR, hm, s0]; with_reducible rfl) | (simp [hsu, hz, nR, hm, s0]; done) | (simp [hsu, hz, nR, hm, s0]; omega) | (simp only [hsu, hz, nR, hm, s0]; rfl) | skip)
    · have hz : nst l (⟨rg, th⟩, k) = nrg l ⟨rg, th⟩ k := by unfold nst; rw [if_neg c1]
      rw [hz] at hsu
      clear hz
      refine zst ?_
      have g0 := dnx_ge (l := l) (k := k) (n := 1) (by omega)
      have g1 := dnx_lt (l := l) (k := k) (n := 1) (by omega)
      have w0 : dnx l k 1 = 0 := by omega
      have wl : dnx l k (rg.length : Int) = 0 := by rw [q3]; exact w0
      have hp : 1 ≤ (rg[0]!).length := (fine_pos q1 (j := 0) (by dsimp only; omega)).1
      have hp2 : (rg[0]!).length ≤ 32 := (fine_pos q1 (j := 0) (by dsimp only; omega)).2
      have b0 := dnx_ge (l := l) (k := dkx l k) (n := ((rg[0]!).length : Int)) (by omega)
      have b1 := dnx_lt (l := l) (k := dkx l k) (n := ((rg[0]!).length : Int)) (by omega)
      obtain ⟨a, ha⟩ := Int.eq_ofNat_of_zero_le b0
      rw [ha] at b1
      have hz : nrg l ⟨rg, th⟩ k = (nR ⟨rg, th⟩ 0 a (sc1 l (dkx l (dkx l k))).1, (sc1 l (dkx l (dkx l k))).2) := nrg_at wl ha
      refine Rdn.Dp.zcn (next_fn l k 1 q2 (by omega)) ?_
      rw [w0]
      refine zst ?_
      refine Rdn.Dp.zcn (next_fn l (dkx l k) (rg[0]!).length (dkx_le q2) (by omega)) ?_
      rw [ha]
      refine zst ?_
      refine zcm (scell_fn l (dkx l (dkx l k)) (dkx_le (dkx_le q2))) ?_
      have hm : ((rg[0]!).map canonV).set a (canonV (sc1 l (dkx l (dkx l k))).1) = ((rg[0]!).set a (sc1 l (dkx l (dkx l k))).1).map canonV := List.map_set.symm
      have s0 : (rg.set 0 ((rg[0]!).set a (sc1 l (dkx l (dkx l k))).1))[0]! = (rg[0]!).set a (sc1 l (dkx l (dkx l k))).1 := sget_eq (by omega)
      refine ev_next 7 (hJ _ (⟨p + 1, hlt⟩) (by first | omega | (dsimp only; omega) | (simp; omega))) rfl (by simp) ?_ (by first | rfl | (simp only [go_sem]; done)) (by first | rfl | (simp only [go_sem]; done) | (simp only [hsu, hz, nR, hm, s0]; (try simp only [go_sem]); first | done | rfl)) ?_
      · (first | rfl | (simp only [go_sem]; done) | (simp only [go_sem]; simp only [hsu, hz, nR, hm, s0]; done) | (simp only [hsu, hz, nR, hm, s0]; done) | (simp only [go_sem]; simp [hsu, hz, nR, hm, s0]; done) | (simp [hsu, hz, nR, hm, s0]; done))
      · (simp only [go_sem]; (repeat' (refine And.intro ?_ ?_)) <;> first | exact trivial | with_reducible rfl | (simp only [hsu, hz, nR, hm, s0]; done) | (simp only [hsu, hz, nR, hm, s0]; with_reducible rfl) | (simp [hsu, hz, nR, hm, s0]; done) | (simp [hsu, hz, nR, hm, s0]; omega) | (simp only [hsu, hz, nR, hm, s0]; rfl) | skip)
  · obtain rfl : p = n := by omega
    dsimp only
    rw [hR] at q3
    refine ev_frzIn 3 0 5 rfl rfl rfl ?_
    simp only [go_sem]
    refine ev_toRow 3 rfl rfl ?_
    refine zst ?_
    have hq := rows1 (nrs l (s, kk) p).1.regions q3
    exact zrn hb0 m_near_ok hq
set_option maxHeartbeats 16000000 in
theorem near2_fn (l : List Int) (s : State) (kk n : Nat) (hF : Fine s) (hR : s.regions.length = 2) (hk : kk ≤ l.length) (hn : n ≤ 100) : FncM Try.prog 18 91 (deckV l kk) [staV s, .int .i64 n] (fun x obs c => x = staV (nrs l (s, kk) n).1 ∧ obs = [] ∧ c = deckV l (nrs l (s, kk) n).2) := by
  refine FncM.low ?_
  have L : LowS s := fine_low hF
  have ht := fine_thr hF
  have z0 : nrs l (s, kk) 0 = (s, kk) := by unfold nrs; rfl
  refine zgM m_near_ok fun W S b0 hb0 => ?_
  refine zcx (zcopy2_fn s L hR ht) ?_
  refine ev_loopK [0, 2, 6, 7] (fun p : {p : Nat // p ≤ n} => [(8, .int .i64 p.1)]) (fun p => [⟨.box true 91, true, 0, deckV l (nrs l (s, kk) p.1).2⟩, ⟨.box false 30, true, 0, staV s⟩, ⟨.box false 30, true, 0, .agg [.nilS, .nilS]⟩, ⟨.rows false 40, true, 0, .arr 1 [.own 5 0, .own 6 0]⟩, ⟨.row 43, true, 0, .arr 8 ((nrs l (s, kk) p.1).1.threads.map (viewV true))⟩, ⟨.row 84, true, 0, .arr 4 ((nrs l (s, kk) p.1).1.regions[0]!.map canonV)⟩, ⟨.row 84, true, 0, .arr 4 ((nrs l (s, kk) p.1).1.regions[1]!.map canonV)⟩, ⟨.box false 30, true, 0, .agg [.own 3 0, .own 4 0]⟩]) (fun p => n - p.1) (⟨0, by simp⟩) 8 (by simp only [go_sem]; rfl) ?_ (by first | rfl | (simp only [go_sem]; done) | (simp only [go_sem]; simp [z0]; done)) (by simp) (by first | rfl | (simp only [go_sem]; done)) (by first | rfl | (simp only [go_sem]; done)) (by first | rfl | (simp only [go_sem]; done) | (simp only [z0]; (try simp only [go_sem]); first | done | rfl)) ?_
  · (simp only [go_sem]; (try simp [z0]); done)
  intro J hJ
  rintro ⟨p, hp0⟩
  obtain ⟨q1, q2, q3, q4⟩ := nrs_fine (l := l) (x := (s, kk)) hF hk p
  have hsu : nrs l (s, kk) (p + 1) = nst l (nrs l (s, kk) p) := by conv => lhs; unfold nrs
  by_cases hlt : p < n
  · generalize nrs l (s, kk) p = x at q1 q2 q3 q4 hsu ⊢
    obtain ⟨⟨rg, th⟩, k⟩ := x
    dsimp only at q1 q2 q3 q4 hsu ⊢
    rw [hR] at q3
    by_cases c1 : 0 < th.length
    · refine zst ?_
      refine zcm (next_fn l k 3 q2 (by omega)) ?_
      by_cases c2 : dnx l k 3 = 2
      · have hz : nst l (⟨rg, th⟩, k) = (nT ⟨rg, th⟩ (dnx l (dkx l k) th.length).toNat (sv1 l (dkx l (dkx l k))).1, (sv1 l (dkx l (dkx l k))).2) := by unfold nst; rw [if_pos c1, if_pos c2]
        have g0 := dnx_ge (l := l) (k := dkx l k) (n := (th.length : Int)) (by omega)
        have g1 := dnx_lt (l := l) (k := dkx l k) (n := (th.length : Int)) (by omega)
        obtain ⟨a, ha⟩ := Int.eq_ofNat_of_zero_le g0
        rw [ha] at hz g1
        refine zst ?_
        refine Rdn.Dp.zcn (next_fn l (dkx l k) th.length (dkx_le q2) (by omega)) ?_
        rw [ha]
        refine zst ?_
        refine zcm (sview_fn l (dkx l (dkx l k)) (dkx_le (dkx_le q2))) ?_
        simp only [Int.toNat_natCast] at hz
        have hm : (th.map (viewV true)).set a (viewV true (sv1 l (dkx l (dkx l k))).1) = (th.set a (sv1 l (dkx l (dkx l k))).1).map (viewV true) := List.map_set.symm
        refine ev_next 8 (hJ _ (⟨p + 1, hlt⟩) (by first | omega | (dsimp only; omega) | (simp; omega))) rfl (by simp) ?_ (by first | rfl | (simp only [go_sem]; done)) (by first | rfl | (simp only [go_sem]; done) | (simp only [hsu, hz, nT, hm]; (try simp only [go_sem]); first | done | rfl)) ?_
        · (first | rfl | (simp only [go_sem]; done) | (simp only [go_sem]; simp only [hsu, hz, nT, hm]; done) | (simp only [hsu, hz, nT, hm]; done) | (simp only [go_sem]; simp [hsu, hz, nT, hm]; done) | (simp [hsu, hz, nT, hm]; done))
        · (simp only [go_sem]; (repeat' (refine And.intro ?_ ?_)) <;> first | exact trivial | with_reducible rfl | (simp only [hsu, hz, nT, hm]; done) | (simp only [hsu, hz, nT, hm]; with_reducible rfl) | (simp [hsu, hz, nT, hm]; done) | (simp [hsu, hz, nT, hm]; omega) | (simp only [hsu, hz, nT, hm]; rfl) | skip)
      · have hz : nst l (⟨rg, th⟩, k) = nrg l ⟨rg, th⟩ (dkx l k) := by unfold nst; rw [if_pos c1, if_neg c2]
        have hk1 := dkx_le q2
        rw [hz] at hsu
        clear hz
        generalize dkx l k = K at hsu hk1 ⊢
        refine zst ?_
        have g0 := dnx_ge (l := l) (k := K) (n := 2) (by omega)
        have g1 := dnx_lt (l := l) (k := K) (n := 2) (by omega)
        by_cases w0 : dnx l K 2 = 0
        · have wl : dnx l K (rg.length : Int) = 0 := by rw [q3]; exact w0
          have hp : 1 ≤ (rg[0]!).length := (fine_pos q1 (j := 0) (by dsimp only; omega)).1
          have hp2 : (rg[0]!).length ≤ 32 := (fine_pos q1 (j := 0) (by dsimp only; omega)).2
          have b0 := dnx_ge (l := l) (k := dkx l K) (n := ((rg[0]!).length : Int)) (by omega)
          have b1 := dnx_lt (l := l) (k := dkx l K) (n := ((rg[0]!).length : Int)) (by omega)
          obtain ⟨a, ha⟩ := Int.eq_ofNat_of_zero_le b0
          rw [ha] at b1
          have hz : nrg l ⟨rg, th⟩ K = (nR ⟨rg, th⟩ 0 a (sc1 l (dkx l (dkx l K))).1, (sc1 l (dkx l (dkx l K))).2) := nrg_at wl ha
          refine Rdn.Dp.zcn (next_fn l K 2 hk1 (by omega)) ?_
          rw [w0]
          refine zst ?_
          refine Rdn.Dp.zcn (next_fn l (dkx l K) (rg[0]!).length (dkx_le hk1) (by omega)) ?_
          rw [ha]
          refine zst ?_
          refine zcm (scell_fn l (dkx l (dkx l K)) (dkx_le (dkx_le hk1))) ?_
          have hm : ((rg[0]!).map canonV).set a (canonV (sc1 l (dkx l (dkx l K))).1) = ((rg[0]!).set a (sc1 l (dkx l (dkx l K))).1).map canonV := List.map_set.symm
          have s0 : (rg.set 0 ((rg[0]!).set a (sc1 l (dkx l (dkx l K))).1))[0]! = (rg[0]!).set a (sc1 l (dkx l (dkx l K))).1 := sget_eq (by omega)
          have s1 : (rg.set 0 ((rg[0]!).set a (sc1 l (dkx l (dkx l K))).1))[1]! = rg[1]! := sget_ne (by decide)
          refine ev_next 8 (hJ _ (⟨p + 1, hlt⟩) (by first | omega | (dsimp only; omega) | (simp; omega))) rfl (by simp) ?_ (by first | rfl | (simp only [go_sem]; done)) (by first | rfl | (simp only [go_sem]; done) | (simp only [hsu, hz, nR, hm, s0, s1]; (try simp only [go_sem]); first | done | rfl)) ?_
          · (first | rfl | (simp only [go_sem]; done) | (simp only [go_sem]; simp only [hsu, hz, nR, hm, s0, s1]; done) | (simp only [hsu, hz, nR, hm, s0, s1]; done) | (simp only [go_sem]; simp [hsu, hz, nR, hm, s0, s1]; done) | (simp [hsu, hz, nR, hm, s0, s1]; done))
          · (simp only [go_sem]; (repeat' (refine And.intro ?_ ?_)) <;> first | exact trivial | with_reducible rfl | (simp only [hsu, hz, nR, hm, s0, s1]; done) | (simp only [hsu, hz, nR, hm, s0, s1]; with_reducible rfl) | (simp [hsu, hz, nR, hm, s0, s1]; done) | (simp [hsu, hz, nR, hm, s0, s1]; omega) | (simp only [hsu, hz, nR, hm, s0, s1]; rfl) | skip)
        have w1 : dnx l K 2 = 1 := by omega
        have wl : dnx l K (rg.length : Int) = 1 := by rw [q3]; exact w1
        have hp : 1 ≤ (rg[1]!).length := (fine_pos q1 (j := 1) (by dsimp only; omega)).1
        have hp2 : (rg[1]!).length ≤ 32 := (fine_pos q1 (j := 1) (by dsimp only; omega)).2
        have b0 := dnx_ge (l := l) (k := dkx l K) (n := ((rg[1]!).length : Int)) (by omega)
        have b1 := dnx_lt (l := l) (k := dkx l K) (n := ((rg[1]!).length : Int)) (by omega)
        obtain ⟨a, ha⟩ := Int.eq_ofNat_of_zero_le b0
        rw [ha] at b1
        have hz : nrg l ⟨rg, th⟩ K = (nR ⟨rg, th⟩ 1 a (sc1 l (dkx l (dkx l K))).1, (sc1 l (dkx l (dkx l K))).2) := nrg_at wl ha
        refine Rdn.Dp.zcn (next_fn l K 2 hk1 (by omega)) ?_
        rw [w1]
        refine zst ?_
        refine Rdn.Dp.zcn (next_fn l (dkx l K) (rg[1]!).length (dkx_le hk1) (by omega)) ?_
        rw [ha]
        refine zst ?_
        refine zcm (scell_fn l (dkx l (dkx l K)) (dkx_le (dkx_le hk1))) ?_
        have hm : ((rg[1]!).map canonV).set a (canonV (sc1 l (dkx l (dkx l K))).1) = ((rg[1]!).set a (sc1 l (dkx l (dkx l K))).1).map canonV := List.map_set.symm
        have s0 : (rg.set 1 ((rg[1]!).set a (sc1 l (dkx l (dkx l K))).1))[0]! = rg[0]! := sget_ne (by decide)
        have s1 : (rg.set 1 ((rg[1]!).set a (sc1 l (dkx l (dkx l K))).1))[1]! = (rg[1]!).set a (sc1 l (dkx l (dkx l K))).1 := sget_eq (by omega)
        refine ev_next 8 (hJ _ (⟨p + 1, hlt⟩) (by first | omega | (dsimp only; omega) | (simp; omega))) rfl (by simp) ?_ (by first | rfl | (simp only [go_sem]; done)) (by first | rfl | (simp only [go_sem]; done) | (simp only [hsu, hz, nR, hm, s0, s1]; (try simp only [go_sem]); first | done | rfl)) ?_
        · (first | rfl | (simp only [go_sem]; done) | (simp only [go_sem]; simp only [hsu, hz, nR, hm, s0, s1]; done) | (simp only [hsu, hz, nR, hm, s0, s1]; done) | (simp only [go_sem]; simp [hsu, hz, nR, hm, s0, s1]; done) | (simp [hsu, hz, nR, hm, s0, s1]; done))
        · (simp only [go_sem]; (repeat' (refine And.intro ?_ ?_)) <;> first | exact trivial | with_reducible rfl | (simp only [hsu, hz, nR, hm, s0, s1]; done) | (simp only [hsu, hz, nR, hm, s0, s1]; with_reducible rfl) | (simp [hsu, hz, nR, hm, s0, s1]; done) | (simp [hsu, hz, nR, hm, s0, s1]; omega) | (simp only [hsu, hz, nR, hm, s0, s1]; rfl) | skip)
    · have hz : nst l (⟨rg, th⟩, k) = nrg l ⟨rg, th⟩ k := by unfold nst; rw [if_neg c1]
      rw [hz] at hsu
      clear hz
      refine zst ?_
      have g0 := dnx_ge (l := l) (k := k) (n := 2) (by omega)
      have g1 := dnx_lt (l := l) (k := k) (n := 2) (by omega)
      by_cases w0 : dnx l k 2 = 0
      · have wl : dnx l k (rg.length : Int) = 0 := by rw [q3]; exact w0
        have hp : 1 ≤ (rg[0]!).length := (fine_pos q1 (j := 0) (by dsimp only; omega)).1
        have hp2 : (rg[0]!).length ≤ 32 := (fine_pos q1 (j := 0) (by dsimp only; omega)).2
        have b0 := dnx_ge (l := l) (k := dkx l k) (n := ((rg[0]!).length : Int)) (by omega)
        have b1 := dnx_lt (l := l) (k := dkx l k) (n := ((rg[0]!).length : Int)) (by omega)
        obtain ⟨a, ha⟩ := Int.eq_ofNat_of_zero_le b0
        rw [ha] at b1
        have hz : nrg l ⟨rg, th⟩ k = (nR ⟨rg, th⟩ 0 a (sc1 l (dkx l (dkx l k))).1, (sc1 l (dkx l (dkx l k))).2) := nrg_at wl ha
        refine Rdn.Dp.zcn (next_fn l k 2 q2 (by omega)) ?_
        rw [w0]
        refine zst ?_
        refine Rdn.Dp.zcn (next_fn l (dkx l k) (rg[0]!).length (dkx_le q2) (by omega)) ?_
        rw [ha]
        refine zst ?_
        refine zcm (scell_fn l (dkx l (dkx l k)) (dkx_le (dkx_le q2))) ?_
        have hm : ((rg[0]!).map canonV).set a (canonV (sc1 l (dkx l (dkx l k))).1) = ((rg[0]!).set a (sc1 l (dkx l (dkx l k))).1).map canonV := List.map_set.symm
        have s0 : (rg.set 0 ((rg[0]!).set a (sc1 l (dkx l (dkx l k))).1))[0]! = (rg[0]!).set a (sc1 l (dkx l (dkx l k))).1 := sget_eq (by omega)
        have s1 : (rg.set 0 ((rg[0]!).set a (sc1 l (dkx l (dkx l k))).1))[1]! = rg[1]! := sget_ne (by decide)
        refine ev_next 8 (hJ _ (⟨p + 1, hlt⟩) (by first | omega | (dsimp only; omega) | (simp; omega))) rfl (by simp) ?_ (by first | rfl | (simp only [go_sem]; done)) (by first | rfl | (simp only [go_sem]; done) | (simp only [hsu, hz, nR, hm, s0, s1]; (try simp only [go_sem]); first | done | rfl)) ?_
        · (first | rfl | (simp only [go_sem]; done) | (simp only [go_sem]; simp only [hsu, hz, nR, hm, s0, s1]; done) | (simp only [hsu, hz, nR, hm, s0, s1]; done) | (simp only [go_sem]; simp [hsu, hz, nR, hm, s0, s1]; done) | (simp [hsu, hz, nR, hm, s0, s1]; done))
        · (simp only [go_sem]; (repeat' (refine And.intro ?_ ?_)) <;> first | exact trivial | with_reducible rfl | (simp only [hsu, hz, nR, hm, s0, s1]; done) | (simp only [hsu, hz, nR, hm, s0, s1]; with_reducible rfl) | (simp [hsu, hz, nR, hm, s0, s1]; done) | (simp [hsu, hz, nR, hm, s0, s1]; omega) | (simp only [hsu, hz, nR, hm, s0, s1]; rfl) | skip)
      have w1 : dnx l k 2 = 1 := by omega
      have wl : dnx l k (rg.length : Int) = 1 := by rw [q3]; exact w1
      have hp : 1 ≤ (rg[1]!).length := (fine_pos q1 (j := 1) (by dsimp only; omega)).1
      have hp2 : (rg[1]!).length ≤ 32 := (fine_pos q1 (j := 1) (by dsimp only; omega)).2
      have b0 := dnx_ge (l := l) (k := dkx l k) (n := ((rg[1]!).length : Int)) (by omega)
      have b1 := dnx_lt (l := l) (k := dkx l k) (n := ((rg[1]!).length : Int)) (by omega)
      obtain ⟨a, ha⟩ := Int.eq_ofNat_of_zero_le b0
      rw [ha] at b1
      have hz : nrg l ⟨rg, th⟩ k = (nR ⟨rg, th⟩ 1 a (sc1 l (dkx l (dkx l k))).1, (sc1 l (dkx l (dkx l k))).2) := nrg_at wl ha
      refine Rdn.Dp.zcn (next_fn l k 2 q2 (by omega)) ?_
      rw [w1]
      refine zst ?_
      refine Rdn.Dp.zcn (next_fn l (dkx l k) (rg[1]!).length (dkx_le q2) (by omega)) ?_
      rw [ha]
      refine zst ?_
      refine zcm (scell_fn l (dkx l (dkx l k)) (dkx_le (dkx_le q2))) ?_
      have hm : ((rg[1]!).map canonV).set a (canonV (sc1 l (dkx l (dkx l k))).1) = ((rg[1]!).set a (sc1 l (dkx l (dkx l k))).1).map canonV := List.map_set.symm
      have s0 : (rg.set 1 ((rg[1]!).set a (sc1 l (dkx l (dkx l k))).1))[0]! = rg[0]! := sget_ne (by decide)
      have s1 : (rg.set 1 ((rg[1]!).set a (sc1 l (dkx l (dkx l k))).1))[1]! = (rg[1]!).set a (sc1 l (dkx l (dkx l k))).1 := sget_eq (by omega)
      refine ev_next 8 (hJ _ (⟨p + 1, hlt⟩) (by first | omega | (dsimp only; omega) | (simp; omega))) rfl (by simp) ?_ (by first | rfl | (simp only [go_sem]; done)) (by first | rfl | (simp only [go_sem]; done) | (simp only [hsu, hz, nR, hm, s0, s1]; (try simp only [go_sem]); first | done | rfl)) ?_
      · (first | rfl | (simp only [go_sem]; done) | (simp only [go_sem]; simp only [hsu, hz, nR, hm, s0, s1]; done) | (simp only [hsu, hz, nR, hm, s0, s1]; done) | (simp only [go_sem]; simp [hsu, hz, nR, hm, s0, s1]; done) | (simp [hsu, hz, nR, hm, s0, s1]; done))
      · (simp only [go_sem]; (repeat' (refine And.intro ?_ ?_)) <;> first | exact trivial | with_reducible rfl | (simp only [hsu, hz, nR, hm, s0, s1]; done) | (simp only [hsu, hz, nR, hm, s0, s1]; with_reducible rfl) | (simp [hsu, hz, nR, hm, s0, s1]; done) | (simp [hsu, hz, nR, hm, s0, s1]; omega) | (simp only [hsu, hz, nR, hm, s0, s1]; rfl) | skip)
  · obtain rfl : p = n := by omega
    dsimp only
    rw [hR] at q3
    refine ev_frzIn 3 0 5 rfl rfl rfl ?_
    refine ev_frzIn 3 1 6 rfl rfl rfl ?_
    simp only [go_sem]
    refine ev_toRow 3 rfl rfl ?_
    refine zst ?_
    have hq := rows2 (nrs l (s, kk) p).1.regions q3
    exact zrn hb0 m_near_ok hq
set_option maxHeartbeats 16000000 in
theorem near3_fn (l : List Int) (s : State) (kk n : Nat) (hF : Fine s) (hR : s.regions.length = 3) (hk : kk ≤ l.length) (hn : n ≤ 100) : FncM Try.prog 18 91 (deckV l kk) [staV s, .int .i64 n] (fun x obs c => x = staV (nrs l (s, kk) n).1 ∧ obs = [] ∧ c = deckV l (nrs l (s, kk) n).2) := by
  refine FncM.low ?_
  have L : LowS s := fine_low hF
  have ht := fine_thr hF
  have z0 : nrs l (s, kk) 0 = (s, kk) := by unfold nrs; rfl
  refine zgM m_near_ok fun W S b0 hb0 => ?_
  refine zcx (zcopy3_fn s L hR ht) ?_
  refine ev_loopK [0, 2, 6, 7] (fun p : {p : Nat // p ≤ n} => [(8, .int .i64 p.1)]) (fun p => [⟨.box true 91, true, 0, deckV l (nrs l (s, kk) p.1).2⟩, ⟨.box false 30, true, 0, staV s⟩, ⟨.box false 30, true, 0, .agg [.nilS, .nilS]⟩, ⟨.rows false 40, true, 0, .arr 1 [.own 5 0, .own 6 0, .own 7 0]⟩, ⟨.row 43, true, 0, .arr 8 ((nrs l (s, kk) p.1).1.threads.map (viewV true))⟩, ⟨.row 84, true, 0, .arr 4 ((nrs l (s, kk) p.1).1.regions[0]!.map canonV)⟩, ⟨.row 84, true, 0, .arr 4 ((nrs l (s, kk) p.1).1.regions[1]!.map canonV)⟩, ⟨.row 84, true, 0, .arr 4 ((nrs l (s, kk) p.1).1.regions[2]!.map canonV)⟩, ⟨.box false 30, true, 0, .agg [.own 3 0, .own 4 0]⟩]) (fun p => n - p.1) (⟨0, by simp⟩) 9 (by simp only [go_sem]; rfl) ?_ (by first | rfl | (simp only [go_sem]; done) | (simp only [go_sem]; simp [z0]; done)) (by simp) (by first | rfl | (simp only [go_sem]; done)) (by first | rfl | (simp only [go_sem]; done)) (by first | rfl | (simp only [go_sem]; done) | (simp only [z0]; (try simp only [go_sem]); first | done | rfl)) ?_
  · (simp only [go_sem]; (try simp [z0]); done)
  intro J hJ
  rintro ⟨p, hp0⟩
  obtain ⟨q1, q2, q3, q4⟩ := nrs_fine (l := l) (x := (s, kk)) hF hk p
  have hsu : nrs l (s, kk) (p + 1) = nst l (nrs l (s, kk) p) := by conv => lhs; unfold nrs
  by_cases hlt : p < n
  · generalize nrs l (s, kk) p = x at q1 q2 q3 q4 hsu ⊢
    obtain ⟨⟨rg, th⟩, k⟩ := x
    dsimp only at q1 q2 q3 q4 hsu ⊢
    rw [hR] at q3
    by_cases c1 : 0 < th.length
    · refine zst ?_
      refine zcm (next_fn l k 3 q2 (by omega)) ?_
      by_cases c2 : dnx l k 3 = 2
      · have hz : nst l (⟨rg, th⟩, k) = (nT ⟨rg, th⟩ (dnx l (dkx l k) th.length).toNat (sv1 l (dkx l (dkx l k))).1, (sv1 l (dkx l (dkx l k))).2) := by unfold nst; rw [if_pos c1, if_pos c2]
        have g0 := dnx_ge (l := l) (k := dkx l k) (n := (th.length : Int)) (by omega)
        have g1 := dnx_lt (l := l) (k := dkx l k) (n := (th.length : Int)) (by omega)
        obtain ⟨a, ha⟩ := Int.eq_ofNat_of_zero_le g0
        rw [ha] at hz g1
        refine zst ?_
        refine Rdn.Dp.zcn (next_fn l (dkx l k) th.length (dkx_le q2) (by omega)) ?_
        rw [ha]
        refine zst ?_
        refine zcm (sview_fn l (dkx l (dkx l k)) (dkx_le (dkx_le q2))) ?_
        simp only [Int.toNat_natCast] at hz
        have hm : (th.map (viewV true)).set a (viewV true (sv1 l (dkx l (dkx l k))).1) = (th.set a (sv1 l (dkx l (dkx l k))).1).map (viewV true) := List.map_set.symm
        refine ev_next 9 (hJ _ (⟨p + 1, hlt⟩) (by first | omega | (dsimp only; omega) | (simp; omega))) rfl (by simp) ?_ (by first | rfl | (simp only [go_sem]; done)) (by first | rfl | (simp only [go_sem]; done) | (simp only [hsu, hz, nT, hm]; (try simp only [go_sem]); first | done | rfl)) ?_
        · (first | rfl | (simp only [go_sem]; done) | (simp only [go_sem]; simp only [hsu, hz, nT, hm]; done) | (simp only [hsu, hz, nT, hm]; done) | (simp only [go_sem]; simp [hsu, hz, nT, hm]; done) | (simp [hsu, hz, nT, hm]; done))
        · (simp only [go_sem]; (repeat' (refine And.intro ?_ ?_)) <;> first | exact trivial | with_reducible rfl | (simp only [hsu, hz, nT, hm]; done) | (simp only [hsu, hz, nT, hm]; with_reducible rfl) | (simp [hsu, hz, nT, hm]; done) | (simp [hsu, hz, nT, hm]; omega) | (simp only [hsu, hz, nT, hm]; rfl) | skip)
      · have hz : nst l (⟨rg, th⟩, k) = nrg l ⟨rg, th⟩ (dkx l k) := by unfold nst; rw [if_pos c1, if_neg c2]
        have hk1 := dkx_le q2
        rw [hz] at hsu
        clear hz
        generalize dkx l k = K at hsu hk1 ⊢
        refine zst ?_
        have g0 := dnx_ge (l := l) (k := K) (n := 3) (by omega)
        have g1 := dnx_lt (l := l) (k := K) (n := 3) (by omega)
        by_cases w0 : dnx l K 3 = 0
        · have wl : dnx l K (rg.length : Int) = 0 := by rw [q3]; exact w0
          have hp : 1 ≤ (rg[0]!).length := (fine_pos q1 (j := 0) (by dsimp only; omega)).1
          have hp2 : (rg[0]!).length ≤ 32 := (fine_pos q1 (j := 0) (by dsimp only; omega)).2
          have b0 := dnx_ge (l := l) (k := dkx l K) (n := ((rg[0]!).length : Int)) (by omega)
          have b1 := dnx_lt (l := l) (k := dkx l K) (n := ((rg[0]!).length : Int)) (by omega)
          obtain ⟨a, ha⟩ := Int.eq_ofNat_of_zero_le b0
          rw [ha] at b1
          have hz : nrg l ⟨rg, th⟩ K = (nR ⟨rg, th⟩ 0 a (sc1 l (dkx l (dkx l K))).1, (sc1 l (dkx l (dkx l K))).2) := nrg_at wl ha
          refine Rdn.Dp.zcn (next_fn l K 3 hk1 (by omega)) ?_
          rw [w0]
          refine zst ?_
          refine Rdn.Dp.zcn (next_fn l (dkx l K) (rg[0]!).length (dkx_le hk1) (by omega)) ?_
          rw [ha]
          refine zst ?_
          refine zcm (scell_fn l (dkx l (dkx l K)) (dkx_le (dkx_le hk1))) ?_
          have hm : ((rg[0]!).map canonV).set a (canonV (sc1 l (dkx l (dkx l K))).1) = ((rg[0]!).set a (sc1 l (dkx l (dkx l K))).1).map canonV := List.map_set.symm
          have s0 : (rg.set 0 ((rg[0]!).set a (sc1 l (dkx l (dkx l K))).1))[0]! = (rg[0]!).set a (sc1 l (dkx l (dkx l K))).1 := sget_eq (by omega)
          have s1 : (rg.set 0 ((rg[0]!).set a (sc1 l (dkx l (dkx l K))).1))[1]! = rg[1]! := sget_ne (by decide)
          have s2 : (rg.set 0 ((rg[0]!).set a (sc1 l (dkx l (dkx l K))).1))[2]! = rg[2]! := sget_ne (by decide)
          refine ev_next 9 (hJ _ (⟨p + 1, hlt⟩) (by first | omega | (dsimp only; omega) | (simp; omega))) rfl (by simp) ?_ (by first | rfl | (simp only [go_sem]; done)) (by first | rfl | (simp only [go_sem]; done) | (simp only [hsu, hz, nR, hm, s0, s1, s2]; (try simp only [go_sem]); first | done | rfl)) ?_
          · (first | rfl | (simp only [go_sem]; done) | (simp only [go_sem]; simp only [hsu, hz, nR, hm, s0, s1, s2]; done) | (simp only [hsu, hz, nR, hm, s0, s1, s2]; done) | (simp only [go_sem]; simp [hsu, hz, nR, hm, s0, s1, s2]; done) | (simp [hsu, hz, nR, hm, s0, s1, s2]; done))
          · (simp only [go_sem]; (repeat' (refine And.intro ?_ ?_)) <;> first | exact trivial | with_reducible rfl | (simp only [hsu, hz, nR, hm, s0, s1, s2]; done) | (simp only [hsu, hz, nR, hm, s0, s1, s2]; with_reducible rfl) | (simp [hsu, hz, nR, hm, s0, s1, s2]; done) | (simp [hsu, hz, nR, hm, s0, s1, s2]; omega) | (simp only [hsu, hz, nR, hm, s0, s1, s2]; rfl) | skip)
        by_cases w1 : dnx l K 3 = 1
        · have wl : dnx l K (rg.length : Int) = 1 := by rw [q3]; exact w1
          have hp : 1 ≤ (rg[1]!).length := (fine_pos q1 (j := 1) (by dsimp only; omega)).1
          have hp2 : (rg[1]!).length ≤ 32 := (fine_pos q1 (j := 1) (by dsimp only; omega)).2
          have b0 := dnx_ge (l := l) (k := dkx l K) (n := ((rg[1]!).length : Int)) (by omega)
          have b1 := dnx_lt (l := l) (k := dkx l K) (n := ((rg[1]!).length : Int)) (by omega)
          obtain ⟨a, ha⟩ := Int.eq_ofNat_of_zero_le b0
          rw [ha] at b1
          have hz : nrg l ⟨rg, th⟩ K = (nR ⟨rg, th⟩ 1 a (sc1 l (dkx l (dkx l K))).1, (sc1 l (dkx l (dkx l K))).2) := nrg_at wl ha
          refine Rdn.Dp.zcn (next_fn l K 3 hk1 (by omega)) ?_
          rw [w1]
          refine zst ?_
          refine Rdn.Dp.zcn (next_fn l (dkx l K) (rg[1]!).length (dkx_le hk1) (by omega)) ?_
          rw [ha]
          refine zst ?_
          refine zcm (scell_fn l (dkx l (dkx l K)) (dkx_le (dkx_le hk1))) ?_
          have hm : ((rg[1]!).map canonV).set a (canonV (sc1 l (dkx l (dkx l K))).1) = ((rg[1]!).set a (sc1 l (dkx l (dkx l K))).1).map canonV := List.map_set.symm
          have s0 : (rg.set 1 ((rg[1]!).set a (sc1 l (dkx l (dkx l K))).1))[0]! = rg[0]! := sget_ne (by decide)
          have s1 : (rg.set 1 ((rg[1]!).set a (sc1 l (dkx l (dkx l K))).1))[1]! = (rg[1]!).set a (sc1 l (dkx l (dkx l K))).1 := sget_eq (by omega)
          have s2 : (rg.set 1 ((rg[1]!).set a (sc1 l (dkx l (dkx l K))).1))[2]! = rg[2]! := sget_ne (by decide)
          refine ev_next 9 (hJ _ (⟨p + 1, hlt⟩) (by first | omega | (dsimp only; omega) | (simp; omega))) rfl (by simp) ?_ (by first | rfl | (simp only [go_sem]; done)) (by first | rfl | (simp only [go_sem]; done) | (simp only [hsu, hz, nR, hm, s0, s1, s2]; (try simp only [go_sem]); first | done | rfl)) ?_
          · (first | rfl | (simp only [go_sem]; done) | (simp only [go_sem]; simp only [hsu, hz, nR, hm, s0, s1, s2]; done) | (simp only [hsu, hz, nR, hm, s0, s1, s2]; done) | (simp only [go_sem]; simp [hsu, hz, nR, hm, s0, s1, s2]; done) | (simp [hsu, hz, nR, hm, s0, s1, s2]; done))
          · (simp only [go_sem]; (repeat' (refine And.intro ?_ ?_)) <;> first | exact trivial | with_reducible rfl | (simp only [hsu, hz, nR, hm, s0, s1, s2]; done) | (simp only [hsu, hz, nR, hm, s0, s1, s2]; with_reducible rfl) | (simp [hsu, hz, nR, hm, s0, s1, s2]; done) | (simp [hsu, hz, nR, hm, s0, s1, s2]; omega) | (simp only [hsu, hz, nR, hm, s0, s1, s2]; rfl) | skip)
        have w2 : dnx l K 3 = 2 := by omega
        have wl : dnx l K (rg.length : Int) = 2 := by rw [q3]; exact w2
        have hp : 1 ≤ (rg[2]!).length := (fine_pos q1 (j := 2) (by dsimp only; omega)).1
        have hp2 : (rg[2]!).length ≤ 32 := (fine_pos q1 (j := 2) (by dsimp only; omega)).2
        have b0 := dnx_ge (l := l) (k := dkx l K) (n := ((rg[2]!).length : Int)) (by omega)
        have b1 := dnx_lt (l := l) (k := dkx l K) (n := ((rg[2]!).length : Int)) (by omega)
        obtain ⟨a, ha⟩ := Int.eq_ofNat_of_zero_le b0
        rw [ha] at b1
        have hz : nrg l ⟨rg, th⟩ K = (nR ⟨rg, th⟩ 2 a (sc1 l (dkx l (dkx l K))).1, (sc1 l (dkx l (dkx l K))).2) := nrg_at wl ha
        refine Rdn.Dp.zcn (next_fn l K 3 hk1 (by omega)) ?_
        rw [w2]
        refine zst ?_
        refine Rdn.Dp.zcn (next_fn l (dkx l K) (rg[2]!).length (dkx_le hk1) (by omega)) ?_
        rw [ha]
        refine zst ?_
        refine zcm (scell_fn l (dkx l (dkx l K)) (dkx_le (dkx_le hk1))) ?_
        have hm : ((rg[2]!).map canonV).set a (canonV (sc1 l (dkx l (dkx l K))).1) = ((rg[2]!).set a (sc1 l (dkx l (dkx l K))).1).map canonV := List.map_set.symm
        have s0 : (rg.set 2 ((rg[2]!).set a (sc1 l (dkx l (dkx l K))).1))[0]! = rg[0]! := sget_ne (by decide)
        have s1 : (rg.set 2 ((rg[2]!).set a (sc1 l (dkx l (dkx l K))).1))[1]! = rg[1]! := sget_ne (by decide)
        have s2 : (rg.set 2 ((rg[2]!).set a (sc1 l (dkx l (dkx l K))).1))[2]! = (rg[2]!).set a (sc1 l (dkx l (dkx l K))).1 := sget_eq (by omega)
        refine ev_next 9 (hJ _ (⟨p + 1, hlt⟩) (by first | omega | (dsimp only; omega) | (simp; omega))) rfl (by simp) ?_ (by first | rfl | (simp only [go_sem]; done)) (by first | rfl | (simp only [go_sem]; done) | (simp only [hsu, hz, nR, hm, s0, s1, s2]; (try simp only [go_sem]); first | done | rfl)) ?_
        · (first | rfl | (simp only [go_sem]; done) | (simp only [go_sem]; simp only [hsu, hz, nR, hm, s0, s1, s2]; done) | (simp only [hsu, hz, nR, hm, s0, s1, s2]; done) | (simp only [go_sem]; simp [hsu, hz, nR, hm, s0, s1, s2]; done) | (simp [hsu, hz, nR, hm, s0, s1, s2]; done))
        · (simp only [go_sem]; (repeat' (refine And.intro ?_ ?_)) <;> first | exact trivial | with_reducible rfl | (simp only [hsu, hz, nR, hm, s0, s1, s2]; done) | (simp only [hsu, hz, nR, hm, s0, s1, s2]; with_reducible rfl) | (simp [hsu, hz, nR, hm, s0, s1, s2]; done) | (simp [hsu, hz, nR, hm, s0, s1, s2]; omega) | (simp only [hsu, hz, nR, hm, s0, s1, s2]; rfl) | skip)
    · have hz : nst l (⟨rg, th⟩, k) = nrg l ⟨rg, th⟩ k := by unfold nst; rw [if_neg c1]
      rw [hz] at hsu
      clear hz
      refine zst ?_
      have g0 := dnx_ge (l := l) (k := k) (n := 3) (by omega)
      have g1 := dnx_lt (l := l) (k := k) (n := 3) (by omega)
      by_cases w0 : dnx l k 3 = 0
      · have wl : dnx l k (rg.length : Int) = 0 := by rw [q3]; exact w0
        have hp : 1 ≤ (rg[0]!).length := (fine_pos q1 (j := 0) (by dsimp only; omega)).1
        have hp2 : (rg[0]!).length ≤ 32 := (fine_pos q1 (j := 0) (by dsimp only; omega)).2
        have b0 := dnx_ge (l := l) (k := dkx l k) (n := ((rg[0]!).length : Int)) (by omega)
        have b1 := dnx_lt (l := l) (k := dkx l k) (n := ((rg[0]!).length : Int)) (by omega)
        obtain ⟨a, ha⟩ := Int.eq_ofNat_of_zero_le b0
        rw [ha] at b1
        have hz : nrg l ⟨rg, th⟩ k = (nR ⟨rg, th⟩ 0 a (sc1 l (dkx l (dkx l k))).1, (sc1 l (dkx l (dkx l k))).2) := nrg_at wl ha
        refine Rdn.Dp.zcn (next_fn l k 3 q2 (by omega)) ?_
        rw [w0]
        refine zst ?_
        refine Rdn.Dp.zcn (next_fn l (dkx l k) (rg[0]!).length (dkx_le q2) (by omega)) ?_
        rw [ha]
        refine zst ?_
        refine zcm (scell_fn l (dkx l (dkx l k)) (dkx_le (dkx_le q2))) ?_
        have hm : ((rg[0]!).map canonV).set a (canonV (sc1 l (dkx l (dkx l k))).1) = ((rg[0]!).set a (sc1 l (dkx l (dkx l k))).1).map canonV := List.map_set.symm
        have s0 : (rg.set 0 ((rg[0]!).set a (sc1 l (dkx l (dkx l k))).1))[0]! = (rg[0]!).set a (sc1 l (dkx l (dkx l k))).1 := sget_eq (by omega)
        have s1 : (rg.set 0 ((rg[0]!).set a (sc1 l (dkx l (dkx l k))).1))[1]! = rg[1]! := sget_ne (by decide)
        have s2 : (rg.set 0 ((rg[0]!).set a (sc1 l (dkx l (dkx l k))).1))[2]! = rg[2]! := sget_ne (by decide)
        refine ev_next 9 (hJ _ (⟨p + 1, hlt⟩) (by first | omega | (dsimp only; omega) | (simp; omega))) rfl (by simp) ?_ (by first | rfl | (simp only [go_sem]; done)) (by first | rfl | (simp only [go_sem]; done) | (simp only [hsu, hz, nR, hm, s0, s1, s2]; (try simp only [go_sem]); first | done | rfl)) ?_
        · (first | rfl | (simp only [go_sem]; done) | (simp only [go_sem]; simp only [hsu, hz, nR, hm, s0, s1, s2]; done) | (simp only [hsu, hz, nR, hm, s0, s1, s2]; done) | (simp only [go_sem]; simp [hsu, hz, nR, hm, s0, s1, s2]; done) | (simp [hsu, hz, nR, hm, s0, s1, s2]; done))
        · (simp only [go_sem]; (repeat' (refine And.intro ?_ ?_)) <;> first | exact trivial | with_reducible rfl | (simp only [hsu, hz, nR, hm, s0, s1, s2]; done) | (simp only [hsu, hz, nR, hm, s0, s1, s2]; with_reducible rfl) | (simp [hsu, hz, nR, hm, s0, s1, s2]; done) | (simp [hsu, hz, nR, hm, s0, s1, s2]; omega) | (simp only [hsu, hz, nR, hm, s0, s1, s2]; rfl) | skip)
      by_cases w1 : dnx l k 3 = 1
      · have wl : dnx l k (rg.length : Int) = 1 := by rw [q3]; exact w1
        have hp : 1 ≤ (rg[1]!).length := (fine_pos q1 (j := 1) (by dsimp only; omega)).1
        have hp2 : (rg[1]!).length ≤ 32 := (fine_pos q1 (j := 1) (by dsimp only; omega)).2
        have b0 := dnx_ge (l := l) (k := dkx l k) (n := ((rg[1]!).length : Int)) (by omega)
        have b1 := dnx_lt (l := l) (k := dkx l k) (n := ((rg[1]!).length : Int)) (by omega)
        obtain ⟨a, ha⟩ := Int.eq_ofNat_of_zero_le b0
        rw [ha] at b1
        have hz : nrg l ⟨rg, th⟩ k = (nR ⟨rg, th⟩ 1 a (sc1 l (dkx l (dkx l k))).1, (sc1 l (dkx l (dkx l k))).2) := nrg_at wl ha
        refine Rdn.Dp.zcn (next_fn l k 3 q2 (by omega)) ?_
        rw [w1]
        refine zst ?_
        refine Rdn.Dp.zcn (next_fn l (dkx l k) (rg[1]!).length (dkx_le q2) (by omega)) ?_
        rw [ha]
        refine zst ?_
        refine zcm (scell_fn l (dkx l (dkx l k)) (dkx_le (dkx_le q2))) ?_
        have hm : ((rg[1]!).map canonV).set a (canonV (sc1 l (dkx l (dkx l k))).1) = ((rg[1]!).set a (sc1 l (dkx l (dkx l k))).1).map canonV := List.map_set.symm
        have s0 : (rg.set 1 ((rg[1]!).set a (sc1 l (dkx l (dkx l k))).1))[0]! = rg[0]! := sget_ne (by decide)
        have s1 : (rg.set 1 ((rg[1]!).set a (sc1 l (dkx l (dkx l k))).1))[1]! = (rg[1]!).set a (sc1 l (dkx l (dkx l k))).1 := sget_eq (by omega)
        have s2 : (rg.set 1 ((rg[1]!).set a (sc1 l (dkx l (dkx l k))).1))[2]! = rg[2]! := sget_ne (by decide)
        refine ev_next 9 (hJ _ (⟨p + 1, hlt⟩) (by first | omega | (dsimp only; omega) | (simp; omega))) rfl (by simp) ?_ (by first | rfl | (simp only [go_sem]; done)) (by first | rfl | (simp only [go_sem]; done) | (simp only [hsu, hz, nR, hm, s0, s1, s2]; (try simp only [go_sem]); first | done | rfl)) ?_
        · (first | rfl | (simp only [go_sem]; done) | (simp only [go_sem]; simp only [hsu, hz, nR, hm, s0, s1, s2]; done) | (simp only [hsu, hz, nR, hm, s0, s1, s2]; done) | (simp only [go_sem]; simp [hsu, hz, nR, hm, s0, s1, s2]; done) | (simp [hsu, hz, nR, hm, s0, s1, s2]; done))
        · (simp only [go_sem]; (repeat' (refine And.intro ?_ ?_)) <;> first | exact trivial | with_reducible rfl | (simp only [hsu, hz, nR, hm, s0, s1, s2]; done) | (simp only [hsu, hz, nR, hm, s0, s1, s2]; with_reducible rfl) | (simp [hsu, hz, nR, hm, s0, s1, s2]; done) | (simp [hsu, hz, nR, hm, s0, s1, s2]; omega) | (simp only [hsu, hz, nR, hm, s0, s1, s2]; rfl) | skip)
      have w2 : dnx l k 3 = 2 := by omega
      have wl : dnx l k (rg.length : Int) = 2 := by rw [q3]; exact w2
      have hp : 1 ≤ (rg[2]!).length := (fine_pos q1 (j := 2) (by dsimp only; omega)).1
      have hp2 : (rg[2]!).length ≤ 32 := (fine_pos q1 (j := 2) (by dsimp only; omega)).2
      have b0 := dnx_ge (l := l) (k := dkx l k) (n := ((rg[2]!).length : Int)) (by omega)
      have b1 := dnx_lt (l := l) (k := dkx l k) (n := ((rg[2]!).length : Int)) (by omega)
      obtain ⟨a, ha⟩ := Int.eq_ofNat_of_zero_le b0
      rw [ha] at b1
      have hz : nrg l ⟨rg, th⟩ k = (nR ⟨rg, th⟩ 2 a (sc1 l (dkx l (dkx l k))).1, (sc1 l (dkx l (dkx l k))).2) := nrg_at wl ha
      refine Rdn.Dp.zcn (next_fn l k 3 q2 (by omega)) ?_
      rw [w2]
      refine zst ?_
      refine Rdn.Dp.zcn (next_fn l (dkx l k) (rg[2]!).length (dkx_le q2) (by omega)) ?_
      rw [ha]
      refine zst ?_
      refine zcm (scell_fn l (dkx l (dkx l k)) (dkx_le (dkx_le q2))) ?_
      have hm : ((rg[2]!).map canonV).set a (canonV (sc1 l (dkx l (dkx l k))).1) = ((rg[2]!).set a (sc1 l (dkx l (dkx l k))).1).map canonV := List.map_set.symm
      have s0 : (rg.set 2 ((rg[2]!).set a (sc1 l (dkx l (dkx l k))).1))[0]! = rg[0]! := sget_ne (by decide)
      have s1 : (rg.set 2 ((rg[2]!).set a (sc1 l (dkx l (dkx l k))).1))[1]! = rg[1]! := sget_ne (by decide)
      have s2 : (rg.set 2 ((rg[2]!).set a (sc1 l (dkx l (dkx l k))).1))[2]! = (rg[2]!).set a (sc1 l (dkx l (dkx l k))).1 := sget_eq (by omega)
      refine ev_next 9 (hJ _ (⟨p + 1, hlt⟩) (by first | omega | (dsimp only; omega) | (simp; omega))) rfl (by simp) ?_ (by first | rfl | (simp only [go_sem]; done)) (by first | rfl | (simp only [go_sem]; done) | (simp only [hsu, hz, nR, hm, s0, s1, s2]; (try simp only [go_sem]); first | done | rfl)) ?_
      · (first | rfl | (simp only [go_sem]; done) | (simp only [go_sem]; simp only [hsu, hz, nR, hm, s0, s1, s2]; done) | (simp only [hsu, hz, nR, hm, s0, s1, s2]; done) | (simp only [go_sem]; simp [hsu, hz, nR, hm, s0, s1, s2]; done) | (simp [hsu, hz, nR, hm, s0, s1, s2]; done))
      · (simp only [go_sem]; (repeat' (refine And.intro ?_ ?_)) <;> first | exact trivial | with_reducible rfl | (simp only [hsu, hz, nR, hm, s0, s1, s2]; done) | (simp only [hsu, hz, nR, hm, s0, s1, s2]; with_reducible rfl) | (simp [hsu, hz, nR, hm, s0, s1, s2]; done) | (simp [hsu, hz, nR, hm, s0, s1, s2]; omega) | (simp only [hsu, hz, nR, hm, s0, s1, s2]; rfl) | skip)
  · obtain rfl : p = n := by omega
    dsimp only
    rw [hR] at q3
    refine ev_frzIn 3 0 5 rfl rfl rfl ?_
    refine ev_frzIn 3 1 6 rfl rfl rfl ?_
    refine ev_frzIn 3 2 7 rfl rfl rfl ?_
    simp only [go_sem]
    refine ev_toRow 3 rfl rfl ?_
    refine zst ?_
    have hq := rows3 (nrs l (s, kk) p).1.regions q3
    exact zrn hb0 m_near_ok hq
end Go.Proofs.Ytcphobeommkgeaa
