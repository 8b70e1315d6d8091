/- The law PagesBack. -/
import Derived.Test.YtcphobeommkgeaaP37
import Derived.Test.YtcphobeommkgeaaC5
import Derived.Test.YtcphobeommkgeaaP35
namespace Go.Proofs.Ytcphobeommkgeaa
open Go Go.RowKit Rdn Rdn.Dp
set_option linter.unusedVariables false
set_option linter.unusedSimpArgs false
theorem m_pback_ok : compF Try.prog 8 = some (139, Qr ([Qc 4 (.bool false)])
 (.seq (Qr ([Qm 18 0, Qq 19 13 [(.t 18)], Qp 20 (.un .not (.t 19))])
 (.cond (.t 20) (Qr ([Qq 21 14 [], Qm 4 21])
 (.ret)) (.skip)))
 (Qr ([Qm 22 0, Qq 23 15 [(.t 22)], Qm 5 23])
 (Qr ([Qm 24 5, Qq 25 16 [(.t 24)], Qw 6 (.alloc 30 (.agg [.nilS, .nilS])), Qs 2 6 25])
 (.seq (.dreg [Qm 26 5, QL 27 2 6, Qm 28 5, Qq 29 19 [(.t 28), (Qi 5)], Qp 30 (.bin 0 .add (Qi 1) (.t 29)), Qq 31 18 [(.t 26), (.t 27), (.t 30)], Qw 7 (.alloc 30 (.agg [.nilS, .nilS])), Qs 2 7 31] [[], [], [], [2], [2, 3], [0, 1, 2, 3, 4], [], [0, 1, 2, 3, 4, 5, 6]])
 (Qr ([QL 33 2 6, Qq 34 23 [(.t 33)], Qm 32 34, Qe 35 32 0, Qe 36 32 1, Qm 8 35, Qm 9 36])
 (Qr ([QL 38 2 6, Qq 39 34 [(.t 38)], Qm 40 8, Qq 41 33 [(.t 39), (.t 40)], Qm 37 41, Qe 42 37 0, Qe 43 37 1, Qw 10 (.alloc 30 (.agg [.nilS, .nilS])), Qs 2 10 42, Qm 11 43])
 (.seq (Qr ([Qm 44 9, Qk 45 .neq 44 0, Qm 46 45, Q0 47 46 (.mov (.t 11)), Q0 48 46 (.bin 0 .neq (.t 47) (Qi 0)), Qt 49 46 48, Qm 50 49, Q0 51 50 (.load true 2 (.t 10)), Q0 52 50 (.load true 2 (.t 6)), ⟨(some 53), (some (50, false)), (.call 35 [(.t 51), (.t 52)])⟩, Q0 54 50 (.un .not (.t 53)), Qt 55 50 54, Qm 56 55, Q0 57 56 (.mov (.t 8)), Q0 58 56 (.len (.t 57)), Q0 59 56 (.bin 0 .eql (.t 58) (Qi 0)), Qt 60 56 59])
 (.cond (.t 60) (Qr ([Qc 4 (.bool false)])
 (.ret)) (.skip)))
 (Qr ([Qm 61 1, Qm 62 8, Qn 63 62, Qq 64 20 [(.t 61), (.t 63)], Qm 12 64])
 (.seq (.dreg [QL 66 2 7, Qm 67 8, Qm 68 12, Qx 69 11 67 68, Qf 70 0 0 69, QL 71 2 70, Qq 72 24 [(.t 66), (.t 71)], Qm 65 72, Qe 73 65 0, Qe 74 65 1, Qw 13 (.alloc 45 (.agg [.agg [.int .i64 0, .int .i64 0], .nilS, .agg [.int .i64 0, .int .i64 0, .int .i64 0, .int .i64 0, .int .i64 0, .int .i64 0, .int .u16 0, .nilS]])), Qs 11 13 73, Qm 9 74] [[], [], [], [1, 2], [1, 2, 3], [1, 2, 3, 4], [0, 1, 2, 3, 4, 5], [0, 1, 2, 3, 4, 5, 6], [0, 1, 2, 3, 4, 5, 6, 7], [0, 1, 2, 3, 4, 5, 6, 7], [], [0, 1, 2, 3, 4, 5, 6, 7, 8, 10], [0, 1, 2, 3, 4, 5, 6, 7, 8, 9, 10, 11]])
 (Qr ([QL 76 2 6, QL 77 11 13, Qq 78 36 [(.t 76), (.t 77)], Qm 75 78, Qe 79 75 0, Qe 80 75 1, Qw 14 (.alloc 30 (.agg [.nilS, .nilS])), Qs 2 14 79, Qm 11 80])
 (Qr ([QL 82 2 14, Qq 83 23 [(.t 82)], Qm 81 83, Qe 84 81 0, Qe 85 81 1, Qm 15 84, Qm 16 85])
 (.seq (Qr ([Qm 86 9, Qk 87 .neq 86 0, Qm 88 87, Q0 89 88 (.mov (.t 11)), Q0 90 88 (.bin 0 .neq (.t 89) (Qi 0)), Qt 91 88 90, Qm 92 91, Q0 93 92 (.mov (.t 16)), Q0 94 92 (.bin 0 .neq (.t 93) (Qi 0)), Qt 95 92 94, Qm 96 95, Q0 97 96 (.mov (.t 15)), Q0 98 96 (.len (.t 97)), Q0 99 96 (.mov (.t 8)), Q0 100 96 (.len (.t 99)), Q0 101 96 (.bin 0 .neq (.t 98) (.t 100)), Qt 102 96 101])
 (.cond (.t 102) (Qr ([Qc 4 (.bool false)])
 (.ret)) (.skip)))
 (.seq (Qr ([Qp 17 (.mov (Qi 0))])
 (.block 0 (.loop (.seq (Qr ([Qm 103 17, Qm 104 8, Qn 105 104, Qb 106 .lss 103 105])
 (.cond (.t 106) (.skip) (.exit 0)))
 (.seq (.block 1 (.seq (.dreg [Qm 109 17, Qm 110 12, Qb 111 .eql 109 110, Qm 112 111, Q1 113 112 (.mov (.t 15)), Q1 114 112 (.mov (.t 17)), Q1 115 112 (.idxA 11 (.t 113) (.t 114)), Q1 116 112 (.load true 11 (.t 115)), Q1 117 112 (.load true 11 (.t 13)), ⟨(some 118), (some (112, true)), (.call 21 [(.t 116), (.t 117)])⟩, Q1 119 112 (.un .not (.t 118)), Qu 120 112 119, Qm 121 120, Q0 122 121 (.mov (.t 17)), Q0 123 121 (.mov (.t 12)), Q0 124 121 (.bin 0 .neq (.t 122) (.t 123)), Q0 125 121 (.mov (.t 124)), Q1 126 125 (.mov (.t 15)), Q1 127 125 (.mov (.t 17)), Q1 128 125 (.idxA 11 (.t 126) (.t 127)), Q1 129 125 (.load true 11 (.t 128)), Q1 130 125 (.mov (.t 8)), Q1 131 125 (.mov (.t 17)), Q1 132 125 (.idxA 11 (.t 130) (.t 131)), Q1 133 125 (.load true 11 (.t 132)), ⟨(some 134), (some (125, true)), (.call 21 [(.t 129), (.t 133)])⟩, Q1 135 125 (.un .not (.t 134)), Q0 136 121 (.pick (.t 125) (.t 135) (.c (.bool false))), Qt 137 121 136] [[], [], [0, 1], [0, 1, 2], [0, 1, 2, 3], [0, 1, 2, 3], [0, 1, 2, 3, 4, 5], [0, 1, 2, 3, 4, 5, 6], [0, 1, 2, 3], [0, 1, 2, 3, 4, 5, 6, 7, 8], [0, 1, 2, 3, 4, 5, 6, 7, 8, 9], [0, 1, 2, 3, 4, 5, 6, 7, 8, 9, 10], [0, 1, 2, 3, 4, 5, 6, 7, 8, 9, 10, 11], [0, 1, 2, 3, 4, 5, 6, 7, 8, 9, 10, 11, 12], [0, 1, 2, 3, 4, 5, 6, 7, 8, 9, 10, 11, 12], [0, 1, 2, 3, 4, 5, 6, 7, 8, 9, 10, 11, 12, 13, 14], [0, 1, 2, 3, 4, 5, 6, 7, 8, 9, 10, 11, 12, 13, 14, 15], [0, 1, 2, 3, 4, 5, 6, 7, 8, 9, 10, 11, 12, 13, 14, 15, 16], [0, 1, 2, 3, 4, 5, 6, 7, 8, 9, 10, 11, 12, 13, 14, 15, 16], [0, 1, 2, 3, 4, 5, 6, 7, 8, 9, 10, 11, 12, 13, 14, 15, 16, 17, 18], [0, 1, 2, 3, 4, 5, 6, 7, 8, 9, 10, 11, 12, 13, 14, 15, 16, 17, 18, 19], [0, 1, 2, 3, 4, 5, 6, 7, 8, 9, 10, 11, 12, 13, 14, 15, 16], [0, 1, 2, 3, 4, 5, 6, 7, 8, 9, 10, 11, 12, 13, 14, 15, 16], [0, 1, 2, 3, 4, 5, 6, 7, 8, 9, 10, 11, 12, 13, 14, 15, 16, 21, 22], [0, 1, 2, 3, 4, 5, 6, 7, 8, 9, 10, 11, 12, 13, 14, 15, 16, 21, 22, 23], [0, 1, 2, 3, 4, 5, 6, 7, 8, 9, 10, 11, 12, 13, 14, 15, 16, 17, 18, 19, 20, 21, 22, 23, 24], [0, 1, 2, 3, 4, 5, 6, 7, 8, 9, 10, 11, 12, 13, 14, 15, 16, 17, 18, 19, 20, 21, 22, 23, 24, 25], [0, 1, 2, 3, 4, 5, 6, 7, 8, 9, 10, 11, 12, 13, 14, 15, 16, 17, 18, 19, 20, 21, 22, 23, 24, 25, 26], [0, 1, 2, 3, 4, 5, 6, 7, 8, 9, 10, 11, 12, 13, 14, 15, 16, 17, 18, 19, 20, 21, 22, 23, 24, 25, 26, 27]])
 (.cond (.t 137) (Qr ([Qc 4 (.bool false)])
 (.ret)) (.skip))))
 (.reg [Qm 107 17, Qk 108 .add 107 1, Qm 17 108]))))))
 (Qr ([Qq 138 14 [], Qm 4 138])
 (.ret))))))))))))))), [.mov (.t 4)]) := by kernel_rfl
theorem nT_sm (s : State) (a : Nat) (v : View) : Sm (nT s a v) s := ⟨rfl, by simp [nT], fun _ _ => rfl⟩
theorem nR_sm (s : State) (w a : Nat) (c : Canon) : Sm (nR s w a c) s := by
  refine ⟨by simp [nR], rfl, fun k hk => ?_⟩
  unfold nR
  dsimp only
  by_cases e : w = k
  · subst e
    rw [setx_eq hk, List.length_set]
  · rw [setx_ne e]
theorem nrg_sm (l : List Int) (s : State) (k : Nat) : Sm (nrg l s k).1 s := by unfold nrg; exact nR_sm _ _ _ _
theorem nst_sm (l : List Int) (x : State × Nat) : Sm (nst l x).1 x.1 := by
  unfold nst
  split
  · split
    · exact nT_sm _ _ _
    · exact nrg_sm _ _ _
  · exact nrg_sm _ _ _
theorem nrs_sm (l : List Int) (x : State × Nat) : ∀ i, Sm (nrs l x i).1 x.1
  | 0 => Sm.refl _
  | i + 1 => (nst_sm l _).trans (nrs_sm l x i)
theorem getP_regs {s : State} (F : Fine s) {d : PageID} (h : There s d) : (getP s d).view.regs.length ≤ 8 := by
  unfold getP
  by_cases c : d.region = -1
  · rw [if_pos c]
    unfold There at h
    have := F.reg _ (mem_at (l := s.threads) (k := d.index.toNat) (by omega))
    exact Nat.le_of_eq this
  · rw [if_neg c]; exact Nat.zero_le _
/-- The pages behind a page that is set. -/
theorem pgs_put {s t : State} (F : Fine s) (h : Sm t s) {k : Nat} (hk : k < (pgs s).length) :
    ∃ d, (pgs s)[k]!.id = d ∧ There s d ∧ There t d ∧ okP s (getP t d) ∧ (pgs (putP s (getP t d))).length = (pgs s).length ∧ (pgs (putP s (getP t d)))[k]! = getP t d ∧ (∀ i, i < (pgs s).length → i ≠ k → (pgs (putP s (getP t d)))[i]! = (pgs s)[i]!) := by
  have hkl : k < (idsF (szs s) s.threads.length).length := by unfold pgs at hk; rwa [List.length_map] at hk
  refine ⟨(idsF (szs s) s.threads.length)[k]!, by rw [pgs_at hk, getP_id], ?_⟩
  have hT : There s (idsF (szs s) s.threads.length)[k]! := mem_idsF (mem_at hkl) F.shp
  have hTt := h.there hT
  have hok := ok_get (s := t) (x := s) hTt h.symm
  have hTp : There s (getP t (idsF (szs s) s.threads.length)[k]!).id := by rw [getP_id]; exact hT
  have hS := put_sm hTp hok
  have hids : idsF (szs (putP s (getP t (idsF (szs s) s.threads.length)[k]!))) (putP s (getP t (idsF (szs s) s.threads.length)[k]!)).threads.length = idsF (szs s) s.threads.length := by rw [hS.szs, hS.t]
  have hlen : (pgs (putP s (getP t (idsF (szs s) s.threads.length)[k]!))).length = (pgs s).length := by unfold pgs; rw [List.length_map, List.length_map, hids]
  refine ⟨hT, hTt, hok, hlen, ?_, fun i hi hne => ?_⟩
  · rw [pgs_at (by omega), hids]
    have := put_eq hTp hok
    rw [getP_id] at this
    exact this
  · have hil : i < (idsF (szs s) s.threads.length).length := by unfold pgs at hi; rwa [List.length_map] at hi
    rw [pgs_at (by omega), pgs_at hi, hids]
    exact put_ne hTp hok (mem_idsF (mem_at hil) F.shp) (by rw [getP_id]; exact fun e => hne (idsF_nodup hil hkl e))
attribute [local irreducible] idsF shp sSet sBuild pgs putP nrs
set_option maxHeartbeats 16000000 in
theorem pback_fn (l : List Int) (which : Int) : Fnc Try.prog 8 [.sl false 1 (i64s l), .int .i64 which] (fun x obs => x = .bool true) := by
  have f0 := few_fn l
  have fa := awake25_fn
  by_cases c0 : l.length ≤ 400
  rotate_left
  · rw [decF c0] at f0
    refine zgo m_pback_ok fun W S => ?_
    refine zcd (f0) ?_
    refine zcd (fa) ?_
    exact zrt m_pback_ok
  rw [decT c0] at f0
  have fs := sstate_fn l 0 (by omega)
  have F := ssd_fine l 0
  have h3 := ssd_three l 0
  have hk := ssd_le (l := l) 0 (by omega)
  generalize ssd l 0 = q at fs F h3 hk
  obtain ⟨s, kk⟩ := q
  dsimp only at fs F h3 hk
  have f1 := pall_fn s (fine_low F)
  rw [sAll_0 F.shp.of] at f1
  have g0 := dnx_ge (l := l) (k := kk) (n := 5) (by omega)
  have g1 := dnx_lt (l := l) (k := kk) (n := 5) (by omega)
  obtain ⟨n, hn⟩ := Int.eq_ofNat_of_zero_le g0
  rw [hn] at g1
  have fn := near_fn l s (dkx l kk) (1 + n) F h3 (dkx_le hk) (by omega)
  obtain ⟨Ft, ht, -, -⟩ := nrs_fine (l := l) (x := (s, dkx l kk)) F (dkx_le hk) (1 + n)
  have hSm : Sm (nrs l (s, dkx l kk) (1 + n)).1 s := nrs_sm l (s, dkx l kk) (1 + n)
  generalize nrs l (s, dkx l kk) (1 + n) = q at fn Ft ht hSm
  obtain ⟨t, k2⟩ := q
  dsimp only at fn Ft ht hSm
  have f2 := psizes_fn s (fine_low F).r
  have f3 := pbuild_fn (szs s) (pgs s) (by rw [szs_len]; exact (fine_low F).r) (fun p hp => by
    obtain ⟨i, hi, rfl⟩ := List.getElem_of_mem hp
    have := (pgs_small F hi).2
    rw [getElem!_pos _ i hi] at this
    omega)
  rw [sBuild_pgs F.shp.of] at f3
  have f4 := rsame_fn s s
  rw [decT rfl] at f4
  have pA := pgs_pos F
  obtain ⟨k, hkk, hkA⟩ := mod_nat which pA
  have m1 := mmod_fn which (pgs s).length (by omega)
  rw [hkk] at m1
  obtain ⟨d, hid, hT, hTt, hok, hlen, hat, hot⟩ := pgs_put F hSm hkA
  have f5 := pget_fn t d (fine_low Ft)
  rw [sGet_0 Ft.shp.of hTt] at f5
  have hTp : There s (getP t d).id := by rw [getP_id]; exact hT
  have hreg := getP_regs Ft hTt
  have f6 := pset_fn s (getP t d) (fine_low F) (by omega)
  rw [sSet_0 F.shp.of hTp hok] at f6
  have Lu := put_low (fine_low F) (by omega) hTp hok
  have f7 := pall_fn _ Lu
  rw [sAll_0 ((put_sm hTp hok).shp.trans F.shp.of)] at f7
  have f8 := pequal_fn (getP t d) (getP t d)
  rw [decT rfl] at f8
  generalize putP s (getP t d) = u at f6 f7 hlen hat hot
  generalize getP t d = p at f5 f6 f8 hat
  generalize pgs u = U at f7 hlen hat hot
  have hA20 : (pgs s).length ≤ 20 := by unfold pgs; rw [List.length_map]; exact idsF_le' F.shp.of
  generalize pgs s = A at f1 f3 pA hkk hkA m1 hid hlen hat hot hA20
  have fd := next_fn l kk 5 hk (by omega)
  rw [hn] at fd
  refine zgo m_pback_ok fun W S => ?_
  refine zcd (f0) ?_
  refine zcx (new_fn l) ?_
  refine zcm (fs) ?_
  refine zcm (fd) ?_
  refine zcm (fn) ?_
  refine zcd (f1) ?_
  refine zcd (f2) ?_
  refine zcd (f3) ?_
  refine zcd (f4) ?_
  refine zcd (m1) ?_
  (first | refine callD (f5) ?_ | refine callDw (f5) ?_); simp only [go_sem, hid]
  refine zst ?_
  refine zcd (f6) ?_
  refine zcd (f7) ?_
  refine ev_loopK [8, 12, 13, 15] (fun p : {p : Nat // p ≤ A.length} => [(17, .int .i64 p.1)]) (fun _ => [⟨.box false 91, true, 0, deckV l k2⟩, ⟨.box false 30, true, 0, staV s⟩, ⟨.box false 30, true, 1, staV t⟩, ⟨.box false 30, true, 0, staV s⟩, ⟨.box false 45, true, 1, pgV true p⟩, ⟨.box false 30, true, 0, staV u⟩]) (fun q => A.length - q.1) (⟨0, by simp⟩) 6 (by simp only [go_sem]; rfl) ?_ (by first | rfl | (simp only [go_sem]; done)) (by simp) (by first | rfl | (simp only [go_sem]; done)) (by first | rfl | (simp only [go_sem]; done)) (by first | rfl | (simp only [go_sem]; done)) ?_
  · (simp only [go_sem]; (try simp []); done)
  intro J hJ
  rintro ⟨i, hi⟩
  by_cases hlt : i < A.length
  · by_cases e : i = k
    · subst e
      refine zst ?_
      (first | refine callD (f8) ?_ | refine callDw (f8) ?_); simp only [go_sem, hat]
      refine zst ?_
      refine ev_next 6 (hJ _ (⟨i + 1, hlt⟩) (by first | omega | (dsimp only; omega) | (simp; omega))) rfl (by simp) ?_ (by first | rfl | (simp only [go_sem]; done)) (by first | rfl | (simp only [go_sem]; done)) ?_
      · (first | rfl | (simp only [go_sem]; done) | (simp only [go_sem]; simp only []; done) | (simp only []; done) | (simp only [go_sem]; simp []; done) | (simp []; done))
      · (simp only [go_sem]; (repeat' (refine And.intro ?_ ?_)) <;> first | exact trivial | with_reducible rfl | (simp only []; done) | (simp only []; with_reducible rfl) | (simp []; done) | (simp []; omega) | (simp only []; rfl) | skip)
    · have f9 := pequal_fn A[i]! A[i]!
      rw [decT rfl] at f9
      have ho := hot i hlt e
      refine zst ?_
      (first | refine callD (f9) ?_ | refine callDw (f9) ?_); simp only [go_sem, ho]
      refine zst ?_
      refine ev_next 6 (hJ _ (⟨i + 1, hlt⟩) (by first | omega | (dsimp only; omega) | (simp; omega))) rfl (by simp) ?_ (by first | rfl | (simp only [go_sem]; done)) (by first | rfl | (simp only [go_sem]; done)) ?_
      · (first | rfl | (simp only [go_sem]; done) | (simp only [go_sem]; simp only []; done) | (simp only []; done) | (simp only [go_sem]; simp []; done) | (simp []; done))
      · (simp only [go_sem]; (repeat' (refine And.intro ?_ ?_)) <;> first | exact trivial | with_reducible rfl | (simp only []; done) | (simp only []; with_reducible rfl) | (simp []; done) | (simp []; omega) | (simp only []; rfl) | skip)
  · obtain rfl : i = A.length := by omega
    refine zst ?_
    refine zcd (fa) ?_
    exact zrt m_pback_ok
theorem pback_law {a0 : List Int} {v0 : Value} {a1 : Int} {v1 : Value} (W : World) (e0 : (Sh.slice (Sh.int .i64)).rd (old W) W a0 [v0]) (e1 : (Sh.int .i64).rd (old W) W a1 [v1]) :
    Calls Try.prog 8 #[v0, v1] W fun e w' => e = .returned (.bool true) ∧ Below W.heap.size W w' :=
  Fnc.law (pback_fn a0 a1) (RdTs.slice enc_i64s e0 (RdTs.int e1 RdTs.nil'))
end Go.Proofs.Ytcphobeommkgeaa
