/- The law PagesMade. -/
import Derived.Test.YtcphobeommkgeaaP40
import Derived.Test.YtcphobeommkgeaaC5
namespace Go.Proofs.Ytcphobeommkgeaa
open Go Go.RowKit Rdn Rdn.Dp
set_option linter.unusedVariables false
set_option linter.unusedSimpArgs false
theorem m_pmade_ok : compF Try.prog 10 = some (115, Qr ([Qc 6 (.bool false)])
 (.seq (Qr ([Qm 17 0, Qq 18 13 [(.t 17)], Qp 19 (.un .not (.t 18))])
 (.cond (.t 19) (Qr ([Qq 20 14 [], Qm 6 20])
 (.ret)) (.skip)))
 (Qr ([Qm 21 0, Qq 22 15 [(.t 21)], Qm 7 22])
 (Qr ([Qm 23 7, Qq 24 16 [(.t 23)], Qw 8 (.alloc 30 (.agg [.nilS, .nilS])), Qs 2 8 24])
 (Qr ([Qm 26 7, QL 27 2 8, Qq 28 18 [(.t 26), (.t 27), (Qi 3)], Qq 29 17 [(.t 28)], Qm 25 29, Qe 30 25 0, Qe 31 25 1, Qm 9 30, Qm 10 31])
 (Qr ([Qm 32 1, Qm 33 9, Qn 34 33, Qq 35 20 [(.t 32), (.t 34)], Qm 11 35])
 (Qr ([Qm 36 9, Qm 37 11, Qx 38 11 36 37, QL 39 11 38, Qw 12 (.alloc 45 (.agg [.agg [.int .i64 0, .int .i64 0], .nilS, .agg [.int .i64 0, .int .i64 0, .int .i64 0, .int .i64 0, .int .i64 0, .int .i64 0, .int .u16 0, .nilS]])), Qs 11 12 39])
 (.seq (Qr ([Qm 40 2, Qq 41 20 [(.t 40), (Qi 6)]])
 (.block 0 (Qr ([Qk 43 .eql 41 0, Qm 42 43])
 (.cond (.t 42) (.reg [Qf 44 0 0 12, Qf 45 1 1 44, Ql 46 1 45, Qk 47 .add 46 1, Qf 48 0 0 12, Qf 49 1 1 48, Qs 1 49 47]) (Qr ([Qk 51 .eql 41 1, Qm 50 51])
 (.cond (.t 50) (.reg [Qw 52 (.buildS 84 4 (.agg [.int .u8 0, .int .u16 0, .int .i64 0, .int .i64 0]) 0 []), Qf 53 2 1 12, Ql 54 1 53, Qw 55 (.app 84 4 24 (.t 52) (.t 54)), Qw 56 (.build none [.int .u8 0, .int .u16 0, .int .i64 0, .int .i64 0] []), Qw 57 (.buildS 84 4 (.agg [.int .u8 0, .int .u16 0, .int .i64 0, .int .i64 0]) 1 [(0, (.t 56))]), Qw 58 (.app 84 4 24 (.t 55) (.t 57)), Qf 59 2 1 12, Qs 1 59 58]) (Qr ([Qk 61 .eql 41 2, Qm 60 61])
 (.cond (.t 60) (.reg [Qm 62 7, Qq 63 44 [(.t 62)], Qf 64 3 2 12, Qs 8 64 63]) (Qr ([Qk 66 .eql 41 3, Qm 65 66])
 (.cond (.t 65) (.reg [Qm 67 7, QL 68 2 8, Qq 69 45 [(.t 67), (.t 68)], Qs 2 8 69]) (.skip)))))))))))
 (Qr ([Qm 70 9, Qm 71 11, QL 72 11 12, Qx 73 11 70 71, Qs 11 73 72])
 (.seq (Qr ([Qm 74 7, Qq 75 19 [(.t 74), (Qi 6)], Qk 76 .eql 75 5])
 (.cond (.t 76) (.dreg [Qm 77 9, Qm 78 11, Qw 79 (.sl 11 (.t 77) none (some (.t 78)) none), Qm 80 9, Qm 81 11, Qk 82 .add 81 1, Qw 83 (.sl 11 (.t 80) (some (.t 82)) none none), Qw 84 (.app 45 11 120 (.t 79) (.t 83)), Qm 9 84] [[], [], [0, 1], [], [], [4], [3, 4, 5], [0, 1, 2, 3, 4, 5, 6], [0, 1, 2, 3, 4, 5, 6, 7]]) (.skip)))
 (Qr ([QL 86 2 8, Qq 87 46 [(.t 86)], Qm 88 9, Qq 89 33 [(.t 87), (.t 88)], Qm 85 89, Qe 90 85 0, Qe 91 85 1, Qw 13 (.alloc 30 (.agg [.nilS, .nilS])), Qs 2 13 90, Qm 14 91])
 (Qr ([QL 93 2 8, Qq 94 46 [(.t 93)], Qm 95 9, Qq 96 41 [(.t 94), (.t 95)], Qm 92 96, Qe 97 92 0, Qe 98 92 1, Qw 15 (.alloc 30 (.agg [.nilS, .nilS])), Qs 2 15 97, Qm 16 98])
 (Qr ([QL 99 2 8, QL 100 11 12, Qq 101 43 [(.t 99), (.t 100)], Qm 102 101, Q1 103 102 (.mov (.t 14)), Q1 104 102 (.mov (.t 16)), Q1 105 102 (.bin 0 .eql (.t 103) (.t 104)), Qu 106 102 105, Qm 107 106, Q1 108 107 (.load true 2 (.t 13)), Q1 109 107 (.load true 2 (.t 15)), ⟨(some 110), (some (107, true)), (.call 35 [(.t 108), (.t 109)])⟩, Qu 111 107 110, Qm 112 111, ⟨(some 113), (some (112, true)), (.call 14 [])⟩, Qu 114 112 113, Qm 6 114])
 (.ret))))))))))))), [.mov (.t 6)]) := by kernel_rfl
theorem getP_small {s : State} (F : Fine s) {d : PageID} (h : There s d) : (getP s d).cells.length ≤ 8 ∧ (getP s d).view.regs.length ≤ 8 ∧ 0 ≤ (getP s d).id.index ∧ (getP s d).id.index ≤ 32 := by
  have H := F.shp
  have h2 := H.t
  refine ⟨h.cells.1, getP_regs F h, ?_⟩
  rw [getP_id]
  unfold There at h
  omega
theorem pgs_small2 {s : State} (F : Fine s) {k : Nat} (hk : k < (pgs s).length) : (pgs s)[k]!.cells.length ≤ 8 ∧ (pgs s)[k]!.view.regs.length ≤ 8 ∧ 0 ≤ (pgs s)[k]!.id.index ∧ (pgs s)[k]!.id.index ≤ 32 := by
  have hkl : k < (idsF (szs s) s.threads.length).length := by unfold pgs at hk; rwa [List.length_map] at hk
  rw [pgs_at hk]
  exact getP_small F (mem_idsF (mem_at hkl) F.shp)
theorem regs_set {A : List Page} {p : Page} (k : Nat) (hA : ∀ q ∈ A, q.view.regs.length ≤ 8) (hp : p.view.regs.length ≤ 8) : ∀ q ∈ A.set k p, q.view.regs.length ≤ 5864062014634 := fun q hq => by
  rcases List.mem_or_eq_of_mem_set hq with hq | rfl
  · have := hA q hq; omega
  · omega
theorem regs_cut {B : List Page} (k : Nat) (h : ∀ q ∈ B, q.view.regs.length ≤ 5864062014634) : ∀ q ∈ B.take k ++ B.drop (k + 1), q.view.regs.length ≤ 5864062014634 := fun q hq => by
  rcases List.mem_append.1 hq with hq | hq
  · exact h q (List.mem_of_mem_take hq)
  · exact h q (List.mem_of_mem_drop hq)
theorem over_pg (q m : List Page) (j : Nat) : over (q.map (pgV true)) j (m.map (pgV true)) = (q.take j ++ m ++ q.drop (j + m.length)).map (pgV true) := by
  simp only [over, List.length_map, ← List.map_take, ← List.map_drop, ← List.map_append]
attribute [local irreducible] idsF shp sSet sGet sAll sBuild pgs putP nrs sOd
set_option maxHeartbeats 32000000 in
theorem pmade_fn (l : List Int) (which what : Int) : Fnc Try.prog 10 [.sl false 1 (i64s l), .int .i64 which, .int .i64 what] (fun x obs => x = .bool true) := by
  have f0 := few_fn l
  have fa := awake25_fn
  by_cases c0 : l.length ≤ 400
  rotate_left
  · rw [decF c0] at f0
    refine zgo m_pmade_ok fun W S => ?_
    refine zcd (f0) ?_
    refine zcd (fa) ?_
    exact zrt m_pmade_ok
  rw [decT c0] at f0
  have fs := sstate_fn l 0 (by omega)
  have F := ssd_fine l 0
  have h3 := ssd_three l 0
  have hk := ssd_le (l := l) 0 (by omega)
  generalize ssd l 0 = q at fs F h3 hk
  obtain ⟨s, kk⟩ := q
  dsimp only at fs F h3 hk
  have fn := near_fn l s kk 3 F h3 hk (by omega)
  obtain ⟨Ft, ht, -, -⟩ := nrs_fine (l := l) (x := (s, kk)) F hk 3
  generalize nrs l (s, kk) 3 = q at fn Ft ht
  obtain ⟨t, k2⟩ := q
  dsimp only at fn Ft ht
  have f2 := zallO_fn t (fine_low Ft) Ft.shp.of
  have pA := pgs_pos Ft
  have hsm := fun (k : Nat) (hk : k < (pgs t).length) => pgs_small2 Ft hk
  have hA20 : (pgs t).length ≤ 20 := by unfold pgs; rw [List.length_map]; exact idsF_le' Ft.shp.of
  generalize pgs t = A at f2 pA hsm hA20
  obtain ⟨k, hkk, hkA⟩ := mod_nat which pA
  have m1 := mmod_fn which A.length (by omega)
  rw [hkk] at m1
  obtain ⟨j, hj, hj6⟩ := mod_nat what (n := 6) (by omega)
  have m2 := mmod_fn what 6 (by omega)
  have hj : what % 6 = (j : Int) := hj
  rw [hj] at m2
  obtain ⟨b1, b2, b3, b4⟩ := hsm k hkA
  have hAr : ∀ q ∈ A, q.view.regs.length ≤ 8 := fun q hq => by
    obtain ⟨i, hi, rfl⟩ := List.getElem_of_mem hq
    have := (hsm i hi).2.1
    rwa [getElem!_pos A i hi] at this
  clear hsm
  obtain ⟨p, hp⟩ : ∃ p, A[k]! = p := ⟨_, rfl⟩
  rw [hp] at b1 b2 b3 b4

  have hk2 : k2 ≤ l.length := ht
  obtain ⟨⟨r, i⟩, cs, v⟩ := p
  dsimp only at b1 b2 b3 b4
  by_cases d0 : j = 0
  · subst d0
    refine zgo m_pmade_ok fun W S => ?_
    refine zcd (f0) ?_
    refine zcx (new_fn l) ?_
    refine zcm (fs) ?_
    refine zcm (fn) ?_
    refine zcx (f2) ?_
    refine zcd (m1) ?_
    refine zcd (m2) ?_
    simp only [hp]
    have hB1 : (A.map (pgV true)).set k (V.agg [V.agg [.int .i64 r, .int .i64 (i + 1)], .sl true 4 (cs.map canonV), viewV true v]) = (A.set k ⟨⟨r, i + 1⟩, cs, v⟩).map (pgV true) := by rw [List.map_set]
    have hBl : (A.set k ⟨⟨r, i + 1⟩, cs, v⟩).length = A.length := by rw [List.length_set]
    have hBr := regs_set (p := ⟨⟨r, i + 1⟩, cs, v⟩) k hAr (by dsimp only; omega)
    generalize A.set k ⟨⟨r, i + 1⟩, cs, v⟩ = B at hB1 hBl hBr
    have fd := next_fn l k2 6 hk2 (by omega)
    have gs := zsizes_fn s (fine_low F).r
    have ga := agree25_fn s ⟨⟨r, i + 1⟩, cs, v⟩ (fine_low F) (by simp; omega) (by dsimp only; omega)
    have hsz : (szs s).length ≤ 5864062014634 := by rw [szs_len]; exact (fine_low F).r
    by_cases d5 : dnx l k2 6 = 5
    · rw [d5] at fd
      have hq : (srcP 2 0 11 (List.map (pgV true) B) (V.osl 2 0 11 ((k : Int) + 1).toNat B.length)).1 = (B.drop (k + 1)).map (pgV true) := by
        simp only [srcP, ← List.map_take, ← List.map_drop, List.take_length]
        rw [show ((k : Int) + 1).toNat = k + 1 by omega]
      obtain ⟨C, hov⟩ : ∃ C, B.take k ++ B.drop (k + 1) ++ B.drop (k + (B.drop (k + 1)).length) = C := ⟨_, rfl⟩
      have hcut : List.drop 0 (List.take (k + (B.length - (k + 1))) (C.map (pgV true))) = (B.take k ++ B.drop (k + 1)).map (pgV true) := by
        rw [List.drop_zero, ← List.map_take, ← hov, List.take_left' (by rw [List.length_append, List.length_take, List.length_drop]; omega)]
      have g3 := pbuild_fn (szs s) (B.take k ++ B.drop (k + 1)) hsz (regs_cut k hBr)
      have g4 := zbuild_fn (szs s) (B.take k ++ B.drop (k + 1)) hsz (regs_cut k hBr)
      generalize sBuild (szs s) (B.take k ++ B.drop (k + 1)) = b at g3 g4
      obtain ⟨x1, x2⟩ := b
      dsimp only at g3 g4
      have g6 := rsame_fn x1 x1
      rw [decT rfl] at g6
      refine zst ?_
      simp only [hB1]
      refine Rdn.Dp.zcn (fd) ?_
      refine zso ?_
      refine ev_draw (fu := []) mixed [] 0 rfl (by kernel_rfl) ?_
      refine evw_all (md := []) (fu := [(), ()]) ?_; refine zev ?_
      refine evw_g (gen_sl (r := 2) (g := 0) (kk := .row 45) rfl (.inl rfl) rfl trivial trivial (by simp only [go_sem]; done) (by simp only [go_sem]; omega) (by simp only [go_sem]; omega)) rfl ?_
      simp only [go_sem]
      refine evw_all (md := []) (fu := [(), (), ()]) ?_; refine zev ?_
      refine evw_g (gen_sl (r := 2) (g := 0) (kk := .row 45) rfl (.inl rfl) rfl trivial trivial (by simp only [go_sem]; omega) (by simp only [go_sem]; omega) (by simp only [go_sem]; omega)) rfl ?_
      simp only [go_sem]
      refine evw_g (gen_app (r := 2) (g := 0) (kk := .row 45) rfl (.inl rfl) rfl ⟨rfl, rfl, rfl⟩ (by simp only [go_sem]; simp only [srcP]; simp; omega)) rfl ?_
      simp only [go_sem]
      simp only [hq, over_pg, hov, List.length_map]
      refine evw_all (md := []) (fu := [()]) ?_; refine zev ?_
      refine evw_nil (by kernel_rfl) ?_
      refine ev_freezeP 9 rfl rfl ?_
      simp only [hcut]
      refine zst ?_
      refine zcd (gs) ?_
      refine zcd (g3) ?_
      refine zcd (gs) ?_
      refine zcd (g4) ?_
      refine zcd (ga) ?_
      refine zcd (g6) ?_
      refine zcd (fa) ?_
      exact zrt m_pmade_ok
    · have g3 := pbuild_fn (szs s) B hsz hBr
      have g4 := zbuild_fn (szs s) B hsz hBr
      generalize sBuild (szs s) B = b at g3 g4
      obtain ⟨x1, x2⟩ := b
      dsimp only at g3 g4
      have g6 := rsame_fn x1 x1
      rw [decT rfl] at g6
      refine zst ?_
      simp only [hB1]
      refine zcm (fd) ?_
      refine evr_freeze 9 rfl rfl ?_
      refine zcd (gs) ?_
      refine zcd (g3) ?_
      refine zcd (gs) ?_
      refine zcd (g4) ?_
      refine zcd (ga) ?_
      refine zcd (g6) ?_
      refine zcd (fa) ?_
      exact zrt m_pmade_ok
  by_cases d1 : j = 1
  · subst d1
    refine zgo m_pmade_ok fun W S => ?_
    refine zcd (f0) ?_
    refine zcx (new_fn l) ?_
    refine zcm (fs) ?_
    refine zcm (fn) ?_
    refine zcx (f2) ?_
    refine zcd (m1) ?_
    refine zcd (m2) ?_
    simp only [hp]
    refine zst ?_
    have hB1 : (A.map (pgV true)).set k (V.agg [V.agg [.int .i64 r, .int .i64 i], .sl true 4 ((cs ++ [(⟨0, 0, 0, 0⟩ : Canon)]).map canonV), V.agg [.int .i64 v.state, .int .i64 v.pc, .int .i64 v.count, .int .i64 v.handler, .int .i64 v.saved, .int .i64 v.trap, .int .u16 v.code, .sl true 4 (v.regs.map canonV)]]) = (A.set k (⟨⟨r, i⟩, cs ++ [(⟨0, 0, 0, 0⟩ : Canon)], v⟩ : Page)).map (pgV true) := by rw [List.map_set]
    have hBl : (A.set k (⟨⟨r, i⟩, cs ++ [(⟨0, 0, 0, 0⟩ : Canon)], v⟩ : Page)).length = A.length := by rw [List.length_set]
    have hBr := regs_set (p := (⟨⟨r, i⟩, cs ++ [(⟨0, 0, 0, 0⟩ : Canon)], v⟩ : Page)) k hAr (by dsimp only; omega)
    generalize A.set k (⟨⟨r, i⟩, cs ++ [(⟨0, 0, 0, 0⟩ : Canon)], v⟩ : Page) = B at hB1 hBl hBr
    have fd := next_fn l k2 6 hk2 (by omega)
    have gs := zsizes_fn s (fine_low F).r
    have ga := agree25_fn s (⟨⟨r, i⟩, cs ++ [(⟨0, 0, 0, 0⟩ : Canon)], v⟩ : Page) (fine_low F) (by simp; omega) (by dsimp only; omega)
    have hsz : (szs s).length ≤ 5864062014634 := by rw [szs_len]; exact (fine_low F).r
    by_cases d5 : dnx l k2 6 = 5
    · rw [d5] at fd
      have hq : (srcP 2 0 11 (List.map (pgV true) B) (V.osl 2 0 11 ((k : Int) + 1).toNat B.length)).1 = (B.drop (k + 1)).map (pgV true) := by
        simp only [srcP, ← List.map_take, ← List.map_drop, List.take_length]
        rw [show ((k : Int) + 1).toNat = k + 1 by omega]
      obtain ⟨C, hov⟩ : ∃ C, B.take k ++ B.drop (k + 1) ++ B.drop (k + (B.drop (k + 1)).length) = C := ⟨_, rfl⟩
      have hcut : List.drop 0 (List.take (k + (B.length - (k + 1))) (C.map (pgV true))) = (B.take k ++ B.drop (k + 1)).map (pgV true) := by
        rw [List.drop_zero, ← List.map_take, ← hov, List.take_left' (by rw [List.length_append, List.length_take, List.length_drop]; omega)]
      have g3 := pbuild_fn (szs s) (B.take k ++ B.drop (k + 1)) hsz (regs_cut k hBr)
      have g4 := zbuild_fn (szs s) (B.take k ++ B.drop (k + 1)) hsz (regs_cut k hBr)
      generalize sBuild (szs s) (B.take k ++ B.drop (k + 1)) = b at g3 g4
      obtain ⟨x1, x2⟩ := b
      dsimp only at g3 g4
      have g6 := rsame_fn x1 x1
      rw [decT rfl] at g6
      refine zst ?_
      simp only [hB1]
      refine Rdn.Dp.zcn (fd) ?_
      refine zso ?_
      refine ev_draw (fu := []) mixed [] 0 rfl (by kernel_rfl) ?_
      refine evw_all (md := []) (fu := [(), ()]) ?_; refine zev ?_
      refine evw_g (gen_sl (r := 2) (g := 0) (kk := .row 45) rfl (.inl rfl) rfl trivial trivial (by simp only [go_sem]; done) (by simp only [go_sem]; omega) (by simp only [go_sem]; omega)) rfl ?_
      simp only [go_sem]
      refine evw_all (md := []) (fu := [(), (), ()]) ?_; refine zev ?_
      refine evw_g (gen_sl (r := 2) (g := 0) (kk := .row 45) rfl (.inl rfl) rfl trivial trivial (by simp only [go_sem]; omega) (by simp only [go_sem]; omega) (by simp only [go_sem]; omega)) rfl ?_
      simp only [go_sem]
      refine evw_g (gen_app (r := 2) (g := 0) (kk := .row 45) rfl (.inl rfl) rfl ⟨rfl, rfl, rfl⟩ (by simp only [go_sem]; simp only [srcP]; simp; omega)) rfl ?_
      simp only [go_sem]
      simp only [hq, over_pg, hov, List.length_map]
      refine evw_all (md := []) (fu := [()]) ?_; refine zev ?_
      refine evw_nil (by kernel_rfl) ?_
      refine ev_freezeP 9 rfl rfl ?_
      simp only [hcut]
      refine zst ?_
      refine zcd (gs) ?_
      refine zcd (g3) ?_
      refine zcd (gs) ?_
      refine zcd (g4) ?_
      refine zcd (ga) ?_
      refine zcd (g6) ?_
      refine zcd (fa) ?_
      exact zrt m_pmade_ok
    · have g3 := pbuild_fn (szs s) B hsz hBr
      have g4 := zbuild_fn (szs s) B hsz hBr
      generalize sBuild (szs s) B = b at g3 g4
      obtain ⟨x1, x2⟩ := b
      dsimp only at g3 g4
      have g6 := rsame_fn x1 x1
      rw [decT rfl] at g6
      refine zst ?_
      simp only [hB1]
      refine zcm (fd) ?_
      refine evr_freeze 9 rfl rfl ?_
      refine zcd (gs) ?_
      refine zcd (g3) ?_
      refine zcd (gs) ?_
      refine zcd (g4) ?_
      refine zcd (ga) ?_
      refine zcd (g6) ?_
      refine zcd (fa) ?_
      exact zrt m_pmade_ok
  by_cases d2 : j = 2
  · subst d2
    have fv := sview_fn l k2 hk2
    have hv8 := sv1_regs l k2
    have hk3 := sv1_le (l := l) k2 hk2
    generalize sv1 l k2 = q at fv hv8 hk3
    obtain ⟨v2, k3⟩ := q
    dsimp only at fv hv8 hk3
    refine zgo m_pmade_ok fun W S => ?_
    refine zcd (f0) ?_
    refine zcx (new_fn l) ?_
    refine zcm (fs) ?_
    refine zcm (fn) ?_
    refine zcx (f2) ?_
    refine zcd (m1) ?_
    refine zcd (m2) ?_
    simp only [hp]
    refine zst ?_
    refine zcm (fv) ?_
    have hB1 : (A.map (pgV true)).set k (V.agg [V.agg [.int .i64 r, .int .i64 i], .sl true 4 (cs.map canonV), viewV true v2]) = (A.set k ⟨⟨r, i⟩, cs, v2⟩).map (pgV true) := by rw [List.map_set]
    have hBl : (A.set k ⟨⟨r, i⟩, cs, v2⟩).length = A.length := by rw [List.length_set]
    have hBr := regs_set (p := ⟨⟨r, i⟩, cs, v2⟩) k hAr (by dsimp only; omega)
    generalize A.set k ⟨⟨r, i⟩, cs, v2⟩ = B at hB1 hBl hBr
    have fd := next_fn l k3 6 hk3 (by omega)
    have gs := zsizes_fn s (fine_low F).r
    have ga := agree25_fn s ⟨⟨r, i⟩, cs, v2⟩ (fine_low F) (by simp; omega) (by dsimp only; omega)
    have hsz : (szs s).length ≤ 5864062014634 := by rw [szs_len]; exact (fine_low F).r
    by_cases d5 : dnx l k3 6 = 5
    · rw [d5] at fd
      have hq : (srcP 2 0 11 (List.map (pgV true) B) (V.osl 2 0 11 ((k : Int) + 1).toNat B.length)).1 = (B.drop (k + 1)).map (pgV true) := by
        simp only [srcP, ← List.map_take, ← List.map_drop, List.take_length]
        rw [show ((k : Int) + 1).toNat = k + 1 by omega]
      obtain ⟨C, hov⟩ : ∃ C, B.take k ++ B.drop (k + 1) ++ B.drop (k + (B.drop (k + 1)).length) = C := ⟨_, rfl⟩
      have hcut : List.drop 0 (List.take (k + (B.length - (k + 1))) (C.map (pgV true))) = (B.take k ++ B.drop (k + 1)).map (pgV true) := by
        rw [List.drop_zero, ← List.map_take, ← hov, List.take_left' (by rw [List.length_append, List.length_take, List.length_drop]; omega)]
      have g3 := pbuild_fn (szs s) (B.take k ++ B.drop (k + 1)) hsz (regs_cut k hBr)
      have g4 := zbuild_fn (szs s) (B.take k ++ B.drop (k + 1)) hsz (regs_cut k hBr)
      generalize sBuild (szs s) (B.take k ++ B.drop (k + 1)) = b at g3 g4
      obtain ⟨x1, x2⟩ := b
      dsimp only at g3 g4
      have g6 := rsame_fn x1 x1
      rw [decT rfl] at g6
      refine zst ?_
      simp only [hB1]
      refine Rdn.Dp.zcn (fd) ?_
      refine zso ?_
      refine ev_draw (fu := []) mixed [] 0 rfl (by kernel_rfl) ?_
      refine evw_all (md := []) (fu := [(), ()]) ?_; refine zev ?_
      refine evw_g (gen_sl (r := 2) (g := 0) (kk := .row 45) rfl (.inl rfl) rfl trivial trivial (by simp only [go_sem]; done) (by simp only [go_sem]; omega) (by simp only [go_sem]; omega)) rfl ?_
      simp only [go_sem]
      refine evw_all (md := []) (fu := [(), (), ()]) ?_; refine zev ?_
      refine evw_g (gen_sl (r := 2) (g := 0) (kk := .row 45) rfl (.inl rfl) rfl trivial trivial (by simp only [go_sem]; omega) (by simp only [go_sem]; omega) (by simp only [go_sem]; omega)) rfl ?_
      simp only [go_sem]
      refine evw_g (gen_app (r := 2) (g := 0) (kk := .row 45) rfl (.inl rfl) rfl ⟨rfl, rfl, rfl⟩ (by simp only [go_sem]; simp only [srcP]; simp; omega)) rfl ?_
      simp only [go_sem]
      simp only [hq, over_pg, hov, List.length_map]
      refine evw_all (md := []) (fu := [()]) ?_; refine zev ?_
      refine evw_nil (by kernel_rfl) ?_
      refine ev_freezeP 9 rfl rfl ?_
      simp only [hcut]
      refine zst ?_
      refine zcd (gs) ?_
      refine zcd (g3) ?_
      refine zcd (gs) ?_
      refine zcd (g4) ?_
      refine zcd (ga) ?_
      refine zcd (g6) ?_
      refine zcd (fa) ?_
      exact zrt m_pmade_ok
    · have g3 := pbuild_fn (szs s) B hsz hBr
      have g4 := zbuild_fn (szs s) B hsz hBr
      generalize sBuild (szs s) B = b at g3 g4
      obtain ⟨x1, x2⟩ := b
      dsimp only at g3 g4
      have g6 := rsame_fn x1 x1
      rw [decT rfl] at g6
      refine zst ?_
      simp only [hB1]
      refine zcm (fd) ?_
      refine evr_freeze 9 rfl rfl ?_
      refine zcd (gs) ?_
      refine zcd (g3) ?_
      refine zcd (gs) ?_
      refine zcd (g4) ?_
      refine zcd (ga) ?_
      refine zcd (g6) ?_
      refine zcd (fa) ?_
      exact zrt m_pmade_ok
  by_cases d3 : j = 3
  · subst d3
    have fo := odd_fn l s k2 F hk2
    have Lo := sOd_low (k := k2) F hk2
    have hk3 := sOd_le (l := l) (s := s) (k := k2) hk2
    generalize sOd l s k2 = q at fo Lo hk3
    obtain ⟨s3, k3⟩ := q
    dsimp only at fo Lo hk3
    refine zgo m_pmade_ok fun W S => ?_
    refine zcd (f0) ?_
    refine zcx (new_fn l) ?_
    refine zcm (fs) ?_
    refine zcm (fn) ?_
    refine zcx (f2) ?_
    refine zcd (m1) ?_
    refine zcd (m2) ?_
    simp only [hp]
    refine zst ?_
    refine zcm (fo) ?_
    have hB1 : (A.map (pgV true)).set k (pgV true ⟨⟨r, i⟩, cs, v⟩) = (A.set k ⟨⟨r, i⟩, cs, v⟩).map (pgV true) := by rw [List.map_set]
    have hBl : (A.set k ⟨⟨r, i⟩, cs, v⟩).length = A.length := by rw [List.length_set]
    have hBr := regs_set (p := ⟨⟨r, i⟩, cs, v⟩) k hAr (by dsimp only; omega)
    generalize A.set k ⟨⟨r, i⟩, cs, v⟩ = B at hB1 hBl hBr
    have fd := next_fn l k3 6 hk3 (by omega)
    have gs := zsizes_fn s3 (Lo).r
    have ga := agree25_fn s3 ⟨⟨r, i⟩, cs, v⟩ (Lo) (by simp; omega) (by dsimp only; omega)
    have hsz : (szs s3).length ≤ 5864062014634 := by rw [szs_len]; exact (Lo).r
    by_cases d5 : dnx l k3 6 = 5
    · rw [d5] at fd
      have hq : (srcP 2 0 11 (List.map (pgV true) B) (V.osl 2 0 11 ((k : Int) + 1).toNat B.length)).1 = (B.drop (k + 1)).map (pgV true) := by
        simp only [srcP, ← List.map_take, ← List.map_drop, List.take_length]
        rw [show ((k : Int) + 1).toNat = k + 1 by omega]
      obtain ⟨C, hov⟩ : ∃ C, B.take k ++ B.drop (k + 1) ++ B.drop (k + (B.drop (k + 1)).length) = C := ⟨_, rfl⟩
      have hcut : List.drop 0 (List.take (k + (B.length - (k + 1))) (C.map (pgV true))) = (B.take k ++ B.drop (k + 1)).map (pgV true) := by
        rw [List.drop_zero, ← List.map_take, ← hov, List.take_left' (by rw [List.length_append, List.length_take, List.length_drop]; omega)]
      have g3 := pbuild_fn (szs s3) (B.take k ++ B.drop (k + 1)) hsz (regs_cut k hBr)
      have g4 := zbuild_fn (szs s3) (B.take k ++ B.drop (k + 1)) hsz (regs_cut k hBr)
      generalize sBuild (szs s3) (B.take k ++ B.drop (k + 1)) = b at g3 g4
      obtain ⟨x1, x2⟩ := b
      dsimp only at g3 g4
      have g6 := rsame_fn x1 x1
      rw [decT rfl] at g6
      refine zst ?_
      simp only [hB1]
      refine Rdn.Dp.zcn (fd) ?_
      refine zso ?_
      refine ev_draw (fu := []) mixed [] 0 rfl (by kernel_rfl) ?_
      refine evw_all (md := []) (fu := [(), ()]) ?_; refine zev ?_
      refine evw_g (gen_sl (r := 2) (g := 0) (kk := .row 45) rfl (.inl rfl) rfl trivial trivial (by simp only [go_sem]; done) (by simp only [go_sem]; omega) (by simp only [go_sem]; omega)) rfl ?_
      simp only [go_sem]
      refine evw_all (md := []) (fu := [(), (), ()]) ?_; refine zev ?_
      refine evw_g (gen_sl (r := 2) (g := 0) (kk := .row 45) rfl (.inl rfl) rfl trivial trivial (by simp only [go_sem]; omega) (by simp only [go_sem]; omega) (by simp only [go_sem]; omega)) rfl ?_
      simp only [go_sem]
      refine evw_g (gen_app (r := 2) (g := 0) (kk := .row 45) rfl (.inl rfl) rfl ⟨rfl, rfl, rfl⟩ (by simp only [go_sem]; simp only [srcP]; simp; omega)) rfl ?_
      simp only [go_sem]
      simp only [hq, over_pg, hov, List.length_map]
      refine evw_all (md := []) (fu := [()]) ?_; refine zev ?_
      refine evw_nil (by kernel_rfl) ?_
      refine ev_freezeP 9 rfl rfl ?_
      simp only [hcut]
      refine zst ?_
      refine zcd (gs) ?_
      refine zcd (g3) ?_
      refine zcd (gs) ?_
      refine zcd (g4) ?_
      refine zcd (ga) ?_
      refine zcd (g6) ?_
      refine zcd (fa) ?_
      exact zrt m_pmade_ok
    · have g3 := pbuild_fn (szs s3) B hsz hBr
      have g4 := zbuild_fn (szs s3) B hsz hBr
      generalize sBuild (szs s3) B = b at g3 g4
      obtain ⟨x1, x2⟩ := b
      dsimp only at g3 g4
      have g6 := rsame_fn x1 x1
      rw [decT rfl] at g6
      refine zst ?_
      simp only [hB1]
      refine zcm (fd) ?_
      refine evr_freeze 9 rfl rfl ?_
      refine zcd (gs) ?_
      refine zcd (g3) ?_
      refine zcd (gs) ?_
      refine zcd (g4) ?_
      refine zcd (ga) ?_
      refine zcd (g6) ?_
      refine zcd (fa) ?_
      exact zrt m_pmade_ok
  refine zgo m_pmade_ok fun W S => ?_
  refine zcd (f0) ?_
  refine zcx (new_fn l) ?_
  refine zcm (fs) ?_
  refine zcm (fn) ?_
  refine zcx (f2) ?_
  refine zcd (m1) ?_
  refine zcd (m2) ?_
  simp only [hp]
  refine zst ?_
  have hB1 : (A.map (pgV true)).set k (pgV true ⟨⟨r, i⟩, cs, v⟩) = (A.set k ⟨⟨r, i⟩, cs, v⟩).map (pgV true) := by rw [List.map_set]
  have hBl : (A.set k ⟨⟨r, i⟩, cs, v⟩).length = A.length := by rw [List.length_set]
  have hBr := regs_set (p := ⟨⟨r, i⟩, cs, v⟩) k hAr (by dsimp only; omega)
  generalize A.set k ⟨⟨r, i⟩, cs, v⟩ = B at hB1 hBl hBr
  have fd := next_fn l k2 6 hk2 (by omega)
  have gs := zsizes_fn s (fine_low F).r
  have ga := agree25_fn s ⟨⟨r, i⟩, cs, v⟩ (fine_low F) (by simp; omega) (by dsimp only; omega)
  have hsz : (szs s).length ≤ 5864062014634 := by rw [szs_len]; exact (fine_low F).r
  by_cases d5 : dnx l k2 6 = 5
  · rw [d5] at fd
    have hq : (srcP 2 0 11 (List.map (pgV true) B) (V.osl 2 0 11 ((k : Int) + 1).toNat B.length)).1 = (B.drop (k + 1)).map (pgV true) := by
      simp only [srcP, ← List.map_take, ← List.map_drop, List.take_length]
      rw [show ((k : Int) + 1).toNat = k + 1 by omega]
    obtain ⟨C, hov⟩ : ∃ C, B.take k ++ B.drop (k + 1) ++ B.drop (k + (B.drop (k + 1)).length) = C := ⟨_, rfl⟩
    have hcut : List.drop 0 (List.take (k + (B.length - (k + 1))) (C.map (pgV true))) = (B.take k ++ B.drop (k + 1)).map (pgV true) := by
      rw [List.drop_zero, ← List.map_take, ← hov, List.take_left' (by rw [List.length_append, List.length_take, List.length_drop]; omega)]
    have g3 := pbuild_fn (szs s) (B.take k ++ B.drop (k + 1)) hsz (regs_cut k hBr)
    have g4 := zbuild_fn (szs s) (B.take k ++ B.drop (k + 1)) hsz (regs_cut k hBr)
    generalize sBuild (szs s) (B.take k ++ B.drop (k + 1)) = b at g3 g4
    obtain ⟨x1, x2⟩ := b
    dsimp only at g3 g4
    have g6 := rsame_fn x1 x1
    rw [decT rfl] at g6
    refine zst ?_
    simp only [hB1]
    refine Rdn.Dp.zcn (fd) ?_
    refine zso ?_
    refine ev_draw (fu := []) mixed [] 0 rfl (by kernel_rfl) ?_
    refine evw_all (md := []) (fu := [(), ()]) ?_; refine zev ?_
    refine evw_g (gen_sl (r := 2) (g := 0) (kk := .row 45) rfl (.inl rfl) rfl trivial trivial (by simp only [go_sem]; done) (by simp only [go_sem]; omega) (by simp only [go_sem]; omega)) rfl ?_
    simp only [go_sem]
    refine evw_all (md := []) (fu := [(), (), ()]) ?_; refine zev ?_
    refine evw_g (gen_sl (r := 2) (g := 0) (kk := .row 45) rfl (.inl rfl) rfl trivial trivial (by simp only [go_sem]; omega) (by simp only [go_sem]; omega) (by simp only [go_sem]; omega)) rfl ?_
    simp only [go_sem]
    refine evw_g (gen_app (r := 2) (g := 0) (kk := .row 45) rfl (.inl rfl) rfl ⟨rfl, rfl, rfl⟩ (by simp only [go_sem]; simp only [srcP]; simp; omega)) rfl ?_
    simp only [go_sem]
    simp only [hq, over_pg, hov, List.length_map]
    refine evw_all (md := []) (fu := [()]) ?_; refine zev ?_
    refine evw_nil (by kernel_rfl) ?_
    refine ev_freezeP 9 rfl rfl ?_
    simp only [hcut]
    refine zst ?_
    refine zcd (gs) ?_
    refine zcd (g3) ?_
    refine zcd (gs) ?_
    refine zcd (g4) ?_
    refine zcd (ga) ?_
    refine zcd (g6) ?_
    refine zcd (fa) ?_
    exact zrt m_pmade_ok
  · have g3 := pbuild_fn (szs s) B hsz hBr
    have g4 := zbuild_fn (szs s) B hsz hBr
    generalize sBuild (szs s) B = b at g3 g4
    obtain ⟨x1, x2⟩ := b
    dsimp only at g3 g4
    have g6 := rsame_fn x1 x1
    rw [decT rfl] at g6
    refine zst ?_
    simp only [hB1]
    refine zcm (fd) ?_
    refine evr_freeze 9 rfl rfl ?_
    refine zcd (gs) ?_
    refine zcd (g3) ?_
    refine zcd (gs) ?_
    refine zcd (g4) ?_
    refine zcd (ga) ?_
    refine zcd (g6) ?_
    refine zcd (fa) ?_
    exact zrt m_pmade_ok
theorem pmade_law {a0 : List Int} {v0 : Value} {a1 : Int} {v1 : Value} {a2 : Int} {v2 : Value} (W : World) (e0 : (Sh.slice (Sh.int .i64)).rd (old W) W a0 [v0]) (e1 : (Sh.int .i64).rd (old W) W a1 [v1]) (e2 : (Sh.int .i64).rd (old W) W a2 [v2]) :
    Calls Try.prog 10 #[v0, v1, v2] W fun e w' => e = .returned (.bool true) ∧ Below W.heap.size W w' :=
  Fnc.law (pmade_fn a0 a1 a2) (RdTs.slice enc_i64s e0 (RdTs.int e1 (RdTs.int e2 RdTs.nil')))
end Go.Proofs.Ytcphobeommkgeaa
