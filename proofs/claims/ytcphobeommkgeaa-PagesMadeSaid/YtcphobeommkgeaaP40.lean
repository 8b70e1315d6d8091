/- Pages: states of other shapes; all pages, to be written. -/
import Derived.Test.YtcphobeommkgeaaP36
import Derived.Test.YtcphobeommkgeaaC5
import Derived.Test.YtcphobeommkgeaaP38
import Derived.Test.YtcphobeommkgeaaGz
namespace Go.Proofs.Ytcphobeommkgeaa
open Go Go.RowKit Rdn Rdn.Dp
set_option linter.unusedVariables false
set_option linter.unusedSimpArgs false
theorem m_odd_ok : compF Try.prog 45 = some (42, Qr ([Qw 3 (.box 30 (.t 1)), Qw 4 (.alloc 30 (.agg [.nilS, .nilS]))])
 (Qr ([QL 6 2 3, Qq 7 47 [(.t 6)], Qw 5 (.alloc 30 (.agg [.nilS, .nilS])), Qs 2 5 7])
 (.seq (Qr ([Qm 8 0, Qq 9 19 [(.t 8), (Qi 4)]])
 (.block 0 (Qr ([Qk 15 .eql 9 0, Qm 14 15])
 (.cond (.t 14) (.reg [Qf 16 0 0 5, Ql 17 1 16, Qw 18 (.buildS 40 1 (.nilS) 1 [(0, (.c (.nilS)))]), Qw 19 (.app 40 1 24 (.t 17) (.t 18)), Qf 20 0 0 5, Qs 1 20 19]) (Qr ([Qk 22 .eql 9 1, Qm 21 22])
 (.cond (.t 21) (.dreg [Qf 23 0 0 5, Ql 24 1 23, Qf 25 0 0 5, Ql 26 1 25, Qp 27 (.idxA 1 (.t 26) (Qi 0)), Ql 28 1 27, Qm 29 0, Qq 30 19 [(.t 29), (Qi 40)], Qw 31 (.appz 84 4 24 (.agg [.int .u8 0, .int .u16 0, .int .i64 0, .int .i64 0]) (.t 28) (.t 30)), Qp 32 (.idxA 1 (.t 24) (Qi 0)), Qs 1 32 31] [[], [0], [], [2], [2, 3], [2, 3, 4], [], [6], [2, 3, 4, 5, 6, 7], [0, 1, 2, 3, 4, 5, 6, 7, 8], [0, 1, 2, 3, 4, 5, 6, 7, 8, 9]]) (Qr ([Qk 34 .eql 9 2, Qm 33 34])
 (.cond (.t 33) (.reg [Qf 35 1 1 5, Ql 36 1 35, Qw 37 (.build none [.int .i64 0, .int .i64 0, .int .i64 0, .int .i64 0, .int .i64 0, .int .i64 0, .int .u16 0, .nilS] []), Qw 38 (.buildS 43 8 (.agg [.int .i64 0, .int .i64 0, .int .i64 0, .int .i64 0, .int .i64 0, .int .i64 0, .int .u16 0, .nilS]) 1 [(0, (.t 37))]), Qw 39 (.app 43 8 80 (.t 36) (.t 38)), Qf 40 1 1 5, Qs 1 40 39]) (.reg [Qf 10 0 0 5, Ql 11 1 10, Qw 12 (.sl 1 (.t 11) (some (Qi 1)) none none), Qf 13 0 0 5, Qs 1 13 12])))))))))
 (Qr ([QL 41 2 5, Qs 2 4 41])
 (.ret)))), [.load true 2 (.t 4)]) := by kernel_rfl
def c0 : Canon := ⟨0, 0, 0, 0⟩
/-- A state whose shape is another one. -/
def sOd (l : List Int) (s : State) (k : Nat) : State × Nat :=
  if dnx l k 4 = 0 then (⟨s.regions ++ [[]], s.threads⟩, dkx l k)
  else if dnx l k 4 = 1 then (⟨s.regions.set 0 (s.regions[0]! ++ List.replicate (dnx l (dkx l k) 40).toNat c0), s.threads⟩, dkx l (dkx l k))
  else if dnx l k 4 = 2 then (⟨s.regions, s.threads ++ [zvw]⟩, dkx l k)
  else (⟨s.regions.drop 1, s.threads⟩, dkx l k)
theorem sOd_low {l : List Int} {s : State} {k : Nat} (F : Fine s) (hk : k ≤ l.length) : LowS (sOd l s k).1 := by
  have L := fine_low F
  have H := F.shp
  have h1 := H.r
  have h2 := H.t
  have h3 := F.one
  unfold sOd
  split
  · refine ⟨by simp; omega, fun x hx => ?_, L.t, L.g⟩
    rcases List.mem_append.1 hx with hx | hx
    · exact L.c x hx
    · rw [List.mem_singleton.1 hx]; exact Nat.zero_le _
  · split
    · refine ⟨by simp; omega, fun x hx => ?_, L.t, L.g⟩
      rcases List.mem_or_eq_of_mem_set hx with hx | rfl
      · exact L.c x hx
      · have g1 := dnx_lt (l := l) (k := dkx l k) (n := 40) (by omega)
        have := H.z 0 (by omega)
        simp only [List.length_append, List.length_replicate]; omega
    · split
      · refine ⟨L.r, L.c, by simp; omega, fun x hx => ?_⟩
        rcases List.mem_append.1 hx with hx | hx
        · exact L.g x hx
        · rw [List.mem_singleton.1 hx]; exact Nat.zero_le _
      · exact ⟨by simp; omega, fun x hx => L.c x (List.mem_of_mem_drop hx), L.t, L.g⟩
theorem subVs_snoc {x y : V} (h : SubV x y) : ∀ l : List V, SubVs (l ++ [x]) (l ++ [y])
  | [] => ⟨h, trivial⟩
  | a :: l => ⟨SubV.refl a, subVs_snoc h l⟩
theorem sOd_le {l : List Int} {s : State} {k : Nat} (hk : k ≤ l.length) : (sOd l s k).2 ≤ l.length := by
  unfold sOd
  split
  · exact dkx_le hk
  · split
    · exact dkx_le (dkx_le hk)
    · split
      · exact dkx_le hk
      · exact dkx_le hk
set_option maxHeartbeats 16000000 in
theorem odd_fn (l : List Int) (s : State) (k : Nat) (F : Fine s) (hk : k ≤ l.length) : FncM Try.prog 45 91 (deckV l k) [staV s] (fun x obs c => x = staV (sOd l s k).1 ∧ obs = [] ∧ c = deckV l (sOd l s k).2) := by
  refine FncM.low ?_
  have L := fine_low F
  have H := F.shp
  have h1 := H.r
  have h2 := H.t
  have h3 := F.one
  have g0 := dnx_ge (l := l) (k := k) (n := 4) (by omega)
  have g1 := dnx_lt (l := l) (k := k) (n := 4) (by omega)
  have fd := next_fn l k 4 hk (by omega)
  have fT := zcopyT_fn s L (by omega) (by omega)
  by_cases d0 : dnx l k 4 = 0
  · rw [show sOd l s k = (⟨s.regions ++ [[]], s.threads⟩, dkx l k) from if_pos d0]
    rw [d0] at fd
    have hS : s.regions.map (slV' true 4 canonV) ++ [V.sl true 4 []] = (s.regions ++ [[]]).map (slV' true 4 canonV) := by simp
    have hsb : SubVs (s.regions.map (slV' true 4 canonV) ++ [V.nilS]) ((s.regions ++ [[]]).map (slV' true 4 canonV)) := by
      rw [← hS]; exact subVs_snoc (SubV.nil _ _) _
    refine zgM m_odd_ok fun W S b0 hb0 => ?_
    refine zcx (fT) ?_
    refine zcm (fd) ?_
    refine ev_rowSub 3 _ rfl hsb (pures_lo _ _) (unif_map (f := slV' true 4 canonV) (fun a => rfl) _) ?_
    simp only [go_sem]
    exact zrm hb0 m_odd_ok
  by_cases d1 : dnx l k 4 = 1
  · have hr : sOd l s k = (⟨s.regions.set 0 (s.regions[0]! ++ List.replicate (dnx l (dkx l k) 40).toNat c0), s.threads⟩, dkx l (dkx l k)) := by unfold sOd; rw [if_neg d0, if_pos d1]
    rw [hr]
    rw [d1] at fd
    have b0 := dnx_ge (l := l) (k := dkx l k) (n := 40) (by omega)
    have b1 := dnx_lt (l := l) (k := dkx l k) (n := 40) (by omega)
    obtain ⟨m, hm⟩ := Int.eq_ofNat_of_zero_le b0
    have fe := next_fn l (dkx l k) 40 (dkx_le hk) (by omega)
    rw [hm] at fe b1 ⊢
    rw [Int.toNat_natCast]
    have fJ := zcopyJ_fn s L 0 (by omega) (by omega) (by omega)
    have hz := H.z 0 (by omega)
    have hlen : ((s.regions.map (slV' true 4 canonV)).set 0 (.own 5 0)).length = s.regions.length := by rw [List.length_set, List.length_map]
    have hat : ((s.regions.map (slV' true 4 canonV)).set 0 (.own 5 0)).getD 0 .junk = .own 5 0 := by
      rw [List.getD_eq_getElem?_getD, List.getElem?_set_self (by rw [List.length_map]; omega)]; rfl
    have hA : s.regions[0]!.map canonV ++ List.replicate m (V.agg [.int .u8 0, .int .u16 0, .int .i64 0, .int .i64 0]) = (s.regions[0]! ++ List.replicate m c0).map canonV := by simp [c0]
    refine zgM m_odd_ok fun W S b0 hb0 => ?_
    refine zcx (fJ) ?_
    refine Rdn.Dp.zcn (fd) ?_
    refine zso ?_
    refine ev_draw (fu := []) mixed [] 0 rfl (by kernel_rfl) ?_
    refine evw_all (md := []) (fu := [(), (), (), (), (), (), ()]) ?_
    refine zev ?_
    simp only [hlen, hat]
    simp only [go_sem]
    refine ⟨by omega, ?_⟩
    apply evw_callM fe rfl
    · (simp only [go_sem]; rfl)
    · rfl
    · (first | rfl | (simp only [go_sem]; done))
    · (first | rfl | (simp only [go_sem]; done) | (simp only [go_sem]; rfl))
    · (first | rfl | (simp only [go_sem]; done))
    · (first | rfl | (simp only [go_sem]; done))
    · (first | rfl | (simp only [go_sem]; done))
    simp only [go_sem]
    refine evw_g (gen_appz (q := s.regions[0]!.map canonV) (b := 24) (r := 5) (g := 0) (m := m) (kq := .i64) rfl rfl rfl rfl (by rw [List.length_map]; omega) (by rw [List.length_map]; omega)) rfl ?_
    simp only [go_sem]
    simp only [hA]
    refine evw_all (md := []) (fu := [(), ()]) ?_
    refine zev ?_
    refine ⟨⟨by omega, by rw [hat]; rfl⟩, ?_⟩
    refine evw_nil (by kernel_rfl) ?_
    refine ev_frzIn 3 0 5 rfl rfl (by rw [List.getElem?_set_self (by rw [List.length_set, List.length_map]; omega)]) ?_
    simp only [go_sem]
    have hfin : (((s.regions.map (slV' true 4 canonV)).set 0 (.own 5 0)).set 0 (.own 5 1)).set 0 (.sl true 4 ((s.regions[0]! ++ List.replicate m c0).map canonV)) = (s.regions.set 0 (s.regions[0]! ++ List.replicate m c0)).map (slV' true 4 canonV) := by
      rw [List.set_set, List.set_set, List.map_set]
    rw [hfin]
    refine ev_toRow 3 rfl (pures_lo _ _) ?_
    simp only [go_sem]
    refine zst ?_
    exact zrm hb0 m_odd_ok
  by_cases d2 : dnx l k 4 = 2
  · have hr : sOd l s k = (⟨s.regions, s.threads ++ [zvw]⟩, dkx l k) := by unfold sOd; rw [if_neg d0, if_neg d1, if_pos d2]
    rw [hr]
    rw [d2] at fd
    have hS : s.threads.map (viewV true) ++ [viewV true zvw] = (s.threads ++ [zvw]).map (viewV true) := by simp
    have hsb : SubVs (s.threads.map (viewV true) ++ [zvwV]) ((s.threads ++ [zvw]).map (viewV true)) := by
      rw [← hS]; exact subVs_snoc (zvw_sub true) _
    refine zgM m_odd_ok fun W S b0 hb0 => ?_
    refine zcx (fT) ?_
    refine zcm (fd) ?_
    refine ev_rowSub 4 _ rfl hsb (pures_lo _ _) (unif_map (f := viewV true) (fun a => rfl) _) ?_
    simp only [go_sem]
    exact zrm hb0 m_odd_ok
  · have hr : sOd l s k = (⟨s.regions.drop 1, s.threads⟩, dkx l k) := by unfold sOd; rw [if_neg d0, if_neg d1, if_neg d2]
    rw [hr]
    have hD : List.drop 1 (List.take s.regions.length (List.map (slV' true 4 canonV) s.regions)) = (s.regions.drop 1).map (slV' true 4 canonV) := by
      rw [List.take_of_length_le (by simp), List.map_drop]
    refine zgM m_odd_ok fun W S b0 hb0 => ?_
    refine zcx (fT) ?_
    refine zcm (fd) ?_
    exact zrn hb0 m_odd_ok hD
set_option maxHeartbeats 8000000 in
theorem zallO_fn (s : State) (L : LowS s) (c1 : shp s = true) : Fnc Try.prog 17 [staV s] (fun x obs => x = .tup [.own 0 0, .int .i64 0] ∧ obs = [⟨.row 45, true, 0, .arr 11 ((pgs s).map (pgV true))⟩]) := by
  have f2 := zsizes_fn s L.r
  have f3 := zlist_fn (szs s) s.threads.length
  rw [sList_sh c1] at f3
  have hn := idsF_le' c1
  have hT : ∀ k, k < (idsF (szs s) s.threads.length).length → There s (idsF (szs s) s.threads.length)[k]! := fun k hk => mem_idsF (mem_at hk) (shp_to c1)
  have hP : pgs s = (idsF (szs s) s.threads.length).map (getP s) := rfl
  generalize idsF (szs s) s.threads.length = D at f3 hn hT hP
  rw [hP]
  refine zgo m_zall_ok fun W S => ?_
  refine zcd (f2) ?_
  refine zcd (f3) ?_
  refine ev_adopt (i := 6) (e := 45) (s := 11) rfl (by decide) ?_
  refine ev_loopK [1, 4] (fun p : {p : Nat // p ≤ D.length} => [(6, .own 1 p.1), (7, .int .i64 p.1)]) (fun p => [⟨.box false 30, true, 0, staV s⟩, ⟨.row 45, true, p.1, .arr 11 (((D.take p.1).map (getP s)).map (pgV true))⟩]) (fun p => D.length - p.1) (⟨0, by simp⟩) 2 (by simp only [go_sem]; rfl) ?_ (by first | rfl | (simp only [go_sem]; done)) (by simp) (by first | rfl | (simp only [go_sem]; done)) (by first | rfl | (simp only [go_sem]; done)) (by first | rfl | (simp only [go_sem]; done)) ?_
  · (simp only [go_sem]; (try simp []); done)
  intro J hJ
  rintro ⟨k, hk0⟩
  by_cases hlt : k < D.length
  · have f4 := zget_fn s D[k]! L
    rw [sGet_0 c1 (hT k hlt)] at f4
    have hs : ((D.take k).map (getP s)).map (pgV true) ++ [pgV true (getP s D[k]!)] = ((D.take (k + 1)).map (getP s)).map (pgV true) := by rw [take_snoc hlt, List.map_append, List.map_append]; rfl
    have hgl : ((D.take k).map (getP s)).length = k := by rw [List.length_map, List.length_take]; omega
    refine zst ?_
    refine zcd (f4) ?_
    exact zn2 (hJ _ (⟨k + 1, hlt⟩) (by first | omega | (dsimp only; omega) | (simp; omega))) hs
  · obtain rfl : k = D.length := by omega
    dsimp only
    rw [List.take_length]
    refine zst ?_
    refine ret m_zall_ok [1] ?_; exact zfn
end Go.Proofs.Ytcphobeommkgeaa
