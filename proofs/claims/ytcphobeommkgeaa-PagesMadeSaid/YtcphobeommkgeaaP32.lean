/- Pages: Set. -/
import Derived.Test.YtcphobeommkgeaaP29
import Derived.Test.YtcphobeommkgeaaC5
import Derived.Test.YtcphobeommkgeaaP30
import Derived.Test.YtcphobeommkgeaaP31
import Derived.Test.YtcphobeommkgeaaP33
namespace Go.Proofs.Ytcphobeommkgeaa
open Go Go.RowKit Rdn Rdn.Dp
set_option linter.unusedVariables false
set_option linter.unusedSimpArgs false
theorem m_pset_ok : compF Try.prog 36 = some (78, Qr ([Qw 2 (.box 30 (.t 0)), Qw 3 (.box 45 (.t 1)), Qw 4 (.alloc 30 (.agg [.nilS, .nilS])), Qp 5 (.mov (Qi 0))])
 (.seq (Qr ([QL 9 2 2, Qf 10 0 0 3, QL 11 2 10, Qq 12 59 [(.t 9), (.t 11)], Qm 6 12])
 (Qr ([Qm 13 6, Qk 14 .neq 13 0])
 (.cond (.t 14) (Qr ([Qw 15 (.build none [.nilS, .nilS] []), Qm 16 6, Qs 2 4 15, Qm 5 16])
 (.ret)) (.skip))))
 (.seq (Qr ([Qf 17 0 0 3, Qf 18 0 0 17, Ql 19 1 18, Qk 20 .eql 19 (-1)])
 (.cond (.t 20) (.seq (Qr ([Qf 21 2 1 3, Ql 22 1 21, Qn 23 22, Qk 24 .gtr 23 0])
 (.cond (.t 24) (Qr ([Qw 25 (.build none [.nilS, .nilS] []), Qs 2 4 25, Qp 5 (.mov (Qi 5))])
 (.ret)) (.skip)))
 (Qr ([QL 26 2 2, Qq 27 75 [(.t 26)], Qw 7 (.alloc 30 (.agg [.nilS, .nilS])), Qs 2 7 27])
 (.seq (.dreg [Qf 28 1 1 7, Ql 29 1 28, Qf 30 0 0 3, Qf 31 1 1 30, Ql 32 1 31, Qf 33 3 2 3, QL 34 8 33, Qq 35 76 [(.t 34)], Qx 36 8 29 32, Qs 8 36 35] [[], [0], [], [2], [2, 3], [], [5], [5, 6], [0, 1, 2, 3, 4, 5, 6, 7], [0, 1, 2, 3, 4, 5, 6, 7, 8]])
 (Qr ([QL 37 2 7, Qs 2 4 37, Qp 5 (.mov (Qi 0))])
 (.ret))))) (.skip)))
 (.seq (.seq (.dreg [Qf 38 2 1 3, Ql 39 1 38, Qn 40 39, Qf 41 0 0 2, Ql 42 1 41, Qf 43 0 0 3, Qf 44 0 0 43, Ql 45 1 44, Qx 46 1 42 45, Ql 47 1 46, Qf 48 0 0 3, Qf 49 1 1 48, Ql 50 1 49, Qq 51 77 [(.t 47), (.t 50)], Qn 52 51, Qb 53 .neq 40 52, Qm 54 53, Q0 55 54 (.fieldA 3 2 (.t 3)), Q0 56 54 (.load true 8 (.t 55)), ⟨(some 57), (some (54, false)), (.call 78 [(.t 56)])⟩, Q0 58 54 (.un .not (.t 57)), Qt 59 54 58] [[], [0], [0, 1], [], [3], [], [5], [5, 6], [3, 4, 5, 6, 7], [3, 4, 5, 6, 7, 8], [], [10], [10, 11], [3, 4, 5, 6, 7, 8, 9, 10, 11, 12], [3, 4, 5, 6, 7, 8, 9, 10, 11, 12, 13], [0, 1, 2, 3, 4, 5, 6, 7, 8, 9, 10, 11, 12, 13, 14], [0, 1, 2, 3, 4, 5, 6, 7, 8, 9, 10, 11, 12, 13, 14, 15], [0, 1, 2, 3, 4, 5, 6, 7, 8, 9, 10, 11, 12, 13, 14, 15, 16], [0, 1, 2, 3, 4, 5, 6, 7, 8, 9, 10, 11, 12, 13, 14, 15, 16, 17], [0, 1, 2, 3, 4, 5, 6, 7, 8, 9, 10, 11, 12, 13, 14, 15, 16, 17, 18], [0, 1, 2, 3, 4, 5, 6, 7, 8, 9, 10, 11, 12, 13, 14, 15, 16, 17, 18, 19], [0, 1, 2, 3, 4, 5, 6, 7, 8, 9, 10, 11, 12, 13, 14, 15, 16, 17, 18, 19, 20]])
 (.cond (.t 59) (Qr ([Qw 60 (.build none [.nilS, .nilS] []), Qs 2 4 60, Qp 5 (.mov (Qi 5))])
 (.ret)) (.skip)))
 (Qr ([QL 61 2 2, Qq 62 75 [(.t 61)], Qw 8 (.alloc 30 (.agg [.nilS, .nilS])), Qs 2 8 62])
 (.seq (.dreg [Qf 63 0 0 8, Ql 64 1 63, Qf 65 0 0 3, Qf 66 0 0 65, Ql 67 1 66, Qx 68 1 64 67, Ql 69 1 68, Qf 70 0 0 3, Qf 71 1 1 70, Ql 72 1 71, Qq 73 77 [(.t 69), (.t 72)], Qf 74 2 1 3, Ql 75 1 74, Qw 76 (.copy 84 4 (.t 73) (.t 75))] [[], [0], [], [2], [2, 3], [0, 1, 2, 3, 4], [0, 1, 2, 3, 4, 5], [], [7], [7, 8], [0, 1, 2, 3, 4, 5, 6, 7, 8, 9], [], [11], [0, 1, 2, 3, 4, 5, 6, 7, 8, 9, 10, 11, 12]])
 (Qr ([QL 77 2 8, Qs 2 4 77, Qp 5 (.mov (Qi 0))])
 (.ret))))))), [.load true 2 (.t 4), .mov (.t 5)]) := by kernel_rfl
theorem m_zset_ok : compF Try.prog 83 = some (72, Qr ([Qw 2 (.box 30 (.t 0)), Qw 3 (.box 45 (.t 1)), Qw 4 (.alloc 30 (.agg [.nilS, .nilS])), Qp 5 (.mov (Qi 0))])
 (Qr ([QL 10 2 2, Qf 11 0 0 3, QL 12 2 11, Qq 13 52 [(.t 10), (.t 12)], Qm 9 13, Qe 14 9 0, Qe 15 9 1, Qw 6 (.alloc 45 (.agg [.agg [.int .i64 0, .int .i64 0], .nilS, .agg [.int .i64 0, .int .i64 0, .int .i64 0, .int .i64 0, .int .i64 0, .int .i64 0, .int .u16 0, .nilS]])), Qs 11 6 14, Qm 7 15])
 (.seq (Qr ([Qm 16 7, Qk 17 .neq 16 0])
 (.cond (.t 17) (Qr ([Qw 18 (.build none [.nilS, .nilS] []), Qm 19 7, Qs 2 4 18, Qm 5 19])
 (.ret)) (.skip)))
 (.seq (Qr ([Qf 20 2 1 3, Ql 21 1 20, Qn 22 21, Qf 23 2 1 6, Ql 24 1 23, Qn 25 24, Qb 26 .neq 22 25, Qm 27 26, Q0 28 27 (.fieldA 0 0 (.t 3)), Q0 29 27 (.fieldA 0 0 (.t 28)), Q0 30 27 (.load false 1 (.t 29)), Q0 31 27 (.bin 0 .neq (.t 30) (Qi (-1))), Q0 32 27 (.mov (.t 31)), Q1 33 32 (.fieldA 3 2 (.t 3)), Q1 34 32 (.load true 8 (.t 33)), ⟨(some 35), (some (32, true)), (.call 103 [(.t 34)])⟩, Q1 36 32 (.un .not (.t 35)), Q0 37 27 (.pick (.t 32) (.t 36) (.c (.bool false))), Qt 38 27 37])
 (.cond (.t 38) (Qr ([Qw 39 (.build none [.nilS, .nilS] []), Qs 2 4 39, Qp 5 (.mov (Qi 5))])
 (.ret)) (.skip)))
 (Qr ([QL 40 2 2, Qq 41 47 [(.t 40)], Qw 8 (.alloc 30 (.agg [.nilS, .nilS])), Qs 2 8 41])
 (.seq (Qr ([Qf 42 0 0 3, Qf 43 0 0 42, Ql 44 1 43, Qk 45 .eql 44 (-1)])
 (.cond (.t 45) (.seq (.dreg [Qf 46 1 1 8, Ql 47 1 46, Qf 48 0 0 3, Qf 49 1 1 48, Ql 50 1 49, Qf 51 3 2 3, QL 52 8 51, Qq 53 88 [(.t 52)], Qx 54 8 47 50, Qs 8 54 53] [[], [0], [], [2], [2, 3], [], [5], [5, 6], [0, 1, 2, 3, 4, 5, 6, 7], [0, 1, 2, 3, 4, 5, 6, 7, 8]])
 (Qr ([QL 55 2 8, Qs 2 4 55, Qp 5 (.mov (Qi 0))])
 (.ret))) (.skip)))
 (.seq (.dreg [Qf 56 0 0 8, Ql 57 1 56, Qf 58 0 0 3, Qf 59 0 0 58, Ql 60 1 59, Qx 61 1 57 60, Ql 62 1 61, Qf 63 0 0 3, Qf 64 1 1 63, Ql 65 1 64, Qk 66 .mul 65 8, Qw 67 (.sl 4 (.t 62) (some (.t 66)) none none), Qf 68 2 1 3, Ql 69 1 68, Qw 70 (.copy 84 4 (.t 67) (.t 69))] [[], [0], [], [2], [2, 3], [0, 1, 2, 3, 4], [0, 1, 2, 3, 4, 5], [], [7], [7, 8], [7, 8, 9], [0, 1, 2, 3, 4, 5, 6, 7, 8, 9, 10], [], [12], [0, 1, 2, 3, 4, 5, 6, 7, 8, 9, 10, 11, 12, 13]])
 (Qr ([QL 71 2 8, Qs 2 4 71, Qp 5 (.mov (Qi 0))])
 (.ret)))))))), [.load true 2 (.t 4), .mov (.t 5)]) := by kernel_rfl
abbrev nostV : V := .agg [.nilS, .nilS]
theorem nost_sub : SubV nostV (staV nost) := SubV.agg ⟨SubV.nil _ _, SubV.nil _ _, trivial⟩
theorem over_can (l m : List Canon) (j : Nat) : over (l.map canonV) j (m.map canonV) = (ovr l j m).map canonV := by
  simp only [over, ovr, List.length_map, ← List.map_take, ← List.map_drop, ← List.map_append]
theorem set_set' (l : List V) (j : Nat) (x y : V) : (l.set j x).set j y = l.set j y := List.set_set ..
theorem put_low {s : State} {p : Page} (L : LowS s) (hb : p.view.regs.length ≤ 5864062014634) (hT : There s p.id) (hk : okP s p) : LowS (putP s p) := by
  have h := put_sm hT hk
  unfold okP at hk
  unfold putP
  rcases hT with ⟨k1, k2, k3⟩ | ⟨k1, k2, k3, k4, k5⟩
  · rw [if_pos k1]
    refine ⟨L.r, L.c, by simp only [List.length_set]; exact L.t, fun x hx => ?_⟩
    rcases List.mem_or_eq_of_mem_set hx with hx | rfl
    · exact L.g x hx
    · exact hb
  · rw [if_neg (by omega)] at hk ⊢
    rw [prt_size k3 k4] at hk
    refine ⟨by simp only [List.length_set]; exact L.r, fun x hx => ?_, L.t, L.g⟩
    rcases List.mem_or_eq_of_mem_set hx with hx | rfl
    · exact L.c x hx
    · rw [ovr_len (by omega)]
      exact L.c _ (mem_at (by omega))
theorem set_low {s : State} {p : Page} (L : LowS s) (hb : p.view.regs.length ≤ 5864062014634) (h : (sSet s p).2 = 0) : LowS (sSet s p).1 := by
  unfold sSet at h ⊢
  by_cases c0 : (sGet s p.id).2 = 0
  · rw [if_pos c0] at h ⊢
    by_cases c1 : okP s p
    · rw [if_pos c1]
      refine put_low L hb ?_ c1
      unfold sGet at c0
      by_cases c2 : shp s = true
      · rw [if_pos c2] at c0
        by_cases c3 : There s p.id
        · exact c3
        · rw [if_neg c3] at c0; cases c0
      · rw [if_neg c2] at c0; cases c0
    · rw [if_neg c1] at h; cases h
  · rw [if_neg c0] at h; exact absurd h c0
attribute [local irreducible] shp
set_option maxHeartbeats 16000000 in
theorem pset_fn (s : State) (p : Page) (L : LowS s) (hb : p.view.regs.length ≤ 5864062014634) : Fnc Try.prog 36 [staV s, pgV false p] (fun x obs => x = .tup [staV (sSet s p).1, .int .i64 (sSet s p).2] ∧ obs = []) := by
  refine Fnc.low ?_
  obtain ⟨d, cs, v⟩ := p
  have ff := find_fn s d
  by_cases c0 : (sGet s d).2 = 0
  rotate_left
  · rw [sSet_e (p := ⟨d, cs, v⟩) rfl c0]
    generalize (sGet s d).2 = e at ff c0
    refine zgo m_pset_ok fun W S => ?_
    refine zcd (ff) ?_
    refine ev_obSub 2 _ rfl nost_sub rfl ?_
    exact zrt m_pset_ok
  have hsh : shp s = true := by
    cases h : shp s with
    | true => rfl
    | false => rw [sGet_1 h] at c0; cases c0
  have hT : There s d := by
    by_cases h : There s d
    · exact h
    · rw [sGet_30 hsh h] at c0; cases c0
  have H := shp_to hsh
  have Hr := H.r
  have Ht := H.t
  rw [c0] at ff
  by_cases c1 : d.region = -1
  · have hd : 0 ≤ d.index ∧ d.index < s.threads.length := by unfold There at hT; omega
    by_cases c2 : cs.length = 0
    · have hk : okP s ⟨d, cs, v⟩ := by unfold okP; rw [if_pos c1]; exact c2
      rw [sSet_0 (p := ⟨d, cs, v⟩) hsh hT hk, show putP s ⟨d, cs, v⟩ = ⟨s.regions, s.threads.set d.index.toNat v⟩ from if_pos c1]
      have fs := cstT_fn s L (by omega) (by omega)
      have fv := vcop_fn v hb
      have hS : (s.threads.map (viewV true)).set d.index.toNat (viewV true v) = (s.threads.set d.index.toNat v).map (viewV true) := by rw [List.map_set]
      refine zgo m_pset_ok fun W S => ?_
      refine zcd (ff) ?_
      refine zcx (fs) ?_
      refine zcd (fv) ?_
      exact zrh m_pset_ok hS
    · have hk : ¬ okP s ⟨d, cs, v⟩ := by unfold okP; rw [if_pos c1]; exact c2
      rw [sSet_5 (p := ⟨d, cs, v⟩) hsh hT hk]
      refine zgo m_pset_ok fun W S => ?_
      refine zcd (ff) ?_
      refine ev_obSub 2 _ rfl nost_sub rfl ?_
      exact zrt m_pset_ok
  have hd : 0 ≤ d.region ∧ d.region < s.regions.length ∧ 0 ≤ d.index ∧ d.index ≤ 32 ∧ 8 * d.index < s.regions[d.region.toNat]!.length := by unfold There at hT; omega
  have fp := part_fn s.regions[d.region.toNat]! d.index
  have fe := wempty_fn v
  by_cases c2 : cs.length = (prt s.regions[d.region.toNat]! d.index).length
  rotate_left
  · have hk : ¬ okP s ⟨d, cs, v⟩ := by unfold okP; rw [if_neg c1]; exact fun h => c2 h.1
    rw [sSet_5 (p := ⟨d, cs, v⟩) hsh hT hk]
    refine zgo m_pset_ok fun W S => ?_
    refine zcd (ff) ?_
    refine zcd (fp) ?_
    refine ev_obSub 2 _ rfl nost_sub rfl ?_
    exact zrt m_pset_ok
  by_cases c3 : v = zvw
  rotate_left
  · have hk : ¬ okP s ⟨d, cs, v⟩ := by unfold okP; rw [if_neg c1]; exact fun h => c3 h.2
    rw [sSet_5 (p := ⟨d, cs, v⟩) hsh hT hk]
    rw [decF c3] at fe
    refine zgo m_pset_ok fun W S => ?_
    refine zcd (ff) ?_
    refine zcd (fp) ?_
    refine zcd (fe) ?_
    refine ev_obSub 2 _ rfl nost_sub rfl ?_
    exact zrt m_pset_ok
  have hk : okP s ⟨d, cs, v⟩ := by unfold okP; rw [if_neg c1]; exact ⟨c2, c3⟩
  rw [sSet_0 (p := ⟨d, cs, v⟩) hsh hT hk, show putP s ⟨d, cs, v⟩ = ⟨s.regions.set d.region.toNat (ovr s.regions[d.region.toNat]! (8 * d.index).toNat cs), s.threads⟩ from if_neg c1]
  rw [decT c3] at fe
  have hz := H.z d.region.toNat (by omega)
  have hps := prt_size (l := s.regions[d.region.toNat]!) hd.2.2.1 hd.2.2.2.1
  have hov : over (List.map canonV s.regions[d.region.toNat]!) (d.index * 8).toNat ((srcP 5 0 4 (List.map canonV s.regions[d.region.toNat]!) (V.sl false 4 (List.map canonV cs))).1.take ((min (d.index * 8 + 8) (s.regions[d.region.toNat]!.length : Int)).toNat - (d.index * 8).toNat)) = (ovr s.regions[d.region.toNat]! (8 * d.index).toNat cs).map canonV := by
    rw [Int.mul_comm d.index 8]
    simp only [srcP]
    rw [List.take_of_length_le (by rw [List.length_map]; omega), over_can]
  have fs := cstJ_fn s L d.region.toNat (by omega) (by omega) (by omega)
  refine zgo m_pset_ok fun W S => ?_
  refine zcd (ff) ?_
  refine zcd (fp) ?_
  refine zcd (fe) ?_
  have hlen : ((s.regions.map (slV' true 4 canonV)).set d.region.toNat (.own 5 0)).length = s.regions.length := by rw [List.length_set, List.length_map]
  have hat : ((s.regions.map (slV' true 4 canonV)).set d.region.toNat (.own 5 0)).getD d.region.toNat .junk = .own 5 0 := by
    rw [List.getD_eq_getElem?_getD, List.getElem?_set_self (by rw [List.length_map]; omega)]; rfl
  (first | refine callX (fs) ?_ | refine callXw (fs) ?_); refine zev ?_
  refine zso ?_
  refine ev_draw (fu := []) mixed [] 0 rfl (by kernel_rfl) ?_
  refine evw_all (md := []) (fu := [(), (), (), (), (), (), (), (), (), ()]) ?_
  refine zev ?_
  refine zsx (And.intro hlen (hat)) ?_
  refine evw_g (gen_callO (f := 77) (r := 5) (g := 0) (i := d.index) (kk := .row 84) rfl (.inl rfl) rfl (fun A c w hc => part_raw d.index A _ c (by omega) (by omega) (by rw [List.length_map]; omega) hc (by rw [List.length_map]; omega) w)) rfl ?_
  simp only [go_sem]
  refine evw_all (md := []) (fu := [(), ()]) ?_
  refine zev ?_
  refine evw_g (gen_copy (r := 5) (g := 0) (kk := .row 84) rfl (.inl rfl) rfl (.inr rfl) (by omega) (by rw [List.length_map]; omega)) rfl ?_
  simp only [go_sem]
  simp only [hov]
  refine evw_nil (by kernel_rfl) ?_
  refine ev_frzIn 3 d.region.toNat 5 rfl rfl (by rw [List.getElem?_set_self (by rw [List.length_map]; omega)]) ?_
  simp only [go_sem]
  have hfin : ((s.regions.map (slV' true 4 canonV)).set d.region.toNat (.own 5 0)).set d.region.toNat (.sl true 4 ((ovr s.regions[d.region.toNat]! (8 * d.index).toNat cs).map canonV)) = (s.regions.set d.region.toNat (ovr s.regions[d.region.toNat]! (8 * d.index).toNat cs)).map (slV' true 4 canonV) := by
    rw [List.set_set, List.map_set]
  rw [hfin]
  refine ev_toRow 3 rfl (pures_lo _ _) ?_
  simp only [go_sem]
  refine zst ?_
  exact zrt m_pset_ok
set_option maxHeartbeats 16000000 in
theorem zset_fn (s : State) (p : Page) (L : LowS s) (hb : p.view.regs.length ≤ 5864062014634) : Fnc Try.prog 83 [staV s, pgV false p] (fun x obs => x = .tup [staV (sSet s p).1, .int .i64 (sSet s p).2] ∧ obs = []) := by
  refine Fnc.low ?_
  obtain ⟨d, cs, v⟩ := p
  have ff := zget_fn s d L
  by_cases c0 : (sGet s d).2 = 0
  rotate_left
  · rw [sSet_e (p := ⟨d, cs, v⟩) rfl c0]
    generalize sGet s d = e at ff c0
    obtain ⟨e1, e2⟩ := e
    dsimp only at ff c0
    refine zgo m_zset_ok fun W S => ?_
    refine zcd (ff) ?_
    refine ev_obSub 2 _ rfl nost_sub rfl ?_
    exact zrt m_zset_ok
  have hsh : shp s = true := by
    cases h : shp s with
    | true => rfl
    | false => rw [sGet_1 h] at c0; cases c0
  have hT : There s d := by
    by_cases h : There s d
    · exact h
    · rw [sGet_30 hsh h] at c0; cases c0
  have H := shp_to hsh
  have Hr := H.r
  have Ht := H.t
  rw [sGet_0 hsh hT] at ff
  by_cases c1 : d.region = -1
  · have hd : 0 ≤ d.index ∧ d.index < s.threads.length := by unfold There at hT; omega
    rw [show getP s d = ⟨d, [], s.threads[d.index.toNat]!⟩ from if_pos c1] at ff
    by_cases c2 : cs.length = 0
    · have hk : okP s ⟨d, cs, v⟩ := by unfold okP; rw [if_pos c1]; exact c2
      rw [sSet_0 (p := ⟨d, cs, v⟩) hsh hT hk, show putP s ⟨d, cs, v⟩ = ⟨s.regions, s.threads.set d.index.toNat v⟩ from if_pos c1]
      have fs := zcopyT_fn s L (by omega) (by omega)
      have fv := zcopied_fn v hb
      have hS : (s.threads.map (viewV true)).set d.index.toNat (viewV true v) = (s.threads.set d.index.toNat v).map (viewV true) := by rw [List.map_set]
      refine zgo m_zset_ok fun W S => ?_
      refine zcd (ff) ?_
      refine zcx (fs) ?_
      refine zcd (fv) ?_
      exact zrh m_zset_ok hS
    · have hk : ¬ okP s ⟨d, cs, v⟩ := by unfold okP; rw [if_pos c1]; exact c2
      rw [sSet_5 (p := ⟨d, cs, v⟩) hsh hT hk]
      refine zgo m_zset_ok fun W S => ?_
      refine zcd (ff) ?_
      refine ev_obSub 2 _ rfl nost_sub rfl ?_
      exact zrt m_zset_ok
  have hd : 0 ≤ d.region ∧ d.region < s.regions.length ∧ 0 ≤ d.index ∧ d.index ≤ 32 ∧ 8 * d.index < s.regions[d.region.toNat]!.length := by unfold There at hT; omega
  rw [show getP s d = ⟨d, prt s.regions[d.region.toNat]! d.index, zvw⟩ from if_neg c1] at ff
  have fe := rzero_fn v
  by_cases c2 : cs.length = (prt s.regions[d.region.toNat]! d.index).length
  rotate_left
  · have hk : ¬ okP s ⟨d, cs, v⟩ := by unfold okP; rw [if_neg c1]; exact fun h => c2 h.1
    rw [sSet_5 (p := ⟨d, cs, v⟩) hsh hT hk]
    refine zgo m_zset_ok fun W S => ?_
    refine zcd (ff) ?_
    refine ev_obSub 2 _ rfl nost_sub rfl ?_
    exact zrt m_zset_ok
  by_cases c3 : v = zvw
  rotate_left
  · have hk : ¬ okP s ⟨d, cs, v⟩ := by unfold okP; rw [if_neg c1]; exact fun h => c3 h.2
    rw [sSet_5 (p := ⟨d, cs, v⟩) hsh hT hk]
    rw [decF c3] at fe
    refine zgo m_zset_ok fun W S => ?_
    refine zcd (ff) ?_
    refine zcd (fe) ?_
    refine ev_obSub 2 _ rfl nost_sub rfl ?_
    exact zrt m_zset_ok
  have hk : okP s ⟨d, cs, v⟩ := by unfold okP; rw [if_neg c1]; exact ⟨c2, c3⟩
  rw [sSet_0 (p := ⟨d, cs, v⟩) hsh hT hk, show putP s ⟨d, cs, v⟩ = ⟨s.regions.set d.region.toNat (ovr s.regions[d.region.toNat]! (8 * d.index).toNat cs), s.threads⟩ from if_neg c1]
  rw [decT c3] at fe
  have hz := H.z d.region.toNat (by omega)
  have hps := prt_size (l := s.regions[d.region.toNat]!) hd.2.2.1 hd.2.2.2.1
  have hov : over (List.map canonV s.regions[d.region.toNat]!) (d.index * 8).toNat ((srcP 6 0 4 (List.map canonV s.regions[d.region.toNat]!) (V.sl false 4 (List.map canonV cs))).1.take (s.regions[d.region.toNat]!.length - (d.index * 8).toNat)) = (ovr s.regions[d.region.toNat]! (8 * d.index).toNat cs).map canonV := by
    rw [Int.mul_comm d.index 8]
    simp only [srcP]
    rw [List.take_of_length_le (by rw [List.length_map]; omega), over_can]
  have fs := zcopyJ_fn s L d.region.toNat (by omega) (by omega) (by omega)
  have hlen : ((s.regions.map (slV' true 4 canonV)).set d.region.toNat (.own 6 0)).length = s.regions.length := by rw [List.length_set, List.length_map]
  have hat : ((s.regions.map (slV' true 4 canonV)).set d.region.toNat (.own 6 0)).getD d.region.toNat .junk = .own 6 0 := by
    rw [List.getD_eq_getElem?_getD, List.getElem?_set_self (by rw [List.length_map]; omega)]; rfl
  refine zgo m_zset_ok fun W S => ?_
  refine zcd (ff) ?_
  refine zcd (fe) ?_
  (first | refine callX (fs) ?_ | refine callXw (fs) ?_); refine zev ?_
  refine zso ?_
  refine ev_draw (fu := []) mixed [] 0 rfl (by kernel_rfl) ?_
  refine evw_all (md := []) (fu := [(), (), (), (), (), (), (), (), (), (), ()]) ?_
  refine zev ?_
  simp only [hlen, hat]
  simp only [go_sem]
  refine ⟨by omega, ?_⟩
  refine evw_g (gen_sl (r := 6) (g := 0) (kk := .row 84) rfl (.inl rfl) rfl trivial trivial (by simp only [go_sem]; omega) (by simp only [go_sem]; omega) (by simp only [go_sem]; omega)) rfl ?_
  simp only [go_sem]
  refine evw_all (md := []) (fu := [(), ()]) ?_
  refine zev ?_
  refine evw_g (gen_copy (r := 6) (g := 0) (kk := .row 84) rfl (.inl rfl) rfl (.inr rfl) (by omega) (by rw [List.length_map]; omega)) rfl ?_
  simp only [go_sem]
  simp only [hov]
  refine evw_nil (by kernel_rfl) ?_
  trace_state
  refine ev_frzIn 4 d.region.toNat 6 rfl rfl (by rw [List.getElem?_set_self (by rw [List.length_map]; omega)]) ?_
  simp only [go_sem]
  have hfin : ((s.regions.map (slV' true 4 canonV)).set d.region.toNat (.own 6 0)).set d.region.toNat (.sl true 4 ((ovr s.regions[d.region.toNat]! (8 * d.index).toNat cs).map canonV)) = (s.regions.set d.region.toNat (ovr s.regions[d.region.toNat]! (8 * d.index).toNat cs)).map (slV' true 4 canonV) := by
    rw [List.set_set, List.map_set]
  rw [hfin]
  refine ev_toRow 4 rfl (pures_lo _ _) ?_
  simp only [go_sem]
  refine zst ?_
  exact zrt m_zset_ok
end Go.Proofs.Ytcphobeommkgeaa
