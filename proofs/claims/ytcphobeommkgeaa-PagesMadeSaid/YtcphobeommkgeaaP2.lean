/- Pages: which there are. -/
import Derived.Test.YtcphobeommkgeaaP1
import Derived.Test.YtcphobeommkgeaaC5
import Derived.Test.YtcphobeommkgeaaF1
namespace Go.Proofs.Ytcphobeommkgeaa
open Go Go.RowKit Rdn Rdn.Dp
set_option linter.unusedVariables false
set_option linter.unusedSimpArgs false
theorem m_szd_ok : compF Try.prog 81 = some (9, Qr ([Qc 2 (.bool false)])
 (Qr ([Qm 3 0, Qk 4 .geq 3 1, Qm 5 4, Q1 6 5 (.mov (.t 0)), Q1 7 5 (.bin 0 .leq (.t 6) (Qi 32)), Qu 8 5 7, Qm 2 8])
 (.ret)), [.mov (.t 2)]) := by kernel_rfl
theorem m_sh1_ok : compF Try.prog 95 = some (7, Qr ([Qc 2 (.bool false)])
 (Qr ([Qm 3 0, Qn 4 3, Qq 5 81 [(.t 4)], Qp 6 (.un .not (.t 5)), Qm 2 6])
 (.ret)), [.mov (.t 2)]) := by kernel_rfl
theorem m_ixr_ok : compF Try.prog 111 = some (19, Qr ([Qp 4 (.mov (Qi 0))])
 (.seq (Qr ([Qm 6 0, Qn 7 6, Qp 8 (.mov (Qi 0))])
 (.block 0 (.loop (Qr ([Qb 9 .lss 8 7])
 (.seq (.cond (.t 9) (.skip) (.exit 0))
 (.seq (.block 1 (Qr ([Qm 10 8, Qm 5 10])
 (Qr ([Qm 11 1, Qm 12 0, Qm 13 5, Qx 14 1 12 13, Ql 15 1 14, ⟨(some 16), none, (.callv (.t 11) [(.t 15)])⟩])
 (.cond (.t 16) (Qr ([Qm 17 5, Qm 4 17])
 (.ret)) (.skip)))))
 (.reg [Qk 18 .add 8 1, Qm 8 18])))))))
 (Qr ([Qp 4 (.mov (Qi (-1)))])
 (.ret))), [.mov (.t 4)]) := by kernel_rfl
theorem m_cor_ok : compF Try.prog 94 = some (9, Qr ([Qc 4 (.bool false)])
 (Qr ([Qm 5 0, Qm 6 1, Qq 7 111 [(.t 5), (.t 6)], Qk 8 .geq 7 0, Qm 4 8])
 (.ret)), [.mov (.t 4)]) := by kernel_rfl
theorem m_shaped_ok : compF Try.prog 57 = some (19, Qr ([Qw 1 (.box 30 (.t 0)), Qc 2 (.bool false)])
 (Qr ([Qf 3 0 0 1, Ql 4 1 3, Qn 5 4, Qk 6 .leq 5 4, Qm 7 6, Q1 8 7 (.fieldA 1 1 (.t 1)), Q1 9 7 (.load false 1 (.t 8)), Q1 10 7 (.len (.t 9)), Q1 11 7 (.bin 0 .leq (.t 10) (Qi 4)), Qu 12 7 11, Qm 13 12, Q1 14 13 (.fieldA 0 0 (.t 1)), Q1 15 13 (.load false 1 (.t 14)), ⟨(some 16), (some (13, true)), (.call 94 [(.t 15), (.c (.fn 95))])⟩, Q1 17 13 (.un .not (.t 16)), Qu 18 13 17, Qm 2 18])
 (.ret)), [.mov (.t 2)]) := by kernel_rfl
theorem m_li1_ok : compF Try.prog 80 = some (6, Qr ([Qc 2 (.bool false)])
 (Qr ([Qm 3 0, Qq 4 81 [(.t 3)], Qp 5 (.un .not (.t 4)), Qm 2 5])
 (.ret)), [.mov (.t 2)]) := by kernel_rfl
theorem m_ixi_ok : compF Try.prog 102 = some (19, Qr ([Qp 4 (.mov (Qi 0))])
 (.seq (Qr ([Qm 6 0, Qn 7 6, Qp 8 (.mov (Qi 0))])
 (.block 0 (.loop (Qr ([Qb 9 .lss 8 7])
 (.seq (.cond (.t 9) (.skip) (.exit 0))
 (.seq (.block 1 (Qr ([Qm 10 8, Qm 5 10])
 (Qr ([Qm 11 1, Qm 12 0, Qm 13 5, Qx 14 1 12 13, Ql 15 1 14, ⟨(some 16), none, (.callv (.t 11) [(.t 15)])⟩])
 (.cond (.t 16) (Qr ([Qm 17 5, Qm 4 17])
 (.ret)) (.skip)))))
 (.reg [Qk 18 .add 8 1, Qm 8 18])))))))
 (Qr ([Qp 4 (.mov (Qi (-1)))])
 (.ret))), [.mov (.t 4)]) := by kernel_rfl
theorem m_coi_ok : compF Try.prog 79 = some (9, Qr ([Qc 4 (.bool false)])
 (Qr ([Qm 5 0, Qm 6 1, Qq 7 102 [(.t 5), (.t 6)], Qk 8 .geq 7 0, Qm 4 8])
 (.ret)), [.mov (.t 4)]) := by kernel_rfl
theorem m_plist_ok : compF Try.prog 39 = some (55, Qr ([Qp 4 (.mov (.c (.nilS))), Qp 5 (.mov (Qi 0))])
 (.seq (Qr ([Qm 11 0, Qn 12 11, Qk 13 .gtr 12 4, Qm 14 13, Q0 15 14 (.mov (.t 1)), Q0 16 14 (.bin 0 .gtr (.t 15) (Qi 4)), Qt 17 14 16])
 (.cond (.t 17) (Qr ([Qp 4 (.mov (.c (.nilS))), Qp 5 (.mov (Qi 3))])
 (.ret)) (.skip)))
 (.seq (Qr ([Qm 18 1, Qk 19 .lss 18 0, Qm 20 19, Q0 21 20 (.mov (.t 0)), ⟨(some 22), (some (20, false)), (.call 79 [(.t 21), (.c (.fn 80))])⟩, Qt 23 20 22])
 (.cond (.t 23) (Qr ([Qp 4 (.mov (.c (.nilS))), Qp 5 (.mov (Qi 1))])
 (.ret)) (.skip)))
 (Qr ([Qp 6 (.mov (.c (.nilS)))])
 (.seq (Qr ([Qm 24 0, Qn 25 24, Qp 26 (.mov (Qi 0))])
 (.block 0 (.loop (Qr ([Qb 27 .lss 26 25])
 (.seq (.cond (.t 27) (.skip) (.exit 0))
 (.seq (.block 1 (Qr ([Qm 28 26, Qx 29 1 24 26, Ql 30 1 29, Qm 7 28, Qm 8 30])
 (Qr ([Qp 9 (.mov (Qi 0))])
 (.block 2 (.loop (.seq (Qr ([Qm 31 9, Qk 32 .mul 31 8, Qm 33 8, Qb 34 .lss 32 33])
 (.cond (.t 34) (.skip) (.exit 2)))
 (.seq (.block 3 (.reg [Qm 37 6, Qm 38 7, Qm 39 9, Qw 40 (.build none [.int .i64 0, .int .i64 0] [(0, (.t 38)), (1, (.t 39))]), Qw 41 (.buildS 39 2 (.agg [.int .i64 0, .int .i64 0]) 1 [(0, (.t 40))]), Qw 42 (.app 39 2 16 (.t 37) (.t 41)), Qm 6 42]))
 (.reg [Qm 35 9, Qk 36 .add 35 1, Qm 9 36]))))))))
 (.reg [Qk 43 .add 26 1, Qm 26 43])))))))
 (.seq (Qr ([Qm 44 1, Qp 45 (.mov (Qi 0))])
 (.block 4 (.loop (Qr ([Qb 46 .lss 45 44])
 (.seq (.cond (.t 46) (.skip) (.exit 4))
 (.seq (.block 5 (Qr ([Qm 47 45, Qm 10 47])
 (.reg [Qm 48 6, Qm 49 10, Qw 50 (.build none [.int .i64 0, .int .i64 0] [(0, (Qi (-1))), (1, (.t 49))]), Qw 51 (.buildS 39 2 (.agg [.int .i64 0, .int .i64 0]) 1 [(0, (.t 50))]), Qw 52 (.app 39 2 16 (.t 48) (.t 51)), Qm 6 52])))
 (.reg [Qk 53 .add 45 1, Qm 45 53])))))))
 (Qr ([Qm 54 6, Qm 4 54, Qp 5 (.mov (Qi 0))])
 (.ret))))))), [.mov (.t 4), .mov (.t 5)]) := by kernel_rfl
theorem snoc_pid (l : List PageID) (a b : Int) (r : List V) : l.map pidV ++ (V.agg [.int .i64 a, .int .i64 b] :: r) = (l ++ [(⟨a, b⟩ : PageID)]).map pidV ++ r := by simp
attribute [local go_sem] snoc_pid
def badZ (n : Int) : Bool := decide (n < 1 ∨ 32 < n)
theorem badZ_T {n : Int} (h : n < 1 ∨ 32 < n) : badZ n = true := decT h
theorem badZ_F {n : Int} (h : ¬ (n < 1 ∨ 32 < n)) : badZ n = false := decF h
def badL (l : List Canon) : Bool := badZ l.length
attribute [local irreducible] badZ
set_option maxHeartbeats 4000000 in
theorem szd_fn (n : Int) : Fnc Try.prog 81 [.int .i64 n] (fun x obs => x = .bool (!badZ n) ∧ obs = []) := by
  by_cases c : 1 ≤ n
  · by_cases c2 : n ≤ 32
    · rw [badZ_F (by omega)]
      refine zgo m_szd_ok fun W S => ?_
      exact zrt m_szd_ok
    · rw [badZ_T (by omega)]
      refine zgo m_szd_ok fun W S => ?_
      exact zrt m_szd_ok
  · rw [badZ_T (by omega)]
    refine zgo m_szd_ok fun W S => ?_
    exact zrt m_szd_ok
set_option maxHeartbeats 4000000 in
theorem sh1_fn (l : List Canon) : Fnc Try.prog 95 [.sl false 4 (l.map canonV)] (fun x obs => x = .bool (badL l) ∧ obs = []) := by
  refine zgo m_sh1_ok fun W S => ?_
  refine zcd (szd_fn l.length) ?_
  refine ret m_sh1_ok [] ?_; (first | (simp only [go_sem]; done) | (simp only [go_sem]; ((try dsimp only); (repeat' (refine And.intro ?_ ?_)) <;> first | with_reducible rfl | (simp only [go_sem]; done) | (simp only [go_sem]; rfl) | (simp only [go_sem, badL, Bool.not_not]; done) | (simp only [badL, Bool.not_not]; (try simp only [go_sem]); first | done | rfl) | (simp only [go_sem]; simp [badL, Bool.not_not]; done) | (simp [badL, Bool.not_not]; done) | rfl)))
set_option maxHeartbeats 4000000 in
theorem ixr_fn (l : List (List Canon)) : Fnc Try.prog 111 [.sl false 1 (l.map (slV' false 4 canonV)), .fn 95] (fun x obs => x = .int .i64 (fnd badL l) ∧ obs = []) := by
  refine Fnc.wf fun hw => ?_
  have hm : l.length ≤ 140737488355328 := by
    have := hw.1
    simp only [V.wf, List.length_map] at this
    exact this.2
  clear hw
  refine zgo m_ixr_ok fun W S => ?_
  refine ev_loopK [0, 1, 7] (fun p : {p : Nat // p ≤ l.length ∧ ∀ j, j < p → badL l[j]! = false} => [(8, .int .i64 p.1)]) (fun _ => []) (fun p => l.length - p.1) (⟨0, by simp⟩) 0 (by simp only [go_sem]; rfl) ?_ (by first | rfl | (simp only [go_sem]; done)) (by simp) (by first | rfl | (simp only [go_sem]; done)) (by first | rfl | (simp only [go_sem]; done)) (by first | rfl | (simp only [go_sem]; done)) ?_
  · (simp only [go_sem]; (try simp []); done)
  intro J hJ
  rintro ⟨k, hk0, hk1⟩
  by_cases hlt : k < l.length
  · have hc := sh1_fn l[k]!
    cases hb : badL l[k]! with
    | true =>
      rw [hb] at hc
      have hr := fnd_at (p := badL) hlt hk1 hb
      refine zst ?_
      refine zcv (hc) ?_
      exact zrh m_ixr_ok hr
    | false =>
      rw [hb] at hc
      have hS : ∀ j, j < k + 1 → badL l[j]! = false := fun j hj => by
        by_cases e : j = k
        · subst e; exact hb
        · exact hk1 j (by omega)
      refine zst ?_
      refine zcv (hc) ?_
      exact zn0 (hJ _ (⟨k + 1, hlt, hS⟩) (by first | omega | (dsimp only; omega) | (simp; omega))) hlt
  · obtain rfl : k = l.length := by omega
    have hr := fnd_no (p := badL) hk1
    refine zst ?_
    exact zrh m_ixr_ok hr
set_option maxHeartbeats 4000000 in
theorem cor_fn (l : List (List Canon)) : Fnc Try.prog 94 [.sl false 1 (l.map (slV' false 4 canonV)), .fn 95] (fun x obs => x = .bool (l.any badL) ∧ obs = []) := by
  have hr := fnd_ge badL l
  refine zgo m_cor_ok fun W S => ?_
  refine zcd (ixr_fn l) ?_
  exact zrh m_cor_ok hr
set_option maxHeartbeats 4000000 in
theorem li1_fn (n : Int) : Fnc Try.prog 80 [.int .i64 n] (fun x obs => x = .bool (badZ n) ∧ obs = []) := by
  refine zgo m_li1_ok fun W S => ?_
  refine zcd (szd_fn n) ?_
  refine ret m_li1_ok [] ?_; (first | (simp only [go_sem]; done) | (simp only [go_sem]; ((try dsimp only); (repeat' (refine And.intro ?_ ?_)) <;> first | with_reducible rfl | (simp only [go_sem]; done) | (simp only [go_sem]; rfl) | (simp only [go_sem, Bool.not_not]; done) | (simp only [Bool.not_not]; (try simp only [go_sem]); first | done | rfl) | (simp only [go_sem]; simp [Bool.not_not]; done) | (simp [Bool.not_not]; done) | rfl)))
set_option maxHeartbeats 4000000 in
theorem ixi_fn (l : List Int) : Fnc Try.prog 102 [.sl false 1 (l.map (V.int .i64)), .fn 80] (fun x obs => x = .int .i64 (fnd badZ l) ∧ obs = []) := by
  refine Fnc.wf fun hw => ?_
  have hm : l.length ≤ 140737488355328 := by
    have := hw.1
    simp only [V.wf, List.length_map] at this
    exact this.2
  clear hw
  refine zgo m_ixi_ok fun W S => ?_
  refine ev_loopK [0, 1, 7] (fun p : {p : Nat // p ≤ l.length ∧ ∀ j, j < p → badZ l[j]! = false} => [(8, .int .i64 p.1)]) (fun _ => []) (fun p => l.length - p.1) (⟨0, by simp⟩) 0 (by simp only [go_sem]; rfl) ?_ (by first | rfl | (simp only [go_sem]; done)) (by simp) (by first | rfl | (simp only [go_sem]; done)) (by first | rfl | (simp only [go_sem]; done)) (by first | rfl | (simp only [go_sem]; done)) ?_
  · (simp only [go_sem]; (try simp []); done)
  intro J hJ
  rintro ⟨k, hk0, hk1⟩
  by_cases hlt : k < l.length
  · have hc := li1_fn l[k]!
    cases hb : badZ l[k]! with
    | true =>
      rw [hb] at hc
      have hr := fnd_at (p := badZ) hlt hk1 hb
      refine zst ?_
      refine zcv (hc) ?_
      exact zrh m_ixi_ok hr
    | false =>
      rw [hb] at hc
      have hS : ∀ j, j < k + 1 → badZ l[j]! = false := fun j hj => by
        by_cases e : j = k
        · subst e; exact hb
        · exact hk1 j (by omega)
      refine zst ?_
      refine zcv (hc) ?_
      exact zn0 (hJ _ (⟨k + 1, hlt, hS⟩) (by first | omega | (dsimp only; omega) | (simp; omega))) hlt
  · obtain rfl : k = l.length := by omega
    have hr := fnd_no (p := badZ) hk1
    refine zst ?_
    exact zrh m_ixi_ok hr
set_option maxHeartbeats 4000000 in
theorem coi_fn (l : List Int) : Fnc Try.prog 79 [.sl false 1 (l.map (V.int .i64)), .fn 80] (fun x obs => x = .bool (l.any badZ) ∧ obs = []) := by
  have hr := fnd_ge badZ l
  refine zgo m_coi_ok fun W S => ?_
  refine zcd (ixi_fn l) ?_
  exact zrh m_coi_ok hr
theorem any_badZ {z : List Int} (h : z.any badZ = false) : ∀ k, k < z.length → 1 ≤ z[k]! ∧ z[k]! ≤ 32 := fun k hk => by
  by_cases c : z[k]! < 1 ∨ 32 < z[k]!
  · have : z.any badZ = true := List.any_eq_true.2 ⟨z[k]!, mem_at hk, badZ_T c⟩
    rw [this] at h; cases h
  · omega
theorem any_badZ' {z : List Int} (h : z.any badZ = true) : z.any (fun x => decide (x < 1 ∨ 32 < x)) = true := by
  obtain ⟨x, hx, h1⟩ := List.any_eq_true.1 h
  exact List.any_eq_true.2 ⟨x, hx, by unfold badZ at h1; exact h1⟩
theorem szs_any (s : State) : (szs s).any badZ = s.regions.any badL := by simp only [szs, List.any_map]; rfl
theorem shp_eq (s : State) (h1 : s.regions.length ≤ 4) (h2 : s.threads.length ≤ 4) : shp s = !(s.regions.any badL) := by
  rw [← szs_any]
  cases h : (szs s).any badZ with
  | true =>
    unfold shp
    rw [chk_1'' (by rw [szs_len]; omega) (any_badZ' h)]; rfl
  | false =>
    unfold shp
    rw [chk_0 (by rw [szs_len]; omega) (by omega) (any_badZ h)]; rfl
theorem shp_no (s : State) (h : 4 < s.regions.length ∨ 4 < s.threads.length) : shp s = false := by
  unfold shp
  rw [chk_3 (by rw [szs_len]; omega)]; rfl
set_option maxHeartbeats 4000000 in
theorem shaped_fn (s : State) : Fnc Try.prog 57 [staV s] (fun x obs => x = .bool (shp s) ∧ obs = []) := by
  have fc := cor_fn s.regions
  by_cases c1 : s.regions.length ≤ 4
  · by_cases c2 : s.threads.length ≤ 4
    · rw [shp_eq s c1 c2]
      refine zgo m_shaped_ok fun W S => ?_
      refine zcd (fc) ?_
      exact zrt m_shaped_ok
    · rw [shp_no s (by omega)]
      refine zgo m_shaped_ok fun W S => ?_
      exact zrt m_shaped_ok
  · rw [shp_no s (by omega)]
    refine zgo m_shaped_ok fun W S => ?_
    exact zrt m_shaped_ok
attribute [local irreducible] idsR idsL idsT pcn
set_option maxHeartbeats 8000000 in
theorem plist_fn (z : List Int) (n : Int) : Fnc Try.prog 39 [.sl false 1 (i64s z), .int .i64 n] (fun x obs => x = .tup [.sl false 2 ((sList z n).1.map pidV), .int .i64 (sList z n).2] ∧ obs = []) := by
  refine Fnc.low ?_
  refine Fnc.wf fun hw => ?_
  simp only [V.wfs, V.wf, wfs_map, List.length_map] at hw
  have hm := hw.1.2
  clear hw
  have fb := coi_fn z
  by_cases c1 : 4 < z.length
  · have hr : sList z n = ([], 3) := by unfold sList; rw [chk_3 (.inl c1)]; rfl
    refine zgo m_plist_ok fun W S => ?_
    refine ev_nil2 4 true 2 rfl ?_
    exact zrh m_plist_ok hr
  by_cases c2 : 4 < n
  · have hr : sList z n = ([], 3) := by unfold sList; rw [chk_3 (.inr c2)]; rfl
    refine zgo m_plist_ok fun W S => ?_
    refine ev_nil2 4 true 2 rfl ?_
    exact zrh m_plist_ok hr
  by_cases c3 : n < 0
  · have hr : sList z n = ([], 1) := by unfold sList; rw [chk_1 (by omega) c3]; rfl
    refine zgo m_plist_ok fun W S => ?_
    refine ev_nil2 4 true 2 rfl ?_
    exact zrh m_plist_ok hr
  cases c4 : z.any badZ with
  | true =>
    have hr : sList z n = ([], 1) := by unfold sList; rw [chk_1'' (by omega) (any_badZ' c4)]; rfl
    rw [c4] at fb
    refine zgo m_plist_ok fun W S => ?_
    refine zcd (fb) ?_
    refine ev_nil2 4 true 2 rfl ?_
    exact zrh m_plist_ok hr
  | false =>
    have hz := any_badZ c4
    have hr : sList z n = (idsF z n, 0) := by unfold sList; rw [chk_0 (by omega) (by omega) hz]; rfl
    rw [c4] at fb
    refine zgo m_plist_ok fun W S => ?_
    refine zcd (fb) ?_
    refine ev_adopt (i := 6) (e := 39) (s := 2) rfl (by decide) ?_
    refine ev_loopK [1, 24, 25] (fun p : {p : Nat // p ≤ z.length} => [(6, .own 0 (idsL z p.1).length), (26, .int .i64 p.1)]) (fun p => [⟨.row 39, true, (idsL z p.1).length, .arr 2 ((idsL z p.1).map pidV)⟩]) (fun p => z.length - p.1) (⟨0, by simp⟩) 1 (by simp only [go_sem]; rfl) ?_ (by first | rfl | (simp only [go_sem]; done) | (simp only [go_sem]; simp [idsL]; done)) (by simp) (by first | rfl | (simp only [go_sem]; done)) (by first | rfl | (simp only [go_sem]; done)) (by first | rfl | (simp only [go_sem]; done) | (simp only [idsL]; (try simp only [go_sem]); first | done | rfl)) ?_
    · (simp only [go_sem]; (try simp [idsL]); done)
    intro J hJ
    rintro ⟨p, hp⟩
    have hg := idsL_le (fun k hk => (hz k hk).2) hp
    have hJ0 := hJ
    by_cases hlt : p < z.length
    · have hzp := hz p hlt
      have hpc := pcn_le (hz p hlt).2
      have z1 : idsR p 0 = [] := idsR_zero p
      refine zst ?_
      refine ev_loopK [1, 7, 8, 24, 25, 26] (fun q : {q : Nat // q ≤ pcn z[p]!} => [(6, .own 0 ((idsL z p).length + q.1)), (9, .int .i64 q.1)]) (fun q => [⟨.row 39, true, (idsL z p).length + q.1, .arr 2 ((idsL z p ++ idsR p q.1).map pidV)⟩]) (fun q => pcn z[p]! - q.1) (⟨0, by simp⟩) 1 (by simp only [go_sem]; rfl) ?_ (by first | rfl | (simp only [go_sem]; done) | (simp only [go_sem]; simp [z1, List.append_nil]; done)) (by simp) (by first | rfl | (simp only [go_sem]; done)) (by first | rfl | (simp only [go_sem]; done)) (by first | rfl | (simp only [go_sem]; done) | (simp only [z1, List.append_nil]; (try simp only [go_sem]); first | done | rfl)) ?_
      · (simp only [go_sem]; (try simp [z1, List.append_nil]); done)
      intro J hJ
      rintro ⟨q, hq⟩
      have hq' := pcn_lt (n := z[p]!) (i := q)
      have hql := idsR_len p q
      by_cases hlq : q < pcn z[p]!
      · have hq' := hq'.1 hlq
        have hs : idsL z p ++ idsR p q ++ [(⟨p, q⟩ : PageID)] = idsL z p ++ idsR p (q + 1) := by rw [List.append_assoc, idsR_snoc]
        have hgn : (idsL z p).length + q ≤ 1000 := by omega
        refine zst ?_
        refine ev_next 1 (hJ _ (⟨q + 1, hlq⟩) (by first | omega | (dsimp only; omega) | (simp; omega))) rfl (by simp) ?_ (by first | rfl | (simp only [go_sem]; done)) (by first | rfl | (simp only [go_sem]; done) | (simp only [hs, Nat.add_assoc]; (try simp only [go_sem]); first | done | rfl)) ?_
        · (first | rfl | (simp only [go_sem]; done) | (simp only [go_sem]; simp only [hs, Nat.add_assoc]; done) | (simp only [hs, Nat.add_assoc]; done) | (simp only [go_sem]; simp [hs, Nat.add_assoc]; done) | (simp [hs, Nat.add_assoc]; done))
        · (simp only [go_sem]; (repeat' (refine And.intro ?_ ?_)) <;> first | exact trivial | with_reducible rfl | (simp only [hs, Nat.add_assoc]; done) | (simp only [hs, Nat.add_assoc]; with_reducible rfl) | (simp [hs, Nat.add_assoc]; done) | (simp [hs, Nat.add_assoc]; omega) | (simp only [hs, Nat.add_assoc]; rfl) | skip)
      · have hq' : ¬ 8 * (q : Int) < z[p]! := fun h => hlq (hq'.2 h)
        obtain rfl : q = pcn z[p]! := by omega
        have hJ := hJ0
        have hs := idsL_snoc z p
        have hpc4 : pcn z[p]! ≤ 4 := hpc
        have hgl : (idsL z p).length + pcn z[p]! = (idsL z (p + 1)).length := by rw [← hs, List.length_append, hql]
        dsimp only
        rw [hs, hgl]
        refine zst ?_
        refine ev_next 1 (hJ _ (⟨p + 1, hlt⟩) (by first | omega | (dsimp only; omega) | (simp; omega))) rfl (by simp) ?_ (by first | rfl | (simp only [go_sem]; done)) (by first | rfl | (simp only [go_sem]; done)) ?_
        · (first | rfl | (simp only [go_sem]; done) | (simp only [go_sem]; simp only []; done) | (simp only []; done) | (simp only [go_sem]; simp []; done) | (simp []; done))
        · (simp only [go_sem]; (repeat' (refine And.intro ?_ ?_)) <;> first | exact trivial | with_reducible rfl | (simp only []; done) | (simp only []; with_reducible rfl) | (simp []; done) | (simp []; omega) | (simp only []; rfl) | skip)
    · obtain rfl : p = z.length := by omega
      have z1 : idsT 0 = [] := idsT_zero
      refine zst ?_
      refine ev_loopK [44] (fun q : {q : Nat // (q : Int) ≤ n} => [(6, .own 0 ((idsL z z.length).length + q.1)), (45, .int .i64 q.1)]) (fun q => [⟨.row 39, true, (idsL z z.length).length + q.1, .arr 2 ((idsL z z.length ++ idsT q.1).map pidV)⟩]) (fun q => n.toNat - q.1) (⟨0, by omega⟩) 1 (by simp only [go_sem]; rfl) ?_ (by first | rfl | (simp only [go_sem]; done) | (simp only [go_sem]; simp [z1, List.append_nil]; done)) (by simp) (by first | rfl | (simp only [go_sem]; done)) (by first | rfl | (simp only [go_sem]; done)) (by first | rfl | (simp only [go_sem]; done) | (simp only [z1, List.append_nil]; (try simp only [go_sem]); first | done | rfl)) ?_
      · (simp only [go_sem]; (try simp [z1, List.append_nil]); done)
      intro J hJ
      rintro ⟨q, hq⟩
      have hql := idsT_len q
      by_cases hlq : (q : Int) < n
      · have hs : idsL z z.length ++ idsT q ++ [(⟨-1, q⟩ : PageID)] = idsL z z.length ++ idsT (q + 1) := by rw [List.append_assoc, idsT_snoc]
        have hgn : (idsL z z.length).length + q ≤ 1000 := by omega
        refine zst ?_
        refine ev_next 1 (hJ _ (⟨q + 1, by omega⟩) (by first | omega | (dsimp only; omega) | (simp; omega))) rfl (by simp) ?_ (by first | rfl | (simp only [go_sem]; done)) (by first | rfl | (simp only [go_sem]; done) | (simp only [hs, Nat.add_assoc]; (try simp only [go_sem]); first | done | rfl)) ?_
        · (first | rfl | (simp only [go_sem]; done) | (simp only [go_sem]; simp only [hs, Nat.add_assoc]; done) | (simp only [hs, Nat.add_assoc]; done) | (simp only [go_sem]; simp [hs, Nat.add_assoc]; done) | (simp [hs, Nat.add_assoc]; done))
        · (simp only [go_sem]; (repeat' (refine And.intro ?_ ?_)) <;> first | exact trivial | with_reducible rfl | (simp only [hs, Nat.add_assoc]; done) | (simp only [hs, Nat.add_assoc]; with_reducible rfl) | (simp [hs, Nat.add_assoc]; done) | (simp [hs, Nat.add_assoc]; omega) | (simp only [hs, Nat.add_assoc]; rfl) | skip)
      · obtain rfl : q = n.toNat := by omega
        have hF : idsL z z.length ++ idsT n.toNat = idsF z n := rfl
        dsimp only
        rw [hF]
        refine zst ?_
        exact zrh m_plist_ok hr
end Go.Proofs.Ytcphobeommkgeaa
