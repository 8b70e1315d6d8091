/- Standby: outputs read by the reference. -/
import Derived.Test.YtdpfglkjhdnbbaaGreatR4
import Derived.Test.YtdpfglkjhdnbbaaGreatC5
namespace Go.Proofs.YtdpfglkjhdnbbaaGreat
open Go Go.RowKit Rdn Rdn.Dp
set_option linter.unusedVariables false
set_option linter.unusedSimpArgs false
theorem m_routp_ok : compF Tryz.prog 91 = some (89, Qr ([Qp 2 (.mov (Qi 0)), Qp 3 (.mov (.c (.nilS))), Qc 4 (.bool false)])
 (.seq (Qr ([Qm 9 0, Qn 10 9, Qk 11 .lss 10 2, Qm 12 11, Q0 13 12 (.mov (.t 0)), Q0 14 12 (.len (.t 13)), Q0 15 12 (.mov (.t 0)), Q0 16 12 (.idxA 1 (.t 15) (Qi 1)), Q0 17 12 (.load false 1 (.t 16)), Q0 18 12 (.conv .i64 (.t 17)), Q0 19 12 (.bin 0 .mul (Qi 19) (.t 18)), Q0 20 12 (.bin 0 .add (Qi 2) (.t 19)), Q0 21 12 (.bin 0 .neq (.t 14) (.t 20)), Qt 22 12 21])
 (.cond (.t 22) (Qr ([Qp 2 (.mov (Qi 0)), Qp 3 (.mov (.c (.nilS))), Qc 4 (.bool false)])
 (.ret)) (.skip)))
 (Qr ([Qp 5 (.mov (.c (.nilS)))])
 (.seq (Qr ([Qp 6 (.mov (Qi 2))])
 (.block 0 (.loop (.seq (Qr ([Qm 23 6, Qm 24 0, Qn 25 24, Qb 26 .lss 23 25])
 (.cond (.t 26) (.skip) (.exit 0)))
 (.seq (.block 1 (.dreg [Qm 29 5, Qm 30 0, Qm 31 6, Qx 32 1 30 31, Ql 33 1 32, Qm 34 0, Qm 35 6, Qk 36 .add 35 1, Qx 37 1 34 36, Ql 38 1 37, Qp 39 (.conv .u16 (.t 38)), Qm 40 0, Qm 41 6, Qk 42 .add 41 2, Qx 43 1 40 42, Ql 44 1 43, Qp 45 (.conv .u16 (.t 44)), Qp 46 (.bin 0 .shl (.t 45) (.c (.int .u64 8))), Qb 47 .or 39 46, Qm 48 0, Qm 49 6, Qk 50 .add 49 3, Qm 51 6, Qk 52 .add 51 11, Qw 53 (.sl 1 (.t 48) (some (.t 50)) (some (.t 52)) none), Qq 54 105 [(.t 53)], Qm 55 0, Qm 56 6, Qk 57 .add 56 11, Qm 58 6, Qk 59 .add 58 19, Qw 60 (.sl 1 (.t 55) (some (.t 57)) (some (.t 59)) none), Qq 61 105 [(.t 60)], Qw 62 (.build none [.int .u8 0, .int .u16 0, .int .i64 0, .int .i64 0] [(0, (.t 33)), (1, (.t 47)), (2, (.t 54)), (3, (.t 61))]), Qw 63 (.buildS 69 4 (.agg [.int .u8 0, .int .u16 0, .int .i64 0, .int .i64 0]) 1 [(0, (.t 62))]), Qw 64 (.app 69 4 24 (.t 29) (.t 63)), Qm 5 64] [[], [], [], [1, 2], [1, 2, 3], [], [], [6], [5, 6, 7], [5, 6, 7, 8], [5, 6, 7, 8, 9], [], [], [12], [11, 12, 13], [11, 12, 13, 14], [11, 12, 13, 14, 15], [11, 12, 13, 14, 15, 16], [5, 6, 7, 8, 9, 10, 11, 12, 13, 14, 15, 16, 17], [], [], [20], [], [22], [19, 20, 21, 22, 23], [19, 20, 21, 22, 23, 24], [], [], [27], [], [29], [26, 27, 28, 29, 30], [19, 20, 21, 22, 23, 24, 25, 26, 27, 28, 29, 30, 31], [1, 2, 3, 4, 5, 6, 7, 8, 9, 10, 11, 12, 13, 14, 15, 16, 17, 18, 19, 20, 21, 22, 23, 24, 25, 26, 27, 28, 29, 30, 31, 32], [1, 2, 3, 4, 5, 6, 7, 8, 9, 10, 11, 12, 13, 14, 15, 16, 17, 18, 19, 20, 21, 22, 23, 24, 25, 26, 27, 28, 29, 30, 31, 32, 33], [0, 1, 2, 3, 4, 5, 6, 7, 8, 9, 10, 11, 12, 13, 14, 15, 16, 17, 18, 19, 20, 21, 22, 23, 24, 25, 26, 27, 28, 29, 30, 31, 32, 33, 34], [0, 1, 2, 3, 4, 5, 6, 7, 8, 9, 10, 11, 12, 13, 14, 15, 16, 17, 18, 19, 20, 21, 22, 23, 24, 25, 26, 27, 28, 29, 30, 31, 32, 33, 34, 35]]))
 (.reg [Qm 27 6, Qk 28 .add 27 19, Qm 6 28]))))))
 (Qr ([Qm 66 0, Qp 67 (.idxA 1 (.t 66) (Qi 0)), Ql 68 1 67, Qp 69 (.conv .i64 (.t 68)), Qm 70 5, Qq 71 20 [(.t 69), (.t 70)], Qm 65 71, Qe 72 65 0, Qe 73 65 1, Qw 7 (.alloc 42 (.agg [.int .i64 0, .int .i64 0, .int .i64 0, .nilS])), Qs 4 7 72, Qm 8 73])
 (.seq (.dreg [Qm 74 0, Qp 75 (.idxA 1 (.t 74) (Qi 0)), Ql 76 1 75, Qp 77 (.conv .i64 (.t 76)), Qm 78 5, Qm 79 8, Qk 80 .eql 79 0, Qm 81 80, Q1 82 81 (.fieldA 3 3 (.t 7)), Q1 83 81 (.load false 1 (.t 82)), Q1 84 81 (.b2s (.t 83)), Q1 85 81 (.mov (.t 0)), Q1 86 81 (.b2s (.t 85)), Q1 87 81 (.bin 0 .eql (.t 84) (.t 86)), Qu 88 81 87, Qm 2 77, Qm 3 78, Qm 4 88] [[], [0], [0, 1], [0, 1, 2], [], [], [5], [5, 6], [5, 6, 7], [5, 6, 7, 8], [5, 6, 7, 8, 9], [5, 6, 7], [5, 6, 7, 11], [5, 6, 7, 8, 9, 10, 11, 12], [5, 6, 7, 8, 9, 10, 11, 12, 13], [0, 1, 2, 3, 5, 6, 7], [0, 1, 2, 3, 4, 5, 6, 7, 15], [0, 1, 2, 3, 4, 5, 6, 7, 8, 9, 10, 11, 12, 13, 14, 15, 16]])
 (.ret)))))), [.mov (.t 2), .mov (.t 3), .mov (.t 4)]) := by kernel_rfl
theorem le8_rd8 {b : List Int} {q : Nat} (hb : ∀ x ∈ b, inK .u8 x) (hl : q + 8 ≤ b.length) : le8 (rd8 b q) = [b[q]!, b[q + 1]!, b[q + 2]!, b[q + 3]!, b[q + 4]!, b[q + 5]!, b[q + 6]!, b[q + 7]!] := by
  have h0 := wfs_at hb (k := q) (by omega)
  have h1 := wfs_at hb (k := q + 1) (by omega)
  have h2 := wfs_at hb (k := q + 2) (by omega)
  have h3 := wfs_at hb (k := q + 3) (by omega)
  have h4 := wfs_at hb (k := q + 4) (by omega)
  have h5 := wfs_at hb (k := q + 5) (by omega)
  have h6 := wfs_at hb (k := q + 6) (by omega)
  have h7 := wfs_at hb (k := q + 7) (by omega)
  have e : nm b q 8 = b[q]! + 256 * (b[q + 1]! + 256 * (b[q + 2]! + 256 * (b[q + 3]! + 256 * (b[q + 4]! + 256 * (b[q + 5]! + 256 * (b[q + 6]! + 256 * b[q + 7]!)))))) := by
    simp only [nm, show q + 7 - 0 = q + 7 by omega, show q + 7 - 1 = q + 6 by omega, show q + 7 - 2 = q + 5 by omega, show q + 7 - 3 = q + 4 by omega, show q + 7 - 4 = q + 3 by omega, show q + 7 - 5 = q + 2 by omega, show q + 7 - 6 = q + 1 by omega, show q + 7 - 7 = q by omega]
    omega
  generalize b[q]! = y0 at *
  generalize b[q + 1]! = y1 at *
  generalize b[q + 2]! = y2 at *
  generalize b[q + 3]! = y3 at *
  generalize b[q + 4]! = y4 at *
  generalize b[q + 5]! = y5 at *
  generalize b[q + 6]! = y6 at *
  generalize b[q + 7]! = y7 at *
  have e2 : rd8 b q % 18446744073709551616 = nm b q 8 := by
    unfold rd8
    rw [IntKind.wrap_i64]
    omega
  unfold le8
  rw [e2, e]
  simp only [List.cons.injEq, and_true]
  refine ⟨?_, ?_, ?_, ?_, ?_, ?_, ?_, ?_⟩ <;> omega
theorem cbytes_at {b : List Int} {q : Nat} (hb : ∀ x ∈ b, inK .u8 x) (hl : q + 19 ≤ b.length) : cbytes (cellAt b q) = (b.drop q).take 19 := by
  have h1 := wfs_at hb (k := q + 1) (by omega)
  have h2 := wfs_at hb (k := q + 2) (by omega)
  have e1 : (b[q + 1]! + b[q + 2]! * 256) % 256 = b[q + 1]! := by omega
  have e2 : (b[q + 1]! + b[q + 2]! * 256) / 256 = b[q + 2]! := by omega
  unfold cbytes cellAt
  dsimp only
  rw [e1, e2, le8_rd8 hb (by omega), le8_rd8 hb (by omega)]
  refine List.ext_getElem? fun i => ?_
  have key : ∀ j, j < 19 → ((b.drop q).take 19)[j]? = some b[q + j]! := fun j hj => by
    rw [List.getElem?_take_of_lt hj, List.getElem?_drop, List.getElem?_eq_getElem (by omega), getElem!_pos b (q + j) (by omega)]
  by_cases hi : i < 19
  · rw [key i hi]
    rcases (by omega : i = 0 ∨ i = 1 ∨ i = 2 ∨ i = 3 ∨ i = 4 ∨ i = 5 ∨ i = 6 ∨ i = 7 ∨ i = 8 ∨ i = 9 ∨ i = 10 ∨ i = 11 ∨ i = 12 ∨ i = 13 ∨ i = 14 ∨ i = 15 ∨ i = 16 ∨ i = 17 ∨ i = 18) with rfl | rfl | rfl | rfl | rfl | rfl | rfl | rfl | rfl | rfl | rfl | rfl | rfl | rfl | rfl | rfl | rfl | rfl | rfl <;> rfl
  · rw [List.getElem?_eq_none (by simp; omega), List.getElem?_eq_none (by simp; omega)]
theorem cells_take {b : List Int} (hb : ∀ x ∈ b, inK .u8 x) : ∀ m, 2 + 19 * m ≤ b.length → (cellsOf b m).flatMap cbytes = (b.drop 2).take (19 * m)
  | 0, _ => by simp [cellsOf]
  | m + 1, h => by
    rw [← cellsOf_snoc, List.flatMap_append, cells_take hb m (by omega), List.flatMap_cons, List.flatMap_nil, List.append_nil, cbytes_at hb (by omega)]
    rw [show 19 * (m + 1) = 19 * m + 19 by omega, List.take_add, List.drop_drop]
theorem enc_dec {b : List Int} {n : Nat} (hb : ∀ x ∈ b, inK .u8 x) (h1 : 2 ≤ b.length) (hn : b[1]! = (n : Int)) (hl : b.length = 2 + 19 * n) : outB b[0]! (cellsOf b n) = b := by
  unfold outB
  rw [cells_take hb n (by omega), cellsOf_len, List.take_of_length_le (by simp; omega), ← hn]
  match b, h1 with
  | x :: y :: l, _ => rfl
def sOutp (b : List Int) : Int × List Canon × Bool := if 2 ≤ b.length ∧ (b.length : Int) = 2 + 19 * b[1]! then (b[0]!, cellsOf b b[1]!.toNat, decide (b[0]! < 2 ∧ b[1]! ≤ 16)) else (0, [], false)
theorem sub_at {b : List Int} {p m : Nat} (h : p + m ≤ b.length) {j : Nat} (hj : j < m) : (List.drop p (List.take (p + m) b))[j]! = b[p + j]! := by
  have h1 : j < (List.drop p (List.take (p + m) b)).length := by simp; omega
  rw [getElem!_pos _ j h1, getElem!_pos b (p + j) (by omega)]
  simp
theorem nm_sub {b : List Int} {p : Nat} (h : p + 8 ≤ b.length) : ∀ j, j ≤ 8 → nm (List.drop p (List.take (p + 8) b)) 0 j = nm b p j
  | 0, _ => rfl
  | j + 1, hj => by
    rw [nm, nm, nm_sub h j (by omega), sub_at h (by omega), show p + (0 + 7 - j) = p + 7 - j by omega]
theorem rd8_sub {b : List Int} {p : Nat} (h : p + 8 ≤ b.length) : rd8 (List.drop p (List.take (p + 8) b)) 0 = rd8 b p := by unfold rd8; rw [nm_sub h 8 (by omega)]
attribute [local go_sem] take_mapU drop_mapU
set_option maxHeartbeats 8000000 in
theorem routp_fn (b : List Int) : Fnc Tryz.prog 91 [.sl false 1 (u8s b)] (fun x obs => x = .tup [.int .i64 (sOutp b).1, .sl false 4 ((sOutp b).2.1.map canonV), .bool (sOutp b).2.2] ∧ obs = []) := by
  refine Fnc.low ?_
  refine Fnc.wf fun hw => ?_
  simp only [V.wfs, V.wf, wfs_map, List.length_map] at hw
  have hb := hw.1.1
  have hm := hw.1.2
  clear hw
  by_cases c1 : b.length < 2
  · rw [show sOutp b = (0, [], false) from if_neg (by omega)]
    refine zgo m_routp_ok fun W S => ?_
    refine ev_nil2 3 true 4 rfl ?_
    exact zrt m_routp_ok
  have b0 := wfs_at hb (k := 0) (by omega)
  have b1 := wfs_at hb (k := 1) (by omega)
  by_cases c2 : (b.length : Int) = 2 + 19 * b[1]!
  rotate_left
  · rw [show sOutp b = (0, [], false) from if_neg (by omega)]
    refine zgo m_routp_ok fun W S => ?_
    refine ev_nil2 3 true 4 rfl ?_
    exact zrt m_routp_ok
  rw [show sOutp b = (b[0]!, cellsOf b b[1]!.toNat, decide (b[0]! < 2 ∧ b[1]! ≤ 16)) from if_pos (by omega)]
  obtain ⟨n, hn⟩ := Int.eq_ofNat_of_zero_le b1.1
  rw [hn] at c2 ⊢
  rw [Int.toNat_natCast]
  have fO := rout_fn40 b[0]! (cellsOf b n)
  have hed := enc_dec hb (by omega) hn (by omega)
  refine zgo m_routp_ok fun W S => ?_
  refine ev_adopt (i := 5) (e := 69) (s := 4) rfl (by decide) ?_
  refine ev_loopK [0] (fun p : {p : Nat // p ≤ n} => [(5, .own 0 p.1), (6, .int .i64 (2 + 19 * (p.1 : Int)))]) (fun p => [⟨.row 69, true, p.1, .arr 4 ((cellsOf b p.1).map canonV)⟩]) (fun p => n - p.1) (⟨0, by simp⟩) 1 (by simp only [go_sem]; rfl) ?_ (by first | rfl | (simp only [go_sem]; done)) (by simp) (by first | rfl | (simp only [go_sem]; done)) (by first | rfl | (simp only [go_sem]; done)) (by first | rfl | (simp only [go_sem]; done)) ?_
  · (simp only [go_sem]; (try simp []); done)
  intro J hJ
  rintro ⟨m, hm0⟩
  have hcl := cellsOf_len b m
  by_cases hlt : m < n
  · have hq1 : (List.drop (2 + 19 * m + 3) (List.take (2 + 19 * m + 3 + 8) b)).length = 8 := by simp; omega
    have hq2 : (List.drop (2 + 19 * m + 11) (List.take (2 + 19 * m + 11 + 8) b)).length = 8 := by simp; omega
    have f1 := snum_fn (List.drop (2 + 19 * m + 3) (List.take (2 + 19 * m + 3 + 8) b)) (by omega)
    have f2 := snum_fn (List.drop (2 + 19 * m + 11) (List.take (2 + 19 * m + 11 + 8) b)) (by omega)
    rw [rd8_sub (by omega)] at f1 f2
    rw [show 2 + 19 * m + 3 + 8 = 2 + 19 * m + 11 by omega] at f1
    rw [show 2 + 19 * m + 11 + 8 = 2 + 19 * m + 19 by omega] at f2
    have e3 : (2 + 19 * (m : Int) + 3).toNat = 2 + 19 * m + 3 := by omega
    have e11 : (2 + 19 * (m : Int) + 11).toNat = 2 + 19 * m + 11 := by omega
    have e19 : (2 + 19 * (m : Int) + 19).toNat = 2 + 19 * m + 19 := by omega
    have x0 := wfs_at hb (k := 2 + 19 * m) (by omega)
    have x1 := wfs_at hb (k := 2 + 19 * m + 1) (by omega)
    have x2 := wfs_at hb (k := 2 + 19 * m + 2) (by omega)
    have e0 : (2 + 19 * (m : Int)).toNat = 2 + 19 * m := by omega
    have e1 : (2 + 19 * (m : Int) + 1).toNat = 2 + 19 * m + 1 := by omega
    have e2 : (2 + 19 * (m : Int) + 2).toNat = 2 + 19 * m + 2 := by omega
    have h16 := bor_16 x1 x2
    have hcell : cellsOf b m ++ [(⟨b[2 + 19 * m]!, b[2 + 19 * m + 1]! + b[2 + 19 * m + 2]! * 256, rd8 b (2 + 19 * m + 3), rd8 b (2 + 19 * m + 11)⟩ : Canon)] = cellsOf b (m + 1) := cellsOf_snoc b m
    have e9 : 2 + 19 * (m : Int) + 19 = 2 + 19 * ((m + 1 : Nat) : Int) := by omega
    refine zst ?_
    (first | refine callD (f1) ?_ | refine callDw (f1) ?_); simp only [go_sem, e3, e11, e19]
    refine zst ?_
    (first | refine callD (f2) ?_ | refine callDw (f2) ?_); simp only [go_sem, e3, e11, e19]
    refine zst ?_
    simp only [e0, e1, e2, h16, e9, hcell]
    refine ev_next 1 (hJ _ (⟨m + 1, hlt⟩) (by first | omega | (dsimp only; omega) | (simp; omega))) rfl (by simp) ?_ (by first | rfl | (simp only [go_sem]; done)) (by first | rfl | (simp only [go_sem]; done)) ?_
    · (first | rfl | (simp only [go_sem]; done) | (simp only [go_sem]; simp only []; done) | (simp only []; done) | (simp only [go_sem]; simp []; done) | (simp []; done))
    · simp only [go_sem]
  · obtain rfl : m = n := by omega
    by_cases c3 : b[0]! < 2 ∧ m ≤ 16
    · rw [decT (show b[0]! < 2 ∧ (m : Int) ≤ 16 by omega)]
      rw [show sOut b[0]! (cellsOf b m) = (⟨6, 0, 0, outB b[0]! (cellsOf b m)⟩, 0) from if_neg (by omega), hed] at fO
      refine zst ?_
      refine evr_calmC ?_; refine zev ?_
      refine zcd (fO) ?_
      exact zrt m_routp_ok
    · rw [decF (show ¬ (b[0]! < 2 ∧ (m : Int) ≤ 16) by omega)]
      rw [show sOut b[0]! (cellsOf b m) = (n0, 1) from if_pos (by omega)] at fO
      refine zst ?_
      refine evr_calmC ?_; refine zev ?_
      refine zcd (fO) ?_
      exact zrt m_routp_ok
end Go.Proofs.YtdpfglkjhdnbbaaGreat
