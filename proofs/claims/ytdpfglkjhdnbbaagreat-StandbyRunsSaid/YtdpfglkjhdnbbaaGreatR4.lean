/- Standby: outputs read. -/
import Derived.Test.YtdpfglkjhdnbbaaGreatR3
import Derived.Test.YtdpfglkjhdnbbaaGreatC5
namespace Go.Proofs.YtdpfglkjhdnbbaaGreat
open Go Go.RowKit Rdn Rdn.Dp
set_option linter.unusedVariables false
set_option linter.unusedSimpArgs false
theorem m_sread_ok : compF Tryz.prog 111 = some (103, Qr ([Qw 2 (.alloc 75 (.agg [.int .i64 0, .int .i64 0, .nilS])), Qc 3 (.bool false)])
 (.seq (Qr ([Qm 9 0, Qn 10 9, Qk 11 .lss 10 2, Qm 12 11, Q0 13 12 (.mov (.t 0)), Q0 14 12 (.len (.t 13)), Q0 15 12 (.mov (.t 0)), Q0 16 12 (.idxA 1 (.t 15) (Qi 1)), Q0 17 12 (.load false 1 (.t 16)), Q0 18 12 (.conv .i64 (.t 17)), Q0 19 12 (.bin 0 .mul (Qi 19) (.t 18)), Q0 20 12 (.bin 0 .add (Qi 2) (.t 19)), Q0 21 12 (.bin 0 .neq (.t 14) (.t 20)), Qt 22 12 21])
 (.cond (.t 22) (Qr ([Qw 23 (.build none [.int .i64 0, .int .i64 0, .nilS] []), Qs 3 2 23, Qc 3 (.bool false)])
 (.ret)) (.skip)))
 (Qr ([Qm 24 0, Qp 25 (.idxA 1 (.t 24) (Qi 0)), Ql 26 1 25, Qp 27 (.conv .i64 (.t 26)), Qw 28 (.build none [.int .i64 0, .int .i64 0, .nilS] [(1, (.t 27))]), Qw 4 (.alloc 75 (.agg [.int .i64 0, .int .i64 0, .nilS])), Qs 3 4 28])
 (.seq (Qr ([Qf 29 1 1 4, Ql 30 1 29, Qk 31 .geq 30 2, Qm 32 31, Q0 33 32 (.mov (.t 0)), Q0 34 32 (.idxA 1 (.t 33) (Qi 1)), Q0 35 32 (.load false 1 (.t 34)), Q0 36 32 (.conv .i64 (.t 35)), Q0 37 32 (.bin 0 .gtr (.t 36) (Qi 16)), Qt 38 32 37])
 (.cond (.t 38) (Qr ([Qw 39 (.build none [.int .i64 0, .int .i64 0, .nilS] []), Qs 3 2 39, Qc 3 (.bool false)])
 (.ret)) (.skip)))
 (.seq (Qr ([Qp 5 (.mov (Qi 2))])
 (.block 0 (.loop (.seq (Qr ([Qm 40 5, Qm 41 0, Qn 42 41, Qb 43 .lss 40 42])
 (.cond (.t 43) (.skip) (.exit 0)))
 (.seq (.block 1 (Qr ([Qw 6 (.alloc 139 (.arr 1 [.int .u64 0, .int .u64 0]))])
 (.seq (Qr ([Qp 46 (.mov (Qi 0))])
 (.block 2 (.loop (Qr ([Qk 47 .lss 46 2])
 (.seq (.cond (.t 47) (.skip) (.exit 2))
 (.seq (.block 3 (Qr ([Qm 48 46, Qm 7 48])
 (Qr ([Qp 8 (.mov (Qi 7))])
 (.block 4 (.loop (.seq (Qr ([Qm 49 8, Qk 50 .geq 49 0])
 (.cond (.t 50) (.skip) (.exit 4)))
 (.seq (.block 5 (.dreg [Qm 53 7, Qm 54 7, Qp 55 (.idxAA 2 1 (.t 6) (.t 54)), Ql 56 1 55, Qp 57 (.bin 0 .shl (.t 56) (.c (.int .u64 8))), Qm 58 0, Qm 59 5, Qk 60 .add 59 3, Qm 61 7, Qp 62 (.bin 0 .mul (Qi 8) (.t 61)), Qb 63 .add 60 62, Qm 64 8, Qb 65 .add 63 64, Qx 66 1 58 65, Ql 67 1 66, Qp 68 (.conv .u64 (.t 67)), Qb 69 .or 57 68, Qp 70 (.idxAA 2 1 (.t 6) (.t 53)), Qs 1 70 69] [[], [], [1], [1, 2], [1, 2, 3], [], [], [6], [], [8], [6, 7, 8, 9], [], [6, 7, 8, 9, 10, 11], [5, 6, 7, 8, 9, 10, 11, 12], [5, 6, 7, 8, 9, 10, 11, 12, 13], [5, 6, 7, 8, 9, 10, 11, 12, 13, 14], [1, 2, 3, 4, 5, 6, 7, 8, 9, 10, 11, 12, 13, 14, 15], [0, 1, 2, 3, 4, 5, 6, 7, 8, 9, 10, 11, 12, 13, 14, 15, 16], [0, 1, 2, 3, 4, 5, 6, 7, 8, 9, 10, 11, 12, 13, 14, 15, 16, 17]]))
 (.reg [Qm 51 8, Qk 52 .sub 51 1, Qm 8 52]))))))))
 (.reg [Qk 71 .add 46 1, Qm 46 71])))))))
 (.dreg [Qf 72 2 2 4, Ql 73 1 72, Qm 74 0, Qm 75 5, Qx 76 1 74 75, Ql 77 1 76, Qm 78 0, Qm 79 5, Qk 80 .add 79 1, Qx 81 1 78 80, Ql 82 1 81, Qp 83 (.conv .u16 (.t 82)), Qm 84 0, Qm 85 5, Qk 86 .add 85 2, Qx 87 1 84 86, Ql 88 1 87, Qp 89 (.conv .u16 (.t 88)), Qp 90 (.bin 0 .shl (.t 89) (.c (.int .u64 8))), Qb 91 .or 83 90, Qp 92 (.idxAA 2 1 (.t 6) (Qi 0)), Ql 93 1 92, Qp 94 (.conv .i64 (.t 93)), Qp 95 (.idxAA 2 1 (.t 6) (Qi 1)), Ql 96 1 95, Qp 97 (.conv .i64 (.t 96)), Qw 98 (.build none [.int .u8 0, .int .u16 0, .int .i64 0, .int .i64 0] [(0, (.t 77)), (1, (.t 91)), (2, (.t 94)), (3, (.t 97))]), Qw 99 (.buildS 69 4 (.agg [.int .u8 0, .int .u16 0, .int .i64 0, .int .i64 0]) 1 [(0, (.t 98))]), Qw 100 (.app 69 4 24 (.t 73) (.t 99)), Qf 101 2 2 4, Qs 1 101 100] [[], [0], [], [], [2, 3], [2, 3, 4], [], [], [7], [6, 7, 8], [6, 7, 8, 9], [6, 7, 8, 9, 10], [], [], [13], [12, 13, 14], [12, 13, 14, 15], [12, 13, 14, 15, 16], [12, 13, 14, 15, 16, 17], [6, 7, 8, 9, 10, 11, 12, 13, 14, 15, 16, 17, 18], [], [20], [20, 21], [], [23], [23, 24], [2, 3, 4, 5, 6, 7, 8, 9, 10, 11, 12, 13, 14, 15, 16, 17, 18, 19, 20, 21, 22, 23, 24, 25], [2, 3, 4, 5, 6, 7, 8, 9, 10, 11, 12, 13, 14, 15, 16, 17, 18, 19, 20, 21, 22, 23, 24, 25, 26], [0, 1, 2, 3, 4, 5, 6, 7, 8, 9, 10, 11, 12, 13, 14, 15, 16, 17, 18, 19, 20, 21, 22, 23, 24, 25, 26, 27], [0, 1, 2, 3, 4, 5, 6, 7, 8, 9, 10, 11, 12, 13, 14, 15, 16, 17, 18, 19, 20, 21, 22, 23, 24, 25, 26, 27, 28], [0, 1, 2, 3, 4, 5, 6, 7, 8, 9, 10, 11, 12, 13, 14, 15, 16, 17, 18, 19, 20, 21, 22, 23, 24, 25, 26, 27, 28, 29]]))))
 (.reg [Qm 44 5, Qk 45 .add 44 19, Qm 5 45]))))))
 (Qr ([QL 102 3 4, Qs 3 2 102, Qc 3 (.bool true)])
 (.ret)))))), [.load true 3 (.t 2), .mov (.t 3)]) := by kernel_rfl
def cellAt (b : List Int) (p : Nat) : Canon := ⟨b[p]!, b[p + 1]! + b[p + 2]! * 256, rd8 b (p + 3), rd8 b (p + 11)⟩
def cellsOf (b : List Int) (n : Nat) : List Canon := (List.range n).map fun i => cellAt b (2 + 19 * i)
theorem cellsOf_snoc (b : List Int) (n : Nat) : cellsOf b n ++ [cellAt b (2 + 19 * n)] = cellsOf b (n + 1) := by simp [cellsOf, List.range_succ]
theorem cellsOf_len (b : List Int) (n : Nat) : (cellsOf b n).length = n := by simp [cellsOf]
def okB (b : List Int) : Prop := 2 ≤ b.length ∧ (b.length : Int) = 2 + 19 * b[1]! ∧ b[0]! < 2 ∧ b[1]! ≤ 16
instance (b : List Int) : Decidable (okB b) := by unfold okB; infer_instance
def sRead (b : List Int) : Output × Bool := if okB b then (⟨0, b[0]!, cellsOf b b[1]!.toNat⟩, true) else (⟨0, 0, []⟩, false)
theorem bor_16 {x y : Int} (hx : 0 ≤ x ∧ x ≤ 255) (hy : 0 ≤ y ∧ y ≤ 255) : bor .u16 (x % 65536) (y % 65536 * 256 % 65536) = x + y * 256 := by
  rw [Int.emod_eq_of_lt hx.1 (by omega), Int.emod_eq_of_lt hy.1 (by omega), Int.emod_eq_of_lt (by omega) (by omega)]
  obtain ⟨a, rfl⟩ := Int.eq_ofNat_of_zero_le hx.1
  obtain ⟨b, rfl⟩ := Int.eq_ofNat_of_zero_le hy.1
  have e : a ||| b * 2 ^ 8 = a + b * 2 ^ 8 := by
    rw [Nat.or_comm, ← Nat.shiftLeft_eq, ← Nat.shiftLeft_add_eq_or_of_lt (by omega), Nat.add_comm]
  show IntKind.u16.wrap ((BitVec.ofInt 16 _ ||| BitVec.ofInt 16 _).toNat : Int) = _
  rw [show ((b : Int) * 256) = ((b * 2 ^ 8 : Nat) : Int) by simp, BitVec.toNat_or, ofInt_nat (Int.natCast_nonneg _) (by exact_mod_cast (by omega : a < 2 ^ 16)), ofInt_nat (Int.natCast_nonneg _) (by exact_mod_cast (by omega : b * 2 ^ 8 < 2 ^ 16))]
  show ((((a : Int).toNat ||| ((b * 2 ^ 8 : Nat) : Int).toNat : Nat)) : Int) % 65536 = _
  rw [Int.toNat_natCast, Int.toNat_natCast, e]
  omega
theorem out_sub : SubV (.agg [.int .i64 0, .int .i64 0, .nilS]) (outputV true ⟨0, 0, []⟩) := SubV.agg ⟨SubV.refl _, SubV.refl _, SubV.nil _ _, trivial⟩
set_option maxHeartbeats 8000000 in
theorem sread_fn (b : List Int) : Fnc Tryz.prog 111 [.sl false 1 (u8s b)] (fun x obs => x = .tup [outputV true (sRead b).1, .bool (sRead b).2] ∧ obs = []) := by
  refine Fnc.wf fun hw => ?_
  simp only [V.wfs, V.wf, wfs_map, List.length_map] at hw
  have hb := hw.1.1
  have hm := hw.1.2
  clear hw
  by_cases c1 : b.length < 2
  · rw [show sRead b = (⟨0, 0, []⟩, false) from if_neg fun h => by unfold okB at h; omega]
    refine zgo m_sread_ok fun W S => ?_
    refine ev_obSub 0 _ rfl out_sub rfl ?_
    exact zrt m_sread_ok
  have b0 := wfs_at hb (k := 0) (by omega)
  have b1 := wfs_at hb (k := 1) (by omega)
  by_cases c2 : (b.length : Int) = 2 + 19 * b[1]!
  rotate_left
  · rw [show sRead b = (⟨0, 0, []⟩, false) from if_neg fun h => by unfold okB at h; omega]
    refine zgo m_sread_ok fun W S => ?_
    refine ev_obSub 0 _ rfl out_sub rfl ?_
    exact zrt m_sread_ok
  by_cases c3 : b[0]! < 2
  rotate_left
  · rw [show sRead b = (⟨0, 0, []⟩, false) from if_neg fun h => by unfold okB at h; omega]
    refine zgo m_sread_ok fun W S => ?_
    refine ev_obSub 0 _ rfl out_sub rfl ?_
    exact zrt m_sread_ok
  by_cases c4 : b[1]! ≤ 16
  rotate_left
  · rw [show sRead b = (⟨0, 0, []⟩, false) from if_neg fun h => by unfold okB at h; omega]
    refine zgo m_sread_ok fun W S => ?_
    refine ev_obSub 0 _ rfl out_sub rfl ?_
    exact zrt m_sread_ok
  rw [show sRead b = (⟨0, b[0]!, cellsOf b b[1]!.toNat⟩, true) from if_pos (by unfold okB; omega)]
  refine zgo m_sread_ok fun W S => ?_
  obtain ⟨n, hn⟩ := Int.eq_ofNat_of_zero_le b1.1
  rw [hn] at c2 c4 ⊢
  rw [Int.toNat_natCast]
  refine ev_adoptB 1 2 69 4 rfl rfl (by decide) rfl ?_
  refine ev_loopK [0, 2, 4] (fun p : {p : Nat // p ≤ n} => [(5, .int .i64 (2 + 19 * (p.1 : Int)))]) (fun p => [⟨.box false 75, true, 0, .agg [.int .i64 0, .int .i64 0, .nilS]⟩, ⟨.box false 75, true, 0, .agg [.int .i64 0, .int .i64 b[0]!, .own 2 p.1]⟩, ⟨.row 69, true, p.1, .arr 4 ((cellsOf b p.1).map canonV)⟩]) (fun p => n - p.1) (⟨0, by simp⟩) 3 (by simp only [go_sem]; rfl) ?_ (by first | rfl | (simp only [go_sem]; done)) (by simp) (by first | rfl | (simp only [go_sem]; done)) (by first | rfl | (simp only [go_sem]; done)) (by first | rfl | (simp only [go_sem]; done)) ?_
  · (simp only [go_sem]; (try simp []); done)
  intro J hJ
  rintro ⟨m, hm0⟩
  have hcl := cellsOf_len b m
  have hJ0 := hJ
  by_cases hlt : m < n
  · refine zst ?_
    refine ev_unroll 3 ?_
    refine zst ?_
    have hz0 : nm b (2 + 19 * m + 3) 0 = 0 := rfl
    refine ev_loopK [0, 2, 4, 5, 6, 7, 46] (fun p : {p : Nat // p ≤ 8} => [(8, .int .i64 (7 - (p.1 : Int)))]) (fun p => [⟨.box false 75, true, 0, .agg [.int .i64 0, .int .i64 0, .nilS]⟩, ⟨.box false 75, true, 0, .agg [.int .i64 0, .int .i64 b[0]!, .own 2 m]⟩, ⟨.row 69, true, m, .arr 4 ((cellsOf b m).map canonV)⟩, ⟨.box false 139, true, 0, .arr 1 [.int .u64 (nm b (2 + 19 * m + 3) p.1), .int .u64 0]⟩]) (fun p => 8 - p.1) (⟨0, by simp⟩) 4 (by simp only [go_sem]; rfl) ?_ (by first | rfl | (simp only [go_sem]; done) | (simp only [go_sem]; simp [hz0]; done)) (by simp) (by first | rfl | (simp only [go_sem]; done)) (by first | rfl | (simp only [go_sem]; done)) (by first | rfl | (simp only [go_sem]; done) | (simp only [hz0]; (try simp only [go_sem]); first | done | rfl)) ?_
    · (simp only [go_sem]; (try simp [hz0]); done)
    intro J hJ
    rintro ⟨j, hj0⟩
    by_cases hlj : j < 8
    · have e7 : (2 + 19 * (m : Int) + 3 + (7 - (j : Int))).toNat = 2 + 19 * m + 3 + 7 - j := by omega
      have hx := wfs_at hb (k := 2 + 19 * m + 3 + 7 - j) (by omega)
      have hor := nm_or hb (at' := 2 + 19 * m + 3) (j := j) (by omega) hlj
      have e8 : 7 - (j : Int) - 1 = 7 - ((j + 1 : Nat) : Int) := by omega
      refine zst ?_
      exact zn4 (hJ _ (⟨j + 1, hlj⟩) (by first | omega | (dsimp only; omega) | (simp; omega))) (And.intro e7 (And.intro hor (e8)))
    obtain rfl : j = 8 := by omega
    refine zst ?_
    have hz1 : nm b (2 + 19 * m + 11) 0 = 0 := rfl
    refine ev_loopK [0, 2, 4, 5, 6, 7, 46] (fun p : {p : Nat // p ≤ 8} => [(8, .int .i64 (7 - (p.1 : Int)))]) (fun p => [⟨.box false 75, true, 0, .agg [.int .i64 0, .int .i64 0, .nilS]⟩, ⟨.box false 75, true, 0, .agg [.int .i64 0, .int .i64 b[0]!, .own 2 m]⟩, ⟨.row 69, true, m, .arr 4 ((cellsOf b m).map canonV)⟩, ⟨.box false 139, true, 0, .arr 1 [.int .u64 (nm b (2 + 19 * m + 3) 8), .int .u64 (nm b (2 + 19 * m + 11) p.1)]⟩]) (fun p => 8 - p.1) (⟨0, by simp⟩) 4 (by simp only [go_sem]; rfl) ?_ (by first | rfl | (simp only [go_sem]; done) | (simp only [go_sem]; simp [hz1]; done)) (by simp) (by first | rfl | (simp only [go_sem]; done)) (by first | rfl | (simp only [go_sem]; done)) (by first | rfl | (simp only [go_sem]; done) | (simp only [hz1]; (try simp only [go_sem]); first | done | rfl)) ?_
    · (simp only [go_sem]; (try simp [hz1]); done)
    intro J hJ
    rintro ⟨j, hj0⟩
    by_cases hlj : j < 8
    · have e7 : (2 + 19 * (m : Int) + 3 + 8 + (7 - (j : Int))).toNat = 2 + 19 * m + 11 + 7 - j := by omega
      have hx := wfs_at hb (k := 2 + 19 * m + 11 + 7 - j) (by omega)
      have hor := nm_or hb (at' := 2 + 19 * m + 11) (j := j) (by omega) hlj
      have e8 : 7 - (j : Int) - 1 = 7 - ((j + 1 : Nat) : Int) := by omega
      refine zst ?_
      exact zn4 (hJ _ (⟨j + 1, hlj⟩) (by first | omega | (dsimp only; omega) | (simp; omega))) (And.intro e7 (And.intro hor (e8)))
    obtain rfl : j = 8 := by omega
    have hJ := hJ0
    have x0 := wfs_at hb (k := 2 + 19 * m) (by omega)
    have x1 := wfs_at hb (k := 2 + 19 * m + 1) (by omega)
    have x2 := wfs_at hb (k := 2 + 19 * m + 2) (by omega)
    have e0 : (2 + 19 * (m : Int)).toNat = 2 + 19 * m := by omega
    have e1 : (2 + 19 * (m : Int) + 1).toNat = 2 + 19 * m + 1 := by omega
    have e2 : (2 + 19 * (m : Int) + 2).toNat = 2 + 19 * m + 2 := by omega
    have h16 := bor_16 x1 x2
    have hcell : cellsOf b m ++ [(⟨b[2 + 19 * m]!, b[2 + 19 * m + 1]! + b[2 + 19 * m + 2]! * 256, IntKind.i64.wrap (nm b (2 + 19 * m + 3) 8), IntKind.i64.wrap (nm b (2 + 19 * m + 11) 8)⟩ : Canon)] = cellsOf b (m + 1) := cellsOf_snoc b m
    have e9 : 2 + 19 * (m : Int) + 19 = 2 + 19 * ((m + 1 : Nat) : Int) := by omega
    refine zst ?_
    simp only [e0, e1, e2, h16, e9, hcell]
    refine ev_next 3 (hJ _ (⟨m + 1, hlt⟩) (by first | omega | (dsimp only; omega) | (simp; omega))) rfl (by simp) ?_ (by first | rfl | (simp only [go_sem]; done)) (by first | rfl | (simp only [go_sem]; done)) ?_
    · (first | rfl | (simp only [go_sem]; done) | (simp only [go_sem]; simp only []; done) | (simp only []; done) | (simp only [go_sem]; simp []; done) | (simp []; done))
    · simp only [go_sem]
  · obtain rfl : m = n := by omega
    refine zst ?_
    exact zrt m_sread_ok
end Go.Proofs.YtdpfglkjhdnbbaaGreat
