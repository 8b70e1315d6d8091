/- Standby: what notes do. -/
import Derived.Test.YtdpfglkjhdnbbaaGreatR5
import Derived.Test.YtdpfglkjhdnbbaaGreatC5
namespace Go.Proofs.YtdpfglkjhdnbbaaGreat
open Go Go.RowKit Rdn Rdn.Dp
set_option linter.unusedVariables false
set_option linter.unusedSimpArgs false
theorem m_eout_ok : compF Tryz.prog 100 = some (36, Qr ([Qw 3 (.box 42 (.t 1)), Qp 4 (.mov (Qi 0))])
 (Qr ([Qf 11 3 3 3, Ql 12 1 11, Qq 13 111 [(.t 12)], Qm 10 13, Qe 14 10 0, Qe 15 10 1, Qw 5 (.alloc 75 (.agg [.int .i64 0, .int .i64 0, .nilS])), Qs 3 5 14, Qm 6 15])
 (.seq (Qr ([Qm 16 6, Qp 17 (.un .not (.t 16))])
 (.cond (.t 17) (Qr ([Qp 4 (.mov (Qi 5))])
 (.ret)) (.skip)))
 (.seq (.dreg [Qm 19 0, Qp 20 (.nilc (.t 19)), Qf 21 0 0 20, QL 22 4 21, Qf 23 1 1 5, Ql 24 1 23, Qf 25 2 2 5, Ql 26 1 25, Qq 27 35 [(.t 22), (.t 24), (.t 26)], Qm 18 27, Qe 28 18 0, Qe 29 18 1, Qe 30 18 2, Qw 7 (.alloc 31 (.agg [.int .i64 0, .int .i64 0, .int .i64 0, .nilS])), Qs 4 7 28, Qm 8 29, Qm 9 30] [[], [0], [0, 1], [0, 1, 2], [], [4], [], [6], [0, 1, 2, 3, 4, 5, 6, 7], [0, 1, 2, 3, 4, 5, 6, 7, 8], [0, 1, 2, 3, 4, 5, 6, 7, 8, 9], [0, 1, 2, 3, 4, 5, 6, 7, 8, 9], [0, 1, 2, 3, 4, 5, 6, 7, 8, 9], [], [0, 1, 2, 3, 4, 5, 6, 7, 8, 9, 10, 13], [0, 1, 2, 3, 4, 5, 6, 7, 8, 9, 10, 11, 13, 14], [0, 1, 2, 3, 4, 5, 6, 7, 8, 9, 10, 11, 12, 13, 14, 15]])
 (Qr ([Qm 31 0, QL 32 4 7, Qp 33 (.nilc (.t 31)), Qf 34 0 0 33, Qs 4 34 32])
 (Qr ([Qm 35 9, Qm 4 35])
 (.ret)))))), [.mov (.t 4)]) := by kernel_rfl
theorem m_efree_ok : compF Tryz.prog 101 = some (22, Qr ([Qw 3 (.box 42 (.t 1)), Qp 4 (.mov (Qi 0))])
 (.seq (.dreg [Qm 8 0, Qp 9 (.nilc (.t 8)), Qf 10 0 0 9, QL 11 4 10, Qf 12 1 1 3, Ql 13 1 12, Qq 14 112 [(.t 11), (.t 13)], Qm 7 14, Qe 15 7 0, Qe 16 7 1, Qw 5 (.alloc 31 (.agg [.int .i64 0, .int .i64 0, .int .i64 0, .nilS])), Qs 4 5 15, Qm 6 16] [[], [0], [0, 1], [0, 1, 2], [], [4], [0, 1, 2, 3, 4, 5], [0, 1, 2, 3, 4, 5, 6], [0, 1, 2, 3, 4, 5, 6, 7], [0, 1, 2, 3, 4, 5, 6, 7], [], [0, 1, 2, 3, 4, 5, 6, 7, 8, 10], [0, 1, 2, 3, 4, 5, 6, 7, 8, 9, 10, 11]])
 (Qr ([Qm 17 0, QL 18 4 5, Qp 19 (.nilc (.t 17)), Qf 20 0 0 19, Qs 4 20 18])
 (Qr ([Qm 21 6, Qm 4 21])
 (.ret)))), [.mov (.t 4)]) := by kernel_rfl
theorem m_eack_ok : compF Tryz.prog 102 = some (22, Qr ([Qw 3 (.box 42 (.t 1)), Qp 4 (.mov (Qi 0))])
 (.seq (.dreg [Qm 8 0, Qp 9 (.nilc (.t 8)), Qf 10 0 0 9, QL 11 4 10, Qf 12 1 1 3, Ql 13 1 12, Qq 14 113 [(.t 11), (.t 13)], Qm 7 14, Qe 15 7 0, Qe 16 7 1, Qw 5 (.alloc 31 (.agg [.int .i64 0, .int .i64 0, .int .i64 0, .nilS])), Qs 4 5 15, Qm 6 16] [[], [0], [0, 1], [0, 1, 2], [], [4], [0, 1, 2, 3, 4, 5], [0, 1, 2, 3, 4, 5, 6], [0, 1, 2, 3, 4, 5, 6, 7], [0, 1, 2, 3, 4, 5, 6, 7], [], [0, 1, 2, 3, 4, 5, 6, 7, 8, 10], [0, 1, 2, 3, 4, 5, 6, 7, 8, 9, 10, 11]])
 (Qr ([Qm 17 0, QL 18 4 5, Qp 19 (.nilc (.t 17)), Qf 20 0 0 19, Qs 4 20 18])
 (Qr ([Qm 21 6, Qm 4 21])
 (.ret)))), [.mov (.t 4)]) := by kernel_rfl
theorem m_ebeg_ok : compF Tryz.prog 103 = some (22, Qr ([Qw 3 (.box 42 (.t 1)), Qp 4 (.mov (Qi 0))])
 (.seq (.seq (.dreg [Qf 5 1 1 3, Ql 6 1 5, Qm 7 0, Qp 8 (.nilc (.t 7)), Qf 9 4 1 8, Ql 10 1 9, Qb 11 .leq 6 10, Qm 12 11, Q0 13 12 (.fieldA 1 1 (.t 3)), Q0 14 12 (.load false 1 (.t 13)), Q0 15 12 (.bin 0 .gtr (.t 14) (Qi 1048576)), Qt 16 12 15] [[], [0], [], [2], [2, 3], [2, 3, 4], [0, 1, 2, 3, 4, 5], [0, 1, 2, 3, 4, 5, 6], [0, 1, 2, 3, 4, 5, 6, 7], [0, 1, 2, 3, 4, 5, 6, 7, 8], [0, 1, 2, 3, 4, 5, 6, 7, 8, 9], [0, 1, 2, 3, 4, 5, 6, 7, 8, 9, 10]])
 (.cond (.t 16) (Qr ([Qp 4 (.mov (Qi 5))])
 (.ret)) (.skip)))
 (Qr ([Qm 17 0, Qf 18 1 1 3, Ql 19 1 18, Qp 20 (.nilc (.t 17)), Qf 21 4 1 20, Qs 1 21 19])
 (Qr ([Qp 4 (.mov (Qi 0))])
 (.ret)))), [.mov (.t 4)]) := by kernel_rfl
abbrev efV (g : Gateway) (e : Int) : V := .agg [.agg (gwL false g), .int .i64 e]
noncomputable def effS (g : Gateway) (e : Int) (n : Note) : Gateway × Int × Int :=
  if n.kind = 6 then (if okB n.bytes then ((sOff g n.bytes[0]! (cellsOf n.bytes n.bytes[1]!.toNat)).1, e, (sOff g n.bytes[0]! (cellsOf n.bytes n.bytes[1]!.toNat)).2.2) else (g, e, 5))
  else if n.kind = 3 then ((sFree g n.number).1, e, (sFree g n.number).2)
  else if n.kind = 4 then ((sAck g n.number).1, e, (sAck g n.number).2)
  else if n.kind = 5 then (if n.number ≤ e ∨ n.number > 1048576 then (g, e, 5) else (g, n.number, 0))
  else (g, e, 0)
noncomputable def rebF : Gateway → Int → List Note → Gateway × Int × Int
  | g, e, [] => (g, e, 0)
  | g, e, n :: l => if (effS g e n).2.2 = 0 then rebF (effS g e n).1 (effS g e n).2.1 l else (g0, 0, (effS g e n).2.2)
noncomputable def sReb (l : List Note) : Gateway × Int × Int := rebF g0 0 l
theorem sOff_fit {g : Gateway} {s : Int} {d : List Canon} (h : fitG g) : fitG (sOff g s d).1 := by
  unfold sOff
  split
  · exact h
  · split
    · exact h
    · split
      · exact h
      · rename_i c1 c2 c3
        have ok : okG g := Classical.byContradiction fun hn => c1 (chk_F hn)
        have := ok.1.2.2.2.2.1
        refine ⟨by simp; omega, fun o ho => ?_⟩
        rcases List.mem_append.1 ho with ho | ho
        · exact h.2 o ho
        · rw [List.mem_singleton.1 ho]; dsimp only; omega
theorem sFree_fit {g : Gateway} {n : Int} (h : fitG g) : fitG (sFree g n).1 := by
  unfold sFree
  split
  · exact h
  · split <;> exact h
theorem sAck_fit {g : Gateway} {n : Int} (h : fitG g) : fitG (sAck g n).1 := by
  unfold sAck
  split
  · exact h
  · split
    · exact h
    · exact ⟨Nat.le_trans (by simp) h.1, h.2.drop _⟩
theorem effS_fit {g : Gateway} {e : Int} {n : Note} (h : fitG g) : fitG (effS g e n).1 := by
  unfold effS
  split
  · split
    · exact sOff_fit h
    · exact h
  · split
    · exact sFree_fit h
    · split
      · exact sAck_fit h
      · split
        · split <;> exact h
        · exact h
set_option maxHeartbeats 4000000 in
theorem eout_fn (g : Gateway) (e : Int) (n : Note) (hg : fitG g) (h6 : n.kind = 6) : FncM Tryz.prog 100 129 (efV g e) [.agg (noteL false n)] (fun x obs c => x = .int .i64 (effS g e n).2.2 ∧ obs = [] ∧ c = efV (effS g e n).1 (effS g e n).2.1) := by
  refine FncM.low ?_
  have f1 := sread_fn n.bytes
  unfold effS
  rw [if_pos h6]
  by_cases c : okB n.bytes
  · rw [if_pos c]
    rw [show sRead n.bytes = (⟨0, n.bytes[0]!, cellsOf n.bytes n.bytes[1]!.toNat⟩, true) from if_pos c] at f1
    have f2 := woff_fn g n.bytes[0]! (cellsOf n.bytes n.bytes[1]!.toNat) hg
    generalize sOff g n.bytes[0]! (cellsOf n.bytes n.bytes[1]!.toNat) = q at f2
    obtain ⟨q1, q2, q3⟩ := q
    dsimp only at f2
    refine zgM m_eout_ok fun W S b0 hb0 => ?_
    refine zcd (f1) ?_
    refine zcd (f2) ?_
    exact zrm hb0 m_eout_ok
  · rw [if_neg c]
    rw [show sRead n.bytes = (⟨0, 0, []⟩, false) from if_neg c] at f1
    refine zgM m_eout_ok fun W S b0 hb0 => ?_
    refine zcd (f1) ?_
    exact zrm hb0 m_eout_ok
set_option maxHeartbeats 4000000 in
theorem efree_fn (g : Gateway) (e : Int) (n : Note) (hg : fitG g) (h6 : n.kind = 3) : FncM Tryz.prog 101 129 (efV g e) [.agg (noteL false n)] (fun x obs c => x = .int .i64 (effS g e n).2.2 ∧ obs = [] ∧ c = efV (effS g e n).1 (effS g e n).2.1) := by
  refine FncM.low ?_
  unfold effS
  rw [if_neg (by omega), if_pos h6]
  have f2 := wfree_fn g n.number hg
  generalize sFree g n.number = q at f2
  obtain ⟨q1, q2⟩ := q
  dsimp only at f2
  refine zgM m_efree_ok fun W S b0 hb0 => ?_
  refine zcd (f2) ?_
  exact zrm hb0 m_efree_ok
set_option maxHeartbeats 4000000 in
theorem eack_fn (g : Gateway) (e : Int) (n : Note) (hg : fitG g) (h6 : n.kind = 4) : FncM Tryz.prog 102 129 (efV g e) [.agg (noteL false n)] (fun x obs c => x = .int .i64 (effS g e n).2.2 ∧ obs = [] ∧ c = efV (effS g e n).1 (effS g e n).2.1) := by
  refine FncM.low ?_
  unfold effS
  rw [if_neg (by omega), if_neg (by omega), if_pos h6]
  have f2 := wack_fn g n.number hg
  generalize sAck g n.number = q at f2
  obtain ⟨q1, q2⟩ := q
  dsimp only at f2
  refine zgM m_eack_ok fun W S b0 hb0 => ?_
  refine zcd (f2) ?_
  exact zrm hb0 m_eack_ok
set_option maxHeartbeats 4000000 in
theorem ebeg_fn (g : Gateway) (e : Int) (n : Note) (h6 : n.kind = 5) : FncM Tryz.prog 103 129 (efV g e) [.agg (noteL false n)] (fun x obs c => x = .int .i64 (effS g e n).2.2 ∧ obs = [] ∧ c = efV (effS g e n).1 (effS g e n).2.1) := by
  refine FncM.low ?_
  unfold effS
  rw [if_neg (by omega), if_neg (by omega), if_neg (by omega), if_pos h6]
  by_cases c1 : n.number ≤ e
  · rw [if_pos (.inl c1)]
    refine zgM m_ebeg_ok fun W S b0 hb0 => ?_
    exact zrm hb0 m_ebeg_ok
  by_cases c2 : n.number > 1048576
  · rw [if_pos (.inr c2)]
    refine zgM m_ebeg_ok fun W S b0 hb0 => ?_
    exact zrm hb0 m_ebeg_ok
  · rw [if_neg (by omega)]
    refine zgM m_ebeg_ok fun W S b0 hb0 => ?_
    exact zrm hb0 m_ebeg_ok
end Go.Proofs.YtdpfglkjhdnbbaaGreat
