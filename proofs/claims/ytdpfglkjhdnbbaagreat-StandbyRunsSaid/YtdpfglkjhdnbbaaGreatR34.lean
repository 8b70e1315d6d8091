/- Standby: a step with the reference. -/
import Derived.Test.YtdpfglkjhdnbbaaGreatR30
import Derived.Test.YtdpfglkjhdnbbaaGreatC5
import Derived.Test.YtdpfglkjhdnbbaaGreatR28
import Derived.Test.YtdpfglkjhdnbbaaGreatR26
import Derived.Test.YtdpfglkjhdnbbaaGreatGF
namespace Go.Proofs.YtdpfglkjhdnbbaaGreat
open Go Go.RowKit Rdn Rdn.Dp
set_option linter.unusedVariables false
set_option linter.unusedSimpArgs false
theorem m_stp40_ok : compF Tryz.prog 12 = some (71, Qr ([Qw 4 (.box 35 (.t 1)), Qw 5 (.box 42 (.t 2)), Qw 6 (.alloc 35 (.agg [.int .i64 0, .int .i64 0, .int .i64 0, .nilS, .nilS, .nilS, .agg [.int .i64 0, .int .i64 0, .int .i64 0, .nilS], .int .i64 0, .agg [.int .i64 0, .int .i64 0, .nilS]])), Qc 7 (.bool false)])
 (.seq (Qr ([Qm 10 0, Qq 11 8 [(.t 10), (Qi 8)]])
 (.block 0 (Qr ([Qk 22 .eql 11 0, Qm 21 22])
 (.cond (.t 21) (.dreg [QL 24 14 4, QL 25 4 5, Qm 26 0, Qq 27 8 [(.t 26), (Qi 30)], Qk 28 .sub 27 1, Qm 29 0, Qq 30 8 [(.t 29), (Qi 30)], Qk 31 .sub 30 1, Qq 32 26 [(.t 24), (.t 25), (.t 28), (.t 31)], Qm 23 32, Qe 33 23 0, Qe 34 23 1, Qs 14 4 33] [[], [], [], [2], [2, 3], [], [2, 3, 5], [2, 3, 5, 6], [0, 1, 2, 3, 4, 5, 6, 7], [0, 1, 2, 3, 4, 5, 6, 7, 8], [0, 1, 2, 3, 4, 5, 6, 7, 8, 9], [0, 1, 2, 3, 4, 5, 6, 7, 8, 9], [0, 1, 2, 3, 4, 5, 6, 7, 8, 9, 10]]) (Qr ([Qk 36 .eql 11 1, Qm 35 36])
 (.cond (.t 35) (.reg [QL 38 14 4, Qq 39 27 [(.t 38)], Qm 37 39, Qe 40 37 0, Qe 41 37 1, Qe 42 37 2, Qs 14 4 40]) (Qr ([Qk 44 .eql 11 2, Qm 43 44])
 (.cond (.t 43) (.dreg [QL 46 14 4, Qm 47 0, Qq 48 8 [(.t 47), (Qi 2)], Qq 49 29 [(.t 46), (.t 48)], Qm 45 49, Qe 50 45 0, Qe 51 45 1, Qs 14 4 50] [[], [], [1], [0, 1, 2], [0, 1, 2, 3], [0, 1, 2, 3, 4], [0, 1, 2, 3, 4], [0, 1, 2, 3, 4, 5]]) (Qr ([Qk 53 .eql 11 3, Qm 52 53])
 (.cond (.t 52) (.dreg [QL 55 14 4, Qm 56 0, Qq 57 8 [(.t 56), (Qi 2)], Qq 58 31 [(.t 55), (.t 57)], Qm 54 58, Qe 59 54 0, Qe 60 54 1, Qs 14 4 59] [[], [], [1], [0, 1, 2], [0, 1, 2, 3], [0, 1, 2, 3, 4], [0, 1, 2, 3, 4], [0, 1, 2, 3, 4, 5]]) (.seq (Qr ([Qk 62 .eql 11 4, Qm 61 62])
 (.cond (.t 61) (.skip) (.reg [Qk 63 .eql 11 5, Qm 61 63])))
 (.cond (.t 61) (.reg [QL 65 14 4, Qq 66 33 [(.t 65)], Qm 64 66, Qe 67 64 0, Qe 68 64 1, Qe 69 64 2, Qs 14 4 67]) (Qr ([QL 13 14 4, QL 14 4 5, Qq 15 22 [(.t 13), (.t 14)], Qm 12 15, Qe 16 12 0, Qe 17 12 1, Qw 8 (.alloc 35 (.agg [.int .i64 0, .int .i64 0, .int .i64 0, .nilS, .nilS, .nilS, .agg [.int .i64 0, .int .i64 0, .int .i64 0, .nilS], .int .i64 0, .agg [.int .i64 0, .int .i64 0, .nilS]])), Qs 14 8 16, Qm 9 17])
 (Qr ([QL 18 14 8, Qm 19 9, Qk 20 .eql 19 0, Qs 14 6 18, Qm 7 20])
 (.ret)))))))))))))))
 (Qr ([QL 70 14 4, Qs 14 6 70, Qc 7 (.bool false)])
 (.ret))), [.load true 14 (.t 6), .mov (.t 7)]) := by kernel_rfl
noncomputable def stepS (l : List Int) (k : Nat) (p : Pair) (n : Note) : Pair × Bool × Nat :=
  if dnx l k 8 = 0 then ((sTear p n (dnx l (dkx l k) 30 - 1) (dnx l (dkx l (dkx l k)) 30 - 1)).1, false, dkx l (dkx l (dkx l k)))
  else if dnx l k 8 = 1 then ((sSnd p).1, false, dkx l k)
  else if dnx l k 8 = 2 then ((sFail p (dnx l (dkx l k) 2)).1, false, dkx l (dkx l k))
  else if dnx l k 8 = 3 then ((sStart p (dnx l (dkx l k) 2)).1, false, dkx l (dkx l k))
  else if dnx l k 8 = 4 ∨ dnx l k 8 = 5 then ((sTick p).1, false, dkx l k)
  else ((sWr p n).1, decide ((sWr p n).2 = 0), dkx l k)
theorem stepS_le {l : List Int} {k : Nat} (p : Pair) (n : Note) (hk : k ≤ l.length) : (stepS l k p n).2.2 ≤ l.length := by
  unfold stepS
  repeat' split
  · exact dkx_le (dkx_le (dkx_le hk))
  · exact dkx_le hk
  · exact dkx_le (dkx_le hk)
  · exact dkx_le (dkx_le hk)
  · exact dkx_le hk
  · exact dkx_le hk
theorem sWr_same (p : Pair) (n : Note) (c3 : (sWr p n).2 ≠ 0) : (sWr p n).1 = p := by
  unfold sWr
  split
  · rfl
  · rename_i c4
    have : (sWr p n).2 = 0 := by unfold sWr; rw [if_neg c4]
    exact absurd this c3
theorem stepS_inv {l : List Int} {k : Nat} {p : Pair} (n : Note) (h : ∃ g ep out, Inv p g ep out) : ∃ g ep out, Inv (stepS l k p n).1 g ep out := by
  obtain ⟨g, ep, out, h⟩ := h
  unfold stepS
  repeat' split
  · exact ⟨_, _, _, h.tear _ _ _⟩
  · exact ⟨_, _, _, h.send⟩
  · exact ⟨_, _, _, h.fail _⟩
  · exact ⟨_, _, _, h.start _⟩
  · rcases h.tick with h1 | h1
    · exact ⟨_, _, _, h1.2⟩
    · exact ⟨_, _, _, h1.2.2.2⟩
  · by_cases c3 : (sWr p n).2 = 0
    · exact ⟨_, _, _, h.write n c3⟩
    · rw [sWr_same p n c3]; exact ⟨_, _, _, h⟩
attribute [local irreducible] sWr sTear sSnd sFail sStart sTick
set_option maxHeartbeats 8000000 in
theorem stp_fn (l : List Int) (k : Nat) (p : Pair) (n : Note) (hk : k ≤ l.length) (hI : ∃ g ep out, Inv p g ep out) : FncM Tryz.prog 12 54 (deckV l k) [prV false p, .agg (noteL false n)] (fun x obs c => x = .tup [prV false (stepS l k p n).1, .bool (stepS l k p n).2.1] ∧ obs = [] ∧ c = deckV l (stepS l k p n).2.2) := by
  refine FncM.low ?_
  obtain ⟨g, ep, out, hI⟩ := hI
  have a1 := dnx_ge (l := l) (k := k) (n := 8) (by omega)
  have a2 := dnx_lt (l := l) (k := k) (n := 8) (by omega)
  have k1 := dkx_le hk
  have k2 := dkx_le k1
  have f0 := next_fn l k 8 hk (by omega)
  have hF := hI.fit
  have hm : p.mailbox.taken.length ≤ 3518437208780 := by have := hI.tlen; omega
  unfold stepS
  generalize dnx l k 8 = z at *
  have hc : z = 0 ∨ z = 1 ∨ z = 2 ∨ z = 3 ∨ (z = 4 ∨ z = 5) ∨ (z = 6 ∨ z = 7) := by omega
  rcases hc with rfl | rfl | rfl | rfl | hc | hc
  · rw [if_pos rfl]
    have fx := next_fn l (dkx l k) 30 k1 (by omega)
    have fy := next_fn l (dkx l (dkx l k)) 30 k2 (by omega)
    have b0 := dnx_ge (l := l) (k := dkx l k) (n := 30) (by omega)
    have b1 := dnx_lt (l := l) (k := dkx l k) (n := 30) (by omega)
    have b2 := dnx_ge (l := l) (k := dkx l (dkx l k)) (n := 30) (by omega)
    have b3 := dnx_lt (l := l) (k := dkx l (dkx l k)) (n := 30) (by omega)
    have ft := rtear_fn p n (dnx l (dkx l k) 30 - 1) (dnx l (dkx l (dkx l k)) 30 - 1)
    refine zgM m_stp40_ok fun W S b0 hb0 => ?_
    refine zcm (f0) ?_
    refine zcm (fx) ?_
    refine zcm (fy) ?_
    refine zcd (ft) ?_
    exact zrm hb0 m_stp40_ok
  · rw [if_neg (by omega), if_pos rfl]
    have ft := rsnd_fn p hF.m.2 hm
    refine zgM m_stp40_ok fun W S b0 hb0 => ?_
    refine zcm (f0) ?_
    refine zcd (ft) ?_
    exact zrm hb0 m_stp40_ok
  · rw [if_neg (by omega), if_neg (by omega), if_pos rfl]
    have fx := next_fn l (dkx l k) 2 k1 (by omega)
    have ft := rfail_fn p (dnx l (dkx l k) 2)
    refine zgM m_stp40_ok fun W S b0 hb0 => ?_
    refine zcm (f0) ?_
    refine zcm (fx) ?_
    refine zcd (ft) ?_
    exact zrm hb0 m_stp40_ok
  · rw [if_neg (by omega), if_neg (by omega), if_neg (by omega), if_pos rfl]
    have fx := next_fn l (dkx l k) 2 k1 (by omega)
    have ft := rstart_fn p (dnx l (dkx l k) 2)
    refine zgM m_stp40_ok fun W S b0 hb0 => ?_
    refine zcm (f0) ?_
    refine zcm (fx) ?_
    refine zcd (ft) ?_
    exact zrm hb0 m_stp40_ok
  · rw [if_neg (by omega), if_neg (by omega), if_neg (by omega), if_neg (by omega), if_pos hc]
    have ft := rtick_fn p
    rcases hc with rfl | rfl
    · skip
      refine zgM m_stp40_ok fun W S b0 hb0 => ?_
      refine zcm (f0) ?_
      refine zcd (ft) ?_
      exact zrm hb0 m_stp40_ok
    · skip
      refine zgM m_stp40_ok fun W S b0 hb0 => ?_
      refine zcm (f0) ?_
      refine zcd (ft) ?_
      exact zrm hb0 m_stp40_ok
  · rw [if_neg (by omega), if_neg (by omega), if_neg (by omega), if_neg (by omega), if_neg (by omega)]
    have ft := rwr_fn p n
    rcases hc with rfl | rfl
    · skip
      refine zgM m_stp40_ok fun W S b0 hb0 => ?_
      refine zcm (f0) ?_
      refine zcd (ft) ?_
      exact zrm hb0 m_stp40_ok
    · skip
      refine zgM m_stp40_ok fun W S b0 hb0 => ?_
      refine zcm (f0) ?_
      refine zcd (ft) ?_
      exact zrm hb0 m_stp40_ok
end Go.Proofs.YtdpfglkjhdnbbaaGreat
