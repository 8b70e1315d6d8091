/- Standby: notes that are drawn. -/
import Derived.Test.YtdpfglkjhdnbbaaGreatR25
import Derived.Test.YtdpfglkjhdnbbaaGreatC5
import Derived.Test.YtdpfglkjhdnbbaaGreatR18
namespace Go.Proofs.YtdpfglkjhdnbbaaGreat
open Go Go.RowKit Rdn Rdn.Dp
set_option linter.unusedVariables false
set_option linter.unusedSimpArgs false
theorem m_nt40_ok : compF Tryz.prog 10 = some (52, Qr ([Qw 3 (.box 35 (.t 1)), Qw 4 (.alloc 42 (.agg [.int .i64 0, .int .i64 0, .int .i64 0, .nilS]))])
 (.seq (Qr ([Qm 7 0, Qq 8 8 [(.t 7), (Qi 6)]])
 (.block 0 (.seq (Qr ([Qk 10 .eql 8 0, Qm 9 10])
 (.cond (.t 9) (.skip) (.reg [Qk 11 .eql 8 1, Qm 9 11])))
 (.cond (.t 9) (Qr ([Qm 13 0, Qq 14 8 [(.t 13), (Qi 2)], Qm 15 0, Qq 16 21 [(.t 15), (Qi 2)], Qq 17 20 [(.t 14), (.t 16)], Qm 12 17, Qe 18 12 0, Qe 19 12 1, Qw 5 (.alloc 42 (.agg [.int .i64 0, .int .i64 0, .int .i64 0, .nilS])), Qs 4 5 18, Qm 6 19])
 (Qr ([QL 20 4 5, Qs 4 4 20])
 (.ret))) (Qr ([Qk 22 .eql 8 2, Qm 21 22])
 (.cond (.t 21) (.seq (.dreg [Qf 23 6 6 3, Qf 24 1 1 23, Ql 25 1 24, Qm 26 0, Qq 27 8 [(.t 26), (Qi 3)], Qb 28 .add 25 27, Qw 29 (.build none [.int .i64 0, .int .i64 0, .int .i64 0, .nilS] [(0, (Qi 3)), (1, (.t 28))]), Qs 4 4 29] [[], [0], [0, 1], [], [3], [0, 1, 2, 3, 4], [0, 1, 2, 3, 4, 5], [0, 1, 2, 3, 4, 5, 6]])
 (.ret)) (Qr ([Qk 31 .eql 8 3, Qm 30 31])
 (.cond (.t 30) (Qr ([Qf 32 11 8 3, Qf 33 0 0 32, Ql 34 1 33, Qw 35 (.build none [.int .i64 0, .int .i64 0, .int .i64 0, .nilS] [(0, (Qi 4)), (1, (.t 34))]), Qs 4 4 35])
 (.ret)) (Qr ([Qk 37 .eql 8 4, Qm 36 37])
 (.cond (.t 36) (Qr ([Qm 38 0, Qq 39 8 [(.t 38), (Qi 9)], Qp 40 (.conv .u8 (.t 39)), Qw 41 (.buildS 5 1 (.int .u8 0) 1 [(0, (.t 40))]), Qw 42 (.build none [.int .i64 0, .int .i64 0, .int .i64 0, .nilS] [(0, (Qi 1)), (3, (.t 41))]), Qs 4 4 42])
 (.ret)) (.skip)))))))))))
 (Qr ([Qm 43 0, Qq 44 8 [(.t 43), (Qi 7)], Qm 45 0, Qq 46 8 [(.t 45), (Qi 4)], Qm 47 0, Qq 48 8 [(.t 47), (Qi 9)], Qp 49 (.conv .u8 (.t 48)), Qw 50 (.buildS 5 1 (.int .u8 0) 1 [(0, (.t 49))]), Qw 51 (.build none [.int .i64 0, .int .i64 0, .int .i64 0, .nilS] [(0, (.t 44)), (1, (.t 46)), (3, (.t 50))]), Qs 4 4 51])
 (.ret))), [.load true 4 (.t 4)]) := by kernel_rfl
def noteS (l : List Int) (k : Nat) (p : Pair) : Note × Nat :=
  if dnx l k 6 = 0 ∨ dnx l k 6 = 1 then ((sOut (dnx l (dkx l k) 2) (dcs l (dkx l (dkx l k)) 2).1).1, (dcs l (dkx l (dkx l k)) 2).2)
  else if dnx l k 6 = 2 then (⟨3, IntKind.i64.wrap (p.gateway.free + dnx l (dkx l k) 3), 0, []⟩, dkx l (dkx l k))
  else if dnx l k 6 = 3 then (⟨4, p.mailbox.next, 0, []⟩, dkx l k)
  else if dnx l k 6 = 4 then (⟨1, 0, 0, [dnx l (dkx l k) 9]⟩, dkx l (dkx l k))
  else (⟨dnx l (dkx l k) 7, dnx l (dkx l (dkx l k)) 4, 0, [dnx l (dkx l (dkx l (dkx l k))) 9]⟩, dkx l (dkx l (dkx l (dkx l k))))
theorem noteS_le {l : List Int} {k : Nat} (p : Pair) (hk : k ≤ l.length) : (noteS l k p).2 ≤ l.length := by
  unfold noteS
  repeat' split
  · exact dcs_le (dkx_le (dkx_le hk)) 2
  · exact dkx_le (dkx_le hk)
  · exact dkx_le hk
  · exact dkx_le (dkx_le hk)
  · exact dkx_le (dkx_le (dkx_le (dkx_le hk)))
theorem nt_sub (a b c : Int) : SubV (.agg [.int .i64 a, .int .i64 b, .int .i64 c, .nilS]) (.agg (noteL false ⟨a, b, c, []⟩)) := SubV.agg ⟨SubV.refl _, SubV.refl _, SubV.refl _, SubV.nil _ _, trivial⟩
attribute [local irreducible] sOut dcs
set_option maxHeartbeats 8000000 in
theorem nt40_fn (l : List Int) (k : Nat) (p : Pair) (hk : k ≤ l.length) : FncM Tryz.prog 10 54 (deckV l k) [prV false p] (fun x obs c => x = .agg (noteL false (noteS l k p).1) ∧ obs = [] ∧ c = deckV l (noteS l k p).2) := by
  refine FncM.low ?_
  have a1 := dnx_ge (l := l) (k := k) (n := 6) (by omega)
  have a2 := dnx_lt (l := l) (k := k) (n := 6) (by omega)
  have k1 := dkx_le hk
  have k2 := dkx_le k1
  have k3 := dkx_le k2
  have k4 := dkx_le k3
  have f0 := next_fn l k 6 hk (by omega)
  unfold noteS
  generalize dnx l k 6 = z at *
  have hc : (z = 0 ∨ z = 1) ∨ z = 2 ∨ z = 3 ∨ z = 4 ∨ z = 5 := by omega
  rcases hc with hc | rfl | rfl | rfl | rfl
  · rw [if_pos hc]
    have f1 := next_fn l (dkx l k) 2 k1 (by omega)
    have f2 := canons_sl l (dkx l (dkx l k)) 2 k2 (by omega) (by omega)
    have f3 := rout_fn40 (dnx l (dkx l k) 2) (dcs l (dkx l (dkx l k)) 2).1
    rcases hc with rfl | rfl
    · skip
      refine zgM m_nt40_ok fun W S b0 hb0 => ?_
      refine zcm (f0) ?_
      refine zcm (f1) ?_
      refine zcm (f2) ?_
      refine zcd (f3) ?_
      exact zrm hb0 m_nt40_ok
    · skip
      refine zgM m_nt40_ok fun W S b0 hb0 => ?_
      refine zcm (f0) ?_
      refine zcm (f1) ?_
      refine zcm (f2) ?_
      refine zcd (f3) ?_
      exact zrm hb0 m_nt40_ok
  · rw [if_neg (by omega), if_pos rfl]
    have f1 := next_fn l (dkx l k) 3 k1 (by omega)
    refine zgM m_nt40_ok fun W S b0 hb0 => ?_
    refine zcm (f0) ?_
    refine zcm (f1) ?_
    refine ev_obSub 2 _ rfl (nt_sub _ _ _) rfl ?_
    exact zrm hb0 m_nt40_ok
  · rw [if_neg (by omega), if_neg (by omega), if_pos rfl]
    refine zgM m_nt40_ok fun W S b0 hb0 => ?_
    refine zcm (f0) ?_
    refine ev_obSub 2 _ rfl (nt_sub _ _ _) rfl ?_
    exact zrm hb0 m_nt40_ok
  · rw [if_neg (by omega), if_neg (by omega), if_neg (by omega), if_pos rfl]
    have f1 := next_fn l (dkx l k) 9 k1 (by omega)
    have b1 := dnx_ge (l := l) (k := dkx l k) (n := 9) (by omega)
    have b2 := dnx_lt (l := l) (k := dkx l k) (n := 9) (by omega)
    refine zgM m_nt40_ok fun W S b0 hb0 => ?_
    refine zcm (f0) ?_
    refine zcm (f1) ?_
    exact zrm hb0 m_nt40_ok
  · rw [if_neg (by omega), if_neg (by omega), if_neg (by omega), if_neg (by omega)]
    have f1 := next_fn l (dkx l k) 7 k1 (by omega)
    have f2 := next_fn l (dkx l (dkx l k)) 4 k2 (by omega)
    have f3 := next_fn l (dkx l (dkx l (dkx l k))) 9 k3 (by omega)
    have b1 := dnx_ge (l := l) (k := dkx l (dkx l (dkx l k))) (n := 9) (by omega)
    have b2 := dnx_lt (l := l) (k := dkx l (dkx l (dkx l k))) (n := 9) (by omega)
    refine zgM m_nt40_ok fun W S b0 hb0 => ?_
    refine zcm (f0) ?_
    refine zcm (f1) ?_
    refine zcm (f2) ?_
    refine zcm (f3) ?_
    exact zrm hb0 m_nt40_ok
end Go.Proofs.YtdpfglkjhdnbbaaGreat
