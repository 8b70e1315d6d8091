/- Standby: pairs; new pairs. -/
import Derived.Test.YtdpfglkjhdnbbaaGreatR8
import Derived.Test.YtdpfglkjhdnbbaaGreatC5
namespace Go.Proofs.YtdpfglkjhdnbbaaGreat
open Go Go.RowKit Rdn Rdn.Dp
set_option linter.unusedVariables false
set_option linter.unusedSimpArgs false
theorem m_pnew_ok : compF Tryz.prog 13 = some (33, Qr ([Qw 2 (.alloc 35 (.agg [.int .i64 0, .int .i64 0, .int .i64 0, .nilS, .nilS, .nilS, .agg [.int .i64 0, .int .i64 0, .int .i64 0, .nilS], .int .i64 0, .agg [.int .i64 0, .int .i64 0, .nilS]])), Qp 3 (.mov (Qi 0))])
 (.seq (Qr ([Qm 7 0, Qk 8 .lss 7 1, Qm 9 8, Q0 10 9 (.mov (.t 0)), Q0 11 9 (.bin 0 .gtr (.t 10) (Qi 1000)), Qt 12 9 11])
 (.cond (.t 12) (Qr ([Qw 13 (.build none [.int .i64 0, .int .i64 0, .int .i64 0, .nilS, .nilS, .nilS, .agg [.int .i64 0, .int .i64 0, .int .i64 0, .nilS], .int .i64 0, .agg [.int .i64 0, .int .i64 0, .nilS]] []), Qs 14 2 13, Qp 3 (.mov (Qi 1))])
 (.ret)) (.skip)))
 (Qr ([Qm 14 0, Qw 15 (.buildS 4 1 (.bool false) 2 [(0, (.c (.bool true))), (1, (.c (.bool true)))]), Qw 16 (.buildS 4 1 (.bool false) 2 [(0, (.c (.bool true))), (1, (.c (.bool true)))]), Qw 17 (.build none [.int .i64 0, .int .i64 0, .int .i64 0, .nilS, .nilS, .nilS, .agg [.int .i64 0, .int .i64 0, .int .i64 0, .nilS], .int .i64 0, .agg [.int .i64 0, .int .i64 0, .nilS]] [(0, (.t 14)), (3, (.t 15)), (4, (.t 16)), (7, (Qi 1))]), Qw 4 (.alloc 35 (.agg [.int .i64 0, .int .i64 0, .int .i64 0, .nilS, .nilS, .nilS, .agg [.int .i64 0, .int .i64 0, .int .i64 0, .nilS], .int .i64 0, .agg [.int .i64 0, .int .i64 0, .nilS]])), Qs 14 4 17])
 (.seq (Qr ([Qp 18 (.mov (Qi 0))])
 (.block 0 (.loop (Qr ([Qk 19 .lss 18 2])
 (.seq (.cond (.t 19) (.skip) (.exit 0))
 (.seq (.block 1 (Qr ([Qw 21 (.build none [.int .i64 0, .int .i64 0, .int .i64 0, .nilS] [(0, (Qi 5)), (1, (Qi 1))]), Qq 22 34 [(.c (.nilS)), (.t 21)], Qm 20 22, Qe 23 20 0, Qe 24 20 1, Qm 5 23, Qm 6 24])
 (.reg [Qf 25 5 5 4, Ql 26 1 25, Qm 27 5, Qw 28 (.buildS 40 1 (.nilS) 1 [(0, (.t 27))]), Qw 29 (.app 40 1 24 (.t 26) (.t 28)), Qf 30 5 5 4, Qs 1 30 29])))
 (.reg [Qk 31 .add 18 1, Qm 18 31])))))))
 (Qr ([QL 32 14 4, Qs 14 2 32, Qp 3 (.mov (Qi 0))])
 (.ret))))), [.load true 14 (.t 2), .mov (.t 3)]) := by kernel_rfl
theorem m_rnew_ok : compF Tryz.prog 7 = some (25, Qr ([Qw 2 (.alloc 35 (.agg [.int .i64 0, .int .i64 0, .int .i64 0, .nilS, .nilS, .nilS, .agg [.int .i64 0, .int .i64 0, .int .i64 0, .nilS], .int .i64 0, .agg [.int .i64 0, .int .i64 0, .nilS]])), Qp 3 (.mov (Qi 0))])
 (.seq (Qr ([Qm 6 0, Qk 7 .lss 6 1, Qm 8 7, Q0 9 8 (.mov (.t 0)), Q0 10 8 (.bin 0 .gtr (.t 9) (Qi 1000)), Qt 11 8 10])
 (.cond (.t 11) (Qr ([Qw 12 (.build none [.int .i64 0, .int .i64 0, .int .i64 0, .nilS, .nilS, .nilS, .agg [.int .i64 0, .int .i64 0, .int .i64 0, .nilS], .int .i64 0, .agg [.int .i64 0, .int .i64 0, .nilS]] []), Qs 14 2 12, Qp 3 (.mov (Qi 1))])
 (.ret)) (.skip)))
 (Qr ([Qw 14 (.build none [.int .i64 0, .int .i64 0, .int .i64 0, .nilS] [(0, (Qi 5)), (1, (Qi 1))]), Qq 15 18 [(.c (.nilS)), (.t 14)], Qm 13 15, Qe 16 13 0, Qe 17 13 1, Qm 4 16, Qm 5 17])
 (Qr ([Qm 18 0, Qw 19 (.buildS 4 1 (.bool false) 2 [(0, (.c (.bool true))), (1, (.c (.bool true)))]), Qw 20 (.buildS 4 1 (.bool false) 2 [(0, (.c (.bool true))), (1, (.c (.bool true)))]), Qm 21 4, Qm 22 4, Qw 23 (.buildS 40 1 (.nilS) 2 [(0, (.t 21)), (1, (.t 22))]), Qw 24 (.build none [.int .i64 0, .int .i64 0, .int .i64 0, .nilS, .nilS, .nilS, .agg [.int .i64 0, .int .i64 0, .int .i64 0, .nilS], .int .i64 0, .agg [.int .i64 0, .int .i64 0, .nilS]] [(0, (.t 18)), (3, (.t 19)), (4, (.t 20)), (5, (.t 23)), (7, (Qi 1))]), Qs 14 2 24, Qp 3 (.mov (Qi 0))])
 (.ret)))), [.load true 14 (.t 2), .mov (.t 3)]) := by kernel_rfl
instance : Lo V.bool V.bool := ⟨fun _ => rfl, fun _ => rfl⟩
abbrev boV (t : Bool) (l : List Bool) : V := .sl t 1 (l.map V.bool)
abbrev joV (t : Bool) (l : List (List Int)) : V := .sl t 1 (l.map (slV' t 1 (V.int .u8)))
abbrev prV (t : Bool) (p : Pair) : V := .agg [.int .i64 p.wait, .int .i64 p.silent, .int .i64 p.active, boV t p.up, boV t p.sync, joV t p.journals, .agg (gwL t p.gateway), .int .i64 p.epoch, .agg (mbL t p.mailbox)]
def m0 : Mailbox := ⟨0, 0, []⟩
def pr0 : Pair := ⟨0, 0, 0, [], [], [], g0, 0, m0⟩
abbrev pr0V : V := .agg [.int .i64 0, .int .i64 0, .int .i64 0, .nilS, .nilS, .nilS, .agg [.int .i64 0, .int .i64 0, .int .i64 0, .nilS], .int .i64 0, .agg [.int .i64 0, .int .i64 0, .nilS]]
theorem mb_sub : SubV (.agg [.int .i64 0, .int .i64 0, .nilS]) (.agg (mbL false m0)) := SubV.agg ⟨SubV.refl _, SubV.refl _, SubV.nil _ _, trivial⟩
theorem pr0_sub : SubV pr0V (prV false pr0) := SubV.agg ⟨SubV.refl _, SubV.refl _, SubV.refl _, SubV.nil _ _, SubV.nil _ _, SubV.nil _ _, gw_sub, SubV.refl _, mb_sub, trivial⟩
def nt5 : Note := ⟨5, 1, 0, []⟩
def jn0 : List Int := (sApp [] nt5).1
def sNew (w : Int) : Pair × Int := if w < 1 ∨ w > 1000 then (pr0, 1) else (⟨w, 0, 0, [true, true], [true, true], [jn0, jn0], g0, 1, m0⟩, 0)
theorem chk_nt5 : chkN nt5 = 0 := by decide
theorem sApp_nt5 : sApp [] nt5 = (jn0, 0) := by
  have h : (encB nt5).length = 12 := encB_len nt5
  unfold jn0
  have e : sApp [] nt5 = (encB nt5, 0) := by
    unfold sApp sEnc
    rw [if_pos chk_nt5, if_neg (by simp), if_neg (by dsimp only [List.length_nil]; omega)]
    rfl
  rw [e]
theorem new_sub (w : Int) (x y z : V) : SubV (.agg [.int .i64 w, .int .i64 0, .int .i64 0, x, y, z, .agg [.int .i64 0, .int .i64 0, .int .i64 0, .nilS], .int .i64 1, .agg [.int .i64 0, .int .i64 0, .nilS]]) (.agg [.int .i64 w, .int .i64 0, .int .i64 0, x, y, z, .agg (gwL false g0), .int .i64 1, .agg (mbL false m0)]) := SubV.agg ⟨SubV.refl _, SubV.refl _, SubV.refl _, SubV.refl _, SubV.refl _, SubV.refl _, gw_sub, SubV.refl _, mb_sub, trivial⟩
theorem wapp0_fn : Fnc Tryz.prog 34 [.sl false 1 [], .agg [.int .i64 5, .int .i64 1, .int .i64 0, .sl false 1 []]] (fun x obs => x = .tup [.sl false 1 (u8s jn0), .int .i64 0] ∧ obs = []) := by
  have f1 := wapp_fn [] nt5
  rw [sApp_nt5] at f1
  exact f1
theorem rapp0_fn : Fnc Tryz.prog 18 [.sl false 1 [], .agg [.int .i64 5, .int .i64 1, .int .i64 0, .sl false 1 []]] (fun x obs => x = .tup [.sl false 1 (u8s jn0), .int .i64 0] ∧ obs = []) := by
  have f1 := rapp_fn [] nt5
  rw [sApp_nt5] at f1
  exact f1
attribute [local irreducible] jn0
set_option maxHeartbeats 8000000 in
theorem pnew_fn (w : Int) : Fnc Tryz.prog 13 [.int .i64 w] (fun x obs => x = .tup [prV false (sNew w).1, .int .i64 (sNew w).2] ∧ obs = []) := by
  refine Fnc.low ?_
  by_cases c1 : w < 1
  · rw [show sNew w = (pr0, 1) from if_pos (.inl c1)]
    refine zgo m_pnew_ok fun W S => ?_
    refine ev_obSub 0 _ rfl pr0_sub rfl ?_
    exact zrt m_pnew_ok
  by_cases c2 : w > 1000
  · rw [show sNew w = (pr0, 1) from if_pos (.inr c2)]
    refine zgo m_pnew_ok fun W S => ?_
    refine ev_obSub 0 _ rfl pr0_sub rfl ?_
    exact zrt m_pnew_ok
  rw [show sNew w = (⟨w, 0, 0, [true, true], [true, true], [jn0, jn0], g0, 1, m0⟩, 0) from if_neg (by omega)]
  refine zgo m_pnew_ok fun W S => ?_
  refine ev_unroll 3 ?_
  refine zst ?_
  refine zcd (wapp0_fn) ?_
  refine zcd (wapp0_fn) ?_
  refine ev_obSub 0 _ rfl (new_sub w _ _ _) rfl ?_
  exact zrt m_pnew_ok
set_option maxHeartbeats 8000000 in
theorem rnew_fn (w : Int) : Fnc Tryz.prog 7 [.int .i64 w] (fun x obs => x = .tup [prV false (sNew w).1, .int .i64 (sNew w).2] ∧ obs = []) := by
  refine Fnc.low ?_
  by_cases c1 : w < 1
  · rw [show sNew w = (pr0, 1) from if_pos (.inl c1)]
    refine zgo m_rnew_ok fun W S => ?_
    refine ev_obSub 0 _ rfl pr0_sub rfl ?_
    exact zrt m_rnew_ok
  by_cases c2 : w > 1000
  · rw [show sNew w = (pr0, 1) from if_pos (.inr c2)]
    refine zgo m_rnew_ok fun W S => ?_
    refine ev_obSub 0 _ rfl pr0_sub rfl ?_
    exact zrt m_rnew_ok
  rw [show sNew w = (⟨w, 0, 0, [true, true], [true, true], [jn0, jn0], g0, 1, m0⟩, 0) from if_neg (by omega)]
  refine zgo m_rnew_ok fun W S => ?_
  refine zcd (rapp0_fn) ?_
  refine ev_obSub 0 _ rfl (new_sub w _ _ _) rfl ?_
  exact zrt m_rnew_ok
end Go.Proofs.YtdpfglkjhdnbbaaGreat
