/- The law StandbyRaw. -/
import Derived.Test.YtdpfglkjhdnbbaaR26
import Derived.Test.YtdpfglkjhdnbbaaC5
import Derived.Test.YtdpfglkjhdnbbaaR19
namespace Go.Proofs.Ytdpfglkjhdnbbaa
open Go Go.RowKit Rdn Rdn.Dp
set_option linter.unusedVariables false
set_option linter.unusedSimpArgs false
theorem m_sraw_ok : compF Try.prog 5 = some (95, Qr ([Qw 5 (.box 36 (.t 0)), Qw 6 (.box 26 (.t 1)), Qc 10 (.bool false)])
 (Qr ([Qf 15 3 3 6, Ql 16 1 15, Qn 17 16, Qm 11 17])
 (.seq (Qr ([Qp 12 (.mov (Qi 0))])
 (.block 0 (.loop (.seq (Qr ([Qm 18 12, Qf 19 5 5 5, Ql 20 1 19, Qn 21 20, Qb 22 .lss 18 21])
 (.cond (.t 22) (.skip) (.exit 0)))
 (.seq (.block 1 (.reg [Qm 25 11, Qk 26 .add 25 10, Qf 27 5 5 5, Ql 28 1 27, Qm 29 12, Qx 30 1 28 29, Ql 31 1 30, Qn 32 31, Qb 33 .add 26 32, Qm 11 33]))
 (.reg [Qm 23 12, Qk 24 .add 23 1, Qm 12 24]))))))
 (.seq (Qr ([Qp 13 (.mov (Qi 0))])
 (.block 2 (.loop (.seq (Qr ([Qm 34 13, Qf 35 6 6 5, Qf 36 3 3 35, Ql 37 1 36, Qn 38 37, Qb 39 .lss 34 38])
 (.cond (.t 39) (.skip) (.exit 2)))
 (.seq (.block 3 (.reg [Qm 42 11, Qk 43 .add 42 4, Qf 44 6 6 5, Qf 45 3 3 44, Ql 46 1 45, Qm 47 13, Qx 48 3 46 47, Qf 49 2 2 48, Ql 50 1 49, Qn 51 50, Qb 52 .add 43 51, Qm 11 52]))
 (.reg [Qm 40 13, Qk 41 .add 40 1, Qm 13 41]))))))
 (.seq (Qr ([Qp 14 (.mov (Qi 0))])
 (.block 4 (.loop (.seq (Qr ([Qm 53 14, Qf 54 11 8 5, Qf 55 2 2 54, Ql 56 1 55, Qn 57 56, Qb 58 .lss 53 57])
 (.cond (.t 58) (.skip) (.exit 4)))
 (.seq (.block 5 (.reg [Qm 61 11, Qk 62 .add 61 4, Qf 63 11 8 5, Qf 64 2 2 63, Ql 65 1 64, Qm 66 14, Qx 67 3 65 66, Qf 68 2 2 67, Ql 69 1 68, Qn 70 69, Qb 71 .add 62 70, Qm 11 71]))
 (.reg [Qm 59 14, Qk 60 .add 59 1, Qm 14 60]))))))
 (Qr ([Qm 72 11, Qk 73 .gtr 72 4000, Qm 74 73, Q0 75 74 (.fieldA 3 3 (.t 5)), Q0 76 74 (.load false 1 (.t 75)), Q0 77 74 (.len (.t 76)), Q0 78 74 (.fieldA 4 4 (.t 5)), Q0 79 74 (.load false 1 (.t 78)), Q0 80 74 (.len (.t 79)), Q0 81 74 (.bin 0 .add (.t 77) (.t 80)), Q0 82 74 (.bin 0 .gtr (.t 81) (Qi 100)), Qt 83 74 82, Qm 84 83, Q0 85 84 (.load true 14 (.t 5)), Q0 86 84 (.load true 4 (.t 6)), Q0 87 84 (.mov (.t 2)), Q0 88 84 (.mov (.t 3)), Q0 89 84 (.mov (.t 4)), ⟨(some 90), (some (84, false)), (.call 24 [(.t 85), (.t 86), (.t 87), (.t 88), (.t 89)])⟩, Qt 91 84 90, Qm 92 91, ⟨(some 93), (some (92, true)), (.call 7 [])⟩, Qu 94 92 93, Qm 10 94])
 (.ret)))))), [.mov (.t 10)]) := by kernel_rfl
theorem rd_boolv : Reads Try.prog 4 Sh.bool := Reads.bool (by kernel_rfl) (by kernel_rfl)
theorem rd_bools : Reads Try.prog 28 (Sh.slice Sh.bool) := Reads.slice (by kernel_rfl) (by kernel_rfl) (by decide) (of_decide_eq_true (by kernel_rfl)) rd_boolv
theorem rd_bytess : Reads Try.prog 29 (Sh.slice (Sh.slice (Sh.int .u8))) := Reads.slice (by kernel_rfl) (by kernel_rfl) (by decide) (of_decide_eq_true (by kernel_rfl)) rd_bytes
theorem rd_Pair : Reads Try.prog 36 Pair.sh :=
  Reads.via (Reads.struct Try.underlying36 (by kernel_rfl) (Row.cons rfl rd_int (Row.cons rfl rd_int (Row.cons rfl rd_int (Row.cons rfl rd_bools (Row.cons rfl rd_bools (Row.cons rfl rd_bytess (Row.cons rfl rd_Gateway (Row.cons rfl rd_int (Row.cons rfl rd_Mailbox (Row.nil _ _))))))))))) (fun a => ⟨⟨a.1, a.2.1, a.2.2.1, a.2.2.2.1, a.2.2.2.2.1, a.2.2.2.2.2.1, a.2.2.2.2.2.2.1, a.2.2.2.2.2.2.2.1, a.2.2.2.2.2.2.2.2.1⟩, rfl⟩)
theorem enc_bools : Enc (Sh.slice Sh.bool) (fun l => .sl false 1 (l.map V.bool)) := Enc.slice Enc.bool (fun _ => rfl) (fun _ => rfl)
theorem enc_bytess : Enc (Sh.slice (Sh.slice (Sh.int .u8))) (fun l => .sl false 1 (l.map (slV' false 1 (V.int .u8)))) := Enc.slice enc_u8s (fun _ => rfl) (fun _ => rfl)
theorem enc_pair : Enc Pair.sh (fun p => prV false p) := Enc.struct (EncL.cons (Enc.int _) (EncL.cons (Enc.int _) (EncL.cons (Enc.int _) (EncL.cons enc_bools (EncL.cons enc_bools (EncL.cons enc_bytess (EncL.cons enc_gateway (EncL.cons (Enc.int _) (EncL.cons enc_mailbox EncL.unit))))))))) _
theorem fitO_bd {l : List Output} (h : (Sh.slice Output.sh).bd l) : l.length ≤ 3518437208780 ∧ fitO l := by
  have h1 : l.length * 40 ≤ 140737488351232 := h.1
  refine ⟨by omega, by omega, fun o ho => ?_⟩
  have h2 : o.data.length * 24 ≤ 140737488351232 := (h.2 o ho).2.2.1.1
  omega
theorem fitP_bd {p : Pair} (h : Pair.sh.bd p) : FitP p ∧ p.mailbox.taken.length ≤ 3518437208780 := by
  obtain ⟨_, _, _, h1, h2, h3, h4, _, h5, _⟩ := h
  have k1 : p.up.length * 1 ≤ 140737488351232 := h1.1
  have k2 : p.sync.length * 1 ≤ 140737488351232 := h2.1
  have k3 : p.journals.length * 24 ≤ 140737488351232 := h3.1
  have k5 := fitO_bd h5.2.2.1
  refine ⟨⟨by omega, by omega, by omega, fun x hx => ?_, (fitO_bd h4.2.2.2.1).2, k5.2⟩, k5.1⟩
  have : x.length * 1 ≤ 140737488351232 := (h3.2 x hx).1
  omega
def lgtJ (k : Int) (l : List (List Int)) : Nat → Int
  | 0 => k
  | n + 1 => IntKind.i64.wrap (IntKind.i64.wrap (lgtJ k l n + 10) + l[n]!.length)
def lgtO (k : Int) (l : List Output) : Nat → Int
  | 0 => k
  | n + 1 => IntKind.i64.wrap (IntKind.i64.wrap (lgtO k l n + 4) + l[n]!.data.length)
set_option maxHeartbeats 8000000 in
theorem sraw_fn (p : Pair) (n : Note) (f s i : Int) (hp : Pair.sh.bd p) : Fnc Try.prog 5 [prV false p, .agg (noteL false n), .int .i64 f, .int .i64 s, .int .i64 i] (fun x obs => x = .bool true) := by
  refine Fnc.wf fun hw => ?_
  simp only [V.wfs, V.wf, List.length_map] at hw
  obtain ⟨F, hm⟩ := fitP_bd hp
  have b1 := F.u
  have b2 := F.s
  have b3 := F.j
  have b4 := F.g.1
  have b5 := F.m.1
  have fa := agree40_fn p n f s i F hm
  clear hw F hp
  refine zgo m_sraw_ok fun W S => ?_
  refine ev_loopK [2, 3, 4, 5, 6] (fun q : {q : Nat // q ≤ p.journals.length} => [(11, .int .i64 (lgtJ n.bytes.length p.journals q.1)), (12, .int .i64 q.1)]) (fun _ => [⟨.box false 36, true, 0, prV false p⟩, ⟨.box false 26, true, 0, .agg (noteL false n)⟩]) (fun q => p.journals.length - q.1) (⟨0, by simp⟩) 2 (by simp only [go_sem]; rfl) ?_ (by first | rfl | (simp only [go_sem]; done) | (simp only [go_sem]; simp [lgtJ]; done)) (by simp) (by first | rfl | (simp only [go_sem]; done)) (by first | rfl | (simp only [go_sem]; done)) (by first | rfl | (simp only [go_sem]; done) | (simp only [lgtJ]; (try simp only [go_sem]); first | done | rfl)) ?_
  · (simp only [go_sem]; (try simp [lgtJ]); done)
  intro J hJ
  rintro ⟨k, hk0⟩
  by_cases hlt : k < p.journals.length
  · skip
    refine zst ?_
    refine ev_next 2 (hJ _ (⟨k + 1, hlt⟩) (by first | omega | (dsimp only; omega) | (simp; omega))) rfl (by simp) ?_ (by first | rfl | (simp only [go_sem]; done)) (by first | rfl | (simp only [go_sem]; done) | (simp only [lgtJ]; (try simp only [go_sem]); first | done | rfl)) ?_
    · (first | rfl | (simp only [go_sem]; done) | (simp only [go_sem]; simp only [lgtJ]; done) | (simp only [lgtJ]; done) | (simp only [go_sem]; simp [lgtJ]; done) | (simp [lgtJ]; done))
    · (simp only [go_sem]; (repeat' (refine And.intro ?_ ?_)) <;> first | exact trivial | with_reducible rfl | (simp only [lgtJ]; done) | (simp only [lgtJ]; with_reducible rfl) | (simp [lgtJ]; done) | (simp [lgtJ]; omega) | (simp only [lgtJ]; rfl) | skip)
  · obtain rfl : k = p.journals.length := by omega
    clear hJ
    generalize lgtJ n.bytes.length p.journals p.journals.length = K1
    refine zst ?_
    refine ev_loopK [2, 3, 4, 5, 6] (fun q : {q : Nat // q ≤ p.gateway.held.length} => [(11, .int .i64 (lgtO K1 p.gateway.held q.1)), (13, .int .i64 q.1)]) (fun _ => [⟨.box false 36, true, 0, prV false p⟩, ⟨.box false 26, true, 0, .agg (noteL false n)⟩]) (fun q => p.gateway.held.length - q.1) (⟨0, by simp⟩) 2 (by simp only [go_sem]; rfl) ?_ (by first | rfl | (simp only [go_sem]; done) | (simp only [go_sem]; simp [lgtO]; done)) (by simp) (by first | rfl | (simp only [go_sem]; done)) (by first | rfl | (simp only [go_sem]; done)) (by first | rfl | (simp only [go_sem]; done) | (simp only [lgtO]; (try simp only [go_sem]); first | done | rfl)) ?_
    · (simp only [go_sem]; (try simp [lgtO]); done)
    intro J hJ
    rintro ⟨k, hk0⟩
    by_cases hlt : k < p.gateway.held.length
    · skip
      refine zst ?_
      refine ev_next 2 (hJ _ (⟨k + 1, hlt⟩) (by first | omega | (dsimp only; omega) | (simp; omega))) rfl (by simp) ?_ (by first | rfl | (simp only [go_sem]; done)) (by first | rfl | (simp only [go_sem]; done) | (simp only [lgtO]; (try simp only [go_sem]); first | done | rfl)) ?_
      · (first | rfl | (simp only [go_sem]; done) | (simp only [go_sem]; simp only [lgtO]; done) | (simp only [lgtO]; done) | (simp only [go_sem]; simp [lgtO]; done) | (simp [lgtO]; done))
      · (simp only [go_sem]; (repeat' (refine And.intro ?_ ?_)) <;> first | exact trivial | with_reducible rfl | (simp only [lgtO]; done) | (simp only [lgtO]; with_reducible rfl) | (simp [lgtO]; done) | (simp [lgtO]; omega) | (simp only [lgtO]; rfl) | skip)
    · obtain rfl : k = p.gateway.held.length := by omega
      clear hJ
      generalize lgtO K1 p.gateway.held p.gateway.held.length = K2
      refine zst ?_
      refine ev_loopK [2, 3, 4, 5, 6] (fun q : {q : Nat // q ≤ p.mailbox.taken.length} => [(11, .int .i64 (lgtO K2 p.mailbox.taken q.1)), (14, .int .i64 q.1)]) (fun _ => [⟨.box false 36, true, 0, prV false p⟩, ⟨.box false 26, true, 0, .agg (noteL false n)⟩]) (fun q => p.mailbox.taken.length - q.1) (⟨0, by simp⟩) 2 (by simp only [go_sem]; rfl) ?_ (by first | rfl | (simp only [go_sem]; done) | (simp only [go_sem]; simp [lgtO]; done)) (by simp) (by first | rfl | (simp only [go_sem]; done)) (by first | rfl | (simp only [go_sem]; done)) (by first | rfl | (simp only [go_sem]; done) | (simp only [lgtO]; (try simp only [go_sem]); first | done | rfl)) ?_
      · (simp only [go_sem]; (try simp [lgtO]); done)
      intro J hJ
      rintro ⟨k, hk0⟩
      by_cases hlt : k < p.mailbox.taken.length
      · skip
        refine zst ?_
        refine ev_next 2 (hJ _ (⟨k + 1, hlt⟩) (by first | omega | (dsimp only; omega) | (simp; omega))) rfl (by simp) ?_ (by first | rfl | (simp only [go_sem]; done)) (by first | rfl | (simp only [go_sem]; done) | (simp only [lgtO]; (try simp only [go_sem]); first | done | rfl)) ?_
        · (first | rfl | (simp only [go_sem]; done) | (simp only [go_sem]; simp only [lgtO]; done) | (simp only [lgtO]; done) | (simp only [go_sem]; simp [lgtO]; done) | (simp [lgtO]; done))
        · (simp only [go_sem]; (repeat' (refine And.intro ?_ ?_)) <;> first | exact trivial | with_reducible rfl | (simp only [lgtO]; done) | (simp only [lgtO]; with_reducible rfl) | (simp [lgtO]; done) | (simp [lgtO]; omega) | (simp only [lgtO]; rfl) | skip)
      · obtain rfl : k = p.mailbox.taken.length := by omega
        clear hJ
        generalize lgtO K2 p.mailbox.taken p.mailbox.taken.length = K3
        by_cases c1 : K3 > 4000
        · skip
          refine zst ?_
          refine zcd (awake40_fn) ?_
          refine ret m_sraw_ok [] ?_; (first | (simp only [go_sem]; done) | (simp only [go_sem]; rfl))
        by_cases c2 : (p.up.length : Int) + p.sync.length > 100
        · skip
          refine zst ?_
          refine zcd (awake40_fn) ?_
          refine ret m_sraw_ok [] ?_; (first | (simp only [go_sem]; done) | (simp only [go_sem]; rfl))
        · skip
          refine zst ?_
          refine zcd (fa) ?_
          refine zcd (awake40_fn) ?_
          refine ret m_sraw_ok [] ?_; (first | (simp only [go_sem]; done) | (simp only [go_sem]; rfl))
theorem sraw_law {a0 : Pair} {c0 : Array Value} {a1 : Note} {c1 : Array Value} {a2 : Int} {v2 : Value} {a3 : Int} {v3 : Value} {a4 : Int} {v4 : Value} (W : World) (e0 : Pair.sh.rd (old W) W a0 c0.toList) (e1 : Note.sh.rd (old W) W a1 c1.toList) (e2 : (Sh.int .i64).rd (old W) W a2 [v2]) (e3 : (Sh.int .i64).rd (old W) W a3 [v3]) (e4 : (Sh.int .i64).rd (old W) W a4 [v4]) (b0 : Pair.sh.bd a0) :
    Calls Try.prog 5 #[.agg c0, .agg c1, v2, v3, v4] W fun e w' => e = .returned (.bool true) ∧ Below W.heap.size W w' :=
  Fnc.law (sraw_fn a0 a1 a2 a3 a4 b0) (RdTs.agg enc_pair e0 (RdTs.agg enc_note e1 (RdTs.int e2 (RdTs.int e3 (RdTs.int e4 RdTs.nil')))))
end Go.Proofs.Ytdpfglkjhdnbbaa
