/- Standby: notes of outputs. -/
import Derived.Test.YtdpfglkjhdnbbaaGreatR2
import Derived.Test.YtdpfglkjhdnbbaaGreatC5
namespace Go.Proofs.YtdpfglkjhdnbbaaGreat
open Go Go.RowKit Rdn Rdn.Dp
set_option linter.unusedVariables false
set_option linter.unusedSimpArgs false
theorem m_sout_ok : compF Tryz.prog 14 = some (42, Qr ([Qw 4 (.alloc 42 (.agg [.int .i64 0, .int .i64 0, .int .i64 0, .nilS])), Qp 5 (.mov (Qi 0))])
 (.seq (Qr ([Qw 13 (.build none [.int .i64 0, .int .i64 0, .int .i64 0, .nilS] []), Qm 14 0, Qm 15 1, Qq 16 35 [(.t 13), (.t 14), (.t 15)], Qm 12 16, Qe 17 12 0, Qe 18 12 1, Qe 19 12 2, Qw 6 (.alloc 31 (.agg [.int .i64 0, .int .i64 0, .int .i64 0, .nilS])), Qs 4 6 17, Qm 7 18, Qm 8 19])
 (Qr ([Qm 20 8, Qk 21 .neq 20 0])
 (.cond (.t 21) (Qr ([Qw 22 (.build none [.int .i64 0, .int .i64 0, .int .i64 0, .nilS] []), Qs 4 4 22, Qp 5 (.mov (Qi 1))])
 (.ret)) (.skip))))
 (Qr ([Qm 23 0, Qp 24 (.conv .u8 (.t 23)), Qm 25 1, Qn 26 25, Qp 27 (.conv .u8 (.t 26)), Qw 28 (.buildS 5 1 (.int .u8 0) 2 [(0, (.t 24)), (1, (.t 27))]), Qm 9 28])
 (.seq (Qr ([Qm 29 1, Qn 30 29, Qp 31 (.mov (Qi 0))])
 (.block 0 (.loop (Qr ([Qb 32 .lss 31 30])
 (.seq (.cond (.t 32) (.skip) (.exit 0))
 (.seq (.block 1 (Qr ([Qx 33 4 29 31, QL 34 4 33, Qw 11 (.alloc 69 (.agg [.int .u8 0, .int .u16 0, .int .i64 0, .int .i64 0])), Qs 4 11 34])
 (.reg [Qm 35 9, QL 36 4 11, Qq 37 36 [(.t 36)], Qw 38 (.app 5 1 1 (.t 35) (.t 37)), Qm 9 38])))
 (.reg [Qk 39 .add 31 1, Qm 31 39])))))))
 (Qr ([Qm 40 9, Qw 41 (.build none [.int .i64 0, .int .i64 0, .int .i64 0, .nilS] [(0, (Qi 6)), (3, (.t 40))]), Qs 4 4 41, Qp 5 (.mov (Qi 0))])
 (.ret))))), [.load true 4 (.t 4), .mov (.t 5)]) := by kernel_rfl
theorem m_rout40_ok : compF Tryz.prog 20 = some (43, Qr ([Qw 4 (.alloc 42 (.agg [.int .i64 0, .int .i64 0, .int .i64 0, .nilS])), Qp 5 (.mov (Qi 0))])
 (.seq (Qr ([Qw 12 (.build none [.int .i64 0, .int .i64 0, .int .i64 0, .nilS] []), Qm 13 0, Qm 14 1, Qq 15 46 [(.t 12), (.t 13), (.t 14)], Qm 11 15, Qe 16 11 0, Qe 17 11 1, Qe 18 11 2, Qw 6 (.alloc 31 (.agg [.int .i64 0, .int .i64 0, .int .i64 0, .nilS])), Qs 4 6 16, Qm 7 17, Qm 8 18])
 (Qr ([Qm 19 8, Qk 20 .neq 19 0])
 (.cond (.t 20) (Qr ([Qw 21 (.build none [.int .i64 0, .int .i64 0, .int .i64 0, .nilS] []), Qs 4 4 21, Qp 5 (.mov (Qi 1))])
 (.ret)) (.skip))))
 (Qr ([Qm 22 0, Qp 23 (.conv .u8 (.t 22)), Qm 24 1, Qn 25 24, Qp 26 (.conv .u8 (.t 25)), Qw 27 (.buildS 5 1 (.int .u8 0) 2 [(0, (.t 23)), (1, (.t 26))]), Qm 9 27])
 (.seq (Qr ([Qp 10 (.mov (Qi 0))])
 (.block 0 (.loop (.seq (Qr ([Qm 28 10, Qm 29 1, Qn 30 29, Qb 31 .lss 28 30])
 (.cond (.t 31) (.skip) (.exit 0)))
 (.seq (.block 1 (.reg [Qm 34 9, Qm 35 1, Qm 36 10, Qx 37 4 35 36, QL 38 4 37, Qq 39 47 [(.t 38)], Qw 40 (.app 5 1 1 (.t 34) (.t 39)), Qm 9 40]))
 (.reg [Qm 32 10, Qk 33 .add 32 1, Qm 10 33]))))))
 (Qr ([Qm 41 9, Qw 42 (.build none [.int .i64 0, .int .i64 0, .int .i64 0, .nilS] [(0, (Qi 6)), (3, (.t 41))]), Qs 4 4 42, Qp 5 (.mov (Qi 0))])
 (.ret))))), [.load true 4 (.t 4), .mov (.t 5)]) := by kernel_rfl
def g0 : Gateway := ⟨0, 0, 0, []⟩
theorem g0_ok : okG g0 := ⟨by unfold okN g0; simp, fun i hi => by simp [g0] at hi⟩
theorem g0_fit : fitG g0 := g0_ok.fit
theorem sOff_g0 (s : Int) (d : List Canon) : sOff g0 s d = if s < 0 ∨ s ≥ 2 ∨ d.length > 16 then (g0, 0, 1) else (⟨1, 0, 0, [⟨0, s, d⟩]⟩, 0, 0) := by
  unfold sOff
  rw [chk_T g0_ok, if_neg (by omega)]
  by_cases c : s < 0 ∨ s ≥ 2 ∨ d.length > 16
  · rw [if_pos c, if_pos c]
  · rw [if_neg c, if_neg c, if_neg (by simp [g0])]; rfl
def outB (s : Int) (d : List Canon) : List Int := [s, (d.length : Int)] ++ d.flatMap cbytes
def sOut (s : Int) (d : List Canon) : Note × Int := if s < 0 ∨ s ≥ 2 ∨ d.length > 16 then (n0, 1) else (⟨6, 0, 0, outB s d⟩, 0)
theorem outB_take (d : List Canon) (k : Nat) (hk : k < d.length) : (d.take k).flatMap cbytes ++ cbytes d[k]! = (d.take (k + 1)).flatMap cbytes := by
  rw [take_snoc hk, List.flatMap_append]; simp
theorem outB_len (d : List Canon) (k : Nat) : ((d.take k).flatMap cbytes).length = 19 * min k d.length := by
  rw [flat_len, List.length_take]
def sOff0 (s : Int) (d : List Canon) : Gateway × Int × Int := if s < 0 ∨ s ≥ 2 ∨ d.length > 16 then (g0, 0, 1) else (⟨1, 0, 0, [⟨0, s, d⟩]⟩, 0, 0)
theorem woff0_fn (s : Int) (d : List Canon) : Fnc Tryz.prog 35 [.agg [.int .i64 0, .int .i64 0, .int .i64 0, .sl false 3 []], .int .i64 s, .sl false 4 (d.map canonV)] (fun x obs => x = .tup [.agg (gwL false (sOff0 s d).1), .int .i64 (sOff0 s d).2.1, .int .i64 (sOff0 s d).2.2] ∧ obs = []) := by
  have h := woff_fn g0 s d g0_fit
  rw [sOff_g0] at h
  exact h
theorem roff0_fn (s : Int) (d : List Canon) : Fnc Tryz.prog 46 [.agg [.int .i64 0, .int .i64 0, .int .i64 0, .sl false 3 []], .int .i64 s, .sl false 4 (d.map canonV)] (fun x obs => x = .tup [.agg (gwL false (sOff0 s d).1), .int .i64 (sOff0 s d).2.1, .int .i64 (sOff0 s d).2.2] ∧ obs = []) := by
  have h := roff_fn g0 s d
  rw [sOff_g0] at h
  exact h
attribute [local irreducible] cbytes
set_option maxHeartbeats 8000000 in
theorem sout_fn (s : Int) (d : List Canon) : Fnc Tryz.prog 14 [.int .i64 s, .sl false 4 (d.map canonV)] (fun x obs => x = .tup [.agg (noteL false (sOut s d).1), .int .i64 (sOut s d).2] ∧ obs = []) := by
  refine Fnc.low ?_
  have f1 := woff0_fn s d
  by_cases c : s < 0 ∨ s ≥ 2 ∨ d.length > 16
  · rw [show sOff0 s d = (g0, 0, 1) from if_pos c] at f1
    rw [show sOut s d = (n0, 1) from if_pos c]
    refine zgo m_sout_ok fun W S => ?_
    refine zcd (f1) ?_
    refine ev_obSub 0 _ rfl nt0 rfl ?_
    exact zrt m_sout_ok
  · rw [show sOff0 s d = (⟨1, 0, 0, [⟨0, s, d⟩]⟩, 0, 0) from if_neg c] at f1
    rw [show sOut s d = (⟨6, 0, 0, outB s d⟩, 0) from if_neg c]
    have h0 : s % 256 = s := by omega
    have h1 : (d.length : Int) % 256 = d.length := by omega
    refine zgo m_sout_ok fun W S => ?_
    refine zcd (f1) ?_
    refine ev_loopK [4, 29, 30] (fun p : {p : Nat // p ≤ d.length} => [(9, .own 2 p.1), (31, .int .i64 p.1)]) (fun p => [⟨.box false 42, true, 0, .agg [.int .i64 0, .int .i64 0, .int .i64 0, .nilS]⟩, ⟨.box false 31, true, 0, .agg (gwL false ⟨1, 0, 0, [⟨0, s, d⟩]⟩)⟩, ⟨.row 5, true, p.1, .arr 1 (u8s ([s, (d.length : Int)] ++ (d.take p.1).flatMap cbytes))⟩]) (fun p => d.length - p.1) (⟨0, by simp⟩) 3 (by simp only [go_sem]; rfl) ?_ (by first | rfl | (simp only [go_sem]; done)) (by simp) (by first | rfl | (simp only [go_sem]; done)) (by first | rfl | (simp only [go_sem]; done)) (by first | rfl | (simp only [go_sem]; done)) ?_
    · (simp only [go_sem]; (try simp []); done)
    intro J hJ
    rintro ⟨k, hk0⟩
    have hl := outB_len d k
    by_cases hlt : k < d.length
    · have hs := outB_take d k hlt
      have hcb := cbytes_len d[k]!
      refine zst ?_
      refine zcd (bytes_fn d[k]!) ?_
      exact zn3 (hJ _ (⟨k + 1, hlt⟩) (by first | omega | (dsimp only; omega) | (simp; omega))) hs
    · obtain rfl : k = d.length := by omega
      dsimp only
      rw [List.take_length]
      refine zst ?_
      refine ret m_sout_ok [] ?_; (first | (simp only [go_sem]; done) | (simp only [go_sem]; ((try dsimp only); (repeat' (refine And.intro ?_ ?_)) <;> first | with_reducible rfl | (simp only [go_sem]; done) | (simp only [go_sem]; rfl) | (simp only [go_sem, outB]; done) | (simp only [outB]; (try simp only [go_sem]); first | done | rfl) | (simp only [go_sem]; simp [outB]; done) | (simp [outB]; done) | rfl)))
set_option maxHeartbeats 8000000 in
theorem rout_fn40 (s : Int) (d : List Canon) : Fnc Tryz.prog 20 [.int .i64 s, .sl false 4 (d.map canonV)] (fun x obs => x = .tup [.agg (noteL false (sOut s d).1), .int .i64 (sOut s d).2] ∧ obs = []) := by
  refine Fnc.low ?_
  have f1 := roff0_fn s d
  by_cases c : s < 0 ∨ s ≥ 2 ∨ d.length > 16
  · rw [show sOff0 s d = (g0, 0, 1) from if_pos c] at f1
    rw [show sOut s d = (n0, 1) from if_pos c]
    refine zgo m_rout40_ok fun W S => ?_
    refine zcd (f1) ?_
    refine ev_obSub 0 _ rfl nt0 rfl ?_
    exact zrt m_rout40_ok
  · rw [show sOff0 s d = (⟨1, 0, 0, [⟨0, s, d⟩]⟩, 0, 0) from if_neg c] at f1
    rw [show sOut s d = (⟨6, 0, 0, outB s d⟩, 0) from if_neg c]
    have h0 : s % 256 = s := by omega
    have h1 : (d.length : Int) % 256 = d.length := by omega
    refine zgo m_rout40_ok fun W S => ?_
    refine zcd (f1) ?_
    refine ev_loopK [1, 4] (fun p : {p : Nat // p ≤ d.length} => [(9, .own 2 p.1), (10, .int .i64 p.1)]) (fun p => [⟨.box false 42, true, 0, .agg [.int .i64 0, .int .i64 0, .int .i64 0, .nilS]⟩, ⟨.box false 31, true, 0, .agg (gwL false ⟨1, 0, 0, [⟨0, s, d⟩]⟩)⟩, ⟨.row 5, true, p.1, .arr 1 (u8s ([s, (d.length : Int)] ++ (d.take p.1).flatMap cbytes))⟩]) (fun p => d.length - p.1) (⟨0, by simp⟩) 3 (by simp only [go_sem]; rfl) ?_ (by first | rfl | (simp only [go_sem]; done)) (by simp) (by first | rfl | (simp only [go_sem]; done)) (by first | rfl | (simp only [go_sem]; done)) (by first | rfl | (simp only [go_sem]; done)) ?_
    · (simp only [go_sem]; (try simp []); done)
    intro J hJ
    rintro ⟨k, hk0⟩
    have hl := outB_len d k
    by_cases hlt : k < d.length
    · have hs := outB_take d k hlt
      have hcb := cbytes_len d[k]!
      refine zst ?_
      refine zcd (rBytes_fn d[k]!) ?_
      exact zn3 (hJ _ (⟨k + 1, hlt⟩) (by first | omega | (dsimp only; omega) | (simp; omega))) hs
    · obtain rfl : k = d.length := by omega
      dsimp only
      rw [List.take_length]
      refine zst ?_
      refine ret m_rout40_ok [] ?_; (first | (simp only [go_sem]; done) | (simp only [go_sem]; ((try dsimp only); (repeat' (refine And.intro ?_ ?_)) <;> first | with_reducible rfl | (simp only [go_sem]; done) | (simp only [go_sem]; rfl) | (simp only [go_sem, outB]; done) | (simp only [outB]; (try simp only [go_sem]); first | done | rfl) | (simp only [go_sem]; simp [outB]; done) | (simp [outB]; done) | rfl)))
end Go.Proofs.YtdpfglkjhdnbbaaGreat
