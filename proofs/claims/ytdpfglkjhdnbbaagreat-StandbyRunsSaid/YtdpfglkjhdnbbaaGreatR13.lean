/- Standby: Write of the product. -/
import Derived.Test.YtdpfglkjhdnbbaaGreatR12
import Derived.Test.YtdpfglkjhdnbbaaGreatC5
namespace Go.Proofs.YtdpfglkjhdnbbaaGreat
open Go Go.RowKit Rdn Rdn.Dp
set_option linter.unusedVariables false
set_option linter.unusedSimpArgs false
theorem m_beh_ok : compF Tryz.prog 58 = some (16, Qr ([Qp 4 (.mov (.c (.nilS)))])
 (Qr ([Qw 6 (.buildS 5 1 (.int .u8 0) 0 []), Qm 7 0, Qw 8 (.app 5 1 1 (.t 6) (.t 7)), Qm 9 1, Qw 10 (.app 5 1 1 (.t 8) (.t 9)), Qm 5 10])
 (Qr ([Qm 11 5, Qm 12 5, Qn 13 12, Qp 14 (.mn (.t 13) (Qi 262144)), Qw 15 (.sl 1 (.t 11) none (some (.t 14)) none), Qm 4 15])
 (.ret))), [.mov (.t 4)]) := by kernel_rfl
theorem m_pwr_ok : compF Tryz.prog 37 = some (104, Qr ([Qw 2 (.box 35 (.t 0)), Qw 3 (.box 42 (.t 1)), Qw 4 (.alloc 35 (.agg [.int .i64 0, .int .i64 0, .int .i64 0, .nilS, .nilS, .nilS, .agg [.int .i64 0, .int .i64 0, .int .i64 0, .nilS], .int .i64 0, .agg [.int .i64 0, .int .i64 0, .nilS]])), Qp 5 (.mov (Qi 0))])
 (Qr ([QL 17 14 2, Qq 18 38 [(.t 17)], Qw 6 (.alloc 35 (.agg [.int .i64 0, .int .i64 0, .int .i64 0, .nilS, .nilS, .nilS, .agg [.int .i64 0, .int .i64 0, .int .i64 0, .nilS], .int .i64 0, .agg [.int .i64 0, .int .i64 0, .nilS]])), Qs 14 6 18])
 (.seq (Qr ([QL 19 14 2, Qq 20 17 [(.t 19)], Qm 7 20])
 (Qr ([Qm 21 7, Qk 22 .neq 21 0])
 (.cond (.t 22) (Qr ([QL 23 14 6, Qm 24 7, Qs 14 4 23, Qm 5 24])
 (.ret)) (.skip))))
 (.seq (Qr ([Qf 25 2 2 2, Ql 26 1 25, Qk 27 .lss 26 0])
 (.cond (.t 27) (Qr ([QL 28 14 6, Qs 14 4 28, Qp 5 (.mov (Qi 10))])
 (.ret)) (.skip)))
 (.seq (Qr ([Qf 29 0 0 3, Ql 30 1 29, Qk 31 .eql 30 5])
 (.cond (.t 31) (Qr ([QL 32 14 6, Qs 14 4 32, Qp 5 (.mov (Qi 1))])
 (.ret)) (.skip)))
 (Qr ([QL 33 14 2, Qq 34 38 [(.t 33)], Qw 8 (.alloc 35 (.agg [.int .i64 0, .int .i64 0, .int .i64 0, .nilS, .nilS, .nilS, .agg [.int .i64 0, .int .i64 0, .int .i64 0, .nilS], .int .i64 0, .agg [.int .i64 0, .int .i64 0, .nilS]])), Qs 14 8 34])
 (.seq (.dreg [Qf 35 2 2 2, Ql 36 1 35, Qf 37 2 2 2, Ql 38 1 37, Qp 39 (.bin 0 .sub (Qi 1) (.t 38)), Qm 9 36, Qm 10 39] [[], [0], [], [2], [2, 3], [0, 1], [0, 1, 2, 3, 4, 5]])
 (.seq (.dreg [Qf 41 5 5 2, Ql 42 1 41, Qm 43 9, Qx 44 1 42 43, Ql 45 1 44, QL 46 4 3, Qq 47 34 [(.t 45), (.t 46)], Qm 40 47, Qe 48 40 0, Qe 49 40 1, Qm 11 48, Qm 12 49] [[], [0], [], [0, 1, 2], [0, 1, 2, 3], [], [0, 1, 2, 3, 4, 5], [0, 1, 2, 3, 4, 5, 6], [0, 1, 2, 3, 4, 5, 6, 7], [0, 1, 2, 3, 4, 5, 6, 7], [0, 1, 2, 3, 4, 5, 6, 7, 8], [0, 1, 2, 3, 4, 5, 6, 7, 8, 9, 10]])
 (.seq (Qr ([Qm 50 12, Qk 51 .neq 50 0])
 (.cond (.t 51) (Qr ([QL 52 14 6, Qm 53 12, Qs 14 4 52, Qm 5 53])
 (.ret)) (.skip)))
 (Qr ([Qf 54 5 5 8, Ql 55 1 54, Qm 56 9, Qm 57 11, Qx 58 1 55 56, Qs 1 58 57])
 (.seq (Qr ([Qf 59 3 3 2, Ql 60 1 59, Qm 61 10, Qx 62 1 60 61, Ql 63 1 62])
 (.cond (.t 63) (.dreg [Qf 64 5 5 8, Ql 65 1 64, Qm 66 10, Qf 67 5 5 2, Ql 68 1 67, Qm 69 10, Qx 70 1 68 69, Ql 71 1 70, Qm 72 11, Qf 73 5 5 2, Ql 74 1 73, Qm 75 9, Qx 76 1 74 75, Ql 77 1 76, Qn 78 77, Qw 79 (.sl 1 (.t 72) (some (.t 78)) none none), Qq 80 58 [(.t 71), (.t 79)], Qx 81 1 65 66, Qs 1 81 80] [[], [0], [], [], [3], [], [3, 4, 5], [3, 4, 5, 6], [], [], [9], [], [9, 10, 11], [9, 10, 11, 12], [9, 10, 11, 12, 13], [8, 9, 10, 11, 12, 13, 14], [3, 4, 5, 6, 7, 8, 9, 10, 11, 12, 13, 14, 15], [0, 1, 2, 3, 4, 5, 6, 7, 8, 9, 10, 11, 12, 13, 14, 15, 16], [0, 1, 2, 3, 4, 5, 6, 7, 8, 9, 10, 11, 12, 13, 14, 15, 16, 17]]) (.reg [Qf 82 4 4 8, Ql 83 1 82, Qm 84 10, Qx 85 1 83 84, ⟨none, none, (.m (.store 1 (.t 85) (.c (.bool false))))⟩])))
 (Qr ([Qm 87 11, Qq 88 72 [(.t 87)], Qm 86 88, Qe 89 86 0, Qe 90 86 1, Qm 13 89, Qm 14 90])
 (Qr ([Qm 92 13, Qq 93 73 [(.t 92)], Qm 91 93, Qe 94 91 0, Qe 95 91 1, Qe 96 91 2, Qw 15 (.alloc 31 (.agg [.int .i64 0, .int .i64 0, .int .i64 0, .nilS])), Qs 4 15 94, Qm 16 95, Qm 12 96])
 (.seq (Qr ([Qm 97 12, Qk 98 .neq 97 0])
 (.cond (.t 98) (Qr ([QL 99 14 6, Qm 100 12, Qs 14 4 99, Qm 5 100])
 (.ret)) (.skip)))
 (Qr ([QL 101 4 15, Qf 102 6 6 8, Qs 4 102 101])
 (Qr ([QL 103 14 8, Qs 14 4 103, Qp 5 (.mov (Qi 0))])
 (.ret)))))))))))))))), [.load true 14 (.t 4), .mov (.t 5)]) := by kernel_rfl
theorem m_pWr_ok : compF Tryz.prog 15 = some (11, Qr ([Qw 2 (.box 35 (.t 0)), Qw 3 (.box 42 (.t 1)), Qw 4 (.alloc 35 (.agg [.int .i64 0, .int .i64 0, .int .i64 0, .nilS, .nilS, .nilS, .agg [.int .i64 0, .int .i64 0, .int .i64 0, .nilS], .int .i64 0, .agg [.int .i64 0, .int .i64 0, .nilS]])), Qp 5 (.mov (Qi 0))])
 (Qr ([QL 6 14 2, QL 7 4 3, Qq 8 37 [(.t 6), (.t 7)], Qe 9 8 0, Qe 10 8 1, Qs 14 4 9, Qm 5 10])
 (.ret)), [.load true 14 (.t 4), .mov (.t 5)]) := by kernel_rfl
def bhd (b m : List Int) : List Int := (b ++ m).take 262144
set_option maxHeartbeats 4000000 in
theorem beh_fn (b m : List Int) (hb : b.length + m.length ≤ 1000000) : Fnc Tryz.prog 58 [.sl false 1 (u8s b), .sl false 1 (u8s m)] (fun x obs => x = .sl true 1 (u8s (bhd b m)) ∧ obs = []) := by
  unfold bhd
  by_cases c : b.length + m.length ≤ 262144
  · rw [List.take_of_length_le (by simp; omega)]
    have e1 : List.take (b.length + m.length) (List.map (V.int .u8) (b ++ m)) = u8s (b ++ m) := List.take_of_length_le (by simp)
    refine zgo m_beh_ok fun W S => ?_
    exact zrh m_beh_ok e1
  · have e1 : List.take 262144 (List.map (V.int .u8) (b ++ m)) = u8s ((b ++ m).take 262144) := by simp [u8s, List.map_take]
    refine zgo m_beh_ok fun W S => ?_
    exact zrh m_beh_ok e1
noncomputable def wrB (p : Pair) (n : Note) : List Int := (sApp p.journals[p.active.toNat]! n).1
noncomputable def wrP (p : Pair) (n : Note) : Pair := { p with
  sync := if p.up[(1 - p.active).toNat]! then p.sync else p.sync.set (1 - p.active).toNat false
  journals := if p.up[(1 - p.active).toNat]! then (p.journals.set p.active.toNat (wrB p n)).set (1 - p.active).toNat (bhd p.journals[(1 - p.active).toNat]! (encB n)) else p.journals.set p.active.toNat (wrB p n)
  gateway := (sReb (sRec (wrB p n)).1).1 }
noncomputable def wrE (p : Pair) (n : Note) : Int := if chkP p ≠ 0 then chkP p else if p.active < 0 then 10 else if n.kind = 5 then 1 else if (sApp p.journals[p.active.toNat]! n).2 ≠ 0 then (sApp p.journals[p.active.toNat]! n).2 else (sReb (sRec (wrB p n)).1).2.2
noncomputable def sWr (p : Pair) (n : Note) : Pair × Int := if wrE p n ≠ 0 then (p, wrE p n) else (wrP p n, 0)
theorem sApp_0 {j : List Int} {n : Note} (h : (sApp j n).2 = 0) : (sApp j n).1 = j ++ encB n ∧ j.length + (12 + n.bytes.length) ≤ 262144 ∧ chkN n = 0 := by
  unfold sApp at h ⊢
  split at h
  · rename_i c; exact absurd h c
  · rename_i c
    rw [if_neg c]
    have hc : chkN n = 0 := by
      unfold sEnc at c
      split at c
      · assumption
      · rename_i d; exact absurd (by simpa using c) d
    have he : (sEnc n).1 = encB n := by unfold sEnc; rw [if_pos hc]
    split at h
    · cases h
    · rename_i d
      rw [if_neg d]
      rw [he] at d ⊢
      rw [encB_len] at d
      exact ⟨rfl, by omega, hc⟩
theorem sApp_len (j : List Int) (n : Note) : (sApp j n).1.length ≤ 262144 := by
  unfold sApp
  split
  · simp
  · split
    · simp
    · simp only [List.length_append]; omega
theorem sWr_e {p : Pair} {n : Note} {e : Int} (h : wrE p n = e) (he : e ≠ 0) : sWr p n = (p, e) := by unfold sWr; rw [h, if_pos he]
theorem sWr_0 {p : Pair} {n : Note} (h : wrE p n = 0) : sWr p n = (wrP p n, 0) := by unfold sWr; rw [h, if_neg (by simp)]
theorem chkP_ok {p : Pair} (h : chkP p = 0) : okPr p := by
  unfold chkP at h
  split at h
  · assumption
  · cases h
attribute [local irreducible] sApp sRec sReb chkP
set_option maxHeartbeats 16000000 in
theorem pwr_fn (p : Pair) (n : Note) (F : FitP p) : Fnc Tryz.prog 37 [prV false p, .agg (noteL false n)] (fun x obs => x = .tup [prV false (sWr p n).1, .int .i64 (sWr p n).2] ∧ obs = []) := by
  refine Fnc.low ?_
  have fc := pchk_fn p
  by_cases c1 : chkP p = 0
  rotate_left
  · rw [sWr_e (by unfold wrE; rw [if_pos c1]) c1]
    generalize chkP p = z at fc c1
    refine zgo m_pwr_ok fun W S => ?_
    refine zcd (pcop_fr p F) ?_
    refine zcd (fc) ?_
    exact zrt m_pwr_ok
  have hs := chkP_ok c1
  rw [c1] at fc
  by_cases c2 : p.active < 0
  · rw [sWr_e (e := 10) (by unfold wrE; rw [if_neg (by simp [c1]), if_pos c2]) (by decide)]
    refine zgo m_pwr_ok fun W S => ?_
    refine zcd (pcop_fr p F) ?_
    refine zcd (fc) ?_
    exact zrt m_pwr_ok
  by_cases c3 : n.kind = 5
  · rw [sWr_e (e := 1) (by unfold wrE; rw [if_neg (by simp [c1]), if_neg c2, if_pos c3]) (by decide)]
    refine zgo m_pwr_ok fun W S => ?_
    refine zcd (pcop_fr p F) ?_
    refine zcd (fc) ?_
    exact zrt m_pwr_ok
  obtain ⟨hn, ⟨h1, h2, h3, h4, h5⟩, hg, hw⟩ := hs
  have a1 : p.active ≤ 1 := hn.2.2.2.2.2.1
  have hja := two_le h3 h4 h5 (a := p.active.toNat) (by omega)
  have hjo := two_le h3 h4 h5 (a := (1 - p.active).toNat) (by omega)
  have fa := wapp_fn p.journals[p.active.toNat]! n
  by_cases c4 : (sApp p.journals[p.active.toNat]! n).2 = 0
  rotate_left
  · rw [sWr_e (by unfold wrE; rw [if_neg (by simp [c1]), if_neg c2, if_neg c3, if_pos c4]) c4]
    generalize sApp p.journals[p.active.toNat]! n = z at fa c4
    obtain ⟨z1, z2⟩ := z
    dsimp only at fa c4 ⊢
    refine zgo m_pwr_ok fun W S => ?_
    refine zcd (pcop_fr p F) ?_
    refine zcd (fc) ?_
    refine zcd (pcop_fr p F) ?_
    refine zcd (fa) ?_
    exact zrt m_pwr_ok
  obtain ⟨hb, hl, hk⟩ := sApp_0 c4
  have he : sApp p.journals[p.active.toNat]! n = (p.journals[p.active.toNat]! ++ encB n, 0) := Prod.ext hb c4
  have hwb : wrB p n = p.journals[p.active.toNat]! ++ encB n := hb
  have hle : (p.journals[p.active.toNat]! ++ encB n).length ≤ 1000000 := by rw [List.length_append, encB_len]; omega
  have hle2 : p.journals[(1 - p.active).toNat]!.length + (encB n).length ≤ 1000000 := by rw [encB_len]; omega
  rw [he] at fa
  have fr := wrec_fn (p.journals[p.active.toNat]! ++ encB n) hle
  have fb := sreb_fn (sRec (p.journals[p.active.toNat]! ++ encB n)).1
  have fh := beh_fn p.journals[(1 - p.active).toNat]! (encB n) hle2
  clear hle hle2
  have hd : List.drop p.journals[p.active.toNat]!.length (List.take (p.journals[p.active.toNat]!.length + (encB n).length) (u8s (p.journals[p.active.toNat]! ++ encB n))) = u8s (encB n) := by
    rw [List.take_of_length_le (by simp)]
    simp [u8s]
  have hln : ∀ x : V, ((List.map (slV' true 1 (V.int .u8)) p.journals).set p.active.toNat x).length = 2 := fun x => by simp [h3]
  have hsz : ∀ x : V, (((List.map (slV' true 1 (V.int .u8)) p.journals).set p.active.toNat x).getD (1 - p.active).toNat .junk).size = 1 := fun x => by
    have ho : (1 - p.active).toNat < p.journals.length := by omega
    rw [List.getD_eq_getElem?_getD, List.getElem?_set_ne (by omega), List.getElem?_map, List.getElem?_eq_getElem ho]
    rfl
  have hset : ∀ (l : List (List Int)) (i : Nat) (x : List Int), (l.map (slV' false 1 (V.int .u8))).set i (V.sl false 1 (u8s x)) = (l.set i x).map (slV' false 1 (V.int .u8)) := fun l i x => by rw [List.map_set]
  have hset2 : ∀ (l : List Bool) (i : Nat) (x : Bool), (l.map V.bool).set i (V.bool x) = (l.set i x).map V.bool := fun l i x => by rw [List.map_set]
  have hlow : ∀ (l : List V) (i : Nat) (x : V), V.lows (l.set i x) = (V.lows l).set i x.low := fun l i x => by rw [lows_map, lows_map, List.map_set]
  by_cases c6 : (sReb (sRec (p.journals[p.active.toNat]! ++ encB n)).1).2.2 = 0
  · have hE : wrE p n = 0 := by unfold wrE; rw [if_neg (by simp [c1]), if_neg c2, if_neg c3, if_neg (by rw [c4]; simp), hwb, c6]
    rw [sWr_0 hE]
    unfold wrP
    rw [hwb]
    generalize sReb (sRec (p.journals[p.active.toNat]! ++ encB n)).1 = z at fb c6
    obtain ⟨z1, z2, z3⟩ := z
    dsimp only at fb c6 ⊢
    by_cases c5 : p.up[(1 - p.active).toNat]! = true
    · rw [if_pos c5, if_pos c5]
      refine zgo m_pwr_ok fun W S => ?_
      refine zcd (pcop_fr p F) ?_
      refine zcd (fc) ?_
      refine zcx (pcop_fn p F) ?_
      refine zcd (fa) ?_
      refine zsx c5 ?_
      (first | refine callD (fh) ?_ | refine callDw (fh) ?_); simp only [go_sem, hd]; repeat (first | refine And.intro (by omega) ?_ | refine And.intro rfl ?_ | (simp (disch := omega) only [takeAll, Nat.min_eq_left, Nat.min_eq_right, if_pos, if_neg, getD_map, wrapI64, modIn, fdivE, tmodE, tdivE, decT, decF, beqT, beqF, bneT, bneF, Int.toNat_natCast]; try simp only [go_sem]))
      refine zsx (And.intro hln (hsz)) ?_
      refine zcd (fr) ?_
      refine zcd (fb) ?_
      exact zrh m_pwr_ok (And.intro hlow (And.intro hset (hset2)))
    · rw [if_neg c5, if_neg c5]
      have c5 : p.up[(1 - p.active).toNat]! = false := by simpa using c5
      refine zgo m_pwr_ok fun W S => ?_
      refine zcd (pcop_fr p F) ?_
      refine zcd (fc) ?_
      refine zcx (pcop_fn p F) ?_
      refine zcd (fa) ?_
      refine zsx c5 ?_
      refine zcd (fr) ?_
      refine zcd (fb) ?_
      exact zrh m_pwr_ok (And.intro hlow (And.intro hset (hset2)))
  · have hE : wrE p n = (sReb (sRec (p.journals[p.active.toNat]! ++ encB n)).1).2.2 := by unfold wrE; rw [if_neg (by simp [c1]), if_neg c2, if_neg c3, if_neg (by rw [c4]; simp), hwb]
    rw [sWr_e hE c6]
    generalize sReb (sRec (p.journals[p.active.toNat]! ++ encB n)).1 = z at fb c6
    obtain ⟨z1, z2, z3⟩ := z
    dsimp only at fb c6 ⊢
    by_cases c5 : p.up[(1 - p.active).toNat]! = true
    · skip
      refine zgo m_pwr_ok fun W S => ?_
      refine zcd (pcop_fr p F) ?_
      refine zcd (fc) ?_
      refine zcx (pcop_fn p F) ?_
      refine zcd (fa) ?_
      refine zsx c5 ?_
      (first | refine callD (fh) ?_ | refine callDw (fh) ?_); simp only [go_sem, hd]; repeat (first | refine And.intro (by omega) ?_ | refine And.intro rfl ?_ | (simp (disch := omega) only [takeAll, Nat.min_eq_left, Nat.min_eq_right, if_pos, if_neg, getD_map, wrapI64, modIn, fdivE, tmodE, tdivE, decT, decF, beqT, beqF, bneT, bneF, Int.toNat_natCast]; try simp only [go_sem]))
      refine zsx (And.intro hln (hsz)) ?_
      refine zcd (fr) ?_
      refine zcd (fb) ?_
      exact zrt m_pwr_ok
    · have c5 : p.up[(1 - p.active).toNat]! = false := by simpa using c5
      refine zgo m_pwr_ok fun W S => ?_
      refine zcd (pcop_fr p F) ?_
      refine zcd (fc) ?_
      refine zcx (pcop_fn p F) ?_
      refine zcd (fa) ?_
      refine zsx c5 ?_
      refine zcd (fr) ?_
      refine zcd (fb) ?_
      exact zrt m_pwr_ok
set_option maxHeartbeats 4000000 in
theorem pWr_fn (p : Pair) (n : Note) (F : FitP p) : Fnc Tryz.prog 15 [prV false p, .agg (noteL false n)] (fun x obs => x = .tup [prV false (sWr p n).1, .int .i64 (sWr p n).2] ∧ obs = []) := by
  refine Fnc.low ?_
  have f1 := pwr_fn p n F
  generalize sWr p n = z at f1 ⊢
  refine zgo m_pWr_ok fun W S => ?_
  refine zcd (f1) ?_
  exact zrt m_pWr_ok
end Go.Proofs.YtdpfglkjhdnbbaaGreat
