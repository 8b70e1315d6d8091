/- The law GatewayWaits. -/
import Derived.Test.YtdjjhajkpfiagaaH6
import Derived.Test.YtdjjhajkpfiagaaDb
namespace Go.Proofs.Ytdjjhajkpfiagaa
open Go Go.RowKit Rdn Rdn.Dp
set_option linter.unusedVariables false
set_option linter.unusedSimpArgs false
def m_waits : MC := .seq (.reg [⟨(some 6), none, (.p (.mov (.c (.bool false))))⟩])
 (.seq (.reg [⟨(some 26), none, (.p (.mov (.t 0)))⟩, ⟨(some 27), none, (.p (.conv .i64 (.t 26)))⟩, ⟨(some 28), none, (.p (.bin 0 .rem (.t 27) (.c (.int .i64 20))))⟩, ⟨(some 29), none, (.p (.bin 0 .add (.c (.int .i64 1)) (.t 28)))⟩, ⟨(some 7), none, (.p (.mov (.t 29)))⟩])
 (.seq (.reg [⟨(some 8), none, (.m (.alloc 44 (.agg [.int .i64 0, .int .i64 0, .int .i64 0, .nilS])))⟩])
 (.seq (.seq (.reg [⟨(some 9), none, (.p (.mov (.c (.int .i64 0))))⟩])
 (.block 0 (.loop (.seq (.seq (.reg [⟨(some 30), none, (.p (.mov (.t 9)))⟩, ⟨(some 31), none, (.p (.mov (.t 7)))⟩, ⟨(some 32), none, (.p (.bin 0 .lss (.t 30) (.t 31)))⟩])
 (.cond (.t 32) (.skip) (.exit 0)))
 (.seq (.block 1 (.seq (.reg [⟨(some 36), none, (.p (.load true 4 (.t 8)))⟩, ⟨(some 37), none, (.call 32 [(.t 36), (.c (.int .i64 0)), (.c (.nilS))])⟩, ⟨(some 35), none, (.p (.mov (.t 37)))⟩, ⟨(some 38), none, (.p (.ext (.t 35) 0))⟩, ⟨(some 39), none, (.p (.ext (.t 35) 1))⟩, ⟨(some 40), none, (.p (.ext (.t 35) 2))⟩, ⟨(some 10), none, (.m (.alloc 44 (.agg [.int .i64 0, .int .i64 0, .int .i64 0, .nilS])))⟩, ⟨none, none, (.m (.store 4 (.t 10) (.t 38)))⟩, ⟨(some 11), none, (.p (.mov (.t 39)))⟩, ⟨(some 12), none, (.p (.mov (.t 40)))⟩])
 (.seq (.seq (.reg [⟨(some 41), none, (.p (.mov (.t 12)))⟩, ⟨(some 42), none, (.p (.bin 0 .neq (.t 41) (.c (.int .i64 0))))⟩])
 (.cond (.t 42) (.seq (.reg [⟨(some 6), none, (.p (.mov (.c (.bool false))))⟩])
 (.ret)) (.skip)))
 (.reg [⟨(some 43), none, (.p (.load true 4 (.t 10)))⟩, ⟨none, none, (.m (.store 4 (.t 8) (.t 43)))⟩]))))
 (.reg [⟨(some 33), none, (.p (.mov (.t 9)))⟩, ⟨(some 34), none, (.p (.bin 0 .add (.t 33) (.c (.int .i64 1))))⟩, ⟨(some 9), none, (.p (.mov (.t 34)))⟩]))))))
 (.seq (.reg [⟨(some 44), none, (.p (.mov (.t 1)))⟩, ⟨(some 45), none, (.p (.conv .i64 (.t 44)))⟩, ⟨(some 46), none, (.p (.mov (.t 7)))⟩, ⟨(some 47), none, (.p (.bin 0 .add (.t 46) (.c (.int .i64 1))))⟩, ⟨(some 48), none, (.p (.bin 0 .rem (.t 45) (.t 47)))⟩, ⟨(some 13), none, (.p (.mov (.t 48)))⟩])
 (.seq (.reg [⟨(some 49), none, (.p (.mov (.t 2)))⟩, ⟨(some 50), none, (.p (.conv .i64 (.t 49)))⟩, ⟨(some 51), none, (.p (.mov (.t 13)))⟩, ⟨(some 52), none, (.p (.bin 0 .add (.t 51) (.c (.int .i64 1))))⟩, ⟨(some 53), none, (.p (.bin 0 .rem (.t 50) (.t 52)))⟩, ⟨(some 14), none, (.p (.mov (.t 53)))⟩])
 (.seq (.reg [⟨(some 55), none, (.p (.load true 4 (.t 8)))⟩, ⟨(some 56), none, (.p (.mov (.t 13)))⟩, ⟨(some 57), none, (.call 33 [(.t 55), (.t 56)])⟩, ⟨(some 54), none, (.p (.mov (.t 57)))⟩, ⟨(some 58), none, (.p (.ext (.t 54) 0))⟩, ⟨(some 59), none, (.p (.ext (.t 54) 1))⟩, ⟨none, none, (.m (.store 4 (.t 8) (.t 58)))⟩, ⟨(some 15), none, (.p (.mov (.t 59)))⟩])
 (.seq (.reg [⟨(some 61), none, (.p (.load true 4 (.t 8)))⟩, ⟨(some 62), none, (.p (.mov (.t 14)))⟩, ⟨(some 63), none, (.call 34 [(.t 61), (.t 62)])⟩, ⟨(some 60), none, (.p (.mov (.t 63)))⟩, ⟨(some 64), none, (.p (.ext (.t 60) 0))⟩, ⟨(some 65), none, (.p (.ext (.t 60) 1))⟩, ⟨none, none, (.m (.store 4 (.t 8) (.t 64)))⟩, ⟨(some 16), none, (.p (.mov (.t 65)))⟩])
 (.seq (.reg [⟨(some 67), none, (.p (.load true 4 (.t 8)))⟩, ⟨(some 68), none, (.call 35 [(.t 67)])⟩, ⟨(some 66), none, (.p (.mov (.t 68)))⟩, ⟨(some 69), none, (.p (.ext (.t 66) 0))⟩, ⟨(some 70), none, (.p (.ext (.t 66) 1))⟩, ⟨(some 17), none, (.p (.mov (.t 69)))⟩, ⟨(some 18), none, (.p (.mov (.t 70)))⟩])
 (.seq (.reg [⟨(some 72), none, (.p (.load true 4 (.t 8)))⟩, ⟨(some 73), none, (.p (.mov (.t 13)))⟩, ⟨(some 74), none, (.p (.bin 0 .sub (.t 73) (.c (.int .i64 1))))⟩, ⟨(some 75), none, (.call 33 [(.t 72), (.t 74)])⟩, ⟨(some 71), none, (.p (.mov (.t 75)))⟩, ⟨(some 76), none, (.p (.ext (.t 71) 0))⟩, ⟨(some 77), none, (.p (.ext (.t 71) 1))⟩, ⟨(some 19), none, (.m (.alloc 44 (.agg [.int .i64 0, .int .i64 0, .int .i64 0, .nilS])))⟩, ⟨none, none, (.m (.store 4 (.t 19) (.t 76)))⟩, ⟨(some 20), none, (.p (.mov (.t 77)))⟩])
 (.seq (.reg [⟨(some 79), none, (.p (.load true 4 (.t 8)))⟩, ⟨(some 80), none, (.p (.mov (.t 7)))⟩, ⟨(some 81), none, (.p (.bin 0 .add (.t 80) (.c (.int .i64 1))))⟩, ⟨(some 82), none, (.call 33 [(.t 79), (.t 81)])⟩, ⟨(some 78), none, (.p (.mov (.t 82)))⟩, ⟨(some 83), none, (.p (.ext (.t 78) 0))⟩, ⟨(some 84), none, (.p (.ext (.t 78) 1))⟩, ⟨(some 21), none, (.m (.alloc 44 (.agg [.int .i64 0, .int .i64 0, .int .i64 0, .nilS])))⟩, ⟨none, none, (.m (.store 4 (.t 21) (.t 83)))⟩, ⟨(some 22), none, (.p (.mov (.t 84)))⟩])
 (.seq (.reg [⟨(some 86), none, (.p (.load true 4 (.t 8)))⟩, ⟨(some 87), none, (.p (.mov (.t 13)))⟩, ⟨(some 88), none, (.p (.bin 0 .add (.t 87) (.c (.int .i64 1))))⟩, ⟨(some 89), none, (.call 34 [(.t 86), (.t 88)])⟩, ⟨(some 85), none, (.p (.mov (.t 89)))⟩, ⟨(some 90), none, (.p (.ext (.t 85) 0))⟩, ⟨(some 91), none, (.p (.ext (.t 85) 1))⟩, ⟨(some 23), none, (.m (.alloc 44 (.agg [.int .i64 0, .int .i64 0, .int .i64 0, .nilS])))⟩, ⟨none, none, (.m (.store 4 (.t 23) (.t 90)))⟩, ⟨(some 24), none, (.p (.mov (.t 91)))⟩])
 (.seq (.seq (.reg [⟨(some 92), none, (.p (.mov (.t 15)))⟩, ⟨(some 93), none, (.p (.bin 0 .neq (.t 92) (.c (.int .i64 0))))⟩, ⟨(some 94), none, (.p (.mov (.t 93)))⟩, ⟨(some 95), (some (94, false)), (.p (.mov (.t 16)))⟩, ⟨(some 96), (some (94, false)), (.p (.bin 0 .neq (.t 95) (.c (.int .i64 0))))⟩, ⟨(some 97), none, (.p (.pick (.t 94) (.c (.bool true)) (.t 96)))⟩, ⟨(some 98), none, (.p (.mov (.t 97)))⟩, ⟨(some 99), (some (98, false)), (.p (.mov (.t 18)))⟩, ⟨(some 100), (some (98, false)), (.p (.bin 0 .neq (.t 99) (.c (.int .i64 0))))⟩, ⟨(some 101), none, (.p (.pick (.t 98) (.c (.bool true)) (.t 100)))⟩, ⟨(some 102), none, (.p (.mov (.t 101)))⟩, ⟨(some 103), (some (102, false)), (.p (.mov (.t 20)))⟩, ⟨(some 104), (some (102, false)), (.p (.bin 0 .neq (.t 103) (.c (.int .i64 35))))⟩, ⟨(some 105), none, (.p (.pick (.t 102) (.c (.bool true)) (.t 104)))⟩, ⟨(some 106), none, (.p (.mov (.t 105)))⟩, ⟨(some 107), (some (106, false)), (.p (.mov (.t 22)))⟩, ⟨(some 108), (some (106, false)), (.p (.bin 0 .neq (.t 107) (.c (.int .i64 35))))⟩, ⟨(some 109), none, (.p (.pick (.t 106) (.c (.bool true)) (.t 108)))⟩, ⟨(some 110), none, (.p (.mov (.t 109)))⟩, ⟨(some 111), (some (110, false)), (.p (.mov (.t 24)))⟩, ⟨(some 112), (some (110, false)), (.p (.bin 0 .neq (.t 111) (.c (.int .i64 35))))⟩, ⟨(some 113), none, (.p (.pick (.t 110) (.c (.bool true)) (.t 112)))⟩, ⟨(some 114), none, (.p (.mov (.t 113)))⟩, ⟨(some 115), (some (114, false)), (.p (.mov (.t 17)))⟩, ⟨(some 116), (some (114, false)), (.p (.len (.t 115)))⟩, ⟨(some 117), (some (114, false)), (.p (.mov (.t 13)))⟩, ⟨(some 118), (some (114, false)), (.p (.mov (.t 14)))⟩, ⟨(some 119), (some (114, false)), (.p (.bin 0 .sub (.t 117) (.t 118)))⟩, ⟨(some 120), (some (114, false)), (.p (.bin 0 .neq (.t 116) (.t 119)))⟩, ⟨(some 121), none, (.p (.pick (.t 114) (.c (.bool true)) (.t 120)))⟩])
 (.cond (.t 121) (.seq (.reg [⟨(some 6), none, (.p (.mov (.c (.bool false))))⟩])
 (.ret)) (.skip)))
 (.seq (.seq (.reg [⟨(some 25), none, (.p (.mov (.c (.int .i64 0))))⟩])
 (.block 2 (.loop (.seq (.seq (.reg [⟨(some 122), none, (.p (.mov (.t 25)))⟩, ⟨(some 123), none, (.p (.mov (.t 17)))⟩, ⟨(some 124), none, (.p (.len (.t 123)))⟩, ⟨(some 125), none, (.p (.bin 0 .lss (.t 122) (.t 124)))⟩])
 (.cond (.t 125) (.skip) (.exit 2)))
 (.seq (.block 3 (.seq (.reg [⟨(some 128), none, (.p (.mov (.t 17)))⟩, ⟨(some 129), none, (.p (.mov (.t 25)))⟩, ⟨(some 130), none, (.p (.idxA 3 (.t 128) (.t 129)))⟩, ⟨(some 131), none, (.p (.fieldA 0 0 (.t 130)))⟩, ⟨(some 132), none, (.p (.load false 1 (.t 131)))⟩, ⟨(some 133), none, (.p (.mov (.t 14)))⟩, ⟨(some 134), none, (.p (.mov (.t 25)))⟩, ⟨(some 135), none, (.p (.bin 0 .add (.t 133) (.t 134)))⟩, ⟨(some 136), none, (.p (.bin 0 .neq (.t 132) (.t 135)))⟩])
 (.cond (.t 136) (.seq (.reg [⟨(some 6), none, (.p (.mov (.c (.bool false))))⟩])
 (.ret)) (.skip))))
 (.reg [⟨(some 126), none, (.p (.mov (.t 25)))⟩, ⟨(some 127), none, (.p (.bin 0 .add (.t 126) (.c (.int .i64 1))))⟩, ⟨(some 25), none, (.p (.mov (.t 127)))⟩]))))))
 (.seq (.reg [⟨(some 137), none, (.call 22 [])⟩, ⟨(some 6), none, (.p (.mov (.t 137)))⟩])
 (.ret)))))))))))))))
theorem m_waits_ok : compF Try.prog 8 = some (138, m_waits, [.mov (.t 6)]) := by kernel_rfl
/-- Outputs without data, from 0 on. -/
def outsE (n : Nat) : List Output := (List.range n).map fun j : Nat => ⟨(j : Int), 0, []⟩
theorem outsE_len (n : Nat) : (outsE n).length = n := by simp [outsE]
theorem outsE_at {n j : Nat} (h : j < n) : (outsE n)[j]! = ⟨j, 0, []⟩ := by simp [outsE, h]
theorem outsE_snoc (n : Nat) : outsE n ++ [⟨n, 0, []⟩] = outsE (n + 1) := by simp [outsE, List.range_succ]
def G1 (n : Nat) : Gateway := ⟨n, 0, 0, outsE n⟩
def G2 (n f : Nat) : Gateway := ⟨n, f, 0, outsE n⟩
def G3 (n f a : Nat) : Gateway := ⟨n, f, a, (outsE n).drop a⟩
def L3 (n f a : Nat) : List Output := ((outsE n).drop a).take (f - a)
theorem ok3 {n f a : Nat} (h : n ≤ 20) (h1 : f ≤ n) (h2 : a ≤ f) : okG (G3 n f a) := by
  refine ⟨?_, fun j hj => ?_⟩
  · simp only [okN, G3, List.length_drop, outsE_len]; omega
  · simp only [G3, List.length_drop, outsE_len] at hj ⊢
    rw [show (List.drop a (outsE n))[j]! = (outsE n)[a + j]! by simp, outsE_at (by omega)]
    exact ⟨by dsimp only; omega, by dsimp only; omega, by dsimp only; omega, by simp⟩
theorem ok2' {n f : Nat} (h : n ≤ 20) (h1 : f ≤ n) : okG (G2 n f) := ok3 h h1 (Nat.zero_le f)
theorem ok1' {n : Nat} (h : n ≤ 20) : okG (G1 n) := ok2' h (Nat.zero_le n)
theorem offE {n : Nat} (h : n ≤ 20) : sOff (G1 n) 0 [] = (G1 (n + 1), (n : Int), 0) := by
  rw [sOff, chk_T (ok1' h), if_neg (by omega), if_neg (by simp)]
  simp only [G1, outsE_len]
  rw [if_neg (by omega), outsE_snoc]
  rfl
theorem freeE {n f : Nat} (h : n ≤ 20) (h1 : f ≤ n) : sFree (G1 n) f = (G2 n f, 0) := by
  rw [sFree, chk_T (ok1' h), if_neg (by omega), if_neg (by simp only [G1]; omega)]
  rfl
theorem ackE {n f a : Nat} (h : n ≤ 20) (h1 : f ≤ n) (h2 : a ≤ f) : sAck (G2 n f) a = (G3 n f a, 0) := by
  rw [sAck, chk_T (ok2' h h1), if_neg (by omega), if_neg (by simp only [G2]; omega)]
  simp only [G3, G2]
  simp
theorem sendE {n f a : Nat} (h : n ≤ 20) (h1 : f ≤ n) (h2 : a ≤ f) : sSend (G3 n f a) = (L3 n f a, 0) := by
  rw [sSend, chk_T (ok3 h h1 h2), if_neg (by omega)]
  simp only [G3, L3]
  rw [show ((f : Int) - (a : Int)).toNat = f - a by omega]
theorem freeE1 {n f a : Nat} (h : n ≤ 20) (h1 : f ≤ n) (h2 : a ≤ f) : sFree (G3 n f a) ((f : Int) - 1) = (G3 n f a, 35) := by
  rw [sFree, chk_T (ok3 h h1 h2), if_neg (by omega), if_pos (.inl (by simp only [G3]; omega))]
theorem freeE2 {n f a : Nat} (h : n ≤ 20) (h1 : f ≤ n) (h2 : a ≤ f) : sFree (G3 n f a) ((n : Int) + 1) = (G3 n f a, 35) := by
  rw [sFree, chk_T (ok3 h h1 h2), if_neg (by omega), if_pos (.inr (by simp only [G3]; omega))]
theorem ackE1 {n f a : Nat} (h : n ≤ 20) (h1 : f ≤ n) (h2 : a ≤ f) : sAck (G3 n f a) ((f : Int) + 1) = (G3 n f a, 35) := by
  rw [sAck, chk_T (ok3 h h1 h2), if_neg (by omega), if_pos (.inr (by simp only [G3]; omega))]
theorem L3_len {n f a : Nat} (h1 : f ≤ n) (h2 : a ≤ f) : (L3 n f a).length = f - a := by simp only [L3, List.length_take, List.length_drop, outsE_len]; omega
theorem L3_at {n f a j : Nat} (h1 : f ≤ n) (h2 : a ≤ f) (h : j < f - a) : (L3 n f a)[j]!.seq = (a : Int) + j := by
  have : (L3 n f a)[j]! = (outsE n)[a + j]! := by
    unfold L3
    simp [List.getElem?_take, h]
  rw [this, outsE_at (by omega)]
  dsimp only; omega
theorem gw1 : SubV (.agg [.int .i64 0, .int .i64 0, .int .i64 0, .nilS]) (.agg (gwL false (G1 0))) := SubV.agg ⟨SubV.refl _, SubV.refl _, SubV.refl _, SubV.nil _ _, trivial⟩
attribute [local irreducible] sOff sFree sSend sAck G1 G2 G3 L3
set_option maxHeartbeats 8000000 in
theorem waits_fn (x y z : Int) : Fnc Try.prog 8 [.int .u8 x, .int .u8 y, .int .u8 z] (fun r obs => r = .bool true) := by
  refine Fnc.wf fun hw => ?_
  simp only [V.wfs, V.wf] at hw
  have hx := inK_u8' hw.1
  have hy := inK_u8' hw.2.1
  have hz := inK_u8' hw.2.2.1
  clear hw
  obtain ⟨n, hn, hn1, hn2⟩ : ∃ n : Nat, 1 + x % 20 = (n : Int) ∧ 1 ≤ n ∧ n ≤ 20 := ⟨(1 + x % 20).toNat, by omega, by omega, by omega⟩
  have f0 := Int.emod_nonneg y (show ((n : Int) + 1) ≠ 0 by omega)
  have f1 := Int.emod_lt_of_pos y (show 0 < ((n : Int) + 1) by omega)
  obtain ⟨f, hf, hf1⟩ : ∃ f : Nat, y % ((n : Int) + 1) = (f : Int) ∧ f ≤ n := ⟨(y % ((n : Int) + 1)).toNat, by omega, by omega⟩
  have a0 := Int.emod_nonneg z (show ((f : Int) + 1) ≠ 0 by omega)
  have a1 := Int.emod_lt_of_pos z (show 0 < ((f : Int) + 1) by omega)
  obtain ⟨a, ha, ha1⟩ : ∃ a : Nat, z % ((f : Int) + 1) = (a : Int) ∧ a ≤ f := ⟨(z % ((f : Int) + 1)).toNat, by omega, by omega⟩
  have c2 := wfree_fn (G1 n) f (ok1' hn2).fit
  rw [freeE hn2 hf1] at c2
  have c3 := wack_fn (G2 n f) a (ok2' hn2 hf1).fit
  rw [ackE hn2 hf1 ha1] at c3
  have o3 := (ok3 hn2 hf1 ha1).fit
  have c4 := wsend_fn (G3 n f a)
  rw [sendE hn2 hf1 ha1] at c4
  have c5 := wfree_fn (G3 n f a) ((f : Int) - 1) o3
  rw [freeE1 hn2 hf1 ha1] at c5
  have c6 := wfree_fn (G3 n f a) ((n : Int) + 1) o3
  rw [freeE2 hn2 hf1 ha1] at c6
  have c7 := wack_fn (G3 n f a) ((f : Int) + 1) o3
  rw [ackE1 hn2 hf1 ha1] at c7
  have hL := L3_len hf1 ha1
  refine Fnc.intro m_waits_ok (by simp) fun W S => ?_
  unfold m_waits
  simp only [ents, Nat.zero_add, Nat.reduceAdd]
  repeat (first | refine And.intro (by omega) ?_ | refine And.intro rfl ?_ | refine ev_ctl rfl rfl ?_ | refine evr_nil ?_ | refine evw_nil (by kernel_rfl) ?_ | (simp (disch := omega) only [takeAll, Nat.min_eq_left, Nat.min_eq_right, if_pos, if_neg, getD_map, wrapI64, modIn, fdivE, tmodE, tdivE, decT, decF, beqT, beqF, bneT, bneF, Int.toNat_natCast]; try simp only [go_sem]) | refine ev_condTb rfl (by simp <;> omega) ?_ | refine ev_condFb rfl (by simp <;> omega) ?_ | ((first | refine ev_region ?_ | refine evr_go rfl ?_ | refine evw_go rfl ?_ | refine ev_dr0 mixed rfl (by kernel_rfl) ?_ | refine ev_dr1 mixed rfl (by kernel_rfl) ?_ | refine ev_dr2 mixed rfl (by kernel_rfl) ?_); simp only [go_sem]))
  simp only [hn]
  refine ev_obSub 0 _ rfl gw1 rfl ?_
  refine ev_loopK [1, 2, 7, 8] (fun p : {p : Nat // p ≤ n} => [(9, .int .i64 p.1)]) (fun p => [⟨.box false 44, true, 0, .agg (gwL false (G1 p.1))⟩]) (fun p => n - p.1) (⟨0, by simp⟩) 1 (by simp only [go_sem]; rfl) ?_ (by first | rfl | (simp only [go_sem]; done)) (by simp) (by first | rfl | (simp only [go_sem]; done)) (by first | rfl | (simp only [go_sem]; done)) (by first | rfl | (simp only [go_sem]; done)) ?_
  · (simp only [go_sem]; (try simp []); done)
  intro J hJ
  rintro ⟨i, hi⟩
  by_cases hlt : i < n
  · have c1 := woff_fn (G1 i) 0 [] (ok1' (by omega)).fit
    rw [offE (by omega)] at c1
    repeat (first | refine And.intro (by omega) ?_ | refine And.intro rfl ?_ | refine ev_ctl rfl rfl ?_ | refine evr_nil ?_ | refine evw_nil (by kernel_rfl) ?_ | (simp (disch := omega) only [takeAll, Nat.min_eq_left, Nat.min_eq_right, if_pos, if_neg, getD_map, wrapI64, modIn, fdivE, tmodE, tdivE, decT, decF, beqT, beqF, bneT, bneF, Int.toNat_natCast]; try simp only [go_sem]) | refine ev_condTb rfl (by simp <;> omega) ?_ | refine ev_condFb rfl (by simp <;> omega) ?_ | ((first | refine ev_region ?_ | refine evr_go rfl ?_ | refine evw_go rfl ?_ | refine ev_dr0 mixed rfl (by kernel_rfl) ?_ | refine ev_dr1 mixed rfl (by kernel_rfl) ?_ | refine ev_dr2 mixed rfl (by kernel_rfl) ?_); simp only [go_sem]))
    (first | refine callD (c1) ?_ | refine callDw (c1) ?_); simp only [go_sem]
    repeat (first | refine And.intro (by omega) ?_ | refine And.intro rfl ?_ | refine ev_ctl rfl rfl ?_ | refine evr_nil ?_ | refine evw_nil (by kernel_rfl) ?_ | (simp (disch := omega) only [takeAll, Nat.min_eq_left, Nat.min_eq_right, if_pos, if_neg, getD_map, wrapI64, modIn, fdivE, tmodE, tdivE, decT, decF, beqT, beqF, bneT, bneF, Int.toNat_natCast]; try simp only [go_sem]) | refine ev_condTb rfl (by simp <;> omega) ?_ | refine ev_condFb rfl (by simp <;> omega) ?_ | ((first | refine ev_region ?_ | refine evr_go rfl ?_ | refine evw_go rfl ?_ | refine ev_dr0 mixed rfl (by kernel_rfl) ?_ | refine ev_dr1 mixed rfl (by kernel_rfl) ?_ | refine ev_dr2 mixed rfl (by kernel_rfl) ?_); simp only [go_sem]))
    refine ev_next 1 (hJ _ (⟨i + 1, hlt⟩) (by first | omega | (dsimp only; omega) | (simp; omega))) rfl (by simp) ?_ (by first | rfl | (simp only [go_sem]; done)) (by first | rfl | (simp only [go_sem]; done)) ?_
    · (first | rfl | (simp only [go_sem]; done) | (simp only [go_sem]; simp only [hlt]; done) | (simp only [go_sem]; simp [hlt]; done) | (simp [hlt]; done))
    · (simp only [go_sem]; (repeat' (refine And.intro ?_ ?_)) <;> first | exact trivial | with_reducible rfl | (simp only [hlt]; done) | (simp only [hlt]; with_reducible rfl) | (simp [hlt]; done) | (simp [hlt]; omega) | (simp only [hlt]; rfl) | skip)
  · obtain rfl : i = n := by omega
    repeat (first | refine And.intro (by omega) ?_ | refine And.intro rfl ?_ | refine ev_ctl rfl rfl ?_ | refine evr_nil ?_ | refine evw_nil (by kernel_rfl) ?_ | (simp (disch := omega) only [takeAll, Nat.min_eq_left, Nat.min_eq_right, if_pos, if_neg, getD_map, wrapI64, modIn, fdivE, tmodE, tdivE, decT, decF, beqT, beqF, bneT, bneF, Int.toNat_natCast]; try simp only [go_sem]) | refine ev_condTb rfl (by simp <;> omega) ?_ | refine ev_condFb rfl (by simp <;> omega) ?_ | ((first | refine ev_region ?_ | refine evr_go rfl ?_ | refine evw_go rfl ?_ | refine ev_dr0 mixed rfl (by kernel_rfl) ?_ | refine ev_dr1 mixed rfl (by kernel_rfl) ?_ | refine ev_dr2 mixed rfl (by kernel_rfl) ?_); simp only [go_sem]))
    simp only [hf, ha]
    (first | refine callD (c2) ?_ | refine callDw (c2) ?_); simp only [go_sem]
    repeat (first | refine And.intro (by omega) ?_ | refine And.intro rfl ?_ | refine ev_ctl rfl rfl ?_ | refine evr_nil ?_ | refine evw_nil (by kernel_rfl) ?_ | (simp (disch := omega) only [takeAll, Nat.min_eq_left, Nat.min_eq_right, if_pos, if_neg, getD_map, wrapI64, modIn, fdivE, tmodE, tdivE, decT, decF, beqT, beqF, bneT, bneF, Int.toNat_natCast]; try simp only [go_sem]) | refine ev_condTb rfl (by simp <;> omega) ?_ | refine ev_condFb rfl (by simp <;> omega) ?_ | ((first | refine ev_region ?_ | refine evr_go rfl ?_ | refine evw_go rfl ?_ | refine ev_dr0 mixed rfl (by kernel_rfl) ?_ | refine ev_dr1 mixed rfl (by kernel_rfl) ?_ | refine ev_dr2 mixed rfl (by kernel_rfl) ?_); simp only [go_sem]))
    (first | refine callD (c3) ?_ | refine callDw (c3) ?_); simp only [go_sem]
    repeat (first | refine And.intro (by omega) ?_ | refine And.intro rfl ?_ | refine ev_ctl rfl rfl ?_ | refine evr_nil ?_ | refine evw_nil (by kernel_rfl) ?_ | (simp (disch := omega) only [takeAll, Nat.min_eq_left, Nat.min_eq_right, if_pos, if_neg, getD_map, wrapI64, modIn, fdivE, tmodE, tdivE, decT, decF, beqT, beqF, bneT, bneF, Int.toNat_natCast]; try simp only [go_sem]) | refine ev_condTb rfl (by simp <;> omega) ?_ | refine ev_condFb rfl (by simp <;> omega) ?_ | ((first | refine ev_region ?_ | refine evr_go rfl ?_ | refine evw_go rfl ?_ | refine ev_dr0 mixed rfl (by kernel_rfl) ?_ | refine ev_dr1 mixed rfl (by kernel_rfl) ?_ | refine ev_dr2 mixed rfl (by kernel_rfl) ?_); simp only [go_sem]))
    (first | refine callD (c4) ?_ | refine callDw (c4) ?_); simp only [go_sem]
    repeat (first | refine And.intro (by omega) ?_ | refine And.intro rfl ?_ | refine ev_ctl rfl rfl ?_ | refine evr_nil ?_ | refine evw_nil (by kernel_rfl) ?_ | (simp (disch := omega) only [takeAll, Nat.min_eq_left, Nat.min_eq_right, if_pos, if_neg, getD_map, wrapI64, modIn, fdivE, tmodE, tdivE, decT, decF, beqT, beqF, bneT, bneF, Int.toNat_natCast]; try simp only [go_sem]) | refine ev_condTb rfl (by simp <;> omega) ?_ | refine ev_condFb rfl (by simp <;> omega) ?_ | ((first | refine ev_region ?_ | refine evr_go rfl ?_ | refine evw_go rfl ?_ | refine ev_dr0 mixed rfl (by kernel_rfl) ?_ | refine ev_dr1 mixed rfl (by kernel_rfl) ?_ | refine ev_dr2 mixed rfl (by kernel_rfl) ?_); simp only [go_sem]))
    (first | refine callD (c5) ?_ | refine callDw (c5) ?_); simp only [go_sem]
    repeat (first | refine And.intro (by omega) ?_ | refine And.intro rfl ?_ | refine ev_ctl rfl rfl ?_ | refine evr_nil ?_ | refine evw_nil (by kernel_rfl) ?_ | (simp (disch := omega) only [takeAll, Nat.min_eq_left, Nat.min_eq_right, if_pos, if_neg, getD_map, wrapI64, modIn, fdivE, tmodE, tdivE, decT, decF, beqT, beqF, bneT, bneF, Int.toNat_natCast]; try simp only [go_sem]) | refine ev_condTb rfl (by simp <;> omega) ?_ | refine ev_condFb rfl (by simp <;> omega) ?_ | ((first | refine ev_region ?_ | refine evr_go rfl ?_ | refine evw_go rfl ?_ | refine ev_dr0 mixed rfl (by kernel_rfl) ?_ | refine ev_dr1 mixed rfl (by kernel_rfl) ?_ | refine ev_dr2 mixed rfl (by kernel_rfl) ?_); simp only [go_sem]))
    (first | refine callD (c6) ?_ | refine callDw (c6) ?_); simp only [go_sem]
    repeat (first | refine And.intro (by omega) ?_ | refine And.intro rfl ?_ | refine ev_ctl rfl rfl ?_ | refine evr_nil ?_ | refine evw_nil (by kernel_rfl) ?_ | (simp (disch := omega) only [takeAll, Nat.min_eq_left, Nat.min_eq_right, if_pos, if_neg, getD_map, wrapI64, modIn, fdivE, tmodE, tdivE, decT, decF, beqT, beqF, bneT, bneF, Int.toNat_natCast]; try simp only [go_sem]) | refine ev_condTb rfl (by simp <;> omega) ?_ | refine ev_condFb rfl (by simp <;> omega) ?_ | ((first | refine ev_region ?_ | refine evr_go rfl ?_ | refine evw_go rfl ?_ | refine ev_dr0 mixed rfl (by kernel_rfl) ?_ | refine ev_dr1 mixed rfl (by kernel_rfl) ?_ | refine ev_dr2 mixed rfl (by kernel_rfl) ?_); simp only [go_sem]))
    (first | refine callD (c7) ?_ | refine callDw (c7) ?_); simp only [go_sem]
    repeat (first | refine And.intro (by omega) ?_ | refine And.intro rfl ?_ | refine ev_ctl rfl rfl ?_ | refine evr_nil ?_ | refine evw_nil (by kernel_rfl) ?_ | (simp (disch := omega) only [takeAll, Nat.min_eq_left, Nat.min_eq_right, if_pos, if_neg, getD_map, wrapI64, modIn, fdivE, tmodE, tdivE, decT, decF, beqT, beqF, bneT, bneF, Int.toNat_natCast]; try simp only [go_sem]) | refine ev_condTb rfl (by simp <;> omega) ?_ | refine ev_condFb rfl (by simp <;> omega) ?_ | ((first | refine ev_region ?_ | refine evr_go rfl ?_ | refine evw_go rfl ?_ | refine ev_dr0 mixed rfl (by kernel_rfl) ?_ | refine ev_dr1 mixed rfl (by kernel_rfl) ?_ | refine ev_dr2 mixed rfl (by kernel_rfl) ?_); simp only [go_sem]))
    refine ev_loopK [14, 17] (fun p : {p : Nat // p ≤ f - a} => [(25, .int .i64 p.1)]) (fun _ => []) (fun p => f - a - p.1) (⟨0, by simp⟩) 0 (by simp only [go_sem]; rfl) ?_ (by first | rfl | (simp only [go_sem]; done)) (by simp) (by first | rfl | (simp only [go_sem]; done)) (by first | rfl | (simp only [go_sem]; done)) (by first | rfl | (simp only [go_sem]; done)) ?_
    · (simp only [go_sem]; (try simp []); done)
    intro J hJ
    rintro ⟨q, hq⟩
    by_cases c : q < f - a
    · have hs := L3_at hf1 ha1 c
      repeat (first | refine And.intro (by omega) ?_ | refine And.intro rfl ?_ | refine ev_ctl rfl rfl ?_ | refine evr_nil ?_ | refine evw_nil (by kernel_rfl) ?_ | (simp (disch := omega) only [takeAll, Nat.min_eq_left, Nat.min_eq_right, if_pos, if_neg, getD_map, wrapI64, modIn, fdivE, tmodE, tdivE, decT, decF, beqT, beqF, bneT, bneF, Int.toNat_natCast]; try simp only [go_sem]) | refine ev_condTb rfl (by simp <;> omega) ?_ | refine ev_condFb rfl (by simp <;> omega) ?_ | ((first | refine ev_region ?_ | refine evr_go rfl ?_ | refine evw_go rfl ?_ | refine ev_dr0 mixed rfl (by kernel_rfl) ?_ | refine ev_dr1 mixed rfl (by kernel_rfl) ?_ | refine ev_dr2 mixed rfl (by kernel_rfl) ?_); simp only [go_sem]))
      refine ev_next 0 (hJ _ (⟨q + 1, c⟩) (by first | omega | (dsimp only; omega) | (simp; omega))) rfl (by simp) ?_ (by first | rfl | (simp only [go_sem]; done)) (by first | rfl | (simp only [go_sem]; done)) ?_
      · (first | rfl | (simp only [go_sem]; done) | (simp only [go_sem]; simp only [c]; done) | (simp only [go_sem]; simp [c]; done) | (simp [c]; done))
      · (simp only [go_sem]; (repeat' (refine And.intro ?_ ?_)) <;> first | exact trivial | with_reducible rfl | (simp only [c]; done) | (simp only [c]; with_reducible rfl) | (simp [c]; done) | (simp [c]; omega) | (simp only [c]; rfl) | skip)
    · skip
      repeat (first | refine And.intro (by omega) ?_ | refine And.intro rfl ?_ | refine ev_ctl rfl rfl ?_ | refine evr_nil ?_ | refine evw_nil (by kernel_rfl) ?_ | (simp (disch := omega) only [takeAll, Nat.min_eq_left, Nat.min_eq_right, if_pos, if_neg, getD_map, wrapI64, modIn, fdivE, tmodE, tdivE, decT, decF, beqT, beqF, bneT, bneF, Int.toNat_natCast]; try simp only [go_sem]) | refine ev_condTb rfl (by simp <;> omega) ?_ | refine ev_condFb rfl (by simp <;> omega) ?_ | ((first | refine ev_region ?_ | refine evr_go rfl ?_ | refine evw_go rfl ?_ | refine ev_dr0 mixed rfl (by kernel_rfl) ?_ | refine ev_dr1 mixed rfl (by kernel_rfl) ?_ | refine ev_dr2 mixed rfl (by kernel_rfl) ?_); simp only [go_sem]))
      (first | refine callD (awake38_fn) ?_ | refine callDw (awake38_fn) ?_); simp only [go_sem]
      repeat (first | refine And.intro (by omega) ?_ | refine And.intro rfl ?_ | refine ev_ctl rfl rfl ?_ | refine evr_nil ?_ | refine evw_nil (by kernel_rfl) ?_ | (simp (disch := omega) only [takeAll, Nat.min_eq_left, Nat.min_eq_right, if_pos, if_neg, getD_map, wrapI64, modIn, fdivE, tmodE, tdivE, decT, decF, beqT, beqF, bneT, bneF, Int.toNat_natCast]; try simp only [go_sem]) | refine ev_condTb rfl (by simp <;> omega) ?_ | refine ev_condFb rfl (by simp <;> omega) ?_ | ((first | refine ev_region ?_ | refine evr_go rfl ?_ | refine evw_go rfl ?_ | refine ev_dr0 mixed rfl (by kernel_rfl) ?_ | refine ev_dr1 mixed rfl (by kernel_rfl) ?_ | refine ev_dr2 mixed rfl (by kernel_rfl) ?_); simp only [go_sem]))
      refine ret m_waits_ok [] ?_; (first | (simp only [go_sem]; done) | (simp only [go_sem]; rfl))
theorem waits_law {a0 : Int} {v0 : Value} {a1 : Int} {v1 : Value} {a2 : Int} {v2 : Value} (W : World) (e0 : (Sh.int .u8).rd (old W) W a0 [v0]) (e1 : (Sh.int .u8).rd (old W) W a1 [v1]) (e2 : (Sh.int .u8).rd (old W) W a2 [v2]) :
    Calls Try.prog 8 #[v0, v1, v2] W fun e w' => e = .returned (.bool true) ∧ Below W.heap.size W w' :=
  Fnc.law (waits_fn a0 a1 a2) (RdTs.int e0 (RdTs.int e1 (RdTs.int e2 RdTs.nil')))
end Go.Proofs.Ytdjjhajkpfiagaa
