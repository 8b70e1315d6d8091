/- The outside at its beginning. -/
import Derived.Test.YtanmcjkpdkmhfaaK2
import Derived.Test.YtanmcjkpdkmhfaaZt
import Derived.Test.YtanmcjkpdkmhfaaO0
namespace Go.Proofs.Ytanmcjkpdkmhfaa
open Go Go.RowKit Rdn Rdn.Dp
set_option linter.unusedVariables false
set_option linter.unusedSimpArgs false
def m_fnew : MC := .seq (.reg [⟨(some 2), none, (.m (.alloc 26 (.agg [.nilS, .nilS])))⟩, ⟨(some 3), none, (.p (.mov (.c (.int .i64 0))))⟩])
 (.seq (.reg [⟨(some 11), none, (.m (.mkS 36 3 24 (.agg [.int .i64 0, .int .i64 0, .bool false]) (.c (.int .i64 8)) (.c (.int .i64 8))))⟩, ⟨(some 12), none, (.m (.build none [.nilS, .nilS] [(1, (.t 11))]))⟩, ⟨(some 4), none, (.m (.alloc 26 (.agg [.nilS, .nilS])))⟩, ⟨none, none, (.m (.store 2 (.t 4) (.t 12)))⟩])
 (.seq (.seq (.reg [⟨(some 13), none, (.p (.fieldA 1 1 (.t 4)))⟩, ⟨(some 14), none, (.p (.load false 1 (.t 13)))⟩, ⟨(some 15), none, (.p (.len (.t 14)))⟩, ⟨(some 16), none, (.p (.mov (.c (.int .i64 0))))⟩])
 (.block 0 (.loop (.seq (.reg [⟨(some 17), none, (.p (.bin 0 .lss (.t 16) (.t 15)))⟩])
 (.seq (.cond (.t 17) (.skip) (.exit 0))
 (.seq (.block 1 (.seq (.reg [⟨(some 18), none, (.p (.mov (.t 16)))⟩, ⟨(some 5), none, (.p (.mov (.t 18)))⟩])
 (.reg [⟨(some 19), none, (.p (.fieldA 1 1 (.t 4)))⟩, ⟨(some 20), none, (.p (.load false 1 (.t 19)))⟩, ⟨(some 21), none, (.p (.mov (.t 5)))⟩, ⟨(some 22), none, (.p (.idxA 3 (.t 20) (.t 21)))⟩, ⟨(some 23), none, (.p (.fieldA 0 0 (.t 22)))⟩, ⟨none, none, (.m (.store 1 (.t 23) (.c (.int .i64 (-1)))))⟩])))
 (.reg [⟨(some 24), none, (.p (.bin 0 .add (.t 16) (.c (.int .i64 1))))⟩, ⟨(some 16), none, (.p (.mov (.t 24)))⟩])))))))
 (.seq (.seq (.reg [⟨(some 25), none, (.p (.mov (.t 0)))⟩, ⟨(some 26), none, (.p (.len (.t 25)))⟩, ⟨(some 27), none, (.p (.mov (.c (.int .i64 0))))⟩])
 (.block 2 (.loop (.seq (.reg [⟨(some 28), none, (.p (.bin 0 .lss (.t 27) (.t 26)))⟩])
 (.seq (.cond (.t 28) (.skip) (.exit 2))
 (.seq (.block 3 (.seq (.reg [⟨(some 29), none, (.p (.idxA 1 (.t 25) (.t 27)))⟩, ⟨(some 30), none, (.p (.load false 1 (.t 29)))⟩, ⟨(some 7), none, (.p (.mov (.t 30)))⟩])
 (.seq (.reg [⟨(some 8), none, (.p (.mov (.c (.nilS))))⟩])
 (.seq (.seq (.reg [⟨(some 31), none, (.p (.mov (.t 7)))⟩, ⟨(some 32), none, (.p (.len (.t 31)))⟩, ⟨(some 33), none, (.p (.mov (.c (.int .i64 0))))⟩])
 (.block 4 (.loop (.seq (.reg [⟨(some 34), none, (.p (.bin 0 .lss (.t 33) (.t 32)))⟩])
 (.seq (.cond (.t 34) (.skip) (.exit 4))
 (.seq (.block 5 (.seq (.reg [⟨(some 35), none, (.p (.idxA 1 (.t 31) (.t 33)))⟩, ⟨(some 36), none, (.p (.load false 1 (.t 35)))⟩, ⟨(some 10), none, (.p (.mov (.t 36)))⟩])
 (.reg [⟨(some 37), none, (.p (.mov (.t 8)))⟩, ⟨(some 38), none, (.p (.mov (.t 10)))⟩, ⟨(some 39), none, (.m (.build none [.int .u8 0, .int .u16 0, .int .i64 0, .int .i64 0] [(1, (.t 38))]))⟩, ⟨(some 40), none, (.m (.buildS 71 4 (.agg [.int .u8 0, .int .u16 0, .int .i64 0, .int .i64 0]) 1 [(0, (.t 39))]))⟩, ⟨(some 41), none, (.m (.app 71 4 24 (.t 37) (.t 40)))⟩, ⟨(some 8), none, (.p (.mov (.t 41)))⟩])))
 (.reg [⟨(some 42), none, (.p (.bin 0 .add (.t 33) (.c (.int .i64 1))))⟩, ⟨(some 33), none, (.p (.mov (.t 42)))⟩])))))))
 (.reg [⟨(some 43), none, (.p (.fieldA 0 0 (.t 4)))⟩, ⟨(some 44), none, (.p (.load false 1 (.t 43)))⟩, ⟨(some 45), none, (.p (.mov (.t 8)))⟩, ⟨(some 46), none, (.m (.buildS 33 1 (.nilS) 1 [(0, (.t 45))]))⟩, ⟨(some 47), none, (.m (.app 33 1 24 (.t 44) (.t 46)))⟩, ⟨(some 48), none, (.p (.fieldA 0 0 (.t 4)))⟩, ⟨none, none, (.m (.store 1 (.t 48) (.t 47)))⟩])))))
 (.reg [⟨(some 49), none, (.p (.bin 0 .add (.t 27) (.c (.int .i64 1))))⟩, ⟨(some 27), none, (.p (.mov (.t 49)))⟩])))))))
 (.seq (.seq (.reg [⟨(some 50), none, (.p (.load true 2 (.t 4)))⟩, ⟨(some 51), none, (.call 16 [(.t 50)])⟩, ⟨(some 52), none, (.p (.un .not (.t 51)))⟩])
 (.cond (.t 52) (.seq (.reg [⟨(some 53), none, (.m (.build none [.nilS, .nilS] []))⟩, ⟨none, none, (.m (.store 2 (.t 2) (.t 53)))⟩, ⟨(some 3), none, (.p (.mov (.c (.int .i64 3))))⟩])
 (.ret)) (.skip)))
 (.seq (.reg [⟨(some 54), none, (.p (.load true 2 (.t 4)))⟩, ⟨none, none, (.m (.store 2 (.t 2) (.t 54)))⟩, ⟨(some 3), none, (.p (.mov (.c (.int .i64 0))))⟩])
 (.ret))))))
theorem m_fnew_ok : compF Try.prog 26 = some (55, m_fnew, [.load true 2 (.t 2), .mov (.t 3)]) := by kernel_rfl
def m_oval : MC := .seq (.reg [⟨(some 1), none, (.m (.box 63 (.t 0)))⟩, ⟨(some 2), none, (.p (.mov (.c (.bool false))))⟩])
 (.seq (.seq (.reg [⟨(some 7), none, (.p (.fieldA 2 2 (.t 1)))⟩, ⟨(some 8), none, (.p (.load false 1 (.t 7)))⟩, ⟨(some 9), none, (.p (.len (.t 8)))⟩, ⟨(some 10), none, (.p (.mov (.c (.int .i64 0))))⟩])
 (.block 0 (.loop (.seq (.reg [⟨(some 11), none, (.p (.bin 0 .lss (.t 10) (.t 9)))⟩])
 (.seq (.cond (.t 11) (.skip) (.exit 0))
 (.seq (.block 1 (.seq (.reg [⟨(some 12), none, (.p (.idxA 1 (.t 8) (.t 10)))⟩, ⟨(some 13), none, (.p (.load false 1 (.t 12)))⟩, ⟨(some 4), none, (.p (.mov (.t 13)))⟩])
 (.seq (.reg [⟨(some 14), none, (.p (.mov (.t 4)))⟩, ⟨(some 15), none, (.p (.len (.t 14)))⟩, ⟨(some 16), none, (.p (.bin 0 .gtr (.t 15) (.c (.int .i64 64))))⟩])
 (.cond (.t 16) (.seq (.reg [⟨(some 2), none, (.p (.mov (.c (.bool false))))⟩])
 (.ret)) (.skip)))))
 (.reg [⟨(some 17), none, (.p (.bin 0 .add (.t 10) (.c (.int .i64 1))))⟩, ⟨(some 10), none, (.p (.mov (.t 17)))⟩])))))))
 (.seq (.seq (.reg [⟨(some 18), none, (.p (.fieldA 5 4 (.t 1)))⟩, ⟨(some 19), none, (.p (.load false 1 (.t 18)))⟩, ⟨(some 20), none, (.p (.len (.t 19)))⟩, ⟨(some 21), none, (.p (.mov (.c (.int .i64 0))))⟩])
 (.block 2 (.loop (.seq (.reg [⟨(some 22), none, (.p (.bin 0 .lss (.t 21) (.t 20)))⟩])
 (.seq (.cond (.t 22) (.skip) (.exit 2))
 (.seq (.block 3 (.seq (.reg [⟨(some 23), none, (.p (.idxA 3 (.t 19) (.t 21)))⟩, ⟨(some 24), none, (.p (.load true 3 (.t 23)))⟩, ⟨(some 6), none, (.m (.alloc 102 (.agg [.int .i64 0, .int .i64 0, .nilS])))⟩, ⟨none, none, (.m (.store 3 (.t 6) (.t 24)))⟩])
 (.seq (.reg [⟨(some 25), none, (.p (.fieldA 2 2 (.t 6)))⟩, ⟨(some 26), none, (.p (.load false 1 (.t 25)))⟩, ⟨(some 27), none, (.call 40 [(.t 26), (.c (.int .i64 16))])⟩, ⟨(some 28), none, (.p (.un .not (.t 27)))⟩])
 (.cond (.t 28) (.seq (.reg [⟨(some 2), none, (.p (.mov (.c (.bool false))))⟩])
 (.ret)) (.skip)))))
 (.reg [⟨(some 29), none, (.p (.bin 0 .add (.t 21) (.c (.int .i64 1))))⟩, ⟨(some 21), none, (.p (.mov (.t 29)))⟩])))))))
 (.seq (.reg [⟨(some 30), none, (.p (.fieldA 0 0 (.t 1)))⟩, ⟨(some 31), none, (.p (.load false 1 (.t 30)))⟩, ⟨(some 32), none, (.p (.len (.t 31)))⟩, ⟨(some 33), none, (.p (.bin 0 .leq (.t 32) (.c (.int .i64 64))))⟩, ⟨(some 34), none, (.p (.mov (.t 33)))⟩, ⟨(some 35), (some (34, true)), (.p (.fieldA 1 1 (.t 1)))⟩, ⟨(some 36), (some (34, true)), (.p (.load false 1 (.t 35)))⟩, ⟨(some 37), (some (34, true)), (.p (.len (.t 36)))⟩, ⟨(some 38), (some (34, true)), (.p (.bin 0 .leq (.t 37) (.c (.int .i64 64))))⟩, ⟨(some 39), none, (.p (.pick (.t 34) (.t 38) (.c (.bool false))))⟩, ⟨(some 40), none, (.p (.mov (.t 39)))⟩, ⟨(some 41), (some (40, true)), (.p (.fieldA 2 2 (.t 1)))⟩, ⟨(some 42), (some (40, true)), (.p (.load false 1 (.t 41)))⟩, ⟨(some 43), (some (40, true)), (.p (.len (.t 42)))⟩, ⟨(some 44), (some (40, true)), (.p (.bin 0 .leq (.t 43) (.c (.int .i64 2))))⟩, ⟨(some 45), none, (.p (.pick (.t 40) (.t 44) (.c (.bool false))))⟩, ⟨(some 46), none, (.p (.mov (.t 45)))⟩, ⟨(some 47), (some (46, true)), (.p (.fieldA 3 3 (.t 1)))⟩, ⟨(some 48), (some (46, true)), (.p (.load true 2 (.t 47)))⟩, ⟨(some 49), (some (46, true)), (.call 16 [(.t 48)])⟩, ⟨(some 50), none, (.p (.pick (.t 46) (.t 49) (.c (.bool false))))⟩, ⟨(some 51), none, (.p (.mov (.t 50)))⟩, ⟨(some 52), (some (51, true)), (.p (.fieldA 5 4 (.t 1)))⟩, ⟨(some 53), (some (51, true)), (.p (.load false 1 (.t 52)))⟩, ⟨(some 54), (some (51, true)), (.p (.len (.t 53)))⟩, ⟨(some 55), (some (51, true)), (.p (.bin 0 .leq (.t 54) (.c (.int .i64 200))))⟩, ⟨(some 56), none, (.p (.pick (.t 51) (.t 55) (.c (.bool false))))⟩, ⟨(some 57), none, (.p (.mov (.t 56)))⟩, ⟨(some 58), (some (57, true)), (.p (.fieldA 5 4 (.t 1)))⟩, ⟨(some 59), (some (57, true)), (.p (.load false 1 (.t 58)))⟩, ⟨(some 60), (some (57, true)), (.call 68 [(.t 59)])⟩, ⟨(some 61), none, (.p (.pick (.t 57) (.t 60) (.c (.bool false))))⟩, ⟨(some 2), none, (.p (.mov (.t 61)))⟩])
 (.ret))))
theorem m_oval_ok : compF Try.prog 66 = some (62, m_oval, [.mov (.t 2)]) := by kernel_rfl

set_option maxRecDepth 100000 in
set_option maxHeartbeats 16000000 in
theorem fnew_fn (w0 w1 : List Int) (h0 : w0.length ≤ 64) (h1 : w1.length ≤ 64) : Fnc Try.prog 26 [.sl false 1 [wsV w0, wsV w1]] (fun x obs => x = .tup [fsV w0 w1, .int .i64 0] ∧ obs = []) := by
  refine Fnc.low ?_
  refine Fnc.intro m_fnew_ok (by simp) fun W S => ?_
  unfold m_fnew
  simp only [ents, Nat.zero_add, Nat.reduceAdd]
  refine zst ?_
  refine ev_unroll 9 ?_
  refine zst ?_
  refine ev_unroll 3 ?_
  refine zst ?_
  refine ev_adopt (i := 8) (e := 71) (s := 4) rfl (by decide) ?_
  refine ev_loopK [2, 4, 25, 26, 27, 31, 32] (fun p : {p : Nat // p ≤ w0.length} => [(8, .own 3 p.1), (33, .int .i64 p.1)]) (fun p => [⟨.box false 26, true, 0, .agg [.nilS, .nilS]⟩, ⟨.row 36, true, 0, .arr 3 [openN, openN, openN, openN, openN, openN, openN, openN]⟩, ⟨.box false 26, true, 0, .agg [.nilS, .own 1 0]⟩, ⟨.row 71, true, p.1, .arr 4 ((numC (w0.take p.1)).map canonV)⟩]) (fun p => w0.length - p.1) (⟨0, by simp⟩) 4 (by simp only [go_sem]; rfl) ?_ (by first | rfl | (simp only [go_sem]; done) | (simp only [go_sem]; simp [numC_zero]; done)) (by simp) (by first | rfl | (simp only [go_sem]; done)) (by first | rfl | (simp only [go_sem]; done)) (by first | rfl | (simp only [go_sem]; done) | (simp only [numC_zero]; (try simp only [go_sem]); first | done | rfl)) ?_
  · (simp only [go_sem]; (try simp [numC_zero]); done)
  intro J hJ
  rintro ⟨k, hk0⟩
  by_cases hlt : k < w0.length
  · have hl := numC_len (w0.take k)
    have hl2 : (w0.take k).length = k := by rw [List.length_take]; omega
    have hs := numC_snoc hlt
    refine zst ?_
    refine ev_next 4 (hJ _ (⟨k + 1, hlt⟩) (by first | omega | (dsimp only; omega) | (simp; omega))) rfl (by simp) ?_ (by first | rfl | (simp only [go_sem]; done)) (by first | rfl | (simp only [go_sem]; done) | (simp only [hs]; (try simp only [go_sem]); first | done | rfl)) ?_
    · (first | rfl | (simp only [go_sem]; done) | (simp only [go_sem]; simp only [hs]; done) | (simp only [hs]; done) | (simp only [go_sem]; simp [hs]; done) | (simp [hs]; done))
    · (simp only [go_sem]; (repeat' (refine And.intro ?_ ?_)) <;> first | exact trivial | with_reducible rfl | (simp only [hs]; done) | (simp only [hs]; with_reducible rfl) | (simp [hs]; done) | (simp [hs]; omega) | (simp only [hs]; rfl) | skip)
  obtain rfl : k = w0.length := by omega
  refine zst ?_
  refine ev_adopt (i := 8) (e := 71) (s := 4) rfl (by decide) ?_
  refine ev_loopK [2, 4, 25, 26, 27, 31, 32] (fun p : {p : Nat // p ≤ w1.length} => [(8, .own 6 p.1), (33, .int .i64 p.1)]) (fun p => [⟨.box false 26, true, 0, .agg [.nilS, .nilS]⟩, ⟨.row 36, true, 0, .arr 3 [openN, openN, openN, openN, openN, openN, openN, openN]⟩, ⟨.box false 26, true, 0, .agg [.own 5 0, .own 1 0]⟩, ⟨.row 71, false, w0.length, .arr 4 ((numC w0).map canonV)⟩, ⟨.row 33, true, 0, .arr 1 [.sl true 4 ((numC w0).map canonV)]⟩, ⟨.row 33, true, 0, .arr 1 [.sl true 4 ((numC w0).map canonV)]⟩, ⟨.row 71, true, p.1, .arr 4 ((numC (w1.take p.1)).map canonV)⟩]) (fun p => w1.length - p.1) (⟨0, by simp⟩) 7 (by simp only [go_sem]; rfl) ?_ (by first | rfl | (simp only [go_sem]; done) | (simp only [go_sem]; simp [numC_zero]; done)) (by simp) (by first | rfl | (simp only [go_sem]; done)) (by first | rfl | (simp only [go_sem]; done)) (by first | rfl | (simp only [go_sem]; done) | (simp only [numC_zero]; (try simp only [go_sem]); first | done | rfl)) ?_
  · (simp only [go_sem]; (try simp [numC_zero]); done)
  intro J hJ
  rintro ⟨k, hk0⟩
  by_cases hlt : k < w1.length
  · have hl := numC_len (w1.take k)
    have hl2 : (w1.take k).length = k := by rw [List.length_take]; omega
    have hs := numC_snoc hlt
    refine zst ?_
    refine ev_next 7 (hJ _ (⟨k + 1, hlt⟩) (by first | omega | (dsimp only; omega) | (simp; omega))) rfl (by simp) ?_ (by first | rfl | (simp only [go_sem]; done)) (by first | rfl | (simp only [go_sem]; done) | (simp only [hs]; (try simp only [go_sem]); first | done | rfl)) ?_
    · (first | rfl | (simp only [go_sem]; done) | (simp only [go_sem]; simp only [hs]; done) | (simp only [hs]; done) | (simp only [go_sem]; simp [hs]; done) | (simp [hs]; done))
    · (simp only [go_sem]; (repeat' (refine And.intro ?_ ?_)) <;> first | exact trivial | with_reducible rfl | (simp only [hs]; done) | (simp only [hs]; with_reducible rfl) | (simp [hs]; done) | (simp [hs]; omega) | (simp only [hs]; rfl) | skip)
  obtain rfl : k = w1.length := by omega
  refine zst ?_
  (first | refine callD (fval_fn w0 w1 h0 h1) ?_ | refine callDw (fval_fn w0 w1 h0 h1) ?_); simp only [go_sem]
  refine zst ?_
  refine ret m_fnew_ok [] ?_; (first | (simp only [go_sem]; done) | (simp only [go_sem]; ((try dsimp only); (repeat' (refine And.intro ?_ ?_)) <;> first | with_reducible rfl | (simp only [go_sem]; done) | (simp only [go_sem]; rfl) | (simp only []; (try simp only [go_sem]); first | done | rfl) | (simp only [go_sem]; simp []; done) | (simp []; done) | rfl)))
set_option maxRecDepth 100000 in
set_option maxHeartbeats 16000000 in
theorem oval_fn (c r i0 i1 w0 w1 : List Int) (hc : c.length ≤ 64) (hr : r.length ≤ 64) (hi0 : i0.length ≤ 64) (hi1 : i1.length ≤ 64) (h0 : w0.length ≤ 64) (h1 : w1.length ≤ 64) : Fnc Try.prog 66 [.agg [wsV c, wsV r, .sl false 1 [wsV i0, wsV i1], fsV w0 w1, .nilS]] (fun x obs => x = .bool true ∧ obs = []) := by
  have fo := rord0_fn
  refine Fnc.intro m_oval_ok (by simp) fun W S => ?_
  unfold m_oval
  simp only [ents, Nat.zero_add, Nat.reduceAdd]
  refine zst ?_
  refine ev_unroll 3 ?_
  refine zst ?_
  refine ev_unroll 1 ?_
  refine zst ?_
  (first | refine callD (fval_fn w0 w1 h0 h1) ?_ | refine callDw (fval_fn w0 w1 h0 h1) ?_); simp only [go_sem]
  refine zst ?_
  (first | refine callD (fo) ?_ | refine callDw (fo) ?_); simp only [go_sem]
  refine zst ?_
  refine ret m_oval_ok [] ?_; (first | (simp only [go_sem]; done) | (simp only [go_sem]; ((try dsimp only); (repeat' (refine And.intro ?_ ?_)) <;> first | with_reducible rfl | (simp only [go_sem]; done) | (simp only [go_sem]; rfl) | (simp only []; (try simp only [go_sem]); first | done | rfl) | (simp only [go_sem]; simp []; done) | (simp []; done) | rfl)))
end Go.Proofs.Ytanmcjkpdkmhfaa
