/- No outputs are in order. -/
import Derived.Test.YtanmcjkpdkmhfaaDz
import Derived.Test.YtanmcjkpdkmhfaaZt
import Derived.Test.YtanmcjkpdkmhfaaDd
namespace Go.Proofs.Ytanmcjkpdkmhfaa
open Go Go.RowKit Rdn Rdn.Dp
set_option linter.unusedVariables false
set_option linter.unusedSimpArgs false
def m_ord0 : MC := .seq (.reg [⟨(some 2), none, (.p (.mov (.c (.bool false))))⟩])
 (.seq (.seq (.reg [⟨(some 5), none, (.p (.mov (.t 0)))⟩, ⟨(some 6), none, (.p (.len (.t 5)))⟩, ⟨(some 7), none, (.p (.mov (.c (.int .i64 0))))⟩])
 (.block 0 (.loop (.seq (.reg [⟨(some 8), none, (.p (.bin 0 .lss (.t 7) (.t 6)))⟩])
 (.seq (.cond (.t 8) (.skip) (.exit 0))
 (.seq (.block 1 (.seq (.reg [⟨(some 9), none, (.p (.mov (.t 7)))⟩, ⟨(some 10), none, (.p (.idxA 3 (.t 5) (.t 7)))⟩, ⟨(some 11), none, (.p (.load true 3 (.t 10)))⟩, ⟨(some 4), none, (.m (.alloc 102 (.agg [.int .i64 0, .int .i64 0, .nilS])))⟩, ⟨(some 3), none, (.p (.mov (.t 9)))⟩, ⟨none, none, (.m (.store 3 (.t 4) (.t 11)))⟩])
 (.seq (.reg [⟨(some 12), none, (.p (.fieldA 0 0 (.t 4)))⟩, ⟨(some 13), none, (.p (.load false 1 (.t 12)))⟩, ⟨(some 14), none, (.p (.mov (.t 3)))⟩, ⟨(some 15), none, (.p (.bin 0 .neq (.t 13) (.t 14)))⟩, ⟨(some 16), none, (.p (.mov (.t 15)))⟩, ⟨(some 17), (some (16, false)), (.p (.fieldA 1 1 (.t 4)))⟩, ⟨(some 18), (some (16, false)), (.p (.load false 1 (.t 17)))⟩, ⟨(some 19), (some (16, false)), (.p (.bin 0 .lss (.t 18) (.c (.int .i64 0))))⟩, ⟨(some 20), none, (.p (.pick (.t 16) (.c (.bool true)) (.t 19)))⟩, ⟨(some 21), none, (.p (.mov (.t 20)))⟩, ⟨(some 22), (some (21, false)), (.p (.fieldA 1 1 (.t 4)))⟩, ⟨(some 23), (some (21, false)), (.p (.load false 1 (.t 22)))⟩, ⟨(some 24), (some (21, false)), (.p (.bin 0 .geq (.t 23) (.c (.int .i64 2))))⟩, ⟨(some 25), none, (.p (.pick (.t 21) (.c (.bool true)) (.t 24)))⟩, ⟨(some 26), none, (.p (.mov (.t 25)))⟩, ⟨(some 27), (some (26, false)), (.p (.fieldA 2 2 (.t 4)))⟩, ⟨(some 28), (some (26, false)), (.p (.load false 1 (.t 27)))⟩, ⟨(some 29), (some (26, false)), (.p (.len (.t 28)))⟩, ⟨(some 30), (some (26, false)), (.p (.bin 0 .gtr (.t 29) (.c (.int .i64 16))))⟩, ⟨(some 31), none, (.p (.pick (.t 26) (.c (.bool true)) (.t 30)))⟩])
 (.cond (.t 31) (.seq (.reg [⟨(some 2), none, (.p (.mov (.c (.bool false))))⟩])
 (.ret)) (.skip)))))
 (.reg [⟨(some 32), none, (.p (.bin 0 .add (.t 7) (.c (.int .i64 1))))⟩, ⟨(some 7), none, (.p (.mov (.t 32)))⟩])))))))
 (.seq (.reg [⟨(some 2), none, (.p (.mov (.c (.bool true))))⟩])
 (.ret)))
theorem m_ord0_ok : compF Try.prog 68 = some (33, m_ord0, [.mov (.t 2)]) := by kernel_rfl
set_option maxHeartbeats 4000000 in
theorem rord0_fn : Fnc Try.prog 68 [.sl false 3 []] (fun x obs => x = .bool true ∧ obs = []) := by
  refine Fnc.intro m_ord0_ok (by simp) fun W S => ?_
  unfold m_ord0
  simp only [ents, Nat.zero_add, Nat.reduceAdd]
  refine zst ?_
  refine ev_unroll 1 ?_
  refine zst ?_
  refine ret m_ord0_ok [] ?_; (first | (simp only [go_sem]; done) | (simp only [go_sem]; ((try dsimp only); (repeat' (refine And.intro ?_ ?_)) <;> first | with_reducible rfl | (simp only [go_sem]; done) | (simp only [go_sem]; rfl) | (simp only []; (try simp only [go_sem]); first | done | rfl) | (simp only [go_sem]; simp []; done) | (simp []; done) | rfl)))
end Go.Proofs.Ytanmcjkpdkmhfaa
