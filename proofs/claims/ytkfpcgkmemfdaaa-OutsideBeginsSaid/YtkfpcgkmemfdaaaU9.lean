/- The outside: calls for the time. -/
import Derived.Test.YtkfpcgkmemfdaaaU8
import Derived.Test.YtkfpcgkmemfdaaaZt
namespace Go.Proofs.Ytkfpcgkmemfdaaa
open Go Go.RowKit Rdn Rdn.Dp
set_option linter.unusedVariables false
set_option linter.unusedSimpArgs false
theorem numR_0 : numR 0 = ⟨0, 0, 0, 0⟩ := rfl
theorem numR_f : numR 65535 = ⟨0, 65535, 0, 0⟩ := rfl
attribute [local irreducible] sFirst
set_option maxHeartbeats 16000000 in
theorem wdot_fn (o : Rdn.Outside) (q : Request) (F : FitO o) (A : asksB q = true) (c : q.call = 6) (ha : q.args.length ≤ 1000) : Fnc Try.prog 14 [outsV o, reqV q] (fun x obs => x = .tup [outsV ⟨(sFirst o.clock).1, o.random, o.inputs, o.files, o.outputs⟩, resV (if (sFirst o.clock).2.2 = true then okR (sFirst o.clock).2.1 [] else failR), .int .i64 0] ∧ obs = []) := by
  refine Fnc.low ?_
  have fv := woval_fn o
  rw [valO_T F] at fv
  have fa := wasks_fn q ha
  rw [A] at fa
  have fx := wact_fn q.call
  rw [show actB q.call = true by rw [c]; rfl] at fx
  have fb := wbuf_fn q.call (by omega) (by omega)
  rw [show bufS q.call = 0 by rw [c]; rfl] at fb
  have fc := wocpy_fn o F
  have fn := wnumb_fn 0
  rw [numR_0] at fn
  have fm := wnumb_fn 65535
  rw [numR_f] at fm
  have ff := wfirst_fn o.clock
  cases e : (sFirst o.clock).2.2 with
  | true =>
    rw [e] at ff
    rw [if_pos rfl]
    refine Fnc.intro m_wdo_ok (by simp) fun W S => ?_
    unfold m_wdo
    simp only [ents, Nat.zero_add, Nat.reduceAdd]
    refine zst ?_
    (first | refine callD (fv) ?_ | refine callDw (fv) ?_); simp only [go_sem]
    refine zst ?_
    (first | refine callD (fa) ?_ | refine callDw (fa) ?_); simp only [go_sem]
    refine zst ?_
    (first | refine callD (fx) ?_ | refine callDw (fx) ?_); simp only [go_sem]
    refine zst ?_
    (first | refine callD (fb) ?_ | refine callDw (fb) ?_); simp only [go_sem]
    refine zst ?_
    (first | refine callD (fc) ?_ | refine callDw (fc) ?_); simp only [go_sem]
    refine zst ?_
    (first | refine callD (fn) ?_ | refine callDw (fn) ?_); simp only [go_sem]
    refine zst ?_
    (first | refine callD (ff) ?_ | refine callDw (ff) ?_); simp only [go_sem]
    refine zst ?_
    refine ev_obSub 3 (.agg [_, .sl false 4 [], _, _]) rfl (SubV.agg ⟨SubV.refl _, SubV.nil _ _, SubV.refl _, SubV.refl _, trivial⟩) rfl ?_
    refine ret m_wdo_ok [] ?_; (first | (simp only [go_sem]; done) | (simp only [go_sem]; ((try dsimp only); (repeat' (refine And.intro ?_ ?_)) <;> first | with_reducible rfl | (simp only [go_sem]; done) | (simp only [go_sem]; rfl) | (simp only [go_sem, okR]; done) | (simp only [okR]; (try simp only [go_sem]); first | done | rfl) | (simp only [go_sem]; simp [okR]; done) | (simp [okR]; done) | rfl)))
  | false =>
    rw [e] at ff
    rw [if_neg (by decide)]
    refine Fnc.intro m_wdo_ok (by simp) fun W S => ?_
    unfold m_wdo
    simp only [ents, Nat.zero_add, Nat.reduceAdd]
    refine zst ?_
    (first | refine callD (fv) ?_ | refine callDw (fv) ?_); simp only [go_sem]
    refine zst ?_
    (first | refine callD (fa) ?_ | refine callDw (fa) ?_); simp only [go_sem]
    refine zst ?_
    (first | refine callD (fx) ?_ | refine callDw (fx) ?_); simp only [go_sem]
    refine zst ?_
    (first | refine callD (fb) ?_ | refine callDw (fb) ?_); simp only [go_sem]
    refine zst ?_
    (first | refine callD (fc) ?_ | refine callDw (fc) ?_); simp only [go_sem]
    refine zst ?_
    (first | refine callD (fn) ?_ | refine callDw (fn) ?_); simp only [go_sem]
    refine zst ?_
    (first | refine callD (ff) ?_ | refine callDw (ff) ?_); simp only [go_sem]
    refine zst ?_
    (first | refine callD (fm) ?_ | refine callDw (fm) ?_); simp only [go_sem]
    refine zst ?_
    refine ev_obSub 3 (.agg [_, .sl false 4 [], _, _]) rfl (SubV.agg ⟨SubV.refl _, SubV.nil _ _, SubV.refl _, SubV.refl _, trivial⟩) rfl ?_
    refine ret m_wdo_ok [] ?_; (first | (simp only [go_sem]; done) | (simp only [go_sem]; ((try dsimp only); (repeat' (refine And.intro ?_ ?_)) <;> first | with_reducible rfl | (simp only [go_sem]; done) | (simp only [go_sem]; rfl) | (simp only [go_sem, okR failR]; done) | (simp only [okR failR]; (try simp only [go_sem]); first | done | rfl) | (simp only [go_sem]; simp [okR failR]; done) | (simp [okR failR]; done) | rfl)))
end Go.Proofs.Ytkfpcgkmemfdaaa
