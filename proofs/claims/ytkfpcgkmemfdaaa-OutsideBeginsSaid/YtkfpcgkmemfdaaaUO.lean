/- U1, U1b, U2, U3, in one text. -/
import Derived.Test.YtkfpcgkmemfdaaaUV
import Derived.Test.YtkfpcgkmemfdaaaZt
import Derived.Test.YtkfpcgkmemfdaaaUS
import Derived.Test.YtkfpcgkmemfdaaaUS
import Derived.Test.YtkfpcgkmemfdaaaUS
import Derived.Test.YtkfpcgkmemfdaaaUV
import Derived.Test.YtkfpcgkmemfdaaaUS
/- The outside: which ones are valid. -/
namespace Go.Proofs.Ytkfpcgkmemfdaaa
open Go Go.RowKit Rdn Rdn.Dp
set_option linter.unusedVariables false
set_option linter.unusedSimpArgs false
def m_ov1 : MC := .seq (.reg [⟨(some 2), none, (.p (.mov (.c (.bool false))))⟩])
 (.seq (.reg [⟨(some 3), none, (.p (.mov (.t 0)))⟩, ⟨(some 4), none, (.p (.len (.t 3)))⟩, ⟨(some 5), none, (.p (.bin 0 .gtr (.t 4) (.c (.int .i64 64))))⟩, ⟨(some 2), none, (.p (.mov (.t 5)))⟩])
 (.ret))
theorem m_ov1_ok : compF Try.prog 57 = some (6, m_ov1, [.mov (.t 2)]) := by kernel_rfl
def m_ov2 : MC := .seq (.reg [⟨(some 1), none, (.m (.box 55 (.t 0)))⟩, ⟨(some 2), none, (.p (.mov (.c (.bool false))))⟩])
 (.seq (.reg [⟨(some 3), none, (.p (.fieldA 2 2 (.t 1)))⟩, ⟨(some 4), none, (.p (.load false 1 (.t 3)))⟩, ⟨(some 5), none, (.call 59 [(.t 4), (.c (.int .i64 16))])⟩, ⟨(some 6), none, (.p (.un .not (.t 5)))⟩, ⟨(some 2), none, (.p (.mov (.t 6)))⟩])
 (.ret))
theorem m_ov2_ok : compF Try.prog 58 = some (7, m_ov2, [.mov (.t 2)]) := by kernel_rfl
def m_ixw : MC := .seq (.reg [⟨(some 4), none, (.p (.mov (.c (.int .i64 0))))⟩])
 (.seq (.seq (.reg [⟨(some 6), none, (.p (.mov (.t 0)))⟩, ⟨(some 7), none, (.p (.len (.t 6)))⟩, ⟨(some 8), none, (.p (.mov (.c (.int .i64 0))))⟩])
 (.block 0 (.loop (.seq (.reg [⟨(some 9), none, (.p (.bin 0 .lss (.t 8) (.t 7)))⟩])
 (.seq (.cond (.t 9) (.skip) (.exit 0))
 (.seq (.block 1 (.seq (.reg [⟨(some 10), none, (.p (.mov (.t 8)))⟩, ⟨(some 5), none, (.p (.mov (.t 10)))⟩])
 (.seq (.reg [⟨(some 11), none, (.p (.mov (.t 1)))⟩, ⟨(some 12), none, (.p (.mov (.t 0)))⟩, ⟨(some 13), none, (.p (.mov (.t 5)))⟩, ⟨(some 14), none, (.p (.idxA 1 (.t 12) (.t 13)))⟩, ⟨(some 15), none, (.p (.load false 1 (.t 14)))⟩, ⟨(some 16), none, (.callv (.t 11) [(.t 15)])⟩])
 (.cond (.t 16) (.seq (.reg [⟨(some 17), none, (.p (.mov (.t 5)))⟩, ⟨(some 4), none, (.p (.mov (.t 17)))⟩])
 (.ret)) (.skip)))))
 (.reg [⟨(some 18), none, (.p (.bin 0 .add (.t 8) (.c (.int .i64 1))))⟩, ⟨(some 8), none, (.p (.mov (.t 18)))⟩])))))))
 (.seq (.reg [⟨(some 4), none, (.p (.mov (.c (.int .i64 (-1)))))⟩])
 (.ret)))
theorem m_ixw_ok : compF Try.prog 93 = some (19, m_ixw, [.mov (.t 4)]) := by kernel_rfl
def m_cow : MC := .seq (.reg [⟨(some 4), none, (.p (.mov (.c (.bool false))))⟩])
 (.seq (.reg [⟨(some 5), none, (.p (.mov (.t 0)))⟩, ⟨(some 6), none, (.p (.mov (.t 1)))⟩, ⟨(some 7), none, (.call 93 [(.t 5), (.t 6)])⟩, ⟨(some 8), none, (.p (.bin 0 .geq (.t 7) (.c (.int .i64 0))))⟩, ⟨(some 4), none, (.p (.mov (.t 8)))⟩])
 (.ret))
theorem m_cow_ok : compF Try.prog 60 = some (9, m_cow, [.mov (.t 4)]) := by kernel_rfl
def m_ixo : MC := .seq (.reg [⟨(some 4), none, (.p (.mov (.c (.int .i64 0))))⟩])
 (.seq (.seq (.reg [⟨(some 6), none, (.p (.mov (.t 0)))⟩, ⟨(some 7), none, (.p (.len (.t 6)))⟩, ⟨(some 8), none, (.p (.mov (.c (.int .i64 0))))⟩])
 (.block 0 (.loop (.seq (.reg [⟨(some 9), none, (.p (.bin 0 .lss (.t 8) (.t 7)))⟩])
 (.seq (.cond (.t 9) (.skip) (.exit 0))
 (.seq (.block 1 (.seq (.reg [⟨(some 10), none, (.p (.mov (.t 8)))⟩, ⟨(some 5), none, (.p (.mov (.t 10)))⟩])
 (.seq (.reg [⟨(some 11), none, (.p (.mov (.t 1)))⟩, ⟨(some 12), none, (.p (.mov (.t 0)))⟩, ⟨(some 13), none, (.p (.mov (.t 5)))⟩, ⟨(some 14), none, (.p (.idxA 3 (.t 12) (.t 13)))⟩, ⟨(some 15), none, (.p (.load true 3 (.t 14)))⟩, ⟨(some 16), none, (.callv (.t 11) [(.t 15)])⟩])
 (.cond (.t 16) (.seq (.reg [⟨(some 17), none, (.p (.mov (.t 5)))⟩, ⟨(some 4), none, (.p (.mov (.t 17)))⟩])
 (.ret)) (.skip)))))
 (.reg [⟨(some 18), none, (.p (.bin 0 .add (.t 8) (.c (.int .i64 1))))⟩, ⟨(some 8), none, (.p (.mov (.t 18)))⟩])))))))
 (.seq (.reg [⟨(some 4), none, (.p (.mov (.c (.int .i64 (-1)))))⟩])
 (.ret)))
theorem m_ixo_ok : compF Try.prog 98 = some (19, m_ixo, [.mov (.t 4)]) := by kernel_rfl
def m_coo : MC := .seq (.reg [⟨(some 4), none, (.p (.mov (.c (.bool false))))⟩])
 (.seq (.reg [⟨(some 5), none, (.p (.mov (.t 0)))⟩, ⟨(some 6), none, (.p (.mov (.t 1)))⟩, ⟨(some 7), none, (.call 98 [(.t 5), (.t 6)])⟩, ⟨(some 8), none, (.p (.bin 0 .geq (.t 7) (.c (.int .i64 0))))⟩, ⟨(some 4), none, (.p (.mov (.t 8)))⟩])
 (.ret))
theorem m_coo_ok : compF Try.prog 63 = some (9, m_coo, [.mov (.t 4)]) := by kernel_rfl
def m_woval : MC := .seq (.reg [⟨(some 1), none, (.m (.box 31 (.t 0)))⟩, ⟨(some 2), none, (.p (.mov (.c (.bool false))))⟩])
 (.seq (.seq (.reg [⟨(some 5), none, (.p (.fieldA 0 0 (.t 1)))⟩, ⟨(some 6), none, (.p (.load false 1 (.t 5)))⟩, ⟨(some 7), none, (.p (.len (.t 6)))⟩, ⟨(some 8), none, (.p (.bin 0 .gtr (.t 7) (.c (.int .i64 64))))⟩, ⟨(some 9), none, (.p (.mov (.t 8)))⟩, ⟨(some 10), (some (9, false)), (.p (.fieldA 1 1 (.t 1)))⟩, ⟨(some 11), (some (9, false)), (.p (.load false 1 (.t 10)))⟩, ⟨(some 12), (some (9, false)), (.p (.len (.t 11)))⟩, ⟨(some 13), (some (9, false)), (.p (.bin 0 .gtr (.t 12) (.c (.int .i64 64))))⟩, ⟨(some 14), none, (.p (.pick (.t 9) (.c (.bool true)) (.t 13)))⟩, ⟨(some 15), none, (.p (.mov (.t 14)))⟩, ⟨(some 16), (some (15, false)), (.p (.fieldA 2 2 (.t 1)))⟩, ⟨(some 17), (some (15, false)), (.p (.load false 1 (.t 16)))⟩, ⟨(some 18), (some (15, false)), (.p (.len (.t 17)))⟩, ⟨(some 19), (some (15, false)), (.p (.bin 0 .gtr (.t 18) (.c (.int .i64 2))))⟩, ⟨(some 20), none, (.p (.pick (.t 15) (.c (.bool true)) (.t 19)))⟩, ⟨(some 21), none, (.p (.mov (.t 20)))⟩, ⟨(some 22), (some (21, false)), (.p (.fieldA 5 4 (.t 1)))⟩, ⟨(some 23), (some (21, false)), (.p (.load false 1 (.t 22)))⟩, ⟨(some 24), (some (21, false)), (.p (.len (.t 23)))⟩, ⟨(some 25), (some (21, false)), (.p (.bin 0 .gtr (.t 24) (.c (.int .i64 200))))⟩, ⟨(some 26), none, (.p (.pick (.t 21) (.c (.bool true)) (.t 25)))⟩])
 (.cond (.t 26) (.seq (.reg [⟨(some 2), none, (.p (.mov (.c (.bool false))))⟩])
 (.ret)) (.skip)))
 (.seq (.reg [⟨(some 3), none, (.p (.mov (.c (.fn 57))))⟩])
 (.seq (.reg [⟨(some 4), none, (.p (.mov (.c (.fn 58))))⟩])
 (.seq (.reg [⟨(some 27), none, (.p (.fieldA 2 2 (.t 1)))⟩, ⟨(some 28), none, (.p (.load false 1 (.t 27)))⟩, ⟨(some 29), none, (.p (.mov (.t 3)))⟩, ⟨(some 30), none, (.call 60 [(.t 28), (.t 29)])⟩, ⟨(some 31), none, (.p (.un .not (.t 30)))⟩, ⟨(some 32), none, (.p (.mov (.t 31)))⟩, ⟨(some 33), (some (32, true)), (.p (.fieldA 3 3 (.t 1)))⟩, ⟨(some 34), (some (32, true)), (.p (.load true 2 (.t 33)))⟩, ⟨(some 35), (some (32, true)), (.call 61 [(.t 34)])⟩, ⟨(some 36), none, (.p (.pick (.t 32) (.t 35) (.c (.bool false))))⟩, ⟨(some 37), none, (.p (.mov (.t 36)))⟩, ⟨(some 38), (some (37, true)), (.p (.fieldA 5 4 (.t 1)))⟩, ⟨(some 39), (some (37, true)), (.p (.load false 1 (.t 38)))⟩, ⟨(some 40), (some (37, true)), (.call 62 [(.t 39)])⟩, ⟨(some 41), none, (.p (.pick (.t 37) (.t 40) (.c (.bool false))))⟩, ⟨(some 42), none, (.p (.mov (.t 41)))⟩, ⟨(some 43), (some (42, true)), (.p (.fieldA 5 4 (.t 1)))⟩, ⟨(some 44), (some (42, true)), (.p (.load false 1 (.t 43)))⟩, ⟨(some 45), (some (42, true)), (.p (.mov (.t 4)))⟩, ⟨(some 46), (some (42, true)), (.call 63 [(.t 44), (.t 45)])⟩, ⟨(some 47), (some (42, true)), (.p (.un .not (.t 46)))⟩, ⟨(some 48), none, (.p (.pick (.t 42) (.t 47) (.c (.bool false))))⟩, ⟨(some 2), none, (.p (.mov (.t 48)))⟩])
 (.ret)))))
theorem m_woval_ok : compF Try.prog 24 = some (49, m_woval, [.mov (.t 2)]) := by kernel_rfl
def m_roval : MC := .seq (.reg [⟨(some 1), none, (.m (.box 31 (.t 0)))⟩, ⟨(some 2), none, (.p (.mov (.c (.bool false))))⟩])
 (.seq (.seq (.reg [⟨(some 7), none, (.p (.fieldA 2 2 (.t 1)))⟩, ⟨(some 8), none, (.p (.load false 1 (.t 7)))⟩, ⟨(some 9), none, (.p (.len (.t 8)))⟩, ⟨(some 10), none, (.p (.mov (.c (.int .i64 0))))⟩])
 (.block 0 (.loop (.seq (.reg [⟨(some 11), none, (.p (.bin 0 .lss (.t 10) (.t 9)))⟩])
 (.seq (.cond (.t 11) (.skip) (.exit 0))
 (.seq (.block 1 (.seq (.reg [⟨(some 12), none, (.p (.idxA 1 (.t 8) (.t 10)))⟩, ⟨(some 13), none, (.p (.load false 1 (.t 12)))⟩, ⟨(some 4), none, (.p (.mov (.t 13)))⟩])
 (.seq (.reg [⟨(some 14), none, (.p (.mov (.t 4)))⟩, ⟨(some 15), none, (.p (.len (.t 14)))⟩, ⟨(some 16), none, (.p (.bin 0 .gtr (.t 15) (.c (.int .i64 64))))⟩])
 (.cond (.t 16) (.seq (.reg [⟨(some 2), none, (.p (.mov (.c (.bool false))))⟩])
 (.ret)) (.skip)))))
 (.reg [⟨(some 17), none, (.p (.bin 0 .add (.t 10) (.c (.int .i64 1))))⟩, ⟨(some 10), none, (.p (.mov (.t 17)))⟩])))))))
 (.seq (.seq (.reg [⟨(some 18), none, (.p (.fieldA 5 4 (.t 1)))⟩, ⟨(some 19), none, (.p (.load false 1 (.t 18)))⟩, ⟨(some 20), none, (.p (.len (.t 19)))⟩, ⟨(some 21), none, (.p (.mov (.c (.int .i64 0))))⟩])
 (.block 2 (.loop (.seq (.reg [⟨(some 22), none, (.p (.bin 0 .lss (.t 21) (.t 20)))⟩])
 (.seq (.cond (.t 22) (.skip) (.exit 2))
 (.seq (.block 3 (.seq (.reg [⟨(some 23), none, (.p (.idxA 3 (.t 19) (.t 21)))⟩, ⟨(some 24), none, (.p (.load true 3 (.t 23)))⟩, ⟨(some 6), none, (.m (.alloc 55 (.agg [.int .i64 0, .int .i64 0, .nilS])))⟩, ⟨none, none, (.m (.store 3 (.t 6) (.t 24)))⟩])
 (.seq (.reg [⟨(some 25), none, (.p (.fieldA 2 2 (.t 6)))⟩, ⟨(some 26), none, (.p (.load false 1 (.t 25)))⟩, ⟨(some 27), none, (.call 48 [(.t 26), (.c (.int .i64 16))])⟩, ⟨(some 28), none, (.p (.un .not (.t 27)))⟩])
 (.cond (.t 28) (.seq (.reg [⟨(some 2), none, (.p (.mov (.c (.bool false))))⟩])
 (.ret)) (.skip)))))
 (.reg [⟨(some 29), none, (.p (.bin 0 .add (.t 21) (.c (.int .i64 1))))⟩, ⟨(some 21), none, (.p (.mov (.t 29)))⟩])))))))
 (.seq (.reg [⟨(some 30), none, (.p (.fieldA 0 0 (.t 1)))⟩, ⟨(some 31), none, (.p (.load false 1 (.t 30)))⟩, ⟨(some 32), none, (.p (.len (.t 31)))⟩, ⟨(some 33), none, (.p (.bin 0 .leq (.t 32) (.c (.int .i64 64))))⟩, ⟨(some 34), none, (.p (.mov (.t 33)))⟩, ⟨(some 35), (some (34, true)), (.p (.fieldA 1 1 (.t 1)))⟩, ⟨(some 36), (some (34, true)), (.p (.load false 1 (.t 35)))⟩, ⟨(some 37), (some (34, true)), (.p (.len (.t 36)))⟩, ⟨(some 38), (some (34, true)), (.p (.bin 0 .leq (.t 37) (.c (.int .i64 64))))⟩, ⟨(some 39), none, (.p (.pick (.t 34) (.t 38) (.c (.bool false))))⟩, ⟨(some 40), none, (.p (.mov (.t 39)))⟩, ⟨(some 41), (some (40, true)), (.p (.fieldA 2 2 (.t 1)))⟩, ⟨(some 42), (some (40, true)), (.p (.load false 1 (.t 41)))⟩, ⟨(some 43), (some (40, true)), (.p (.len (.t 42)))⟩, ⟨(some 44), (some (40, true)), (.p (.bin 0 .leq (.t 43) (.c (.int .i64 2))))⟩, ⟨(some 45), none, (.p (.pick (.t 40) (.t 44) (.c (.bool false))))⟩, ⟨(some 46), none, (.p (.mov (.t 45)))⟩, ⟨(some 47), (some (46, true)), (.p (.fieldA 3 3 (.t 1)))⟩, ⟨(some 48), (some (46, true)), (.p (.load true 2 (.t 47)))⟩, ⟨(some 49), (some (46, true)), (.call 49 [(.t 48)])⟩, ⟨(some 50), none, (.p (.pick (.t 46) (.t 49) (.c (.bool false))))⟩, ⟨(some 51), none, (.p (.mov (.t 50)))⟩, ⟨(some 52), (some (51, true)), (.p (.fieldA 5 4 (.t 1)))⟩, ⟨(some 53), (some (51, true)), (.p (.load false 1 (.t 52)))⟩, ⟨(some 54), (some (51, true)), (.p (.len (.t 53)))⟩, ⟨(some 55), (some (51, true)), (.p (.bin 0 .leq (.t 54) (.c (.int .i64 200))))⟩, ⟨(some 56), none, (.p (.pick (.t 51) (.t 55) (.c (.bool false))))⟩, ⟨(some 57), none, (.p (.mov (.t 56)))⟩, ⟨(some 58), (some (57, true)), (.p (.fieldA 5 4 (.t 1)))⟩, ⟨(some 59), (some (57, true)), (.p (.load false 1 (.t 58)))⟩, ⟨(some 60), (some (57, true)), (.call 50 [(.t 59)])⟩, ⟨(some 61), none, (.p (.pick (.t 57) (.t 60) (.c (.bool false))))⟩, ⟨(some 2), none, (.p (.mov (.t 61)))⟩])
 (.ret))))
theorem m_roval_ok : compF Try.prog 15 = some (62, m_roval, [.mov (.t 2)]) := by kernel_rfl
abbrev owV (w : List Int) : V := .sl false 1 (u16s w)
abbrev outsV (o : Rdn.Outside) : V := .agg [owV o.clock, owV o.random, .sl false 1 (o.inputs.map (slV' false 1 (V.int .u16))), filV o.files, .sl false 3 (o.outputs.map (outputV false))]
def longW (w : List Int) : Bool := decide (64 < w.length)
def oddO (x : Output) : Bool := !cellsB x.data 16
/-- Whether an outside is valid. -/
structure FitO (o : Rdn.Outside) : Prop where
  c : o.clock.length ≤ 64
  r : o.random.length ≤ 64
  i : o.inputs.length ≤ 2
  w : ∀ x ∈ o.inputs, x.length ≤ 64
  f : FitF o.files
  n : o.outputs.length ≤ 200
  od : ordered o.outputs
  d : ∀ x ∈ o.outputs, cellsB x.data 16 = true
noncomputable def valO (o : Rdn.Outside) : Bool := @decide (FitO o) (Classical.propDecidable _)
theorem valO_T {o : Rdn.Outside} (h : FitO o) : valO o = true := by unfold valO; exact @decide_eq_true _ (Classical.propDecidable _) h
theorem valO_F {o : Rdn.Outside} (h : ¬ FitO o) : valO o = false := by unfold valO; exact @decide_eq_false _ (Classical.propDecidable _) h
theorem valO_to {o : Rdn.Outside} (h : valO o = true) : FitO o := by
  unfold valO at h
  exact @of_decide_eq_true _ (Classical.propDecidable _) h
set_option maxHeartbeats 4000000 in
theorem ov1_fn (w : List Int) : Fnc Try.prog 57 [.sl false 1 (u16s w)] (fun x obs => x = .bool (longW w) ∧ obs = []) := by
  refine Fnc.wf fun hw => ?_
  simp only [V.wfs, V.wf, wfs_map, List.length_map] at hw
  have hm := hw.1.2
  clear hw
  by_cases c : 64 < w.length
  · rw [show longW w = true from decT c]
    refine Fnc.intro m_ov1_ok (by simp) fun W S => ?_
    unfold m_ov1
    simp only [ents, Nat.zero_add, Nat.reduceAdd]
    refine zst ?_
    refine ret m_ov1_ok [] ?_; exact zfn
  · rw [show longW w = false from decF c]
    refine Fnc.intro m_ov1_ok (by simp) fun W S => ?_
    unfold m_ov1
    simp only [ents, Nat.zero_add, Nat.reduceAdd]
    refine zst ?_
    refine ret m_ov1_ok [] ?_; exact zfn
set_option maxHeartbeats 4000000 in
theorem ixw_fn (l : List (List Int)) : Fnc Try.prog 93 [.sl false 1 (l.map (slV' false 1 (V.int .u16))), .fn 57] (fun x obs => x = .int .i64 (fnd longW l) ∧ obs = []) := by
  refine Fnc.wf fun hw => ?_
  have hm : l.length ≤ 140737488355328 := by
    have := hw.1
    simp only [V.wf, List.length_map] at this
    exact this.2
  clear hw
  refine Fnc.intro m_ixw_ok (by simp) fun W S => ?_
  unfold m_ixw
  simp only [ents, Nat.zero_add, Nat.reduceAdd]
  refine zst ?_
  refine ev_loopK [0, 1, 7] (fun p : {p : Nat // p ≤ l.length ∧ ∀ j, j < p → longW l[j]! = false} => [(8, .int .i64 p.1)]) (fun _ => []) (fun p => l.length - p.1) (⟨0, by simp⟩) 0 (by simp only [go_sem]; rfl) ?_ (by first | rfl | (simp only [go_sem]; done)) (by simp) (by first | rfl | (simp only [go_sem]; done)) (by first | rfl | (simp only [go_sem]; done)) (by first | rfl | (simp only [go_sem]; done)) ?_
  · (simp only [go_sem]; (try simp []); done)
  intro J hJ
  rintro ⟨k, hk0, hk1⟩
  by_cases hlt : k < l.length
  · have hc := ov1_fn l[k]!
    cases hb : longW l[k]! with
    | true =>
      rw [hb] at hc
      have hr := fnd_at (p := longW) hlt hk1 hb
      refine zst ?_
      refine callDv (hc) (by kernel_rfl) rfl ?_; simp only [go_sem]
      refine zst ?_
      refine ret m_ixw_ok [] ?_; exact zfh hr
    | false =>
      rw [hb] at hc
      have hS : ∀ j, j < k + 1 → longW l[j]! = false := fun j hj => by
        by_cases e : j = k
        · subst e; exact hb
        · exact hk1 j (by omega)
      refine zst ?_
      refine callDv (hc) (by kernel_rfl) rfl ?_; simp only [go_sem]
      refine zst ?_
      refine ev_next 0 (hJ _ (⟨k + 1, hlt, hS⟩) (by first | omega | (dsimp only; omega) | (simp; omega))) rfl (by simp) ?_ (by first | rfl | (simp only [go_sem]; done)) (by first | rfl | (simp only [go_sem]; done) | (simp only [hlt]; (try simp only [go_sem]); first | done | rfl)) ?_
      · exact zna hlt
      · exact znb hlt
  · obtain rfl : k = l.length := by omega
    have hr := fnd_no (p := longW) hk1
    refine zst ?_
    refine ret m_ixw_ok [] ?_; exact zfh hr
set_option maxHeartbeats 4000000 in
theorem cow_fn (l : List (List Int)) : Fnc Try.prog 60 [.sl false 1 (l.map (slV' false 1 (V.int .u16))), .fn 57] (fun x obs => x = .bool (l.any longW) ∧ obs = []) := by
  have hr := fnd_ge longW l
  refine Fnc.intro m_cow_ok (by simp) fun W S => ?_
  unfold m_cow
  simp only [ents, Nat.zero_add, Nat.reduceAdd]
  refine zst ?_
  (first | refine callD (ixw_fn l) ?_ | refine callDw (ixw_fn l) ?_); simp only [go_sem]
  refine zst ?_
  refine ret m_cow_ok [] ?_; exact zfh hr
set_option maxHeartbeats 4000000 in
theorem ov2_fn (x : Output) : Fnc Try.prog 58 [outputV false x] (fun y obs => y = .bool (oddO x) ∧ obs = []) := by
  have hr : oddO x = !cellsB x.data 16 := rfl
  refine Fnc.intro m_ov2_ok (by simp) fun W S => ?_
  unfold m_ov2
  simp only [ents, Nat.zero_add, Nat.reduceAdd]
  refine zst ?_
  (first | refine callD (wcels_fn x.data 16) ?_ | refine callDw (wcels_fn x.data 16) ?_); simp only [go_sem]
  refine zst ?_
  refine ret m_ov2_ok [] ?_; exact zfh hr
set_option maxHeartbeats 4000000 in
theorem ixo_fn (l : List Output) : Fnc Try.prog 98 [.sl false 3 (l.map (outputV false)), .fn 58] (fun x obs => x = .int .i64 (fnd oddO l) ∧ obs = []) := by
  refine Fnc.wf fun hw => ?_
  have hm : l.length ≤ 140737488355328 := by
    have := hw.1
    simp only [V.wf, List.length_map] at this
    exact this.2
  clear hw
  refine Fnc.intro m_ixo_ok (by simp) fun W S => ?_
  unfold m_ixo
  simp only [ents, Nat.zero_add, Nat.reduceAdd]
  refine zst ?_
  refine ev_loopK [0, 1, 7] (fun p : {p : Nat // p ≤ l.length ∧ ∀ j, j < p → oddO l[j]! = false} => [(8, .int .i64 p.1)]) (fun _ => []) (fun p => l.length - p.1) (⟨0, by simp⟩) 0 (by simp only [go_sem]; rfl) ?_ (by first | rfl | (simp only [go_sem]; done)) (by simp) (by first | rfl | (simp only [go_sem]; done)) (by first | rfl | (simp only [go_sem]; done)) (by first | rfl | (simp only [go_sem]; done)) ?_
  · (simp only [go_sem]; (try simp []); done)
  intro J hJ
  rintro ⟨k, hk0, hk1⟩
  by_cases hlt : k < l.length
  · have hc := ov2_fn l[k]!
    cases hb : oddO l[k]! with
    | true =>
      rw [hb] at hc
      have hr := fnd_at (p := oddO) hlt hk1 hb
      refine zst ?_
      refine callDv (hc) (by kernel_rfl) rfl ?_; simp only [go_sem]
      refine zst ?_
      refine ret m_ixo_ok [] ?_; exact zfh hr
    | false =>
      rw [hb] at hc
      have hS : ∀ j, j < k + 1 → oddO l[j]! = false := fun j hj => by
        by_cases e : j = k
        · subst e; exact hb
        · exact hk1 j (by omega)
      refine zst ?_
      refine callDv (hc) (by kernel_rfl) rfl ?_; simp only [go_sem]
      refine zst ?_
      refine ev_next 0 (hJ _ (⟨k + 1, hlt, hS⟩) (by first | omega | (dsimp only; omega) | (simp; omega))) rfl (by simp) ?_ (by first | rfl | (simp only [go_sem]; done)) (by first | rfl | (simp only [go_sem]; done) | (simp only [hlt]; (try simp only [go_sem]); first | done | rfl)) ?_
      · exact zna hlt
      · exact znb hlt
  · obtain rfl : k = l.length := by omega
    have hr := fnd_no (p := oddO) hk1
    refine zst ?_
    refine ret m_ixo_ok [] ?_; exact zfh hr
set_option maxHeartbeats 4000000 in
theorem coo_fn (l : List Output) : Fnc Try.prog 63 [.sl false 3 (l.map (outputV false)), .fn 58] (fun x obs => x = .bool (l.any oddO) ∧ obs = []) := by
  have hr := fnd_ge oddO l
  refine Fnc.intro m_coo_ok (by simp) fun W S => ?_
  unfold m_coo
  simp only [ents, Nat.zero_add, Nat.reduceAdd]
  refine zst ?_
  (first | refine callD (ixo_fn l) ?_ | refine callDw (ixo_fn l) ?_); simp only [go_sem]
  refine zst ?_
  refine ret m_coo_ok [] ?_; exact zfh hr
theorem any_no {α : Type} [Inhabited α] {p : α → Bool} {l : List α} (h : l.any p = false) : ∀ x ∈ l, p x = false := fun x hx => by
  cases hp : p x with
  | false => rfl
  | true => rw [List.any_eq_true.2 ⟨x, hx, hp⟩] at h; cases h
theorem any_yes {α : Type} {p : α → Bool} {l : List α} (h : l.any p = true) : ∃ x ∈ l, p x = true := by simpa using List.any_eq_true.1 h
theorem longW_no {w : List Int} (h : longW w = false) : w.length ≤ 64 := by have := of_decide_eq_false h; omega
theorem longW_yes {w : List Int} (h : longW w = true) : ¬ w.length ≤ 64 := by have := of_decide_eq_true h; omega
theorem oddO_no {x : Output} (h : oddO x = false) : cellsB x.data 16 = true := by unfold oddO at h; simpa using h
theorem oddO_yes {x : Output} (h : oddO x = true) : cellsB x.data 16 = false := by unfold oddO at h; simpa using h
set_option maxHeartbeats 16000000 in
theorem woval_fn (o : Rdn.Outside) : Fnc Try.prog 24 [outsV o] (fun x obs => x = .bool (valO o) ∧ obs = []) := by
  refine Fnc.wf fun hw => ?_
  simp only [V.wfs, V.wf, wfs_map, List.length_map] at hw
  have m1 := hw.1.1.2
  have m2 := hw.1.2.1.2
  have m3 := hw.1.2.2.1.2
  have m4 := hw.1.2.2.2.2.1.2
  clear hw
  have f1 := cow_fn o.inputs
  have f2 := wvalf_fn o.files
  have f3 := wordered_fn o.outputs
  have f4 := coo_fn o.outputs
  by_cases c1 : o.clock.length ≤ 64
  rotate_left
  · rw [valO_F (fun F => c1 F.c)]
    refine Fnc.intro m_woval_ok (by simp) fun W S => ?_
    unfold m_woval
    simp only [ents, Nat.zero_add, Nat.reduceAdd]
    refine zst ?_
    refine ret m_woval_ok [] ?_; exact zfn
  by_cases c2 : o.random.length ≤ 64
  rotate_left
  · rw [valO_F (fun F => c2 F.r)]
    refine Fnc.intro m_woval_ok (by simp) fun W S => ?_
    unfold m_woval
    simp only [ents, Nat.zero_add, Nat.reduceAdd]
    refine zst ?_
    refine ret m_woval_ok [] ?_; exact zfn
  by_cases c3 : o.inputs.length ≤ 2
  rotate_left
  · rw [valO_F (fun F => c3 F.i)]
    refine Fnc.intro m_woval_ok (by simp) fun W S => ?_
    unfold m_woval
    simp only [ents, Nat.zero_add, Nat.reduceAdd]
    refine zst ?_
    refine ret m_woval_ok [] ?_; exact zfn
  by_cases c4 : o.outputs.length ≤ 200
  rotate_left
  · rw [valO_F (fun F => c4 F.n)]
    refine Fnc.intro m_woval_ok (by simp) fun W S => ?_
    unfold m_woval
    simp only [ents, Nat.zero_add, Nat.reduceAdd]
    refine zst ?_
    refine ret m_woval_ok [] ?_; exact zfn
  cases c5 : o.inputs.any longW with
  | true =>
    rw [c5] at f1
    obtain ⟨x, hx, hy⟩ := any_yes c5
    rw [valO_F (fun F => longW_yes hy (F.w x hx))]
    refine Fnc.intro m_woval_ok (by simp) fun W S => ?_
    unfold m_woval
    simp only [ents, Nat.zero_add, Nat.reduceAdd]
    refine zst ?_
    (first | refine callD (f1) ?_ | refine callDw (f1) ?_); simp only [go_sem]
    refine zst ?_
    refine ret m_woval_ok [] ?_; exact zfn
  | false =>
    rw [c5] at f1
    cases c6 : valF o.files with
    | false =>
      rw [c6] at f2
      rw [valO_F (fun F => by rw [valF_T F.f] at c6; cases c6)]
      refine Fnc.intro m_woval_ok (by simp) fun W S => ?_
      unfold m_woval
      simp only [ents, Nat.zero_add, Nat.reduceAdd]
      refine zst ?_
      (first | refine callD (f1) ?_ | refine callDw (f1) ?_); simp only [go_sem]
      refine zst ?_
      (first | refine callD (f2) ?_ | refine callDw (f2) ?_); simp only [go_sem]
      refine zst ?_
      refine ret m_woval_ok [] ?_; exact zfn
    | true =>
      rw [c6] at f2
      cases c7 : ordB o.outputs with
      | false =>
        rw [c7] at f3
        rw [valO_F (fun F => by rw [ordB_T F.od] at c7; cases c7)]
        refine Fnc.intro m_woval_ok (by simp) fun W S => ?_
        unfold m_woval
        simp only [ents, Nat.zero_add, Nat.reduceAdd]
        refine zst ?_
        (first | refine callD (f1) ?_ | refine callDw (f1) ?_); simp only [go_sem]
        refine zst ?_
        (first | refine callD (f2) ?_ | refine callDw (f2) ?_); simp only [go_sem]
        refine zst ?_
        (first | refine callD (f3) ?_ | refine callDw (f3) ?_); simp only [go_sem]
        refine zst ?_
        refine ret m_woval_ok [] ?_; exact zfn
      | true =>
        rw [c7] at f3
        cases c8 : o.outputs.any oddO with
        | true =>
          rw [c8] at f4
          obtain ⟨x, hx, hy⟩ := any_yes c8
          rw [valO_F (fun F => by have := F.d x hx; rw [oddO_yes hy] at this; cases this)]
          refine Fnc.intro m_woval_ok (by simp) fun W S => ?_
          unfold m_woval
          simp only [ents, Nat.zero_add, Nat.reduceAdd]
          refine zst ?_
          (first | refine callD (f1) ?_ | refine callDw (f1) ?_); simp only [go_sem]
          refine zst ?_
          (first | refine callD (f2) ?_ | refine callDw (f2) ?_); simp only [go_sem]
          refine zst ?_
          (first | refine callD (f3) ?_ | refine callDw (f3) ?_); simp only [go_sem]
          refine zst ?_
          (first | refine callD (f4) ?_ | refine callDw (f4) ?_); simp only [go_sem]
          refine zst ?_
          refine ret m_woval_ok [] ?_; exact zfn
        | false =>
          rw [c8] at f4
          have hF : FitF o.files := by
            unfold valF at c6
            exact @of_decide_eq_true _ (Classical.propDecidable _) c6
          have hO : ordered o.outputs := by
            unfold ordB at c7
            exact @of_decide_eq_true _ (Classical.propDecidable _) c7
          rw [valO_T ⟨c1, c2, c3, fun x hx => longW_no (any_no c5 x hx), hF, c4, hO, fun x hx => oddO_no (any_no c8 x hx)⟩]
          refine Fnc.intro m_woval_ok (by simp) fun W S => ?_
          unfold m_woval
          simp only [ents, Nat.zero_add, Nat.reduceAdd]
          refine zst ?_
          (first | refine callD (f1) ?_ | refine callDw (f1) ?_); simp only [go_sem]
          refine zst ?_
          (first | refine callD (f2) ?_ | refine callDw (f2) ?_); simp only [go_sem]
          refine zst ?_
          (first | refine callD (f3) ?_ | refine callDw (f3) ?_); simp only [go_sem]
          refine zst ?_
          (first | refine callD (f4) ?_ | refine callDw (f4) ?_); simp only [go_sem]
          refine zst ?_
          refine ret m_woval_ok [] ?_; exact zfn
end Go.Proofs.Ytkfpcgkmemfdaaa
/- The outside: which ones are valid, by the reference. -/
namespace Go.Proofs.Ytkfpcgkmemfdaaa
open Go Go.RowKit Rdn Rdn.Dp
set_option linter.unusedVariables false
set_option linter.unusedSimpArgs false
set_option maxHeartbeats 16000000 in
theorem roval_fn (o : Rdn.Outside) : Fnc Try.prog 15 [outsV o] (fun x obs => x = .bool (valO o) ∧ obs = []) := by
  refine Fnc.wf fun hw => ?_
  have hm : ∀ k, k < o.inputs.length → o.inputs[k]!.length ≤ 140737488355328 := fun k hk => by
    have := hw.1
    simp only [V.wf, V.wfs, wfs_map] at this
    have := this.2.2.1.1 _ (mem_at hk)
    simp only [slV', V.wf, List.length_map] at this
    exact this.2
  simp only [V.wfs, V.wf, wfs_map, List.length_map] at hw
  have m1 := hw.1.1.2
  have m2 := hw.1.2.1.2
  have m3 := hw.1.2.2.1.2
  have m4 := hw.1.2.2.2.2.1.2
  clear hw
  refine Fnc.intro m_roval_ok (by simp) fun W S => ?_
  unfold m_roval
  simp only [ents, Nat.zero_add, Nat.reduceAdd]
  refine zst ?_
  refine ev_loopK [1, 8, 9] (fun p : {p : Nat // p ≤ o.inputs.length ∧ ∀ j, j < p → o.inputs[j]!.length ≤ 64} => [(10, .int .i64 p.1)]) (fun _ => [⟨.box false 31, true, 0, outsV o⟩]) (fun p => o.inputs.length - p.1) (⟨0, by simp⟩) 1 (by simp only [go_sem]; rfl) ?_ (by first | rfl | (simp only [go_sem]; done)) (by simp) (by first | rfl | (simp only [go_sem]; done)) (by first | rfl | (simp only [go_sem]; done)) (by first | rfl | (simp only [go_sem]; done)) ?_
  · (simp only [go_sem]; (try simp []); done)
  intro J hJ
  rintro ⟨k, hk0, hk1⟩
  by_cases hlt : k < o.inputs.length
  · have h3 := hm k hlt
    by_cases c : o.inputs[k]!.length ≤ 64
    · have hS : ∀ j, j < k + 1 → o.inputs[j]!.length ≤ 64 := fun j hj => by
        by_cases e' : j = k
        · subst e'; exact c
        · exact hk1 j (by omega)
      refine zst ?_
      refine ev_next 1 (hJ _ (⟨k + 1, hlt, hS⟩) (by first | omega | (dsimp only; omega) | (simp; omega))) rfl (by simp) ?_ (by first | rfl | (simp only [go_sem]; done)) (by first | rfl | (simp only [go_sem]; done) | (simp only [hlt]; (try simp only [go_sem]); first | done | rfl)) ?_
      · exact zna hlt
      · exact znb hlt
    · rw [valO_F (fun F => c (F.w _ (mem_at hlt)))]
      refine zst ?_
      refine ret m_roval_ok [] ?_; exact zfn
  obtain rfl : k = o.inputs.length := by omega
  refine zst ?_
  refine ev_loopK [1, 19, 20] (fun p : {p : Nat // p ≤ o.outputs.length ∧ ∀ j, j < p → cellsB o.outputs[j]!.data 16 = true} => [(21, .int .i64 p.1)]) (fun _ => [⟨.box false 31, true, 0, outsV o⟩]) (fun p => o.outputs.length - p.1) (⟨0, by simp⟩) 1 (by simp only [go_sem]; rfl) ?_ (by first | rfl | (simp only [go_sem]; done)) (by simp) (by first | rfl | (simp only [go_sem]; done)) (by first | rfl | (simp only [go_sem]; done)) (by first | rfl | (simp only [go_sem]; done)) ?_
  · (simp only [go_sem]; (try simp []); done)
  intro J hJ
  rintro ⟨i, hi0, hi1⟩
  by_cases hl2 : i < o.outputs.length
  · have fc := rcels_fn o.outputs[i]!.data 16
    by_cases e : cellsB o.outputs[i]!.data 16 = true
    · rw [e] at fc
      have hS : ∀ j, j < i + 1 → cellsB o.outputs[j]!.data 16 = true := fun j hj => by
        by_cases e' : j = i
        · subst e'; exact e
        · exact hi1 j (by omega)
      refine zst ?_
      (first | refine callD (fc) ?_ | refine callDw (fc) ?_); simp only [go_sem]
      refine zst ?_
      refine ev_next 1 (hJ _ (⟨i + 1, hl2, hS⟩) (by first | omega | (dsimp only; omega) | (simp; omega))) rfl (by simp) ?_ (by first | rfl | (simp only [go_sem]; done)) (by first | rfl | (simp only [go_sem]; done) | (simp only [hl2]; (try simp only [go_sem]); first | done | rfl)) ?_
      · exact zna hl2
      · exact znb hl2
    · rw [Bool.not_eq_true] at e
      rw [e] at fc
      rw [valO_F (fun F => by rw [F.d _ (mem_at hl2)] at e; cases e)]
      refine zst ?_
      (first | refine callD (fc) ?_ | refine callDw (fc) ?_); simp only [go_sem]
      refine zst ?_
      refine ret m_roval_ok [] ?_; exact zfn
  obtain rfl : i = o.outputs.length := by omega
  have f2 := rvalf_fn o.files
  have f3 := rordered_fn o.outputs
  by_cases c1 : o.clock.length ≤ 64
  rotate_left
  · rw [valO_F (fun F => c1 F.c)]
    refine zst ?_
    refine ret m_roval_ok [] ?_; exact zfn
  by_cases c2 : o.random.length ≤ 64
  rotate_left
  · rw [valO_F (fun F => c2 F.r)]
    refine zst ?_
    refine ret m_roval_ok [] ?_; exact zfn
  by_cases c3 : o.inputs.length ≤ 2
  rotate_left
  · rw [valO_F (fun F => c3 F.i)]
    refine zst ?_
    refine ret m_roval_ok [] ?_; exact zfn
  cases c6 : valF o.files with
  | false =>
    rw [c6] at f2
    rw [valO_F (fun F => by rw [valF_T F.f] at c6; cases c6)]
    refine zst ?_
    (first | refine callD (f2) ?_ | refine callDw (f2) ?_); simp only [go_sem]
    refine zst ?_
    refine ret m_roval_ok [] ?_; exact zfn
  | true =>
    rw [c6] at f2
    by_cases c4 : o.outputs.length ≤ 200
    rotate_left
    · rw [valO_F (fun F => c4 F.n)]
      refine zst ?_
      (first | refine callD (f2) ?_ | refine callDw (f2) ?_); simp only [go_sem]
      refine zst ?_
      refine ret m_roval_ok [] ?_; exact zfn
    cases c7 : ordB o.outputs with
    | false =>
      rw [c7] at f3
      rw [valO_F (fun F => by rw [ordB_T F.od] at c7; cases c7)]
      refine zst ?_
      (first | refine callD (f2) ?_ | refine callDw (f2) ?_); simp only [go_sem]
      refine zst ?_
      (first | refine callD (f3) ?_ | refine callDw (f3) ?_); simp only [go_sem]
      refine zst ?_
      refine ret m_roval_ok [] ?_; exact zfn
    | true =>
      rw [c7] at f3
      have hF : FitF o.files := by
        unfold valF at c6
        exact @of_decide_eq_true _ (Classical.propDecidable _) c6
      have hO : ordered o.outputs := by
        unfold ordB at c7
        exact @of_decide_eq_true _ (Classical.propDecidable _) c7
      rw [valO_T ⟨c1, c2, c3, fun x hx => by
        obtain ⟨j, hj, rfl⟩ := at_mem hx
        exact hk1 j hj, hF, c4, hO, fun x hx => by
        obtain ⟨j, hj, rfl⟩ := at_mem hx
        exact hi1 j hj⟩]
      refine zst ?_
      (first | refine callD (f2) ?_ | refine callDw (f2) ?_); simp only [go_sem]
      refine zst ?_
      (first | refine callD (f3) ?_ | refine callDw (f3) ?_); simp only [go_sem]
      refine zst ?_
      refine ret m_roval_ok [] ?_; exact zfn
end Go.Proofs.Ytkfpcgkmemfdaaa
/- The outside: copies. -/
namespace Go.Proofs.Ytkfpcgkmemfdaaa
open Go Go.RowKit Rdn Rdn.Dp
set_option linter.unusedVariables false
set_option linter.unusedSimpArgs false
def m_wocpy : MC := .seq (.reg [⟨(some 1), none, (.m (.box 31 (.t 0)))⟩, ⟨(some 2), none, (.m (.alloc 31 (.agg [.nilS, .nilS, .nilS, .agg [.nilS, .nilS], .nilS])))⟩])
 (.seq (.dreg [⟨(some 6), none, (.p (.fieldA 0 0 (.t 1)))⟩, ⟨(some 7), none, (.p (.load false 1 (.t 6)))⟩, ⟨(some 8), none, (.call 64 [(.t 7)])⟩, ⟨(some 9), none, (.p (.fieldA 1 1 (.t 1)))⟩, ⟨(some 10), none, (.p (.load false 1 (.t 9)))⟩, ⟨(some 11), none, (.call 64 [(.t 10)])⟩, ⟨(some 12), none, (.p (.fieldA 3 3 (.t 1)))⟩, ⟨(some 13), none, (.p (.load true 2 (.t 12)))⟩, ⟨(some 14), none, (.call 65 [(.t 13)])⟩, ⟨(some 15), none, (.p (.fieldA 5 4 (.t 1)))⟩, ⟨(some 16), none, (.p (.load false 1 (.t 15)))⟩, ⟨(some 17), none, (.call 66 [(.t 16)])⟩, ⟨(some 18), none, (.m (.build none [.nilS, .nilS, .nilS, .agg [.nilS, .nilS], .nilS] [(0, (.t 8)), (1, (.t 11)), (3, (.t 14)), (4, (.t 17))]))⟩, ⟨(some 3), none, (.m (.alloc 31 (.agg [.nilS, .nilS, .nilS, .agg [.nilS, .nilS], .nilS])))⟩, ⟨none, none, (.m (.store 6 (.t 3) (.t 18)))⟩] [[], [0], [0, 1], [], [3], [0, 1, 2, 3, 4], [], [6], [0, 1, 2, 3, 4, 5, 6, 7], [], [9], [0, 1, 2, 3, 4, 5, 6, 7, 8, 9, 10], [0, 1, 2, 3, 4, 5, 6, 7, 8, 9, 10, 11], [], [0, 1, 2, 3, 4, 5, 6, 7, 8, 9, 10, 11, 12, 13]])
 (.seq (.seq (.reg [⟨(some 19), none, (.p (.fieldA 2 2 (.t 1)))⟩, ⟨(some 20), none, (.p (.load false 1 (.t 19)))⟩, ⟨(some 21), none, (.p (.len (.t 20)))⟩, ⟨(some 22), none, (.p (.mov (.c (.int .i64 0))))⟩])
 (.block 0 (.loop (.seq (.reg [⟨(some 23), none, (.p (.bin 0 .lss (.t 22) (.t 21)))⟩])
 (.seq (.cond (.t 23) (.skip) (.exit 0))
 (.seq (.block 1 (.seq (.reg [⟨(some 24), none, (.p (.idxA 1 (.t 20) (.t 22)))⟩, ⟨(some 25), none, (.p (.load false 1 (.t 24)))⟩, ⟨(some 5), none, (.p (.mov (.t 25)))⟩])
 (.dreg [⟨(some 26), none, (.p (.fieldA 2 2 (.t 3)))⟩, ⟨(some 27), none, (.p (.load false 1 (.t 26)))⟩, ⟨(some 28), none, (.p (.mov (.t 5)))⟩, ⟨(some 29), none, (.call 64 [(.t 28)])⟩, ⟨(some 30), none, (.m (.buildS 23 1 (.nilS) 1 [(0, (.t 29))]))⟩, ⟨(some 31), none, (.m (.app 23 1 24 (.t 27) (.t 30)))⟩, ⟨(some 32), none, (.p (.fieldA 2 2 (.t 3)))⟩, ⟨none, none, (.m (.store 1 (.t 32) (.t 31)))⟩] [[], [0], [], [2], [2, 3], [0, 1, 2, 3, 4], [0, 1, 2, 3, 4, 5], [0, 1, 2, 3, 4, 5, 6]])))
 (.reg [⟨(some 33), none, (.p (.bin 0 .add (.t 22) (.c (.int .i64 1))))⟩, ⟨(some 22), none, (.p (.mov (.t 33)))⟩])))))))
 (.seq (.reg [⟨(some 34), none, (.p (.load true 6 (.t 3)))⟩, ⟨none, none, (.m (.store 6 (.t 2) (.t 34)))⟩])
 (.ret))))
theorem m_wocpy_ok : compF Try.prog 25 = some (35, m_wocpy, [.load true 6 (.t 2)]) := by kernel_rfl
def m_rocpy : MC := .seq (.reg [⟨(some 1), none, (.m (.box 31 (.t 0)))⟩, ⟨(some 2), none, (.m (.alloc 31 (.agg [.nilS, .nilS, .nilS, .agg [.nilS, .nilS], .nilS])))⟩])
 (.seq (.dreg [⟨(some 3), none, (.p (.fieldA 0 0 (.t 1)))⟩, ⟨(some 4), none, (.p (.load false 1 (.t 3)))⟩, ⟨(some 5), none, (.m (.app 45 1 2 (.c (.nilS)) (.t 4)))⟩, ⟨(some 6), none, (.p (.fieldA 1 1 (.t 1)))⟩, ⟨(some 7), none, (.p (.load false 1 (.t 6)))⟩, ⟨(some 8), none, (.m (.app 45 1 2 (.c (.nilS)) (.t 7)))⟩, ⟨(some 9), none, (.p (.fieldA 2 2 (.t 1)))⟩, ⟨(some 10), none, (.p (.load false 1 (.t 9)))⟩, ⟨(some 11), none, (.call 27 [(.t 10)])⟩, ⟨(some 12), none, (.p (.fieldA 3 3 (.t 1)))⟩, ⟨(some 13), none, (.p (.load true 2 (.t 12)))⟩, ⟨(some 14), none, (.call 100 [(.t 13)])⟩, ⟨(some 15), none, (.p (.fieldA 5 4 (.t 1)))⟩, ⟨(some 16), none, (.p (.load false 1 (.t 15)))⟩, ⟨(some 17), none, (.call 101 [(.t 16)])⟩, ⟨(some 18), none, (.m (.build none [.nilS, .nilS, .nilS, .agg [.nilS, .nilS], .nilS] [(0, (.t 5)), (1, (.t 8)), (2, (.t 11)), (3, (.t 14)), (4, (.t 17))]))⟩, ⟨none, none, (.m (.store 6 (.t 2) (.t 18)))⟩] [[], [0], [0, 1], [], [3], [0, 1, 2, 3, 4], [], [6], [0, 1, 2, 3, 4, 5, 6, 7], [], [9], [0, 1, 2, 3, 4, 5, 6, 7, 8, 9, 10], [], [12], [0, 1, 2, 3, 4, 5, 6, 7, 8, 9, 10, 11, 12, 13], [0, 1, 2, 3, 4, 5, 6, 7, 8, 9, 10, 11, 12, 13, 14], [0, 1, 2, 3, 4, 5, 6, 7, 8, 9, 10, 11, 12, 13, 14, 15]])
 (.ret))
theorem m_rocpy_ok : compF Try.prog 70 = some (19, m_rocpy, [.load true 6 (.t 2)]) := by kernel_rfl
attribute [local go_sem] List.take_length
set_option maxHeartbeats 8000000 in
theorem wcopy_fr (f : Files) (F : LowF f) : Fnc Try.prog 65 [filV f] (fun x obs => x = filV f ∧ obs = []) := by
  refine Fnc.low ?_
  have h1 := F.d
  have h2 := F.o
  refine Fnc.intro m_wcopy_ok (by simp) fun W S => ?_
  unfold m_wcopy
  simp only [ents, Nat.zero_add, Nat.reduceAdd]
  refine zst ?_
  (first | refine callX (ocl_own f.opens (by omega)) ?_ | refine callXw (ocl_own f.opens (by omega)) ?_); simp only [go_sem]
  refine zst ?_
  refine ev_adoptB 3 0 41 1 rfl rfl (by decide) rfl ?_
  refine ev_loopK [2, 3, 11, 12] (fun p : {p : Nat // p ≤ f.data.length} => [(13, .int .i64 p.1)]) (fun p => [⟨.box false 28, true, 0, filV f⟩, ⟨.box false 28, true, 0, .agg [.nilS, .nilS]⟩, ⟨.row 102, true, 0, .arr 3 (f.opens.map opnV)⟩, ⟨.box false 28, true, 0, .agg [.own 4 p.1, .own 2 0]⟩, ⟨.row 41, true, p.1, .arr 1 ((f.data.take p.1).map (slV' true 4 canonV))⟩]) (fun p => f.data.length - p.1) (⟨0, by simp⟩) 5 (by simp only [go_sem]; rfl) ?_ (by first | rfl | (simp only [go_sem]; done)) (by simp) (by first | rfl | (simp only [go_sem]; done)) (by first | rfl | (simp only [go_sem]; done)) (by first | rfl | (simp only [go_sem]; done)) ?_
  · (simp only [go_sem]; (try simp []); done)
  intro J hJ
  rintro ⟨k, hk0⟩
  by_cases hlt : k < f.data.length
  · have hs := take_snoc hlt
    have hb := F.len _ (mem_at hlt)
    have hl2 : (f.data.take k).length = k := by rw [List.length_take]; omega
    refine zst ?_
    (first | refine callD (ccl_fn f.data[k]! (by omega)) ?_ | refine callDw (ccl_fn f.data[k]! (by omega)) ?_); simp only [go_sem]
    refine zst ?_
    refine ev_next 5 (hJ _ (⟨k + 1, hlt⟩) (by first | omega | (dsimp only; omega) | (simp; omega))) rfl (by simp) ?_ (by first | rfl | (simp only [go_sem]; done)) (by first | rfl | (simp only [go_sem]; done) | (simp only [hs]; (try simp only [go_sem]); first | done | rfl)) ?_
    · exact zna hs
    · exact znb hs
  · obtain rfl : k = f.data.length := by omega
    refine zst ?_
    refine ret m_wcopy_ok [] ?_; (first | (simp only [go_sem]; done) | (simp only [go_sem]; ((try dsimp only); (repeat' (refine And.intro ?_ ?_)) <;> first | with_reducible rfl | (simp only [go_sem]; done) | (simp only [go_sem]; rfl) | (simp only [go_sem, List.take_length]; done) | (simp only [List.take_length]; (try simp only [go_sem]); first | done | rfl) | (simp only [go_sem]; simp [List.take_length]; done) | (simp [List.take_length]; done) | rfl)))
set_option maxHeartbeats 8000000 in
theorem rcopy_fr (f : Files) (F : LowF f) : Fnc Try.prog 100 [filV f] (fun x obs => x = filV f ∧ obs = []) := by
  refine Fnc.low ?_
  have h1 := F.d
  have h2 := F.o
  refine Fnc.intro m_rcopy_ok (by simp) fun W S => ?_
  unfold m_rcopy
  simp only [ents, Nat.zero_add, Nat.reduceAdd]
  refine zst ?_
  refine ev_adoptB 3 0 41 1 rfl rfl (by decide) rfl ?_
  refine ev_loopK [2, 3, 11, 12] (fun p : {p : Nat // p ≤ f.data.length} => [(13, .int .i64 p.1)]) (fun p => [⟨.box false 28, true, 0, filV f⟩, ⟨.box false 28, true, 0, .agg [.nilS, .nilS]⟩, ⟨.row 102, true, 0, .arr 3 (f.opens.map opnV)⟩, ⟨.box false 28, true, 0, .agg [.own 4 p.1, .own 2 0]⟩, ⟨.row 41, true, p.1, .arr 1 ((f.data.take p.1).map (slV' true 4 canonV))⟩]) (fun p => f.data.length - p.1) (⟨0, by simp⟩) 5 (by simp only [go_sem]; rfl) ?_ (by first | rfl | (simp only [go_sem]; done)) (by simp) (by first | rfl | (simp only [go_sem]; done)) (by first | rfl | (simp only [go_sem]; done)) (by first | rfl | (simp only [go_sem]; done)) ?_
  · (simp only [go_sem]; (try simp []); done)
  intro J hJ
  rintro ⟨k, hk0⟩
  by_cases hlt : k < f.data.length
  · have hs := take_snoc hlt
    have hb := F.len _ (mem_at hlt)
    have hl2 : (f.data.take k).length = k := by rw [List.length_take]; omega
    refine zst ?_
    refine ev_next 5 (hJ _ (⟨k + 1, hlt⟩) (by first | omega | (dsimp only; omega) | (simp; omega))) rfl (by simp) ?_ (by first | rfl | (simp only [go_sem]; done)) (by first | rfl | (simp only [go_sem]; done) | (simp only [hs]; (try simp only [go_sem]); first | done | rfl)) ?_
    · exact zna hs
    · exact znb hs
  · obtain rfl : k = f.data.length := by omega
    refine zst ?_
    refine ret m_rcopy_ok [] ?_; (first | (simp only [go_sem]; done) | (simp only [go_sem]; ((try dsimp only); (repeat' (refine And.intro ?_ ?_)) <;> first | with_reducible rfl | (simp only [go_sem]; done) | (simp only [go_sem]; rfl) | (simp only [go_sem, List.take_length]; done) | (simp only [List.take_length]; (try simp only [go_sem]); first | done | rfl) | (simp only [go_sem]; simp [List.take_length]; done) | (simp [List.take_length]; done) | rfl)))
set_option maxHeartbeats 8000000 in
theorem copyinG_fr (wss : List (List Int)) (hl : wss.length ≤ 1000) (hw : ∀ w ∈ wss, w.length ≤ 100000) : Fnc Try.prog 27 [.sl false 1 (wss.map (slV' false 1 (V.int .u16)))] (fun x obs => x = .sl false 1 (wss.map (slV' false 1 (V.int .u16))) ∧ obs = []) := by
  refine Fnc.low ?_
  refine Fnc.intro m_copyin_ok (by simp) fun W S => ?_
  unfold m_copyin
  simp only [ents, Nat.zero_add, Nat.reduceAdd]
  refine zst ?_
  refine ev_adopt (i := 3) (e := 23) (s := 1) rfl (by decide) ?_
  refine ev_loopK [6, 7] (fun p : {p : Nat // p ≤ wss.length} => [(3, .own 0 p.1), (8, .int .i64 p.1)]) (fun p => [⟨.row 23, true, p.1, .arr 1 ((wss.take p.1).map (slV' true 1 (V.int .u16)))⟩]) (fun p => wss.length - p.1) (⟨0, by simp⟩) 1 (by simp only [go_sem]; rfl) ?_ (by first | rfl | (simp only [go_sem]; done)) (by simp) (by first | rfl | (simp only [go_sem]; done)) (by first | rfl | (simp only [go_sem]; done)) (by first | rfl | (simp only [go_sem]; done)) ?_
  · (simp only [go_sem]; (try simp []); done)
  intro J hJ
  rintro ⟨k, hk0⟩
  by_cases hlt : k < wss.length
  · have h1 := hw _ (mem_at hlt)
    have htl : (wss.take k).length = k := by rw [List.length_take]; omega
    have hs := take_snoc hlt
    refine zst ?_
    refine ev_next 1 (hJ _ (⟨k + 1, hlt⟩) (by first | omega | (dsimp only; omega) | (simp; omega))) rfl (by simp) ?_ (by first | rfl | (simp only [go_sem]; done)) (by first | rfl | (simp only [go_sem]; done) | (simp only [hs]; (try simp only [go_sem]); first | done | rfl)) ?_
    · exact zna hs
    · exact znb hs
  · obtain rfl : k = wss.length := by omega
    refine zst ?_
    refine ret m_copyin_ok [] ?_; (first | (simp only [go_sem]; done) | (simp only [go_sem]; ((try dsimp only); (repeat' (refine And.intro ?_ ?_)) <;> first | with_reducible rfl | (simp only [go_sem]; done) | (simp only [go_sem]; rfl) | (simp only [go_sem, List.take_length]; done) | (simp only [List.take_length]; (try simp only [go_sem]); first | done | rfl) | (simp only [go_sem]; simp [List.take_length]; done) | (simp [List.take_length]; done) | rfl)))
set_option maxHeartbeats 4000000 in
theorem socpy_fr (l : List Output) (hb : l.length ≤ 1000000000) (hd : shortO 1000000000 l) : Fnc Try.prog 66 [.sl false 3 (l.map (outputV false))] (fun x obs => x = .sl false 3 (l.map (outputV false)) ∧ obs = []) := by
  refine Fnc.low ?_
  refine Fnc.intro m_socpy_ok (by simp) fun W S => ?_
  unfold m_socpy
  simp only [ents, Nat.zero_add, Nat.reduceAdd]
  refine zst ?_
  refine ev_adopt (i := 3) (e := 55) (s := 3) rfl (by decide) ?_
  refine ev_loopK [6, 7] (fun p : {p : Nat // p ≤ l.length} => [(3, .own 0 p.1), (8, .int .i64 p.1)]) (fun p => [⟨.row 55, true, p.1, .arr 3 ((l.take p.1).map (outputV true))⟩]) (fun p => l.length - p.1) (⟨0, by simp⟩) 1 (by simp only [go_sem]; rfl) ?_ (by first | rfl | (simp only [go_sem]; done)) (by simp) (by first | rfl | (simp only [go_sem]; done)) (by first | rfl | (simp only [go_sem]; done)) (by first | rfl | (simp only [go_sem]; done)) ?_
  · (simp only [go_sem]; (try simp []); done)
  intro J hJ
  rintro ⟨k, hk0⟩
  by_cases hlt : k < l.length
  · have hdk : l[k]!.data.length ≤ 1000000000 := hd _ (mem_at hlt)
    have htl : (l.take k).length = k := by simp; omega
    refine zst ?_
    (first | refine callD (clcanon_fn l[k]!.data hdk) ?_ | refine callDw (clcanon_fn l[k]!.data hdk) ?_); simp only [go_sem]
    refine zst ?_
    refine ev_next 1 (hJ _ (⟨k + 1, hlt⟩) (by first | omega | (dsimp only; omega) | (simp; omega))) rfl (by simp) ?_ (by first | rfl | (simp only [go_sem]; done)) (by first | rfl | (simp only [go_sem]; done) | (simp only [take_snoc hlt]; (try simp only [go_sem]); first | done | rfl)) ?_
    · (first | rfl | (simp only [go_sem]; done) | (simp only [go_sem]; simp only [take_snoc hlt]; done) | (simp only [take_snoc hlt]; done) | (simp only [go_sem]; simp [take_snoc hlt]; done) | (simp [take_snoc hlt]; done))
    · (simp only [go_sem]; (repeat' (refine And.intro ?_ ?_)) <;> first | exact trivial | with_reducible rfl | (simp only [take_snoc hlt]; done) | (simp only [take_snoc hlt]; with_reducible rfl) | (simp [take_snoc hlt]; done) | (simp [take_snoc hlt]; omega) | (simp only [take_snoc hlt]; rfl) | skip)
  · obtain rfl : k = l.length := by omega
    refine zst ?_
    refine ret m_socpy_ok [] ?_; (first | (simp only [go_sem]; done) | (simp only [go_sem]; ((try dsimp only); (repeat' (refine And.intro ?_ ?_)) <;> first | with_reducible rfl | (simp only [go_sem]; done) | (simp only [go_sem]; rfl) | (simp only [go_sem, List.take_length]; done) | (simp only [List.take_length]; (try simp only [go_sem]); first | done | rfl) | (simp only [go_sem]; simp [List.take_length]; done) | (simp [List.take_length]; done) | rfl)))
set_option maxHeartbeats 4000000 in
theorem srcpy_fr (l : List Output) (hb : l.length ≤ 1000000000) (hd : shortO 1000000000 l) : Fnc Try.prog 101 [.sl false 3 (l.map (outputV false))] (fun x obs => x = .sl false 3 (l.map (outputV false)) ∧ obs = []) := by
  refine Fnc.low ?_
  refine Fnc.intro m_srcpy_ok (by simp) fun W S => ?_
  unfold m_srcpy
  simp only [ents, Nat.zero_add, Nat.reduceAdd]
  refine zst ?_
  refine ev_adopt (i := 3) (e := 55) (s := 3) rfl (by decide) ?_
  refine ev_loopK [6, 7] (fun p : {p : Nat // p ≤ l.length} => [(3, .own 0 p.1), (8, .int .i64 p.1)]) (fun p => [⟨.row 55, true, p.1, .arr 3 ((l.take p.1).map (outputV true))⟩]) (fun p => l.length - p.1) (⟨0, by simp⟩) 1 (by simp only [go_sem]; rfl) ?_ (by first | rfl | (simp only [go_sem]; done)) (by simp) (by first | rfl | (simp only [go_sem]; done)) (by first | rfl | (simp only [go_sem]; done)) (by first | rfl | (simp only [go_sem]; done)) ?_
  · (simp only [go_sem]; (try simp []); done)
  intro J hJ
  rintro ⟨k, hk0⟩
  by_cases hlt : k < l.length
  · have hdk : l[k]!.data.length ≤ 1000000000 := hd _ (mem_at hlt)
    have htl : (l.take k).length = k := by simp; omega
    refine zst ?_
    refine ev_next 1 (hJ _ (⟨k + 1, hlt⟩) (by first | omega | (dsimp only; omega) | (simp; omega))) rfl (by simp) ?_ (by first | rfl | (simp only [go_sem]; done)) (by first | rfl | (simp only [go_sem]; done) | (simp only [take_snoc hlt]; (try simp only [go_sem]); first | done | rfl)) ?_
    · (first | rfl | (simp only [go_sem]; done) | (simp only [go_sem]; simp only [take_snoc hlt]; done) | (simp only [take_snoc hlt]; done) | (simp only [go_sem]; simp [take_snoc hlt]; done) | (simp [take_snoc hlt]; done))
    · (simp only [go_sem]; (repeat' (refine And.intro ?_ ?_)) <;> first | exact trivial | with_reducible rfl | (simp only [take_snoc hlt]; done) | (simp only [take_snoc hlt]; with_reducible rfl) | (simp [take_snoc hlt]; done) | (simp [take_snoc hlt]; omega) | (simp only [take_snoc hlt]; rfl) | skip)
  · obtain rfl : k = l.length := by omega
    refine zst ?_
    refine ret m_srcpy_ok [] ?_; (first | (simp only [go_sem]; done) | (simp only [go_sem]; ((try dsimp only); (repeat' (refine And.intro ?_ ?_)) <;> first | with_reducible rfl | (simp only [go_sem]; done) | (simp only [go_sem]; rfl) | (simp only [go_sem, List.take_length]; done) | (simp only [List.take_length]; (try simp only [go_sem]); first | done | rfl) | (simp only [go_sem]; simp [List.take_length]; done) | (simp [List.take_length]; done) | rfl)))
theorem FitO.short {o : Rdn.Outside} (F : FitO o) : shortO 1000000000 o.outputs := fun x hx => by
  have := F.d x hx
  unfold cellsB at this; simp only [Bool.and_eq_true, decide_eq_true_eq] at this; omega
set_option maxHeartbeats 8000000 in
theorem rocpy_fn (o : Rdn.Outside) (F : FitO o) : Fnc Try.prog 70 [outsV o] (fun x obs => x = outsV o ∧ obs = []) := by
  refine Fnc.low ?_
  have h1 := F.c
  have h2 := F.r
  have h3 := F.i
  have h4 := F.n
  have f1 := copyinG_fr o.inputs (by omega) (fun w hw => by have := F.w w hw; omega)
  have f2 := rcopy_fr o.files F.f.low
  have f3 := srcpy_fr o.outputs (by omega) F.short
  refine Fnc.intro m_rocpy_ok (by simp) fun W S => ?_
  unfold m_rocpy
  simp only [ents, Nat.zero_add, Nat.reduceAdd]
  refine zst ?_
  (first | refine callD (f1) ?_ | refine callDw (f1) ?_); simp only [go_sem]
  refine zst ?_
  (first | refine callD (f2) ?_ | refine callDw (f2) ?_); simp only [go_sem]
  refine zst ?_
  (first | refine callD (f3) ?_ | refine callDw (f3) ?_); simp only [go_sem]
  refine zst ?_
  refine ret m_rocpy_ok [] ?_; exact zfn
set_option maxHeartbeats 8000000 in
theorem wocpy_fn (o : Rdn.Outside) (F : FitO o) : Fnc Try.prog 25 [outsV o] (fun x obs => x = outsV o ∧ obs = []) := by
  refine Fnc.low ?_
  have h1 := F.c
  have h2 := F.r
  have h3 := F.i
  have h4 := F.n
  have f1 := clw_fn o.clock (by omega)
  have f2 := clw_fn o.random (by omega)
  have f3 := wcopy_fr o.files F.f.low
  have f4 := socpy_fr o.outputs (by omega) F.short
  refine Fnc.intro m_wocpy_ok (by simp) fun W S => ?_
  unfold m_wocpy
  simp only [ents, Nat.zero_add, Nat.reduceAdd]
  refine zst ?_
  (first | refine callD (f1) ?_ | refine callDw (f1) ?_); simp only [go_sem]
  refine zst ?_
  (first | refine callD (f2) ?_ | refine callDw (f2) ?_); simp only [go_sem]
  refine zst ?_
  (first | refine callD (f3) ?_ | refine callDw (f3) ?_); simp only [go_sem]
  refine zst ?_
  (first | refine callD (f4) ?_ | refine callDw (f4) ?_); simp only [go_sem]
  refine zst ?_
  refine ev_adoptB 2 2 23 1 rfl rfl (by decide) rfl ?_
  refine ev_loopK [2, 3, 20, 21] (fun p : {p : Nat // p ≤ o.inputs.length} => [(22, .int .i64 p.1)]) (fun p => [⟨.box false 31, true, 0, outsV o⟩, ⟨.box false 31, true, 0, .agg [.nilS, .nilS, .nilS, .agg [.nilS, .nilS], .nilS]⟩, ⟨.box false 31, true, 1, .agg [.sl true 1 (u16s o.clock), .sl true 1 (u16s o.random), .own 3 p.1, filV o.files, .sl false 3 (o.outputs.map (outputV false))]⟩, ⟨.row 23, true, p.1, .arr 1 ((o.inputs.take p.1).map (slV' true 1 (V.int .u16)))⟩]) (fun p => o.inputs.length - p.1) (⟨0, by simp⟩) 4 (by simp only [go_sem]; rfl) ?_ (by first | rfl | (simp only [go_sem]; done)) (by simp) (by first | rfl | (simp only [go_sem]; done)) (by first | rfl | (simp only [go_sem]; done)) (by first | rfl | (simp only [go_sem]; done)) ?_
  · (simp only [go_sem]; (try simp []); done)
  intro J hJ
  rintro ⟨k, hk0⟩
  by_cases hlt : k < o.inputs.length
  · have hs := take_snoc hlt
    have hb := F.w _ (mem_at hlt)
    have hl2 : (o.inputs.take k).length = k := by rw [List.length_take]; omega
    refine zst ?_
    (first | refine callD (clw_fn o.inputs[k]! (by omega)) ?_ | refine callDw (clw_fn o.inputs[k]! (by omega)) ?_); simp only [go_sem]
    refine zst ?_
    refine ev_next 4 (hJ _ (⟨k + 1, hlt⟩) (by first | omega | (dsimp only; omega) | (simp; omega))) rfl (by simp) ?_ (by first | rfl | (simp only [go_sem]; done)) (by first | rfl | (simp only [go_sem]; done) | (simp only [hs]; (try simp only [go_sem]); first | done | rfl)) ?_
    · exact zna hs
    · exact znb hs
  · obtain rfl : k = o.inputs.length := by omega
    refine zst ?_
    refine ret m_wocpy_ok [] ?_; (first | (simp only [go_sem]; done) | (simp only [go_sem]; ((try dsimp only); (repeat' (refine And.intro ?_ ?_)) <;> first | with_reducible rfl | (simp only [go_sem]; done) | (simp only [go_sem]; rfl) | (simp only [go_sem, List.take_length]; done) | (simp only [List.take_length]; (try simp only [go_sem]); first | done | rfl) | (simp only [go_sem]; simp [List.take_length]; done) | (simp [List.take_length]; done) | rfl)))
end Go.Proofs.Ytkfpcgkmemfdaaa
/- The outside at its beginning. -/
namespace Go.Proofs.Ytkfpcgkmemfdaaa
open Go Go.RowKit Rdn Rdn.Dp
set_option linter.unusedVariables false
set_option linter.unusedSimpArgs false
def m_wbeg : MC := .seq (.reg [⟨(some 8), none, (.m (.alloc 31 (.agg [.nilS, .nilS, .nilS, .agg [.nilS, .nilS], .nilS])))⟩, ⟨(some 9), none, (.p (.mov (.c (.int .i64 0))))⟩])
 (.seq (.reg [⟨(some 14), none, (.p (.mov (.t 0)))⟩, ⟨(some 15), none, (.call 23 [(.t 14)])⟩, ⟨(some 13), none, (.p (.mov (.t 15)))⟩, ⟨(some 16), none, (.p (.ext (.t 13) 0))⟩, ⟨(some 17), none, (.p (.ext (.t 13) 1))⟩, ⟨(some 10), none, (.m (.alloc 28 (.agg [.nilS, .nilS])))⟩, ⟨none, none, (.m (.store 2 (.t 10) (.t 16)))⟩, ⟨(some 11), none, (.p (.mov (.t 17)))⟩])
 (.seq (.seq (.reg [⟨(some 18), none, (.p (.mov (.t 11)))⟩, ⟨(some 19), none, (.p (.bin 0 .neq (.t 18) (.c (.int .i64 0))))⟩])
 (.cond (.t 19) (.seq (.reg [⟨(some 20), none, (.m (.build none [.nilS, .nilS, .nilS, .agg [.nilS, .nilS], .nilS] []))⟩, ⟨(some 21), none, (.p (.mov (.t 11)))⟩, ⟨none, none, (.m (.store 6 (.t 8) (.t 20)))⟩, ⟨(some 9), none, (.p (.mov (.t 21)))⟩])
 (.ret)) (.skip)))
 (.seq (.reg [⟨(some 22), none, (.p (.mov (.t 2)))⟩, ⟨(some 23), none, (.p (.mov (.t 3)))⟩, ⟨(some 24), none, (.p (.mov (.t 1)))⟩, ⟨(some 25), none, (.p (.load true 2 (.t 10)))⟩, ⟨(some 26), none, (.m (.build none [.nilS, .nilS, .nilS, .agg [.nilS, .nilS], .nilS] [(0, (.t 22)), (1, (.t 23)), (2, (.t 24)), (3, (.t 25))]))⟩, ⟨(some 12), none, (.m (.alloc 31 (.agg [.nilS, .nilS, .nilS, .agg [.nilS, .nilS], .nilS])))⟩, ⟨none, none, (.m (.store 6 (.t 12) (.t 26)))⟩])
 (.seq (.seq (.reg [⟨(some 27), none, (.p (.load true 6 (.t 12)))⟩, ⟨(some 28), none, (.call 24 [(.t 27)])⟩, ⟨(some 29), none, (.p (.un .not (.t 28)))⟩])
 (.cond (.t 29) (.seq (.reg [⟨(some 30), none, (.m (.build none [.nilS, .nilS, .nilS, .agg [.nilS, .nilS], .nilS] []))⟩, ⟨none, none, (.m (.store 6 (.t 8) (.t 30)))⟩, ⟨(some 9), none, (.p (.mov (.c (.int .i64 3))))⟩])
 (.ret)) (.skip)))
 (.seq (.reg [⟨(some 31), none, (.p (.load true 6 (.t 12)))⟩, ⟨(some 32), none, (.call 25 [(.t 31)])⟩, ⟨none, none, (.m (.store 6 (.t 8) (.t 32)))⟩, ⟨(some 9), none, (.p (.mov (.c (.int .i64 0))))⟩])
 (.ret))))))
theorem m_wbeg_ok : compF Try.prog 8 = some (33, m_wbeg, [.load true 6 (.t 8), .mov (.t 9)]) := by kernel_rfl
def m_rsao : MC := .seq (.reg [⟨(some 2), none, (.m (.box 31 (.t 0)))⟩, ⟨(some 3), none, (.m (.box 31 (.t 1)))⟩, ⟨(some 4), none, (.p (.mov (.c (.bool false))))⟩])
 (.seq (.seq (.reg [⟨(some 6), none, (.p (.fieldA 0 0 (.t 2)))⟩, ⟨(some 7), none, (.p (.load false 1 (.t 6)))⟩, ⟨(some 8), none, (.p (.fieldA 0 0 (.t 3)))⟩, ⟨(some 9), none, (.p (.load false 1 (.t 8)))⟩, ⟨(some 10), none, (.call 28 [(.t 7), (.t 9)])⟩, ⟨(some 11), none, (.p (.un .not (.t 10)))⟩, ⟨(some 12), none, (.p (.mov (.t 11)))⟩, ⟨(some 13), (some (12, false)), (.p (.fieldA 1 1 (.t 2)))⟩, ⟨(some 14), (some (12, false)), (.p (.load false 1 (.t 13)))⟩, ⟨(some 15), (some (12, false)), (.p (.fieldA 1 1 (.t 3)))⟩, ⟨(some 16), (some (12, false)), (.p (.load false 1 (.t 15)))⟩, ⟨(some 17), (some (12, false)), (.call 28 [(.t 14), (.t 16)])⟩, ⟨(some 18), (some (12, false)), (.p (.un .not (.t 17)))⟩, ⟨(some 19), none, (.p (.pick (.t 12) (.c (.bool true)) (.t 18)))⟩, ⟨(some 20), none, (.p (.mov (.t 19)))⟩, ⟨(some 21), (some (20, false)), (.p (.fieldA 2 2 (.t 2)))⟩, ⟨(some 22), (some (20, false)), (.p (.load false 1 (.t 21)))⟩, ⟨(some 23), (some (20, false)), (.p (.len (.t 22)))⟩, ⟨(some 24), (some (20, false)), (.p (.fieldA 2 2 (.t 3)))⟩, ⟨(some 25), (some (20, false)), (.p (.load false 1 (.t 24)))⟩, ⟨(some 26), (some (20, false)), (.p (.len (.t 25)))⟩, ⟨(some 27), (some (20, false)), (.p (.bin 0 .neq (.t 23) (.t 26)))⟩, ⟨(some 28), none, (.p (.pick (.t 20) (.c (.bool true)) (.t 27)))⟩, ⟨(some 29), none, (.p (.mov (.t 28)))⟩, ⟨(some 30), (some (29, false)), (.p (.fieldA 3 3 (.t 2)))⟩, ⟨(some 31), (some (29, false)), (.p (.load true 2 (.t 30)))⟩, ⟨(some 32), (some (29, false)), (.p (.fieldA 3 3 (.t 3)))⟩, ⟨(some 33), (some (29, false)), (.p (.load true 2 (.t 32)))⟩, ⟨(some 34), (some (29, false)), (.call 29 [(.t 31), (.t 33)])⟩, ⟨(some 35), (some (29, false)), (.p (.un .not (.t 34)))⟩, ⟨(some 36), none, (.p (.pick (.t 29) (.c (.bool true)) (.t 35)))⟩, ⟨(some 37), none, (.p (.mov (.t 36)))⟩, ⟨(some 38), (some (37, false)), (.p (.fieldA 5 4 (.t 2)))⟩, ⟨(some 39), (some (37, false)), (.p (.load false 1 (.t 38)))⟩, ⟨(some 40), (some (37, false)), (.p (.fieldA 5 4 (.t 3)))⟩, ⟨(some 41), (some (37, false)), (.p (.load false 1 (.t 40)))⟩, ⟨(some 42), (some (37, false)), (.call 30 [(.t 39), (.t 41)])⟩, ⟨(some 43), (some (37, false)), (.p (.un .not (.t 42)))⟩, ⟨(some 44), none, (.p (.pick (.t 37) (.c (.bool true)) (.t 43)))⟩])
 (.cond (.t 44) (.seq (.reg [⟨(some 4), none, (.p (.mov (.c (.bool false))))⟩])
 (.ret)) (.skip)))
 (.seq (.seq (.reg [⟨(some 45), none, (.p (.fieldA 2 2 (.t 2)))⟩, ⟨(some 46), none, (.p (.load false 1 (.t 45)))⟩, ⟨(some 47), none, (.p (.len (.t 46)))⟩, ⟨(some 48), none, (.p (.mov (.c (.int .i64 0))))⟩])
 (.block 0 (.loop (.seq (.reg [⟨(some 49), none, (.p (.bin 0 .lss (.t 48) (.t 47)))⟩])
 (.seq (.cond (.t 49) (.skip) (.exit 0))
 (.seq (.block 1 (.seq (.reg [⟨(some 50), none, (.p (.mov (.t 48)))⟩, ⟨(some 5), none, (.p (.mov (.t 50)))⟩])
 (.seq (.dreg [⟨(some 51), none, (.p (.fieldA 2 2 (.t 2)))⟩, ⟨(some 52), none, (.p (.load false 1 (.t 51)))⟩, ⟨(some 53), none, (.p (.mov (.t 5)))⟩, ⟨(some 54), none, (.p (.idxA 1 (.t 52) (.t 53)))⟩, ⟨(some 55), none, (.p (.load false 1 (.t 54)))⟩, ⟨(some 56), none, (.p (.fieldA 2 2 (.t 3)))⟩, ⟨(some 57), none, (.p (.load false 1 (.t 56)))⟩, ⟨(some 58), none, (.p (.mov (.t 5)))⟩, ⟨(some 59), none, (.p (.idxA 1 (.t 57) (.t 58)))⟩, ⟨(some 60), none, (.p (.load false 1 (.t 59)))⟩, ⟨(some 61), none, (.call 28 [(.t 55), (.t 60)])⟩, ⟨(some 62), none, (.p (.un .not (.t 61)))⟩] [[], [0], [], [0, 1, 2], [0, 1, 2, 3], [], [5], [], [5, 6, 7], [5, 6, 7, 8], [0, 1, 2, 3, 4, 5, 6, 7, 8, 9], [0, 1, 2, 3, 4, 5, 6, 7, 8, 9, 10]])
 (.cond (.t 62) (.seq (.reg [⟨(some 4), none, (.p (.mov (.c (.bool false))))⟩])
 (.ret)) (.skip)))))
 (.reg [⟨(some 63), none, (.p (.bin 0 .add (.t 48) (.c (.int .i64 1))))⟩, ⟨(some 48), none, (.p (.mov (.t 63)))⟩])))))))
 (.seq (.reg [⟨(some 4), none, (.p (.mov (.c (.bool true))))⟩])
 (.ret))))
theorem m_rsao_ok : compF Try.prog 10 = some (64, m_rsao, [.mov (.t 4)]) := by kernel_rfl
abbrev wssV (l : List (List Int)) : V := .sl false 1 (l.map (slV' false 1 (V.int .u16)))
def noO : Rdn.Outside := ⟨[], [], [], ⟨[], []⟩, []⟩
noncomputable def sBegin (fs ins : List (List Int)) (c r : List Int) : Rdn.Outside × Int :=
  if okNew fs then (if valO ⟨c, r, ins, ⟨fs.map numC, eight⟩, []⟩ = true then (⟨c, r, ins, ⟨fs.map numC, eight⟩, []⟩, 0) else (noO, 3)) else (noO, 3)
theorem sBegin_T {fs ins : List (List Int)} {c r : List Int} (h : okNew fs) (h2 : valO ⟨c, r, ins, ⟨fs.map numC, eight⟩, []⟩ = true) : sBegin fs ins c r = (⟨c, r, ins, ⟨fs.map numC, eight⟩, []⟩, 0) := by rw [sBegin, if_pos h, if_pos h2]
theorem sBegin_F {fs ins : List (List Int)} {c r : List Int} (h : ¬ okNew fs) : sBegin fs ins c r = (noO, 3) := by rw [sBegin, if_neg h]
theorem sBegin_G {fs ins : List (List Int)} {c r : List Int} (h : okNew fs) (h2 : valO ⟨c, r, ins, ⟨fs.map numC, eight⟩, []⟩ = false) : sBegin fs ins c r = (noO, 3) := by rw [sBegin, if_pos h, if_neg (by rw [h2]; decide)]
theorem noO_V : outsV noO = .agg [.sl false 1 [], .sl false 1 [], .sl false 1 [], filV ⟨[], []⟩, .sl false 3 []] := rfl
attribute [local irreducible] eight numC sNew valO
set_option maxHeartbeats 8000000 in
theorem wbeg_fn (fs ins : List (List Int)) (c r : List Int) (hd : fs.length ≤ 1000) : Fnc Try.prog 8 [wssV fs, wssV ins, owV c, owV r] (fun x obs => x = .tup [outsV (sBegin fs ins c r).1, .int .i64 (sBegin fs ins c r).2] ∧ obs = []) := by
  refine Fnc.low ?_
  have fn := wnew_fn fs hd
  by_cases h : okNew fs
  · rw [sNew_T h] at fn
    have fv := woval_fn ⟨c, r, ins, ⟨fs.map numC, eight⟩, []⟩
    cases e : valO ⟨c, r, ins, ⟨fs.map numC, eight⟩, []⟩ with
    | true =>
      rw [e] at fv
      rw [sBegin_T h e]
      have fc := wocpy_fn _ (valO_to e)
      refine Fnc.intro m_wbeg_ok (by simp) fun W S => ?_
      unfold m_wbeg
      simp only [ents, Nat.zero_add, Nat.reduceAdd]
      refine zst ?_
      (first | refine callD (fn) ?_ | refine callDw (fn) ?_); simp only [go_sem]
      refine zst ?_
      (first | refine callD (fv) ?_ | refine callDw (fv) ?_); simp only [go_sem]
      refine zst ?_
      (first | refine callD (fc) ?_ | refine callDw (fc) ?_); simp only [go_sem]
      refine zst ?_
      refine ret m_wbeg_ok [] ?_; exact zfn
    | false =>
      rw [e] at fv
      rw [sBegin_G h e, noO_V]
      refine Fnc.intro m_wbeg_ok (by simp) fun W S => ?_
      unfold m_wbeg
      simp only [ents, Nat.zero_add, Nat.reduceAdd]
      refine zst ?_
      (first | refine callD (fn) ?_ | refine callDw (fn) ?_); simp only [go_sem]
      refine zst ?_
      (first | refine callD (fv) ?_ | refine callDw (fv) ?_); simp only [go_sem]
      refine zst ?_
      refine ev_obSub 0 (.agg [.sl false 1 [], .sl false 1 [], .sl false 1 [], .agg [.sl false 1 [], .sl false 3 []], .sl false 3 []]) rfl (SubV.agg ⟨SubV.nil _ _, SubV.nil _ _, SubV.nil _ _, SubV.agg ⟨SubV.nil _ _, SubV.nil _ _, trivial⟩, SubV.nil _ _, trivial⟩) rfl ?_
      refine ret m_wbeg_ok [] ?_; exact zfn
  · rw [sNew_F h] at fn
    rw [sBegin_F h, noO_V]
    refine Fnc.intro m_wbeg_ok (by simp) fun W S => ?_
    unfold m_wbeg
    simp only [ents, Nat.zero_add, Nat.reduceAdd]
    refine zst ?_
    (first | refine callD (fn) ?_ | refine callDw (fn) ?_); simp only [go_sem]
    refine zst ?_
    refine ev_obSub 0 (.agg [.sl false 1 [], .sl false 1 [], .sl false 1 [], .agg [.sl false 1 [], .sl false 3 []], .sl false 3 []]) rfl (SubV.agg ⟨SubV.nil _ _, SubV.nil _ _, SubV.nil _ _, SubV.agg ⟨SubV.nil _ _, SubV.nil _ _, trivial⟩, SubV.nil _ _, trivial⟩) rfl ?_
    refine ret m_wbeg_ok [] ?_; exact zfn
set_option maxHeartbeats 8000000 in
theorem rbeg_fn (fs ins : List (List Int)) (c r : List Int) (hd : fs.length ≤ 1000) (hx : ∀ x ∈ fs, x.length ≤ 100000) (hi : ins.length ≤ 1000) (hw : ∀ x ∈ ins, x.length ≤ 100000) (hc : c.length ≤ 1000000) (hr : r.length ≤ 1000000) : Fnc Try.prog 9 [wssV fs, wssV ins, owV c, owV r] (fun x obs => x = .tup [outsV (sBegin fs ins c r).1, .int .i64 (sBegin fs ins c r).2] ∧ obs = []) := by
  refine Fnc.low ?_
  have fn := rnew_fn fs hd (fun x h => by have := hx x h; omega)
  have fi := copyinG_fr ins hi hw
  by_cases h : okNew fs
  · rw [sNew_T h] at fn
    have fv := roval_fn ⟨c, r, ins, ⟨fs.map numC, eight⟩, []⟩
    cases e : valO ⟨c, r, ins, ⟨fs.map numC, eight⟩, []⟩ with
    | true =>
      rw [e] at fv
      rw [sBegin_T h e]
      refine Fnc.intro m_obeg_ok (by simp) fun W S => ?_
      unfold m_obeg
      simp only [ents, Nat.zero_add, Nat.reduceAdd]
      refine zst ?_
      (first | refine callD (fn) ?_ | refine callDw (fn) ?_); simp only [go_sem]
      refine zst ?_
      (first | refine callD (fi) ?_ | refine callDw (fi) ?_); simp only [go_sem]
      refine zst ?_
      (first | refine callD (fv) ?_ | refine callDw (fv) ?_); simp only [go_sem]
      refine zst ?_
      refine ev_obSub 0 (.agg [_, _, _, _, .sl false 3 []]) rfl (SubV.agg ⟨SubV.refl _, SubV.refl _, SubV.refl _, SubV.refl _, SubV.nil _ _, trivial⟩) rfl ?_
      refine ret m_obeg_ok [] ?_; exact zfn
    | false =>
      rw [e] at fv
      rw [sBegin_G h e, noO_V]
      refine Fnc.intro m_obeg_ok (by simp) fun W S => ?_
      unfold m_obeg
      simp only [ents, Nat.zero_add, Nat.reduceAdd]
      refine zst ?_
      (first | refine callD (fn) ?_ | refine callDw (fn) ?_); simp only [go_sem]
      refine zst ?_
      (first | refine callD (fi) ?_ | refine callDw (fi) ?_); simp only [go_sem]
      refine zst ?_
      (first | refine callD (fv) ?_ | refine callDw (fv) ?_); simp only [go_sem]
      refine zst ?_
      refine ev_obSub 0 (.agg [.sl false 1 [], .sl false 1 [], .sl false 1 [], .agg [.sl false 1 [], .sl false 3 []], .sl false 3 []]) rfl (SubV.agg ⟨SubV.nil _ _, SubV.nil _ _, SubV.nil _ _, SubV.agg ⟨SubV.nil _ _, SubV.nil _ _, trivial⟩, SubV.nil _ _, trivial⟩) rfl ?_
      refine ret m_obeg_ok [] ?_; exact zfn
  · rw [sNew_F h] at fn
    rw [sBegin_F h, noO_V]
    refine Fnc.intro m_obeg_ok (by simp) fun W S => ?_
    unfold m_obeg
    simp only [ents, Nat.zero_add, Nat.reduceAdd]
    refine zst ?_
    (first | refine callD (fn) ?_ | refine callDw (fn) ?_); simp only [go_sem]
    refine zst ?_
    refine ev_obSub 0 (.agg [.sl false 1 [], .sl false 1 [], .sl false 1 [], .agg [.sl false 1 [], .sl false 3 []], .sl false 3 []]) rfl (SubV.agg ⟨SubV.nil _ _, SubV.nil _ _, SubV.nil _ _, SubV.agg ⟨SubV.nil _ _, SubV.nil _ _, trivial⟩, SubV.nil _ _, trivial⟩) rfl ?_
    refine ret m_obeg_ok [] ?_; exact zfn
set_option maxHeartbeats 8000000 in
theorem rsao_eq (o : Rdn.Outside) : Fnc Try.prog 10 [outsV o, outsV o] (fun x obs => x = .bool true ∧ obs = []) := by
  refine Fnc.wf fun hw => ?_
  have hm : ∀ k, k < o.inputs.length → o.inputs[k]!.length ≤ 140737488355328 := fun k hk => by
    have := hw.1
    simp only [V.wf, V.wfs, wfs_map] at this
    have := this.2.2.1.1 _ (mem_at hk)
    simp only [slV', V.wf, List.length_map] at this
    exact this.2
  simp only [V.wfs, V.wf, wfs_map, List.length_map] at hw
  have m1 := hw.1.1.2
  have m2 := hw.1.2.1.2
  have m3 := hw.1.2.2.1.2
  have m4 := hw.1.2.2.2.2.1.2
  clear hw
  have f1 := samew_fn o.clock m1
  have f2 := samew_fn o.random m2
  have f3 := rsamf_fn o.files o.files
  have f4 := rsameo_fn o.outputs o.outputs
  rw [decT rfl] at f3
  rw [eqB_T rfl] at f4
  refine Fnc.intro m_rsao_ok (by simp) fun W S => ?_
  unfold m_rsao
  simp only [ents, Nat.zero_add, Nat.reduceAdd]
  refine zst ?_
  (first | refine callD (f1) ?_ | refine callDw (f1) ?_); simp only [go_sem]
  refine zst ?_
  (first | refine callD (f2) ?_ | refine callDw (f2) ?_); simp only [go_sem]
  refine zst ?_
  (first | refine callD (f3) ?_ | refine callDw (f3) ?_); simp only [go_sem]
  refine zst ?_
  (first | refine callD (f4) ?_ | refine callDw (f4) ?_); simp only [go_sem]
  refine zst ?_
  refine ev_loopK [2, 3, 47] (fun p : {p : Nat // p ≤ o.inputs.length} => [(48, .int .i64 p.1)]) (fun _ => [⟨.box false 31, true, 0, outsV o⟩, ⟨.box false 31, true, 0, outsV o⟩]) (fun p => o.inputs.length - p.1) (⟨0, by simp⟩) 2 (by simp only [go_sem]; rfl) ?_ (by first | rfl | (simp only [go_sem]; done)) (by simp) (by first | rfl | (simp only [go_sem]; done)) (by first | rfl | (simp only [go_sem]; done)) (by first | rfl | (simp only [go_sem]; done)) ?_
  · (simp only [go_sem]; (try simp []); done)
  intro J hJ
  rintro ⟨k, hk0⟩
  by_cases hlt : k < o.inputs.length
  · have f5 := samew_fn o.inputs[k]! (hm k hlt)
    refine zst ?_
    (first | refine callD (f5) ?_ | refine callDw (f5) ?_); simp only [go_sem]
    refine zst ?_
    refine ev_next 2 (hJ _ (⟨k + 1, hlt⟩) (by first | omega | (dsimp only; omega) | (simp; omega))) rfl (by simp) ?_ (by first | rfl | (simp only [go_sem]; done)) (by first | rfl | (simp only [go_sem]; done) | (simp only [hlt]; (try simp only [go_sem]); first | done | rfl)) ?_
    · exact zna hlt
    · exact znb hlt
  · obtain rfl : k = o.inputs.length := by omega
    refine zst ?_
    refine ret m_rsao_ok [] ?_; exact zfn
end Go.Proofs.Ytkfpcgkmemfdaaa
