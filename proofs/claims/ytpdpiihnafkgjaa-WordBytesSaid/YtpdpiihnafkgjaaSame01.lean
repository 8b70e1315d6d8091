/- Contracts of functions that compare two slices element by element. Printed by wip/bin/gen_same.py. -/
import Derived.Test.YtpdpiihnafkgjaaProg
import Derived.Test.YtpdpiihnafkgjaaShapes
import Derived.Test.YtpdpiihnafkgjaaMem
import Derived.Deep.QuietTactic
import Derived.BigQuiet
import Derived.Lib.Hide
namespace Go.Proofs.Ytpdpiihnafkgjaa
open Go Go.RowKit Rdn
set_option linter.unusedVariables false

set_option maxHeartbeats 1000000 in
theorem refsame_any (a b : List Cell) (va vb : Value) (S S' : Nat → Prop) (w : World) (ha : SlV Cell.sh S w a va) (hb : SlV Cell.sh S' w b vb) :
    Calls Try.prog 26 #[va, vb] w fun e w' => e = .returned (.bool (decide (a = b))) ∧ ∃ n, w' = w.drewN n := by
  obtain ⟨A, c, rfl, hc, hm⟩ := ha.shape
  obtain ⟨A', c', rfl, hc', hm'⟩ := hb.shape
  by_cases hlen : a.length = b.length
  · have hne : ((a.length : Int) != (b.length : Int)) = false := by simp [hlen]
    have HL := Lib.hid hlen
    clear hlen
    go_enter Try.func26, Try.ntmps26
    go_wp2_with fail
    clear hne
    go_loopw [13] (fun i wr => ∃ k : Nat, k ≤ a.length ∧ i = .int .i64 k ∧ (∀ j, j < k → a[j]? = b[j]?) ∧ ∃ q, wr = w.drewN q) (fun i _ => a.length - (intOf i).toNat)
    case atStart => exact ⟨0, by omega, rfl, fun j hj => by omega, 0, rfl⟩
    case round =>
      obtain ⟨k, hk, rfl, hall, q, rfl⟩ := hrel
      have HA := Lib.hid hall
      clear hall
      by_cases hlt : k < a.length
      · have hlt' : k < b.length := by have := HL.out; omega
        obtain ⟨g, o, rfl, _, _, x0, x1, _⟩ := Cell.at_ ha hlt
        obtain ⟨g', o', rfl, _, _, y0, y1, _⟩ := Cell.at_ hb hlt'
        by_cases he : a[k] = b[k]
        · have e0 : (a[k].tag == b[k].tag) = true := by simp [he]
          have e1 : (a[k].val == b[k].val) = true := by simp [he]
          have HE := Lib.hid he
          clear he
          go_wp2_with fail
          go_quiet (fail)
          go_wp2_with fail
          go_roundw
          case rel =>
            refine ⟨k + 1, by omega, by go_num, fun j hj => ?_, _, rfl⟩
            by_cases hjk : j = k
            · subst hjk; rw [List.getElem?_eq_getElem hlt, List.getElem?_eq_getElem hlt', HE.out]
            · exact HA.out j (by omega)
          case measure => simp [intOf]; omega
        · have hF := Lib.hid (show decide (a = b) = false by rw [decide_eq_false_iff_not]; intro e; subst e; exact he rfl)
          have hs : (a[k].tag == b[k].tag) = false ∨ (a[k].val == b[k].val) = false := by
            by_cases hh : a[k].tag = b[k].tag ∧ a[k].val = b[k].val
            · exact absurd (by cases h1 : a[k]; cases h2 : b[k]; simp_all) he
            · simp only [beq_eq_false_iff_ne, ne_eq]; omega
          clear he
          obtain ⟨t0, z0⟩ : ∃ t : Bool, (a[k].tag == b[k].tag) = t := ⟨_, rfl⟩
          obtain ⟨t1, z1⟩ : ∃ t : Bool, (a[k].val == b[k].val) = t := ⟨_, rfl⟩
          rw [z0, z1] at hs
          cases t0 <;> cases t1
          all_goals first
            | (exfalso; simp at hs; done)
            | (clear hs; go_wp2_with fail; go_quiet (fail); go_wp2_with fail; go_ret; exact ⟨ret_bool hF.out.symm, by first | exact ⟨_, rfl⟩ | exact ⟨_, World.drewN_drewN _ _ _⟩⟩)
      · obtain rfl : k = a.length := by omega
        go_wp2_with fail
        go_ret
        refine ⟨ret_bool (Eq.symm (decide_eq_true ?_)), (by first | exact ⟨_, rfl⟩ | exact ⟨_, World.drewN_drewN _ _ _⟩)⟩
        apply List.ext_getElem?
        intro j
        by_cases hj : j < a.length
        · exact HA.out j hj
        · rw [List.getElem?_eq_none (by omega), List.getElem?_eq_none (by have := HL.out; omega)]
  · have hne : ((a.length : Int) != (b.length : Int)) = true := by simp; omega
    have hF := Lib.hid (show decide (a = b) = false by rw [decide_eq_false_iff_not]; intro e; exact hlen (by rw [e]))
    clear hlen
    go_enter Try.func26, Try.ntmps26
    go_wp2_with fail
    go_ret
    exact ⟨ret_bool hF.out.symm, 0, rfl⟩

set_option maxHeartbeats 1000000 in
theorem eqcells_any (a b : List Cell) (va vb : Value) (S S' : Nat → Prop) (w : World) (ha : SlV Cell.sh S w a va) (hb : SlV Cell.sh S' w b vb) :
    Calls Try.prog 51 #[va, vb] w fun e w' => e = .returned (.bool (decide (a = b))) ∧ ∃ n, w' = w.drewN n := by
  obtain ⟨A, c, rfl, hc, hm⟩ := ha.shape
  obtain ⟨A', c', rfl, hc', hm'⟩ := hb.shape
  by_cases hlen : a.length = b.length
  · have hne : ((a.length : Int) != (b.length : Int)) = false := by simp [hlen]
    have HL := Lib.hid hlen
    clear hlen
    go_enter Try.func51, Try.ntmps51
    go_wp2_with fail
    clear hne
    go_loopw [13] (fun i wr => ∃ k : Nat, k ≤ a.length ∧ i = .int .i64 k ∧ (∀ j, j < k → a[j]? = b[j]?) ∧ ∃ q, wr = w.drewN q) (fun i _ => a.length - (intOf i).toNat)
    case atStart => exact ⟨0, by omega, rfl, fun j hj => by omega, 0, rfl⟩
    case round =>
      obtain ⟨k, hk, rfl, hall, q, rfl⟩ := hrel
      have HA := Lib.hid hall
      clear hall
      by_cases hlt : k < a.length
      · have hlt' : k < b.length := by have := HL.out; omega
        obtain ⟨g, o, rfl, _, _, x0, x1, _⟩ := Cell.at_ ha hlt
        obtain ⟨g', o', rfl, _, _, y0, y1, _⟩ := Cell.at_ hb hlt'
        by_cases he : a[k] = b[k]
        · have e0 : (a[k].tag == b[k].tag) = true := by simp [he]
          have e1 : (a[k].val == b[k].val) = true := by simp [he]
          have HE := Lib.hid he
          clear he
          go_wp2_with fail
          go_quiet (fail)
          go_wp2_with fail
          go_roundw
          case rel =>
            refine ⟨k + 1, by omega, by go_num, fun j hj => ?_, _, rfl⟩
            by_cases hjk : j = k
            · subst hjk; rw [List.getElem?_eq_getElem hlt, List.getElem?_eq_getElem hlt', HE.out]
            · exact HA.out j (by omega)
          case measure => simp [intOf]; omega
        · have hF := Lib.hid (show decide (a = b) = false by rw [decide_eq_false_iff_not]; intro e; subst e; exact he rfl)
          have hs : (a[k].tag == b[k].tag) = false ∨ (a[k].val == b[k].val) = false := by
            by_cases hh : a[k].tag = b[k].tag ∧ a[k].val = b[k].val
            · exact absurd (by cases h1 : a[k]; cases h2 : b[k]; simp_all) he
            · simp only [beq_eq_false_iff_ne, ne_eq]; omega
          clear he
          obtain ⟨t0, z0⟩ : ∃ t : Bool, (a[k].tag == b[k].tag) = t := ⟨_, rfl⟩
          obtain ⟨t1, z1⟩ : ∃ t : Bool, (a[k].val == b[k].val) = t := ⟨_, rfl⟩
          rw [z0, z1] at hs
          cases t0 <;> cases t1
          all_goals first
            | (exfalso; simp at hs; done)
            | (clear hs; go_wp2_with fail; go_quiet (fail); go_wp2_with fail; go_ret; exact ⟨ret_bool hF.out.symm, by first | exact ⟨_, rfl⟩ | exact ⟨_, World.drewN_drewN _ _ _⟩⟩)
      · obtain rfl : k = a.length := by omega
        go_wp2_with fail
        go_ret
        refine ⟨ret_bool (Eq.symm (decide_eq_true ?_)), (by first | exact ⟨_, rfl⟩ | exact ⟨_, World.drewN_drewN _ _ _⟩)⟩
        apply List.ext_getElem?
        intro j
        by_cases hj : j < a.length
        · exact HA.out j hj
        · rw [List.getElem?_eq_none (by omega), List.getElem?_eq_none (by have := HL.out; omega)]
  · have hne : ((a.length : Int) != (b.length : Int)) = true := by simp; omega
    have hF := Lib.hid (show decide (a = b) = false by rw [decide_eq_false_iff_not]; intro e; exact hlen (by rw [e]))
    clear hlen
    go_enter Try.func51, Try.ntmps51
    go_wp2_with fail
    go_ret
    exact ⟨ret_bool hF.out.symm, 0, rfl⟩

set_option maxHeartbeats 1000000 in
theorem samewords_any (a b : List Int) (va vb : Value) (S S' : Nat → Prop) (w : World) (ha : SlV (Sh.int .u16) S w a va) (hb : SlV (Sh.int .u16) S' w b vb) :
    Calls Try.prog 31 #[va, vb] w fun e w' => e = .returned (.bool (decide (a = b))) ∧ ∃ n, w' = w.drewN n := by
  obtain ⟨A, c, rfl, hc, hm⟩ := ha.shape
  obtain ⟨A', c', rfl, hc', hm'⟩ := hb.shape
  by_cases hlen : a.length = b.length
  · have hne : ((a.length : Int) != (b.length : Int)) = false := by simp [hlen]
    have HL := Lib.hid hlen
    clear hlen
    go_enter Try.func31, Try.ntmps31
    go_wp2_with fail
    clear hne
    go_loopw [13] (fun i wr => ∃ k : Nat, k ≤ a.length ∧ i = .int .i64 k ∧ (∀ j, j < k → a[j]? = b[j]?) ∧ ∃ q, wr = w.drewN q) (fun i _ => a.length - (intOf i).toNat)
    case atStart => exact ⟨0, by omega, rfl, fun j hj => by omega, 0, rfl⟩
    case round =>
      obtain ⟨k, hk, rfl, hall, q, rfl⟩ := hrel
      have HA := Lib.hid hall
      clear hall
      by_cases hlt : k < a.length
      · have hlt' : k < b.length := by have := HL.out; omega
        obtain ⟨g, o, rfl, _, _, x0, _⟩ := ints_at ha hlt
        obtain ⟨g', o', rfl, _, _, y0, _⟩ := ints_at hb hlt'
        by_cases he : a[k] = b[k]
        · have e0 : (a[k] == b[k]) = true := by simp [he]
          have n0 : (a[k] != b[k]) = false := by simp [he]
          have HE := Lib.hid he
          clear he
          go_wp2_with fail
          go_quiet (fail)
          go_wp2_with fail
          go_roundw
          case rel =>
            refine ⟨k + 1, by omega, by go_num, fun j hj => ?_, _, rfl⟩
            by_cases hjk : j = k
            · subst hjk; rw [List.getElem?_eq_getElem hlt, List.getElem?_eq_getElem hlt', HE.out]
            · exact HA.out j (by omega)
          case measure => simp [intOf]; omega
        · have hF := Lib.hid (show decide (a = b) = false by rw [decide_eq_false_iff_not]; intro e; subst e; exact he rfl)
          have n0 : (a[k] != b[k]) = true := by simp [he]
          have e0 : (a[k] == b[k]) = false := by simp [he]
          clear he
          go_wp2_with fail
          go_quiet (fail)
          go_wp2_with fail
          go_ret
          exact ⟨ret_bool hF.out.symm, by first | exact ⟨_, rfl⟩ | exact ⟨_, World.drewN_drewN _ _ _⟩⟩
      · obtain rfl : k = a.length := by omega
        go_wp2_with fail
        go_ret
        refine ⟨ret_bool (Eq.symm (decide_eq_true ?_)), (by first | exact ⟨_, rfl⟩ | exact ⟨_, World.drewN_drewN _ _ _⟩)⟩
        apply List.ext_getElem?
        intro j
        by_cases hj : j < a.length
        · exact HA.out j hj
        · rw [List.getElem?_eq_none (by omega), List.getElem?_eq_none (by have := HL.out; omega)]
  · have hne : ((a.length : Int) != (b.length : Int)) = true := by simp; omega
    have hF := Lib.hid (show decide (a = b) = false by rw [decide_eq_false_iff_not]; intro e; exact hlen (by rw [e]))
    clear hlen
    go_enter Try.func31, Try.ntmps31
    go_wp2_with fail
    go_ret
    exact ⟨ret_bool hF.out.symm, 0, rfl⟩
end Go.Proofs.Ytpdpiihnafkgjaa
