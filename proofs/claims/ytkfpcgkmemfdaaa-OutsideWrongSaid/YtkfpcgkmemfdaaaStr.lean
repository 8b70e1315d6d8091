/- string(b) of a slice of bytes. Over any program. -/
import Derived.Test.YtkfpcgkmemfdaaaMem
import Derived.Test.YtkfpcgkmemfdaaaRel
import Derived.Laws.BytesArg
namespace Rdn
open Go Go.RowKit
set_option linter.unusedVariables false

theorem run_str {P : Program} {S : Nat → Prop} {w : World} {l : List Int} {v : Value} (src e dst : TypeId) (hs : P.underlying src = some (.slice e)) (he : P.underlying e = some (.int .u8)) (hd : P.underlying dst = some .string)
    (h : SlV (Sh.int .u8) S w l v) : (convert src dst v).run P w = .ok (.string (strOfNums l)) w := by
  obtain ⟨A, c, rfl, hc, hm⟩ := h.shape
  by_cases h0 : 0 < l.length
  · obtain ⟨g, o, rfl, _, _, _, _⟩ := ints_at h h0
    refine run_convert_bytes_arg w src e hs he g o l.length c l rfl (fun i hi => ?_) dst hd
    obtain ⟨g', o', e1, _, _, hx, _⟩ := ints_at h hi
    injection e1 with e1
    injection e1 with e1 e2
    subst e1 e2
    rw [hx]
    simp [List.getD, List.getElem?_eq_getElem hi]
  · have : l = [] := List.eq_nil_of_length_eq_zero (by omega)
    subst this
    cases A with
    | none => exact run_convert_bytes_nil w src e hs he _ _ dst hd
    | some a =>
      rw [run_convert_bytes_string w src dst e _ _ _ hs he hd]
      exact run_bytesToString w a 0 c [] (by simp [loadCells, loadCellsFrom])
theorem relAt_str {P : Program} {S : Nat → Prop} {w : World} {l : List Int} {v : Value} {o : Oper} {a : Act} {T : Value → World → Prop} (x : Operand) (src e dst : TypeId)
    (ho : o.op = .convert src dst x) (hs : P.underlying src = some (.slice e)) (he : P.underlying e = some (.int .u8)) (hd : P.underlying dst = some .string)
    (hx : a.eval x = v) (h : SlV (Sh.int .u8) S w l v) (hT : T (.string (strOfNums l)) w) : relAt P o a w T := by
  have hr := run_str (P := P) src e dst hs he hd h
  unfold relAt execOp
  simp only [ho, Sem.run_bind, Sem.run_pure, Result.andThen_ok, hx, hr, relUpon]
  exact hT
end Rdn
