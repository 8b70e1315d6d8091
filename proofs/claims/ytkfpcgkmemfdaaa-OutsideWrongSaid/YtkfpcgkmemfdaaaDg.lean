/- A function's contract out of the walk through its body. Over any program. -/
import Derived.Test.YtkfpcgkmemfdaaaDf
namespace Rdn.Dp
open Go Go.RowKit Rdn
set_option linter.unusedVariables false
section
variable (P : Program)
def compRV : ResultVar → Option POp
  | .tmp t => some (.mov (.t t))
  | .cell a T => match P.underlying T, P.info? T with
    | some d, some i => some (.load (agD d) i.size (.t a))
    | _, _ => none
def compRVs : List ResultVar → Option (List POp)
  | [] => some []
  | r :: l => match compRV P r, compRVs l with
    | some m, some ms => some (m :: ms)
    | _, _ => none
/-- A function: how many slots, its body, its results. -/
def compF (f : FuncId) : Option (Nat × MC × List POp) := match P.funcs[f]? with
  | some fn => match fn.body with
    | some c => match comp P fn.ntmps c, compRVs P fn.results.toList with
      | some m, some rs => some (fn.ntmps, m, rs)
      | _, _ => none
    | none => none
  | none => none
end
def allV (σ : AS) : List POp → List V × Prop
  | [] => ([], True)
  | m :: ms => ((aopP σ m).1 :: (allV σ ms).1, (aopP σ m).2 ∧ (allV σ ms).2)
def retV (σ : AS) : List POp → V × Prop
  | [m] => aopP σ m
  | ms => (.tup (allV σ ms).1, (allV σ ms).2)
def ents : Nat → List V → List (Nat × V)
  | _, [] => []
  | i, x :: l => (i, x) :: ents (i + 1) l
section
variable {P : Program} {cx : Cx} {E : Env} {σ : AS} {a : Act} {w : World}
theorem rv_sound (R : Rel cx E σ a w) {r : ResultVar} {m : POp} (hc : compRV P r = some m) (h : (aopP σ m).2) :
    ∃ z, (match r with | .tmp t => pure (a.tmps.getD t undef) | .cell b T => do loadVar T (← asAddr (a.tmps.getD b undef)) : Sem Value).run P w = .ok z w ∧ RdT E w (aopP σ m).1 z := by
  cases r with
  | tmp t =>
    simp only [compRV, Option.some.injEq] at hc
    subst hc
    exact ⟨_, rfl, R.tm t⟩
  | cell b T =>
    simp only [compRV] at hc
    split at hc
    · rename_i h1 h2
      cases hc
      obtain ⟨z, k1, k2⟩ := load_sound (P := P) R h1 h2 (R.tm b) h
      refine ⟨z, ?_, k2⟩
      have key : ∀ p : Value, (Instr.loadAt T p).run P w = .ok z w → (do loadVar T (← asAddr p) : Sem Value).run P w = .ok z w := by
        intro p hp
        cases p with
        | pointer q =>
          cases q with
          | none => simp [Instr.loadAt, Instr.sureAddr] at hp
          | some q => simpa [Instr.loadAt, Instr.sureAddr, asAddr] using hp
        | _ => simp [Instr.loadAt, Instr.sureAddr] at hp
      exact key _ k1
    · cases hc
theorem rvs_sound (R : Rel cx E σ a w) : ∀ {l : List ResultVar} {ms : List POp}, compRVs P l = some ms → (allV σ ms).2 →
    ∃ zs, (l.mapM fun r => (match r with | .tmp t => pure (a.tmps.getD t undef) | .cell b T => do loadVar T (← asAddr (a.tmps.getD b undef)) : Sem Value)).run P w = .ok zs w ∧ RdTs E w (allV σ ms).1 zs ∧ zs.length = l.length ∧ ms.length = l.length
  | [], ms, hc, _ => by
    simp only [compRVs, Option.some.injEq] at hc
    subst hc
    exact ⟨[], by simp, by simp [allV, RdTs], rfl, rfl⟩
  | r :: l, ms, hc, h => by
    simp only [compRVs] at hc
    split at hc
    · rename_i m ms' h1 h2
      cases hc
      simp only [allV] at h ⊢
      obtain ⟨z, k1, k2⟩ := rv_sound R h1 h.1
      obtain ⟨zs, k3, k4, k5, k6⟩ := rvs_sound R h2 h.2
      refine ⟨z :: zs, ?_, ?_, by simp [k5], by simp [k6]⟩
      · rw [List.mapM_cons]
        simp only [Sem.run_bind, k1, Result.andThen_ok, k3, Sem.run_pure]
      · simp only [RdTs]
        exact ⟨z, zs, rfl, k2, k4⟩
    · cases hc
theorem ret_sound (R : Rel cx E σ a w) {fn : Func} {rs : List POp} (hc : compRVs P fn.results.toList = some rs) (h : (retV σ rs).2) : ∃ v, (results fn a.tmps).run P w = .ok v w ∧ RdT E w (retV σ rs).1 v := by
  have hall : (allV σ rs).2 := by
    unfold retV at h
    split at h
    · exact ⟨h, trivial⟩
    · exact h
  obtain ⟨zs, k1, k2, k3, k4⟩ := rvs_sound R hc hall
  have hrun : (results fn a.tmps).run P w = .ok (if h : zs.toArray.size = 1 then zs.toArray[0] else .tuple zs.toArray) w := by
    unfold results
    rw [Array.mapM_eq_mapM_toList]
    simp only [Sem.run_bind, Sem.run_map]
    have : ∀ (g g' : ResultVar → Sem Value), g = g' → (List.mapM g fn.results.toList).run P w = (List.mapM g' fn.results.toList).run P w := fun g g' e => by rw [e]
    rw [this _ (fun r => (match r with | .tmp t => pure (a.tmps.getD t undef) | .cell b T => do loadVar T (← asAddr (a.tmps.getD b undef)) : Sem Value)) (by funext r; cases r <;> rfl), k1]
    simp
  refine ⟨_, hrun, ?_⟩
  unfold retV
  split
  · rename_i m
    simp only [allV, RdTs] at k2
    obtain ⟨v, ys, rfl, k5, rfl⟩ := k2
    simpa using k5
  · rename_i hne
    have : ¬ zs.toArray.size = 1 := by
      intro e
      simp at e
      have : rs.length = 1 := by omega
      obtain ⟨m, rfl⟩ := List.length_eq_one_iff.1 this
      exact hne m rfl
    rw [dif_neg this]
    simp only [RdT]
    exact ⟨zs, rfl, k2⟩
def post (P : Program) (f : FuncId) (W : World) (S : Nat → Prop) (R0 : V → List Ob → Prop) : Exit → Act → World → Prop := fun e a w =>
  ∀ fn, P.funcs[f]? = some fn → bodyPost P fn (fun e w' => ∃ x obs v, R0 x obs ∧ e = .returned v ∧ ResOk W w' S x obs v) e a w
theorem ev_return {f : FuncId} {W : World} {S : Nat → Prop} {R0 : V → List Ob → Prop} {n N : Nat} {m : MC} {rs : List POp} {k : List It} (hc : compF P f = some (n, m, rs)) (ids : List Nat) (hv : (retV σ rs).2) (ho : outOk σ ids) (hp : V.resOk σ (retV σ rs).1)
    (h : R0 ((retV σ rs).1.res σ ids) (outObs σ ids)) : Ev P ⟨W, fun _ => False, S⟩ N (post P f W S R0) (.code .ret :: k) σ := by
  refine ev_ret fun E a w R fn hfn => ?_
  unfold compF at hc
  rw [hfn] at hc
  simp only at hc
  split at hc
  · split at hc
    · rename_i h1 h2
      simp only [Option.some.injEq, Prod.mk.injEq] at hc
      obtain ⟨_, _, rfl⟩ := hc
      obtain ⟨v, k1, k2⟩ := ret_sound R h2 hv
      exact bodyPost_ret k1 R.df ⟨_, _, v, h, rfl, R.out ho k2 hp⟩
    · cases hc
  · cases hc
/-- A function that made a variable returns a pointer to it. -/
theorem ev_returnP {f : FuncId} {W : World} {S : Nat → Prop} {R0 : V → List Ob → Prop} {n N : Nat} {m : MC} {rs : List POp} {k : List It} (hc : compF P f = some (n, m, rs)) (hv : (retV σ rs).2) {r g : Nat} {T : TypeId} {c : V} (hx : (retV σ rs).1 = .ptr r g [] 0) (h0 : σ.ob[r]? = some ⟨.box false T, true, g, c⟩) (hp : c.pure = true)
    (h : R0 (.ptr 0 0 [] 0) [⟨.box false T, true, 0, c⟩]) : Ev P ⟨W, fun _ => False, S⟩ N (post P f W S R0) (.code .ret :: k) σ := by
  refine ev_ret fun E a w R fn hfn => ?_
  unfold compF at hc
  rw [hfn] at hc
  simp only at hc
  split at hc
  · split at hc
    · rename_i h1 h2
      simp only [Option.some.injEq, Prod.mk.injEq] at hc
      obtain ⟨_, _, rfl⟩ := hc
      obtain ⟨v, k1, k2⟩ := ret_sound R h2 hv
      rw [hx] at k2
      exact bodyPost_ret k1 R.df ⟨_, _, v, h, rfl, R.outP h0 hp k2⟩
    · cases hc
  · cases hc
theorem slotV_ents : ∀ (xs : List V) (i j : Nat), slotV (ents i xs) j = if i ≤ j then xs.getD (j - i) .junk else .junk
  | [], i, j => by simp [ents, slotV]
  | x :: xs, i, j => by
    simp only [ents, slotV]
    split
    · rename_i e; subst e; simp
    · rename_i e
      rw [slotV_ents xs (i + 1) j]
      by_cases h : i + 1 ≤ j
      · rw [if_pos h, if_pos (by omega), show j - i = (j - (i + 1)) + 1 by omega]
        simp
      · rw [if_neg h, if_neg (by omega)]
theorem rdTs_get {E : Env} {w : World} : ∀ {xs : List V} {vs : List Value} (j : Nat), RdTs E w xs vs → RdT E w (xs.getD j .junk) (vs.getD j undef)
  | [], vs, j, h => by simp only [List.getD_nil, RdT]
  | x :: xs, vs, j, h => by
    simp only [RdTs] at h
    obtain ⟨v, ys, rfl, h1, h2⟩ := h
    cases j with
    | zero => simpa using h1
    | succ j => simpa using rdTs_get j h2
theorem rdTs_len {E : Env} {w : World} : ∀ {xs : List V} {vs : List Value}, RdTs E w xs vs → vs.length = xs.length
  | [], vs, h => by simp only [RdTs] at h; simp [h]
  | x :: xs, vs, h => by
    simp only [RdTs] at h
    obtain ⟨v, ys, rfl, h1, h2⟩ := h
    simp [rdTs_len h2]
theorem Fnc.intro {f : FuncId} {n : Nat} {m : MC} {rs : List POp} {xs : List V} {R0 : V → List Ob → Prop} (hc : compF P f = some (n, m, rs)) (hx : xs.length ≤ n)
    (h : ∀ W S, Ev P ⟨W, fun _ => False, S⟩ n (post P f W S R0) [.code m] ⟨n, ents 0 xs, []⟩) : Fnc P f xs R0 := by
  intro W S vs hS hvs
  have hc' := hc
  unfold compF at hc
  split at hc
  · rename_i fn hfn
    split at hc
    · rename_i c hb
      split at hc
      · rename_i h1 h2
        simp only [Option.some.injEq, Prod.mk.injEq] at hc
        obtain ⟨rfl, rfl, rfl⟩ := hc
        refine calls_of_wp hfn hb ?_
        have hl := rdTs_len hvs
        have L : Leads (argS S) W ⟨S, fun b => W.heap.size ≤ b, []⟩ W := ⟨fun b hb => ⟨hb, rfl⟩, fun _ h => h.elim, by simp [argS], fun r g u hr => by simp [argS] at hr⟩
        have R : Rel ⟨W, fun _ => False, S⟩ ⟨S, fun b => W.heap.size ≤ b, []⟩ ⟨fn.ntmps, ents 0 xs, []⟩ { tmps := vs.toArray ++ Array.replicate (fn.ntmps - vs.toArray.size) undef, defers := [] } W := by
          refine ⟨rfl, by simp [hl]; omega, fun j => ?_, rfl, fun r o hr => by simp at hr, fun r r' o o' g g' u u' b _ hr => by simp at hr, hS, fun b => Iff.rfl, fun b hb _ => hb, Keep.refl _ _⟩
          rw [slotV_ents, if_pos (Nat.zero_le _), Nat.sub_zero]
          have := (rdTs_get j hvs).mono L
          by_cases hj : j < vs.length
          · have e : (vs.toArray ++ Array.replicate (fn.ntmps - vs.toArray.size) undef).getD j undef = vs.getD j undef := by
              simp [Array.getD_eq_getD_getElem?, Array.getElem?_append, hj]
            rw [e]; exact this
          · have e : xs.getD j .junk = .junk := by simp [List.getD_eq_getElem?_getD, List.getElem?_eq_none (show xs.length ≤ j by omega)]
            simp only
            rw [e]
            simp only [RdT]
        have := (h W S).h rfl _ _ _ R
        rw [wpS_code] at this
        refine wp_mono (this c h1) fun e a w hq => ?_
        cases e with
        | normal => simp only [onX, wpS] at hq; exact hq fn hfn
        | exit id => simp only [onX, exitS] at hq; exact hq fn hfn
        | goto l => exact hq fn hfn
        | ret => exact hq fn hfn
        | panic c => exact hq fn hfn
        | outgrown => exact hq fn hfn
      · cases hc
    · cases hc
  · cases hc
end
end Rdn.Dp
