/- A region that draws its order, over trees: worked out in the order of the text; operations that touch the same object must be ordered. Over any program. -/
import Derived.Test.YtkfpcgkmemfdaaaDl
namespace Rdn.Dp
open Go Go.RowKit Rdn
set_option linter.unusedVariables false

/-- What an operation has yielded: its number, its slot, its value, whether it was left out, the objects that it touches, the one that it writes. -/
structure En where
  j : Nat
  d : Option Nat
  x : V
  s : Bool
  fp : List Nat
  wr : Option (Nat × Ob)
def tOf (b : List Nat) : List En → List (Nat × V) → List (Nat × V)
  | [], t => t
  | ⟨_, none, _, _, _, _⟩ :: l, t => tOf b l t
  | ⟨j, some d, x, s, _, _⟩ :: l, t => (d, if (s || b.contains j) = true then x else .junk) :: tOf b l t
def tAll : List En → List (Nat × V) → List (Nat × V)
  | [], t => t
  | ⟨_, none, _, _, _, _⟩ :: l, t => tAll l t
  | ⟨_, some d, x, _, _, _⟩ :: l, t => (d, x) :: tAll l t
/-- The objects, with all writes done. -/
def obA : List En → List Ob → List Ob
  | [], ob => ob
  | e :: l, ob => match e.wr with
    | some (r, o) => (obA l ob).set r o
    | none => obA l ob
/-- The objects, with the writes done of the operations that were run. -/
def obG (g : Nat → Option Value) : List En → List Ob → List Ob
  | [], ob => ob
  | e :: l, ob => match e.wr with
    | some (r, o) => if (g e.j).isSome = true then (obG g l ob).set r o else obG g l ob
    | none => obG g l ob
theorem obA_len : ∀ (l : List En) (ob : List Ob), (obA l ob).length = ob.length
  | [], ob => rfl
  | e :: l, ob => by unfold obA; split <;> simp [obA_len l ob]
theorem obG_len (g : Nat → Option Value) : ∀ (l : List En) (ob : List Ob), (obG g l ob).length = ob.length
  | [], ob => rfl
  | e :: l, ob => by
    unfold obG
    split
    · split <;> simp [obG_len g l ob]
    · exact obG_len g l ob
theorem obG_none {g : Nat → Option Value} (h : ∀ j, g j = none) : ∀ (l : List En) (ob : List Ob), obG g l ob = ob
  | [], ob => rfl
  | e :: l, ob => by
    unfold obG
    split
    · rw [h]; exact obG_none h l ob
    · exact obG_none h l ob
theorem get_set {l m : List Ob} {r q : Nat} {o : Ob} (hl : l.length = m.length) (h : l[q]? = m[q]?) : (l.set r o)[q]? = (m.set r o)[q]? := by
  by_cases e : r = q
  · subst e
    simp only [List.getElem?_set, hl, if_true]
  · rw [List.getElem?_set_ne e, List.getElem?_set_ne e, h]
/-- Where all writers were run. -/
theorem obG_all {g : Nat → Option Value} {q : Nat} : ∀ {l : List En} {ob : List Ob}, (∀ e ∈ l, ∀ o, e.wr = some (q, o) → (g e.j).isSome = true) → (obG g l ob)[q]? = (obA l ob)[q]?
  | [], ob, h => rfl
  | e :: l, ob, h => by
    have ih := obG_all (g := g) (q := q) (l := l) (ob := ob) (fun e' he => h e' (by simp [he]))
    unfold obG obA
    cases hw : e.wr with
    | none => exact ih
    | some p =>
      obtain ⟨r, o⟩ := p
      by_cases er : r = q
      · subst er
        simp only [h e (by simp) o hw, if_true]
        exact get_set (by rw [obG_len, obA_len]) ih
      · simp only
        rw [List.getElem?_set_ne er]
        split
        · rw [List.getElem?_set_ne er]; exact ih
        · exact ih
/-- Where no writer was run. -/
theorem obG_app {g : Nat → Option Value} {q : Nat} : ∀ {m l : List En} {ob : List Ob}, (∀ e ∈ m, ∀ o, e.wr = some (q, o) → g e.j = none) → (obG g (m ++ l) ob)[q]? = (obG g l ob)[q]?
  | [], l, ob, h => rfl
  | e :: m, l, ob, h => by
    have ih := obG_app (g := g) (q := q) (m := m) (l := l) (ob := ob) (fun e' he => h e' (by simp [he]))
    rw [List.cons_append]
    have hd : obG g (e :: (m ++ l)) ob = match e.wr with
      | some (r, o) => if (g e.j).isSome = true then (obG g (m ++ l) ob).set r o else obG g (m ++ l) ob
      | none => obG g (m ++ l) ob := rfl
    rw [hd]
    cases hw : e.wr with
    | none => exact ih
    | some p =>
      obtain ⟨r, o⟩ := p
      by_cases er : r = q
      · subst er
        simp only [h e (by simp) o hw, Option.isSome_none, Bool.false_eq_true, if_false]
        exact ih
      · simp only
        split
        · rw [List.getElem?_set_ne er, ih]
        · rw [ih]
theorem upo_obG_ne {g : Nat → Option Value} {i : Nat} {u : Value} : ∀ {l : List En} {ob : List Ob}, (∀ e ∈ l, e.j = i → e.wr = none) → obG (Gho.upo g i u) l ob = obG g l ob
  | [], ob, h => rfl
  | e :: l, ob, h => by
    have ih := upo_obG_ne (g := g) (i := i) (u := u) (l := l) (ob := ob) (fun e' he => h e' (by simp [he]))
    unfold obG
    cases hw : e.wr with
    | none => exact ih
    | some p =>
      obtain ⟨r, o⟩ := p
      have hne : e.j ≠ i := fun e1 => by rw [h e (by simp) e1] at hw; cases hw
      simp only [Gho.upo_ne g u hne, ih]
theorem upo_obG_set {g : Nat → Option Value} {i : Nat} {u : Value} {r : Nat} {o : Ob} {ei : En} (hi : ei.j = i) (hw : ei.wr = some (r, o)) (hn : g i = none) {pre : List En} (hp : ∀ e ∈ pre, e.j ≠ i) {ob : List Ob} : ∀ {more : List En}, (∀ e ∈ more, e.j ≠ i) → (∀ e ∈ more, ∀ o', e.wr = some (r, o') → g e.j = none) →
    obG (Gho.upo g i u) (more ++ (ei :: pre)) ob = (obG g (more ++ (ei :: pre)) ob).set r o
  | [], _, _ => by
    have h1 := upo_obG_ne (g := g) (i := i) (u := u) (l := pre) (ob := ob) (fun e he e1 => absurd e1 (hp e he))
    simp only [List.nil_append]
    unfold obG
    simp only [hw, hi, Gho.upo_same, hn, Option.isSome_some, Option.isSome_none, if_true, Bool.false_eq_true, if_false]
    rw [h1]
  | e :: more, h1, h2 => by
    have ih := upo_obG_set (g := g) (i := i) (u := u) hi hw hn hp (ob := ob) (more := more) (fun e he => h1 e (by simp [he])) (fun e he => h2 e (by simp [he]))
    rw [List.cons_append]
    unfold obG
    cases hwe : e.wr with
    | none => exact ih
    | some p =>
      obtain ⟨r', o'⟩ := p
      simp only [Gho.upo_ne g u (h1 e (by simp))]
      by_cases hx : (g e.j).isSome = true
      · have hr : r' ≠ r := fun er => by rw [h2 e (by simp) o' (by rw [hwe, er])] at hx; cases hx
        simp only [hx, if_true, ih]
        rw [List.set_comm _ _ (Ne.symm hr)]
      · simp only [hx, if_false, ih, Bool.false_eq_true]
/-! ### What hangs on what -/
def X.slots : X → List Nat
  | .t s => [s]
  | .c _ => []
def okS (b : List Nat) (s : Nat) : List (Nat × Option Nat) → Bool
  | [] => true
  | (j, d) :: ds => if d = some s then b.contains j else okS b s ds
def depX (b : List Nat) (ds : List (Nat × Option Nat)) (xs : List X) : Bool := xs.all fun x => x.slots.all fun s => okS b s ds
def xsK : RK → List X
  | .p m => xsP m
  | .m m => xsM m
  | .call _ xs => xs
  | .callv x xs => x :: xs
def depL (B : List (List Nat)) : List RO → Nat → List (Nat × Option Nat) → Bool
  | [], _, _ => true
  | r :: l, i, ds => (bk B i).all (fun j => decide (j < i)) && (depX (bk B i) ds (xsK r.k) && depL B l (i + 1) ((i, r.d) :: ds))
def dsOf (pre : List En) : List (Nat × Option Nat) := pre.map fun e => (e.j, e.d)
theorem okS_eq {b : List Nat} {s : Nat} {t0 : List (Nat × V)} : ∀ {pre : List En}, okS b s (dsOf pre) = true → slotV (tOf b pre t0) s = slotV (tAll pre t0) s
  | [], h => rfl
  | ⟨j, none, x, sk, fp, wr⟩ :: l, h => by
    simp only [tOf, tAll]
    refine okS_eq ?_
    simpa [dsOf, okS] using h
  | ⟨j, some d, x, sk, fp, wr⟩ :: l, h => by
    simp only [tOf, tAll, slotV]
    simp only [dsOf, List.map_cons, okS, Option.some.injEq] at h
    by_cases e : d = s
    · rw [if_pos e] at h ⊢
      rw [if_pos e]
      have h : j ∈ b := by simpa using h
      simp [h]
    · rw [if_neg e] at h ⊢
      rw [if_neg e]
      exact okS_eq h
theorem depX_eq {b : List Nat} {pre : List En} {xs : List X} (h : depX b (dsOf pre) xs = true) {N : Nat} {t0 : List (Nat × V)} {ob ob' : List Ob} : ∀ x ∈ xs, X.ev ⟨N, tAll pre t0, ob⟩ x = X.ev ⟨N, tOf b pre t0, ob'⟩ x := by
  intro x hx
  cases x with
  | c v => rfl
  | t s =>
    have := List.all_eq_true.1 h _ hx
    simp only [X.slots, List.all_cons, List.all_nil, Bool.and_true] at this
    exact (okS_eq this).symm
/-- Two operations of which neither must be first touch nothing that the other one writes. -/
def Conf (B : List (List Nat)) (preF : List En) : Prop := ∀ e ∈ preF, ∀ e' ∈ preF, e'.j < e.j → e.s = false → e'.s = false → (bk B e.j).contains e'.j = true ∨ ((∀ r o, e'.wr = some (r, o) → r ∉ e.fp) ∧ (∀ r o, e.wr = some (r, o) → r ∉ e'.fp))
section
variable (P : Program) (N : Nat) (t0 : List (Nat × V)) (ob0 : List Ob) (B : List (List Nat)) (preF : List En)
def wrOf (σ σ' : AS) (m : MOp) : Option (Nat × Ob) := match tgtM σ m with
  | some r => (σ'.ob[r]?).map fun o => (r, o)
  | none => none
/-- The region's operations, one after the other. -/
inductive Ok : List RO → Nat → List En → Prop where
  | nil {i : Nat} {pre : List En} (h1 : pre = preF) : Ok [] i pre
  | skip {r : RO} {l : List RO} {i : Nat} {pre : List En} (hw : wants ⟨N, tAll pre t0, []⟩ r.gd = some false) (h : Ok l (i + 1) (⟨i, r.d, .tup [], true, [], none⟩ :: pre)) : Ok (r :: l) i pre
  | p {d : Option Nat} {gd : Option (Nat × Bool)} {m : POp} {l : List RO} {i : Nat} {pre : List En} (hw : wants ⟨N, tAll pre t0, []⟩ gd = some true) (hd : depX (bk B i) (dsOf pre) (xsP m) = true) (hc : (aopP ⟨N, tAll pre t0, obA pre ob0⟩ m).2)
      (h : Ok l (i + 1) (⟨i, d, (aopP ⟨N, tAll pre t0, obA pre ob0⟩ m).1, false, fpP ⟨N, tAll pre t0, obA pre ob0⟩ m, none⟩ :: pre)) : Ok (⟨d, gd, .p m⟩ :: l) i pre
  | f {d : Option Nat} {gd : Option (Nat × Bool)} {m : MOp} {l : List RO} {i : Nat} {pre : List En} (hw : wants ⟨N, tAll pre t0, []⟩ gd = some true) (hd : depX (bk B i) (dsOf pre) (xsM m) = true) (hc : (aopF ⟨N, tAll pre t0, obA pre ob0⟩ m).2)
      (h : Ok l (i + 1) (⟨i, d, (aopF ⟨N, tAll pre t0, obA pre ob0⟩ m).1, false, fpM ⟨N, tAll pre t0, obA pre ob0⟩ m, none⟩ :: pre)) : Ok (⟨d, gd, .m m⟩ :: l) i pre
  | w {d : Option Nat} {gd : Option (Nat × Bool)} {m : MOp} {l : List RO} {i : Nat} {pre : List En} (hw : wants ⟨N, tAll pre t0, []⟩ gd = some true) (hd : depX (bk B i) (dsOf pre) (xsM m) = true) (hW : isW ⟨N, tAll pre t0, obA pre ob0⟩ m = true) (hc : (aopM ⟨N, tAll pre t0, obA pre ob0⟩ m).2.2)
      (h : Ok l (i + 1) (⟨i, d, (aopM ⟨N, tAll pre t0, obA pre ob0⟩ m).1, false, fpM ⟨N, tAll pre t0, obA pre ob0⟩ m, wrOf ⟨N, tAll pre t0, obA pre ob0⟩ (aopM ⟨N, tAll pre t0, obA pre ob0⟩ m).2.1 m⟩ :: pre)) : Ok (⟨d, gd, .m m⟩ :: l) i pre
  | c {d : Option Nat} {gd : Option (Nat × Bool)} {m : MOp} {l : List RO} {i : Nat} {pre : List En} (nx : Nat) (hw : wants ⟨N, tAll pre t0, []⟩ gd = some true) (hd : depX (bk B i) (dsOf pre) (xsM m) = true) (hn : (obA pre ob0)[nx]? = some resv) (hc : (aopC ⟨N, tAll pre t0, obA pre ob0⟩ nx m).2.2)
      (h : Ok l (i + 1) (⟨i, d, (aopC ⟨N, tAll pre t0, obA pre ob0⟩ nx m).1, false, nx :: fpM ⟨N, tAll pre t0, obA pre ob0⟩ m, some (nx, (aopC ⟨N, tAll pre t0, obA pre ob0⟩ nx m).2.1)⟩ :: pre)) : Ok (⟨d, gd, .m m⟩ :: l) i pre
  | call {d : Option Nat} {gd : Option (Nat × Bool)} {f : FuncId} {xs : List X} {l : List RO} {i : Nat} {pre : List En} (ys : List V) (x : V) (hF : Fnc P f ys fun y obs => y = x ∧ obs = []) (hw : wants ⟨N, tAll pre t0, []⟩ gd = some true) (hd : depX (bk B i) (dsOf pre) xs = true)
      (hok : V.ressOk ⟨N, tAll pre t0, obA pre ob0⟩ (xs.map (X.ev ⟨N, tAll pre t0, obA pre ob0⟩))) (ht : noTup (xs.map (X.ev ⟨N, tAll pre t0, obA pre ob0⟩))) (hs : Subs (V.lows (V.ress ⟨N, tAll pre t0, obA pre ob0⟩ [] (xs.map (X.ev ⟨N, tAll pre t0, obA pre ob0⟩)))) ys) (hx : V.pureT x = true) (hq : newOr (xs.map (X.ev ⟨N, tAll pre t0, obA pre ob0⟩)) x [])
      (h : Ok l (i + 1) (⟨i, d, x, false, V.idss (xs.map (X.ev ⟨N, tAll pre t0, obA pre ob0⟩)), none⟩ :: pre)) : Ok (⟨d, gd, .call f xs⟩ :: l) i pre
  | callV {d : Option Nat} {gd : Option (Nat × Bool)} {f : FuncId} {x0 : X} {xs : List X} {cs : List V} {l : List RO} {i : Nat} {pre : List En} (ys : List V) (x : V) (hF : Fnc P f ys fun y obs => y = x ∧ obs = []) (hf : okF P f = true) (hv : calleeV (X.ev ⟨N, tAll pre t0, obA pre ob0⟩ x0) = some (f, cs)) (hw : wants ⟨N, tAll pre t0, []⟩ gd = some true) (hd : depX (bk B i) (dsOf pre) (x0 :: xs) = true)
      (hok : V.ressOk ⟨N, tAll pre t0, obA pre ob0⟩ (xs.map (X.ev ⟨N, tAll pre t0, obA pre ob0⟩) ++ cs)) (ht : noTup (xs.map (X.ev ⟨N, tAll pre t0, obA pre ob0⟩) ++ cs)) (hs : Subs (V.lows (V.ress ⟨N, tAll pre t0, obA pre ob0⟩ [] (xs.map (X.ev ⟨N, tAll pre t0, obA pre ob0⟩) ++ cs))) ys) (hx : V.pureT x = true) (hq : newOr (xs.map (X.ev ⟨N, tAll pre t0, obA pre ob0⟩) ++ cs) x [])
      (h : Ok l (i + 1) (⟨i, d, x, false, V.idss (xs.map (X.ev ⟨N, tAll pre t0, obA pre ob0⟩) ++ cs), none⟩ :: pre)) : Ok (⟨d, gd, .callv x0 xs⟩ :: l) i pre
  | callR {d : Option Nat} {gd : Option (Nat × Bool)} {f : FuncId} {xs : List X} {l : List RO} {i : Nat} {pre : List En} (nx : Nat) (ys : List V) (e s : Nat) (qs : List V) (hF : Fnc P f ys fun y obs => y = .own 0 0 ∧ obs = [⟨.row e, true, 0, .arr s qs⟩]) (hw : wants ⟨N, tAll pre t0, []⟩ gd = some true) (hd : depX (bk B i) (dsOf pre) xs = true) (hn : (obA pre ob0)[nx]? = some resv)
      (hok : V.ressOk ⟨N, tAll pre t0, obA pre ob0⟩ (xs.map (X.ev ⟨N, tAll pre t0, obA pre ob0⟩))) (ht : noTup (xs.map (X.ev ⟨N, tAll pre t0, obA pre ob0⟩))) (hs : Subs (V.lows (V.ress ⟨N, tAll pre t0, obA pre ob0⟩ [] (xs.map (X.ev ⟨N, tAll pre t0, obA pre ob0⟩)))) ys) (hp : V.pures qs = true) (hq : newOr (xs.map (X.ev ⟨N, tAll pre t0, obA pre ob0⟩)) (.own 0 0) [⟨.row e, true, 0, .arr s qs⟩])
      (h : Ok l (i + 1) (⟨i, d, .own nx 1, false, nx :: V.idss (xs.map (X.ev ⟨N, tAll pre t0, obA pre ob0⟩)), some (nx, ⟨.row e, true, 1, .arr s qs⟩)⟩ :: pre)) : Ok (⟨d, gd, .call f xs⟩ :: l) i pre
  | callN {d : Option Nat} {gd : Option (Nat × Bool)} {f : FuncId} {xs : List X} {l : List RO} {i : Nat} {pre : List En} (ids : List Nat) (ys : List V) (x : V) (hF : Fnc P f ys fun y obs => y = x ∧ obs = []) (hw : wants ⟨N, tAll pre t0, []⟩ gd = some true) (hd : depX (bk B i) (dsOf pre) xs = true)
      (hA : ∀ σ' : AS, (∀ q ∈ ids, σ'.ob[q]? = (obA pre ob0)[q]?) → ∀ {cx : Cx} {E : Env} {a : Act} {w : World} {vs : List Value}, Rel cx E σ' a w → RdTs E w (xs.map (X.ev ⟨N, tAll pre t0, obA pre ob0⟩)) vs → RdTs (argE w) w ys vs) (hx : V.pureT x = true) (hq : x.fresh = true)
      (h : Ok l (i + 1) (⟨i, d, x, false, ids, none⟩ :: pre)) : Ok (⟨d, gd, .call f xs⟩ :: l) i pre
  | callM {d : Option Nat} {gd : Option (Nat × Bool)} {f : FuncId} {xs : List X} {l : List RO} {i : Nat} {pre : List En} (r g : Nat) (ws ys : List V) (q : Bool) (T : TypeId) (dc d0 d' x : V) (hF : FncM P f T d0 ys fun y obs c => y = x ∧ obs = [] ∧ c = d') (hw : wants ⟨N, tAll pre t0, []⟩ gd = some true) (hd : depX (bk B i) (dsOf pre) xs = true)
      (hx : xs.map (X.ev ⟨N, tAll pre t0, obA pre ob0⟩) = .ptr r g [] 0 :: ws) (hob : (obA pre ob0)[r]? = some ⟨.box q T, true, g, dc⟩) (hdp : dc.pure = true) (hdl : dc.low = d0) (hwp : V.pures ws = true) (hys : V.lows ws = ys) (hp : V.pureT x = true)
      (h : Ok l (i + 1) (⟨i, d, x, false, [r], some (r, ⟨.box q T, true, g, d'⟩)⟩ :: pre)) : Ok (⟨d, gd, .call f xs⟩ :: l) i pre
end
section
variable {P : Program} {N : Nat} {t0 : List (Nat × V)} {ob0 : List Ob} {B : List (List Nat)} {preF : List En}
theorem Ok.ext {l : List RO} {i : Nat} {pre : List En} (h : Ok P N t0 ob0 B preF l i pre) : ∃ more, preF = more ++ pre ∧ (∀ e ∈ more, i ≤ e.j) := by
  have key : ∀ {i : Nat} {pre : List En} {e : En}, e.j = i → (∃ more, preF = more ++ (e :: pre) ∧ (∀ e ∈ more, i + 1 ≤ e.j)) → ∃ more, preF = more ++ pre ∧ (∀ e ∈ more, i ≤ e.j) := by
    rintro i pre e he ⟨more, h1, h2⟩
    refine ⟨more ++ [e], by rw [h1]; simp, fun x hx => ?_⟩
    rcases List.mem_append.1 hx with hx | hx
    · have := h2 x hx; omega
    · simp at hx; subst hx; omega
  induction h with
  | nil h1 => subst h1; exact ⟨[], rfl, by simp⟩
  | skip _ _ ih => exact key rfl ih
  | p _ _ _ _ ih => exact key rfl ih
  | f _ _ _ _ ih => exact key rfl ih
  | w _ _ _ _ _ ih => exact key rfl ih
  | c _ _ _ _ _ _ ih => exact key rfl ih
  | call _ _ _ _ _ _ _ _ _ _ _ ih => exact key rfl ih
  | callV _ _ _ _ _ _ _ _ _ _ _ _ _ ih => exact key rfl ih
  | callR _ _ _ _ _ _ _ _ _ _ _ _ _ _ _ ih => exact key rfl ih
  | callN _ _ _ _ _ _ _ _ _ _ ih => exact key rfl ih
  | callM _ _ _ _ _ _ _ _ _ _ _ _ _ _ _ _ _ _ _ _ _ ih => exact key rfl ih
/-! ### Any order -/
def frS (F : List (Nat × Value)) : List En → Value → Value → Nat → Prop
  | [], v, v0, _ => v = v0
  | ⟨_, none, _, _, _, _⟩ :: l, v, v0, s => frS F l v v0 s
  | ⟨j, some d, _, sk, _, _⟩ :: l, v, v0, s => if d = s then (if sk = true then v = undef else ∃ u, (j, u) ∈ F ∧ v = u) else frS F l v v0 s
theorem frS_mono {F F' : List (Nat × Value)} (hF : ∀ x ∈ F, x ∈ F') : ∀ {pre : List En} {v v0 : Value} {s : Nat}, frS F pre v v0 s → frS F' pre v v0 s
  | [], _, _, _, h => h
  | ⟨_, none, _, _, _, _⟩ :: l, v, v0, s, h => frS_mono hF (pre := l) h
  | ⟨j, some d, _, sk, _, _⟩ :: l, v, v0, s, h => by
    simp only [frS] at h ⊢
    split
    · rename_i e
      rw [if_pos e] at h
      split
      · rename_i e2; rw [if_pos e2] at h; exact h
      · rename_i e2
        rw [if_neg e2] at h
        obtain ⟨u, h1, h2⟩ := h
        exact ⟨u, hF _ h1, h2⟩
    · rename_i e
      rw [if_neg e] at h
      exact frS_mono hF h
structure Fr (N : Nat) (a0 : Act) (pre : List En) (F : List (Nat × Value)) (a : Act) : Prop where
  df : a.defers = []
  n : a.tmps.size = N
  s : ∀ s, frS F pre (a.tmps.getD s undef) (a0.tmps.getD s undef) s
theorem put_df (a : Act) (d : Option Nat) (v : Value) : (a.put d v).defers = a.defers := by cases d <;> rfl
theorem put_n (a : Act) (d : Option Nat) (v : Value) : (a.put d v).tmps.size = a.tmps.size := by cases d <;> simp [Act.put]
theorem Fr.put {a0 a : Act} {pre : List En} {F : List (Nat × Value)} (h : Fr N a0 pre F a) {i : Nat} {d : Option Nat} {x : V} {u : Value} {fp : List Nat} {wr : Option (Nat × Ob)} (hd : ∀ s, d = some s → s < N) : Fr N a0 (⟨i, d, x, false, fp, wr⟩ :: pre) ((i, u) :: F) (a.put d u) := by
  refine ⟨by rw [put_df]; exact h.df, by rw [put_n]; exact h.n, fun s => ?_⟩
  have hs := frS_mono (F' := (i, u) :: F) (fun x hx => by simp [hx]) (h.s s)
  cases d with
  | none => exact hs
  | some d =>
    simp only [frS]
    rw [getD_put a d u s (by rw [h.n]; exact hd d rfl)]
    split
    · simp
    · exact hs
theorem Fr.skip {a0 a : Act} {pre : List En} {F : List (Nat × Value)} (h : Fr N a0 pre F a) {i : Nat} {d : Option Nat} (hd : ∀ s, d = some s → s < N) : Fr N a0 (⟨i, d, .tup [], true, [], none⟩ :: pre) F (a.put d undef) := by
  refine ⟨by rw [put_df]; exact h.df, by rw [put_n]; exact h.n, fun s => ?_⟩
  have hs := h.s s
  cases d with
  | none => exact hs
  | some d =>
    simp only [frS]
    rw [getD_put a d undef s (by rw [h.n]; exact hd d rfl)]
    split
    · simp
    · exact hs
theorem tup_undef {E : Env} {w : World} : RdT E w (.tup []) undef := by simp only [RdT, RdTs]; exact ⟨[], rfl, rfl⟩
theorem mask_rd {E : Env} {w : World} {F : List (Nat × Value)} {b : List Nat} : ∀ {pre : List En} {v v0 : Value} {s : Nat}, frS F pre v v0 s → (∀ e ∈ pre, e.s = false → ∀ u, (e.j, u) ∈ F → b.contains e.j = true → RdT E w e.x u) → (∀ e ∈ pre, e.s = true → e.x = .tup []) → RdT E w (slotV t0 s) v0 → RdT E w (slotV (tOf b pre t0) s) v
  | [], v, v0, s, h, _, _, h0 => by simp only [frS] at h; subst h; exact h0
  | ⟨_, none, _, _, _, _⟩ :: l, v, v0, s, h, h1, h2, h0 => by
    simp only [frS] at h
    simp only [tOf]
    exact mask_rd h (fun e he => h1 e (by simp [he])) (fun e he => h2 e (by simp [he])) h0
  | ⟨j, some d, x, sk, fp, wr⟩ :: l, v, v0, s, h, h1, h2, h0 => by
    simp only [frS] at h
    simp only [tOf, slotV]
    split
    · rename_i e
      rw [if_pos e] at h
      cases sk with
      | true =>
        simp only [if_true] at h
        have hx : x = .tup [] := h2 ⟨j, some d, x, true, fp, wr⟩ (by simp) rfl
        subst h hx
        simp only [Bool.true_or, if_true]
        exact tup_undef
      | false =>
        simp only [Bool.false_eq_true, if_false] at h
        obtain ⟨u, hu, rfl⟩ := h
        split
        · rename_i hb
          exact h1 ⟨j, some d, x, false, fp, wr⟩ (by simp) rfl _ hu (by simpa using hb)
        · simp only [RdT]
    · rename_i e
      rw [if_neg e] at h
      exact mask_rd h (fun e he => h1 e (by simp [he])) (fun e he => h2 e (by simp [he])) h0
theorem all_rd {Pd : V → Value → Prop} {F : List (Nat × Value)} : ∀ {pre : List En} {v v0 : Value} {s : Nat}, frS F pre v v0 s → (∀ e ∈ pre, e.s = false → ∀ u, (e.j, u) ∈ F → Pd e.x u) → (∀ e ∈ pre, e.s = true → Pd e.x undef) → Pd (slotV t0 s) v0 → Pd (slotV (tAll pre t0) s) v
  | [], v, v0, s, h, _, _, h0 => by simp only [frS] at h; subst h; exact h0
  | ⟨_, none, _, _, _, _⟩ :: l, v, v0, s, h, h1, h2, h0 => by
    simp only [frS] at h
    simp only [tAll]
    exact all_rd h (fun e he => h1 e (by simp [he])) (fun e he => h2 e (by simp [he])) h0
  | ⟨j, some d, x, sk, fp, wr⟩ :: l, v, v0, s, h, h1, h2, h0 => by
    simp only [frS] at h
    simp only [tAll, slotV]
    split
    · rename_i e
      rw [if_pos e] at h
      cases sk with
      | true =>
        simp only [if_true] at h
        subst h
        exact h2 ⟨j, some d, x, true, fp, wr⟩ (by simp) rfl
      | false =>
        simp only [Bool.false_eq_true, if_false] at h
        obtain ⟨u, hu, rfl⟩ := h
        exact h1 ⟨j, some d, x, false, fp, wr⟩ (by simp) rfl _ hu
    · rename_i e
      rw [if_neg e] at h
      exact all_rd h (fun e he => h1 e (by simp [he])) (fun e he => h2 e (by simp [he])) h0
structure CofE (cx : Cx) (N : Nat) (t0 : List (Nat × V)) (ob0 : List Ob) (B : List (List Nat)) (preF : List En) (a0 : Act) (g : Nat → Option Value) (w : World) (E : Env) : Prop where
  r : Rel cx E ⟨N, t0, obG g preF ob0⟩ a0 w
  x : ∀ e ∈ preF, e.s = false → ∀ u, g e.j = some u → RdT E w e.x u
  c : ∀ e ∈ preF, e.s = false → (g e.j).isSome = true → ∀ e' ∈ preF, e'.s = false → (bk B e.j).contains e'.j = true → (g e'.j).isSome = true
def Cof (cx : Cx) (N : Nat) (t0 : List (Nat × V)) (ob0 : List Ob) (B : List (List Nat)) (preF : List En) (a0 : Act) (g : Nat → Option Value) (w : World) : Prop := ∃ E, CofE cx N t0 ob0 B preF a0 g w E
def ShE (x : V) (u : Value) : Prop := (∀ b, x = .bool b → u = .bool b) ∧ (x = .tup [] → u = .tuple #[])
theorem ShE.ex (x : V) : ∃ u, ShE x u := by
  cases x with
  | bool b => exact ⟨.bool b, fun c h => (by cases h; rfl), fun h => (by cases h)⟩
  | tup l => exact ⟨.tuple #[], fun c h => (by cases h), fun _ => rfl⟩
  | _ => exact ⟨undef, fun c h => (by cases h), fun h => (by cases h)⟩
theorem ShE.of {E : Env} {w : World} {x : V} {u : Value} (h : RdT E w x u) : ShE x u := by
  refine ⟨fun b e => ?_, fun e => ?_⟩
  · rw [e] at h; exact rd_bool h
  · rw [e] at h
    simp only [RdT, RdTs] at h
    obtain ⟨vs, h1, rfl⟩ := h
    exact h1
def Shf (preF : List En) (i : Nat) (u : Value) : Prop := ∀ e ∈ preF, e.j = i → e.s = false → ShE e.x u
/-- Where the walk stands. -/
structure Std (N : Nat) (preF : List En) (a0 : Act) (i : Nat) (pre : List En) (F : List (Nat × Value)) (a : Act) : Prop where
  lt : ∀ e ∈ pre, e.j < i
  sk : ∀ e ∈ pre, e.s = true → e.x = .tup []
  fr : Fr N a0 pre F a
  inF : ∀ e ∈ pre, e.s = false → ∃ u, (e.j, u) ∈ F
  sh : ∀ x ∈ F, Shf preF x.1 x.2
section
variable {cx : Cx} {a0 a : Act} {i : Nat} {pre : List En} {F : List (Nat × Value)} {g : Nat → Option Value} {w : World}
theorem rel_at (S : Std N preF a0 i pre F a) {E : Env} (hC : CofE cx N t0 ob0 B preF a0 g w E) (hF : ∀ x ∈ F, x.1 ∈ bk B i → g x.1 = some x.2) (hsub : ∀ e ∈ pre, e ∈ preF) : Rel cx E ⟨N, tOf (bk B i) pre t0, obG g preF ob0⟩ a w := by
  have R := hC.r
  exact ⟨S.fr.df, S.fr.n, fun s => mask_rd (S.fr.s s) (fun e he hs u hu hb => hC.x e (hsub e he) hs u (hF _ hu (by simpa using hb))) S.sk (R.tm s), R.len, R.ob, R.sep, R.lt, R.fr, R.old, R.keep⟩
theorem late_at {E : Env} (hC : CofE cx N t0 ob0 B preF a0 g w E) (hn : g i = none) (hcf : Conf B preF) {ei : En} (hj : ei.j = i) (hs : ei.s = false) {more : List En} (hpre : preF = more ++ (ei :: pre)) (hmore : ∀ e ∈ more, i + 1 ≤ e.j)
    (hsk : ∀ e ∈ preF, e.s = true → e.wr = none) {q : Nat} (hq : q ∈ ei.fp) : ∀ e ∈ more, ∀ o, e.wr = some (q, o) → g e.j = none := by
  intro e he o ho
  have hei : ei ∈ preF := by rw [hpre]; simp
  have hin : e ∈ preF := by rw [hpre]; simp [he]
  have hes : e.s = false := by
    cases h : e.s with
    | false => rfl
    | true => rw [hsk e hin h] at ho; cases ho
  have hlt := hmore e he
  rcases hcf e hin ei hei (by omega) hes hs with h | h
  · cases hg : g e.j with
    | none => rfl
    | some u =>
      have := hC.c e hin hes (by rw [hg]; rfl) ei hei hs h
      rw [hj, hn] at this
      cases this
  · exact absurd hq (h.2 q o ho)
/-- What an operation touches stands as the walk has it. -/
theorem ob_at (S : Std N preF a0 i pre F a) {E : Env} (hC : CofE cx N t0 ob0 B preF a0 g w E) (hn : g i = none) (hF : ∀ x ∈ F, x.1 ∈ bk B i → g x.1 = some x.2) (hcf : Conf B preF) {ei : En} (hj : ei.j = i) (hs : ei.s = false) {more : List En} (hpre : preF = more ++ (ei :: pre)) (hmore : ∀ e ∈ more, i + 1 ≤ e.j)
    (hsk : ∀ e ∈ preF, e.s = true → e.wr = none) : ∀ q ∈ ei.fp, (obA pre ob0)[q]? = (obG g preF ob0)[q]? := by
  intro q hq
  have hei : ei ∈ preF := by rw [hpre]; simp
  have hsub : ∀ e ∈ pre, e ∈ preF := fun e he => by rw [hpre]; simp [he]
  have hmo : ∀ e ∈ more ++ [ei], ∀ o, e.wr = some (q, o) → g e.j = none := by
    intro e he o ho
    rcases List.mem_append.1 he with he | he
    · exact late_at hC hn hcf hj hs hpre hmore hsk hq e he o ho
    · simp at he; subst he; rw [hj]; exact hn
  have h1 : (obG g preF ob0)[q]? = (obG g pre ob0)[q]? := by
    rw [hpre, show more ++ (ei :: pre) = (more ++ [ei]) ++ pre by simp]
    exact obG_app hmo
  rw [h1]
  refine (obG_all (fun e he o ho => ?_)).symm
  have hes : e.s = false := by
    cases h : e.s with
    | false => rfl
    | true => rw [hsk e (hsub e he) h] at ho; cases ho
  have hlt := S.lt e he
  rcases hcf ei hei e (hsub e he) (by omega) hs hes with h | h
  · obtain ⟨u, hu⟩ := S.inF e he hes
    rw [hF _ hu (by rw [hj] at h; simpa using h)]
    rfl
  · exact absurd hq (h.1 q o ho)
theorem next_at (S : Std N preF a0 i pre F a) {E E' : Env} {w' : World} {u : Value} {ei : En} {t' : List (Nat × V)} {ob' : List Ob} (hC : CofE cx N t0 ob0 B preF a0 g w E) (hF : ∀ x ∈ F, x.1 ∈ bk B i → g x.1 = some x.2) (L : Leads E w E' w') (hx : RdT E' w' ei.x u) (R : Rel cx E' ⟨N, t', ob'⟩ a w') (hj : ei.j = i) (hs : ei.s = false) {more : List En} (hpre : preF = more ++ (ei :: pre)) (hmore : ∀ e ∈ more, i + 1 ≤ e.j)
    (hob : obG (Gho.upo g i u) preF ob0 = ob') (hbl : ∀ j ∈ bk B i, j < i) : Cof cx N t0 ob0 B preF a0 (Gho.upo g i u) w' ∧ Shf preF i u := by
  have uniq : ∀ e ∈ preF, e.j = i → e = ei := by
    intro e he hj'
    rw [hpre] at he
    rcases List.mem_append.1 he with he | he
    · have := hmore e he; omega
    · rcases List.mem_cons.1 he with rfl | he
      · rfl
      · have := S.lt e he; omega
  refine ⟨⟨E', ⟨hC.r.df, hC.r.n, fun s => (hC.r.tm s).mono L, ?_, ?_, ?_, R.lt, R.fr, R.old, R.keep⟩, fun e he hs v hv => ?_, fun e he hs hg e' he' hs' hb => ?_⟩, fun e he hj hs => ?_⟩
  · rw [hob]; exact R.len
  · rw [hob]; exact R.ob
  · rw [hob]; exact R.sep
  · by_cases e1 : e.j = i
    · have := uniq e he e1
      subst this
      rw [e1, Gho.upo_same] at hv
      obtain rfl := Option.some.inj hv
      exact hx
    · rw [Gho.upo_ne g u e1] at hv
      exact (hC.x e he hs v hv).mono L
  · by_cases e2 : e'.j = i
    · rw [e2, Gho.upo_same]; rfl
    · rw [Gho.upo_ne g u e2]
      by_cases e1 : e.j = i
      · rw [e1] at hb
        have hlt := hbl e'.j (by simpa using hb)
        have hin : e' ∈ pre := by
          rw [hpre] at he'
          rcases List.mem_append.1 he' with he' | he'
          · have := hmore e' he'; omega
          · rcases List.mem_cons.1 he' with rfl | he'
            · omega
            · exact he'
        obtain ⟨v, hv⟩ := S.inF e' hin hs'
        rw [hF _ hv (by simpa using hb)]
        rfl
      · rw [Gho.upo_ne g u e1] at hg
        exact hC.c e he hs hg e' he' hs' hb
  · have := uniq e he hj
    subst this
    exact ShE.of hx
end
theorem ok_walk {cx : Cx} {k : List It} {Q : Exit → Act → World → Prop} {ops : Array Oper} {a0 : Act} {total : Nat} (hfin : Ev P cx N Q k ⟨N, tAll preF t0, obA preF ob0⟩)
    (hb0 : ∀ s c, slotV t0 s = .bool c → a0.tmps.getD s undef = .bool c) (ht0 : ∀ s, slotV t0 s = .tup [] → a0.tmps.getD s undef = .tuple #[]) (hcf : Conf B preF) (hsk : ∀ e ∈ preF, e.s = true → e.wr = none) (hbl : ∀ i, i < total → ∀ j ∈ bk B i, j < i) {l : List RO} {i : Nat} {pre : List En} (h : Ok P N t0 ob0 B preF l i pre) :
    ∀ (os : List Oper) (F : List (Nat × Value)) (a : Act), compL P N ops os = some l → i + l.length = total → Std N preF a0 i pre F a →
      Gho.relWalk P ops (Cof cx N t0 ob0 B preF a0) (List.range total) (Shf preF) B (fun a w => onX P cx N Q k .normal a w) os i F a := by
  have guard : ∀ {i : Nat} {pre : List En} {F : List (Nat × Value)} {a : Act} {o : Oper} {gd : Option (Nat × Bool)} {b : Bool}, Std N preF a0 i pre F a → (∀ e ∈ pre, e ∈ preF) → compG ops o.guard = some gd → wants ⟨N, tAll pre t0, []⟩ gd = some b → Region.wanted o (yielded ops a.tmps) = b := by
    intro i pre F a o gd b S hsub hg hw
    refine wants_ok' (σ := ⟨N, tAll pre t0, []⟩) (fun s => ?_) (fun s => ?_) hg hw
    · exact all_rd (Pd := fun x v => ∀ c, x = .bool c → v = .bool c) (S.fr.s s) (fun e he hs u hu => (S.sh _ hu e (hsub e he) rfl hs).1) (fun e he hs c hc => by rw [S.sk e he hs] at hc; cases hc) (fun c hc => hb0 s c hc)
    · exact all_rd (Pd := fun x v => x = .tup [] → v = .tuple #[]) (S.fr.s s) (fun e he hs u hu => (S.sh _ hu e (hsub e he) rfl hs).2) (fun e he hs hc => rfl) (fun hc => ht0 s hc)
  have run : ∀ {i : Nat} {pre : List En} {F : List (Nat × Value)} {a : Act} {o : Oper} {os : List Oper} {d : Option Nat} {x : V} {fp : List Nat} {wr : Option (Nat × Ob)} {l : List RO}, Std N preF a0 i pre F a → i + (l.length + 1) = total → (∀ s, d = some s → s < N) → o.dst = d → (∀ r ob, wr = some (r, ob) → r ∈ fp) →
      Region.wanted o (yielded ops a.tmps) = true → Ok P N t0 ob0 B preF l (i + 1) (⟨i, d, x, false, fp, wr⟩ :: pre) →
      (∀ (F' : List (Nat × Value)) (a' : Act), Std N preF a0 (i + 1) (⟨i, d, x, false, fp, wr⟩ :: pre) F' a' → Gho.relWalk P ops (Cof cx N t0 ob0 B preF a0) (List.range total) (Shf preF) B (fun a w => onX P cx N Q k .normal a w) os (i + 1) F' a') →
      (∀ g w E, Rel cx E ⟨N, tOf (bk B i) pre t0, obG g preF ob0⟩ a w → (∀ q ∈ fp, (obA pre ob0)[q]? = (obG g preF ob0)[q]?) → ∀ S : Value → World → Prop, (∀ u w' E' t', Leads E w E' w' → RdT E' w' x u → Rel cx E' ⟨N, t', match wr with | some (r, ob) => (obG g preF ob0).set r ob | none => obG g preF ob0⟩ a w' → S u w') → relAt P o a w S) →
      Gho.relWalk P ops (Cof cx N t0 ob0 B preF a0) (List.range total) (Shf preF) B (fun a w => onX P cx N Q k .normal a w) (o :: os) i F a := by
    intro i pre F a o os d x fp wr l S htot hd hod hwf hw hok ih hop
    obtain ⟨more, hpre, hmore⟩ := hok.ext
    have hsub : ∀ e ∈ pre, e ∈ preF := fun e he => by rw [hpre]; simp [he]
    have uniq : ∀ e ∈ preF, e.j = i → e = ⟨i, d, x, false, fp, wr⟩ := by
      intro e he hj
      rw [hpre] at he
      rcases List.mem_append.1 he with he | he
      · have := hmore e he; omega
      · rcases List.mem_cons.1 he with rfl | he
        · rfl
        · have := S.lt e he; omega
    have shi : ∀ u, ShE x u → Shf preF i u := fun u hu e he hj hs => by rw [uniq e he hj]; exact hu
    unfold Gho.relWalk
    rw [if_pos hw, if_pos (by simp; omega)]
    refine ⟨?_, ?_, ?_⟩
    · obtain ⟨u, hu⟩ := ShE.ex x
      exact ⟨u, shi u hu⟩
    · rintro g w ⟨E, hC⟩ hn hF
      have q1 := rel_at S hC hF hsub
      have q2 := ob_at S hC hn hF hcf (ei := ⟨i, d, x, false, fp, wr⟩) rfl rfl hpre hmore hsk
      refine hop g w E q1 q2 _ (fun u w' E' t' L hx R => ?_)
      refine next_at S hC hF L (ei := ⟨i, d, x, false, fp, wr⟩) hx R rfl rfl hpre hmore ?_ (hbl i (by omega))
      cases hwr : wr with
      | none => exact upo_obG_ne fun e he hj => by rw [uniq e he hj, hwr]
      | some p =>
        obtain ⟨r, ob⟩ := p
        have hla := late_at hC hn hcf (ei := ⟨i, d, x, false, fp, wr⟩) rfl rfl hpre hmore hsk (hwf r ob hwr)
        rw [hpre]
        exact upo_obG_set (i := i) (ei := ⟨i, d, x, false, fp, wr⟩) rfl hwr hn (fun e he hj => by have := S.lt e he; omega) (fun e he hj => by have := hmore e he; omega) hla
    · intro u hu
      rw [hod]
      refine ih _ _ ⟨fun e he => ?_, fun e he hs => ?_, S.fr.put hd, fun e he hs => ?_, fun y hy => ?_⟩
      · rcases List.mem_cons.1 he with rfl | he
        · exact Nat.lt_succ_self _
        · have := S.lt e he; omega
      · rcases List.mem_cons.1 he with rfl | he
        · cases hs
        · exact S.sk e he hs
      · rcases List.mem_cons.1 he with rfl | he
        · exact ⟨u, by simp⟩
        · obtain ⟨v, hv⟩ := S.inF e he hs
          exact ⟨v, by simp [hv]⟩
      · rcases List.mem_cons.1 hy with rfl | hy
        · exact hu
        · exact S.sh y hy
  induction h with
  | nil h1 =>
    rename_i i pre
    intro os F a hc htot S
    cases os with
    | cons o os => simp only [compL] at hc; split at hc <;> cases hc
    | nil =>
      unfold Gho.relWalk
      rintro g w ⟨E, hC⟩ hF
      subst h1
      have hob : obG g pre ob0 = obA pre ob0 := List.ext_getElem? fun q => obG_all fun e he o ho => by
        have hes : e.s = false := by
          cases h : e.s with
          | false => rfl
          | true => rw [hsk e he h] at ho; cases ho
        obtain ⟨u, hu⟩ := S.inF e he hes
        rw [hF _ hu]
        rfl
      have R := hC.r
      rw [hob] at R
      refine hfin.h rfl E a w ⟨S.fr.df, S.fr.n, fun s => ?_, R.len, R.ob, R.sep, R.lt, R.fr, R.old, R.keep⟩
      exact all_rd (Pd := fun x v => RdT E w x v) (S.fr.s s) (fun e he hs u hu => hC.x e he hs u (hF _ hu)) (fun e he hs => by rw [S.sk e he hs]; exact tup_undef) (R.tm s)
  | skip hw h ih =>
    rename_i r l i pre
    intro os F a hc htot S
    obtain ⟨o, os', rfl, c1, c2⟩ := compL_cons hc
    obtain ⟨k1, k2, k3, k4⟩ := compR_some c1
    obtain ⟨more, hpre, hmore⟩ := h.ext
    have hsub : ∀ e ∈ pre, e ∈ preF := fun e he => by rw [hpre]; simp [he]
    unfold Gho.relWalk
    rw [if_neg (by rw [guard S hsub k2 hw]; simp), k3]
    refine ih os' F _ c2 (by simp at htot; omega) ⟨fun e he => ?_, fun e he hs => ?_, S.fr.skip k4, fun e he hs => ?_, S.sh⟩
    · rcases List.mem_cons.1 he with rfl | he
      · exact Nat.lt_succ_self _
      · have := S.lt e he; omega
    · rcases List.mem_cons.1 he with rfl | he
      · rfl
      · exact S.sk e he hs
    · rcases List.mem_cons.1 he with rfl | he
      · cases hs
      · exact S.inF e he hs
  | p hw hd hcc h ih =>
    rename_i d gd m l i pre
    intro os F a hc htot S
    obtain ⟨o, os', rfl, c1, c2⟩ := compL_cons hc
    obtain ⟨k1, k2, k3, k4⟩ := compR_some c1
    obtain ⟨more, hpre, hmore⟩ := h.ext
    have hsub : ∀ e ∈ pre, e ∈ preF := fun e he => by rw [hpre]; simp [he]
    refine run S (by simpa using htot) k4 k3 (fun _ _ h => by cases h) (guard S hsub k2 hw) h (fun F' a' S' => ih os' F' a' c2 (by simp at htot; omega) S') (fun g w E R hq T hT => ?_)
    have hloc := aopP_loc (σ := ⟨N, tAll pre t0, obA pre ob0⟩) (σ' := ⟨N, tOf (bk B i) pre t0, obG g preF ob0⟩) (depX_eq hd) hq
    refine relAt_p (compK_p k1 (fun e => by subst e; exact hcc)) R (by rw [← hloc]; exact hcc) (fun v hv => ?_)
    rw [← hloc] at hv
    exact hT v w E _ (Leads.refl _ _) hv R
  | f hw hd hcc h ih =>
    rename_i d gd m l i pre
    intro os F a hc htot S
    obtain ⟨o, os', rfl, c1, c2⟩ := compL_cons hc
    obtain ⟨k1, k2, k3, k4⟩ := compR_some c1
    obtain ⟨more, hpre, hmore⟩ := h.ext
    have hsub : ∀ e ∈ pre, e ∈ preF := fun e he => by rw [hpre]; simp [he]
    refine run S (by simpa using htot) k4 k3 (fun _ _ h => by cases h) (guard S hsub k2 hw) h (fun F' a' S' => ih os' F' a' c2 (by simp at htot; omega) S') (fun g w E R hq T hT => ?_)
    have hloc := aopF_loc (σ := ⟨N, tAll pre t0, obA pre ob0⟩) (σ' := ⟨N, tOf (bk B i) pre t0, obG g preF ob0⟩) (depX_eq hd) hq (by simp [obA_len, obG_len])
    refine relAt_of (opF_sound (compK_m k1) R (by rw [← hloc]; exact hcc)) (fun v w' E' L hv R' => ?_)
    rw [← hloc] at hv
    exact hT v w' E' _ L hv R'
  | w hw hd hW hcc h ih =>
    rename_i d gd m l i pre
    intro os F a hc htot S
    obtain ⟨o, os', rfl, c1, c2⟩ := compL_cons hc
    obtain ⟨k1, k2, k3, k4⟩ := compR_some c1
    obtain ⟨more, hpre, hmore⟩ := h.ext
    have hsub : ∀ e ∈ pre, e ∈ preF := fun e he => by rw [hpre]; simp [he]
    have hloc0 := aopW_loc (σ := ⟨N, tAll pre t0, obA pre ob0⟩) (σ' := ⟨N, tAll pre t0, obA pre ob0⟩) (fun _ _ => rfl) (fun _ _ => rfl) hW hcc
    refine run S (by simpa using htot) k4 k3 (fun r ob hr => ?_) (guard S hsub k2 hw) h (fun F' a' S' => ih os' F' a' c2 (by simp at htot; omega) S') (fun g w E R hq T hT => ?_)
    · unfold wrOf at hr
      rcases hloc0.2.2 with ⟨e1, _⟩ | ⟨r', o', e1, e2, _⟩
      · rw [e1] at hr; cases hr
      · rw [e1] at hr
        simp only [Option.map_eq_some_iff, Prod.mk.injEq] at hr
        obtain ⟨_, _, rfl, _⟩ := hr
        exact e2
    · have hloc := aopW_loc (σ := ⟨N, tAll pre t0, obA pre ob0⟩) (σ' := ⟨N, tOf (bk B i) pre t0, obG g preF ob0⟩) (depX_eq hd) hq hW hcc
      refine relAt_of (opM_sound (compK_m k1) R hloc.2.1) (fun v w' E' L hv R' => ?_)
      rw [hloc.1] at hv
      have R2 : Rel cx E' ⟨N, [], (aopM ⟨N, tOf (bk B i) pre t0, obG g preF ob0⟩ m).2.1.ob⟩ a w' := ⟨R'.df, S.fr.n, fun s => by simp only [slotV, RdT], R'.len, R'.ob, R'.sep, R'.lt, R'.fr, R'.old, R'.keep⟩
      refine hT v w' E' [] L hv ?_
      rcases hloc.2.2 with ⟨e1, e2, e3⟩ | ⟨r', o', e1, e2, e3, e4, e5⟩
      · rw [e3] at R2
        simpa only [wrOf, e1] using R2
      · rw [e5] at R2
        simp only at e3 e4
        have : (aopM ⟨N, tAll pre t0, obA pre ob0⟩ m).2.1.ob[r']? = some o' := by rw [e4, List.getElem?_set_self e3]
        simpa only [wrOf, e1, this, Option.map_some] using R2
  | c nx hw hd hn hcc h ih =>
    rename_i d gd m l i pre
    intro os F a hc htot S
    obtain ⟨o, os', rfl, c1, c2⟩ := compL_cons hc
    obtain ⟨k1, k2, k3, k4⟩ := compR_some c1
    obtain ⟨more, hpre, hmore⟩ := h.ext
    have hsub : ∀ e ∈ pre, e ∈ preF := fun e he => by rw [hpre]; simp [he]
    refine run S (by simpa using htot) k4 k3 (fun r ob hr => by injection hr with hr; injection hr with hr; subst hr; simp) (guard S hsub k2 hw) h (fun F' a' S' => ih os' F' a' c2 (by simp at htot; omega) S') (fun g w E R hq T hT => ?_)
    have hloc := aopC_loc (nx := nx) (σ := ⟨N, tAll pre t0, obA pre ob0⟩) (σ' := ⟨N, tOf (bk B i) pre t0, obG g preF ob0⟩) (depX_eq hd) (fun q h => hq q (by simp [h])) (by simp [obA_len, obG_len])
    refine relAt_of (opC_sound (nx := nx) (compK_m k1) R (by rw [← hn]; exact (hq nx (by simp)).symm) (by rw [← hloc]; exact hcc)) (fun v w' E' L hv R' => ?_)
    rw [← hloc] at hv R'
    exact hT v w' E' _ L hv R'
  | call ys x hFn hw hd hokk htt hss hxp hnq h ih =>
    rename_i d gd f xs l i pre
    intro os F a hc htot S
    obtain ⟨o, os', rfl, c1, c2⟩ := compL_cons hc
    obtain ⟨k1, k2, k3, k4⟩ := compR_some c1
    obtain ⟨more, hpre, hmore⟩ := h.ext
    have hsub : ∀ e ∈ pre, e ∈ preF := fun e he => by rw [hpre]; simp [he]
    refine run S (by simpa using htot) k4 k3 (fun _ _ h => by cases h) (guard S hsub k2 hw) h (fun F' a' S' => ih os' F' a' c2 (by simp at htot; omega) S') (fun g w E R hq T hT => ?_)
    obtain ⟨as, hxs, hrun⟩ := compK_call k1 a
    unfold relAt
    rw [hrun w]
    have hevs : xs.map (X.ev ⟨N, tAll pre t0, obA pre ob0⟩) = xs.map (X.ev ⟨N, tOf (bk B i) pre t0, obG g preF ob0⟩) := List.map_congr_left (depX_eq hd)
    rw [hevs] at hokk htt hss hq hnq
    have hres := ress_loc (σ := ⟨N, tAll pre t0, obA pre ob0⟩) (σ' := ⟨N, tOf (bk B i) pre t0, obG g preF ob0⟩) [] hq
    rw [hres.1] at hss
    rw [hres.2] at hokk
    obtain ⟨SS, hSS, hargs, hSp⟩ := call_args R hxs hokk htt hss
    refine (hFn w SS _ hSS hargs).mono ?_
    rintro e w' ⟨y, obs, v, ⟨rfl, rfl⟩, rfl, hres⟩
    obtain ⟨E', L, hv, R'⟩ := R.backC hSp hnq hres
    rw [V.shift_pureT _ _ hxp] at hv
    refine ⟨v, rfl, hT v w' E' (tOf (bk B i) pre t0) L hv ?_⟩
    simpa only [List.map_nil, List.append_nil] using R'
  | callV ys x hFn hf hv hw hd hokk htt hss hxp hnq h ih =>
    rename_i d gd f x0 xs cs l i pre
    intro os F a hc htot S
    obtain ⟨o, os', rfl, c1, c2⟩ := compL_cons hc
    obtain ⟨k1, k2, k3, k4⟩ := compR_some c1
    obtain ⟨more, hpre, hmore⟩ := h.ext
    have hsub : ∀ e ∈ pre, e ∈ preF := fun e he => by rw [hpre]; simp [he]
    refine run S (by simpa using htot) k4 k3 (fun _ _ h => by cases h) (guard S hsub k2 hw) h (fun F' a' S' => ih os' F' a' c2 (by simp at htot; omega) S') (fun g w E R hq T hT => ?_)
    obtain ⟨i', as, ats, e1, rfl, hxs⟩ := compK_callv (o := o) k1
    have hevs : xs.map (X.ev ⟨N, tAll pre t0, obA pre ob0⟩) = xs.map (X.ev ⟨N, tOf (bk B i) pre t0, obG g preF ob0⟩) := List.map_congr_left fun y hy => depX_eq hd y (List.mem_cons_of_mem _ hy)
    rw [depX_eq (ob' := obG g preF ob0) hd _ List.mem_cons_self] at hv
    rw [hevs] at hokk htt hss hq hnq
    have hres := ress_loc (σ := ⟨N, tAll pre t0, obA pre ob0⟩) (σ' := ⟨N, tOf (bk B i) pre t0, obG g preF ob0⟩) [] hq
    rw [hres.1] at hss
    rw [hres.2] at hokk
    obtain ⟨us, hu, hus⟩ := callee_rd hv (R.tm i')
    unfold okF at hf
    split at hf
    · rename_i fn hfn
      simp only [Bool.and_eq_true] at hf
      have hr : (execOp a.eval o).run P w = .ok (.enter f (as.map a.eval ++ us.toArray)) w := by
        simp only [execOp, e1, resolve, Act.eval, hu, Deferred.ofValue, Sem.run_bind, Sem.run_pure, Result.andThen_ok, invoke]
        rw [run_callv hfn hf.1 hf.2]
        simp
      unfold relAt
      rw [hr]
      obtain ⟨SS, hSS, hargs, hSp⟩ := call_argsV R ((compXs_rd0 R hxs).app hus) hokk htt hss
      have hC := hFn w SS _ hSS hargs
      have e2 : (as.toList.map a.eval ++ us).toArray = as.map a.eval ++ us.toArray := by
        rw [← Array.toList_map]
        simp
      rw [e2] at hC
      refine hC.mono ?_
      rintro e w' ⟨y, obs, v, ⟨rfl, rfl⟩, rfl, hres⟩
      obtain ⟨E', L, hv, R'⟩ := R.backC hSp hnq hres
      rw [V.shift_pureT _ _ hxp] at hv
      refine ⟨v, rfl, hT v w' E' (tOf (bk B i) pre t0) L hv ?_⟩
      simpa only [List.map_nil, List.append_nil] using R'
    · cases hf
  | callR nx ys e0 s0 qs hFn hw hd hn hokk htt hss hpq hnq h ih =>
    rename_i d gd f xs l i pre
    intro os F a hc htot S
    obtain ⟨o, os', rfl, c1, c2⟩ := compL_cons hc
    obtain ⟨k1, k2, k3, k4⟩ := compR_some c1
    obtain ⟨more, hpre, hmore⟩ := h.ext
    have hsub : ∀ e ∈ pre, e ∈ preF := fun e he => by rw [hpre]; simp [he]
    refine run S (by simpa using htot) k4 k3 (fun r ob hr => by injection hr with hr; injection hr with hr; subst hr; simp) (guard S hsub k2 hw) h (fun F' a' S' => ih os' F' a' c2 (by simp at htot; omega) S') (fun g w E R hq T hT => ?_)
    obtain ⟨as, hxs, hrun⟩ := compK_call k1 a
    unfold relAt
    rw [hrun w]
    have hevs : xs.map (X.ev ⟨N, tAll pre t0, obA pre ob0⟩) = xs.map (X.ev ⟨N, tOf (bk B i) pre t0, obG g preF ob0⟩) := List.map_congr_left (depX_eq hd)
    rw [hevs] at hokk htt hss hq hnq
    have hres := ress_loc (σ := ⟨N, tAll pre t0, obA pre ob0⟩) (σ' := ⟨N, tOf (bk B i) pre t0, obG g preF ob0⟩) [] (fun q h => hq q (List.mem_cons_of_mem _ h))
    rw [hres.1] at hss
    rw [hres.2] at hokk
    obtain ⟨SS, hSS, hargs, hSp⟩ := call_args R hxs hokk htt hss
    refine (hFn w SS _ hSS hargs).mono ?_
    rintro e w' ⟨y, obs, v, ⟨rfl, rfl⟩, rfl, hres⟩
    obtain ⟨E', L, hv, R'⟩ := R.backC hSp hnq hres
    simp only [V.shift, List.map_cons, List.map_nil, Ob.shift, V.shifts_pure _ _ hpq, Nat.add_zero] at hv R'
    obtain ⟨E'', k5, k6, k7⟩ := R.placeRow L hv R' rfl rfl rfl (by rw [← hn]; exact (hq nx (by simp)).symm)
    exact ⟨v, rfl, hT v w' E'' (tOf (bk B i) pre t0) k5 k6 k7⟩
  | callN ids ys x hFn hw hd hA hxp hfr h ih =>
    rename_i d gd f xs l i pre
    intro os F a hc htot S
    obtain ⟨o, os', rfl, c1, c2⟩ := compL_cons hc
    obtain ⟨k1, k2, k3, k4⟩ := compR_some c1
    obtain ⟨more, hpre, hmore⟩ := h.ext
    have hsub : ∀ e ∈ pre, e ∈ preF := fun e he => by rw [hpre]; simp [he]
    refine run S (by simpa using htot) k4 k3 (fun _ _ h => by cases h) (guard S hsub k2 hw) h (fun F' a' S' => ih os' F' a' c2 (by simp at htot; omega) S') (fun g w E R hq T hT => ?_)
    obtain ⟨as, hxs, hrun⟩ := compK_call k1 a
    unfold relAt
    rw [hrun w]
    have hevs : xs.map (X.ev ⟨N, tAll pre t0, obA pre ob0⟩) = xs.map (X.ev ⟨N, tOf (bk B i) pre t0, obG g preF ob0⟩) := List.map_congr_left (depX_eq hd)
    have hr0 := compXs_rd0 R hxs
    rw [← hevs] at hr0
    have hargs := hA _ (fun q h => (hq q h).symm) R hr0
    refine (hFn w (fun b => b < w.heap.size) _ (fun _ h => h) hargs).mono ?_
    rintro e w' ⟨y, obs, v, ⟨rfl, rfl⟩, rfl, hres⟩
    obtain ⟨E', L, hv, R'⟩ := R.backC (ws := [.junk]) (fun h => by simp [V.pures, V.pure] at h) (.inr ⟨hfr, fun o ho => by cases ho⟩) hres
    rw [V.shift_pureT _ _ hxp] at hv
    refine ⟨v, rfl, hT v w' E' (tOf (bk B i) pre t0) L hv ?_⟩
    simpa only [List.map_nil, List.append_nil] using R'
  | callM r g ws ys q T dc d0 d' x hFn hw hd hxs hob hdp hdl hwp hys hp h ih =>
    rename_i d gd f xs l i pre
    intro os F a hc htot S
    obtain ⟨o, os', rfl, c1, c2⟩ := compL_cons hc
    obtain ⟨k1, k2, k3, k4⟩ := compR_some c1
    obtain ⟨more, hpre, hmore⟩ := h.ext
    have hsub : ∀ e ∈ pre, e ∈ preF := fun e he => by rw [hpre]; simp [he]
    refine run S (by simpa using htot) k4 k3 (fun r' ob hr => by injection hr with hr; injection hr with hr; subst hr; simp) (guard S hsub k2 hw) h (fun F' a' S' => ih os' F' a' c2 (by simp at htot; omega) S') (fun g' w E R hq T' hT => ?_)
    obtain ⟨as, hcx, hrun⟩ := compK_call k1 a
    unfold relAt
    rw [hrun w]
    have hevs : xs.map (X.ev ⟨N, tAll pre t0, obA pre ob0⟩) = xs.map (X.ev ⟨N, tOf (bk B i) pre t0, obG g' preF ob0⟩) := List.map_congr_left (depX_eq hd)
    refine (callM_run R hcx hFn (by rw [← hevs]; exact hxs) (by rw [← hob]; exact (hq r (by simp)).symm) hdp hdl hwp hys).mono ?_
    rintro e w' ⟨y, obs, c, v, ⟨rfl, rfl, rfl⟩, rfl, E', L, hv, R'⟩
    rw [V.shift_pureT _ _ hp] at hv
    refine ⟨v, rfl, hT v w' E' (tOf (bk B i) pre t0) L hv ?_⟩
    simpa only [List.map_nil, List.append_nil] using R'
theorem compL_len {ops : Array Oper} : ∀ {os : List Oper} {l : List RO}, compL P N ops os = some l → os.length = l.length
  | [], l, h => by simp only [compL, Option.some.injEq] at h; subst h; rfl
  | o :: os, l, h => by
    simp only [compL] at h
    split at h
    · rename_i h1 h2
      cases h
      simp [compL_len h2]
    · cases h
/-- A region that draws its order. -/
theorem ev_dreg {cx : Cx} {k : List It} {Q : Exit → Act → World → Prop} (hm : P.follows .mixedOrders = true) {l : List RO} (hbl : ∀ i, i < l.length → ∀ j ∈ bk B i, j < i) (h : ∃ preF, Conf B preF ∧ (∀ e ∈ preF, e.s = true → e.wr = none) ∧ Ok P N t0 ob0 B preF l 0 [] ∧ Ev P cx N Q k ⟨N, tAll preF t0, obA preF ob0⟩) : Ev P cx N Q (.code (.dreg l B) :: k) ⟨N, t0, ob0⟩ := by
  obtain ⟨preF, hcf, hsk, hok, hfin⟩ := h
  refine ⟨fun hn E a w R => ?_⟩
  rw [wpS_code]
  intro c hc
  cases c <;> simp only [comp] at hc
  case region id ops draw =>
    split at hc
    · rename_i h1
      cases draw with
      | false => simp at hc
      | true =>
        simp only [if_true] at hc
        split at hc
        · rename_i h2
          simp only [Option.some.injEq, MC.dreg.injEq] at hc
          obtain ⟨rfl, rfl⟩ := hc
          have e : ops = ops.toList.toArray := by simp
          have hcode : Code.region id ops true = Code.region id ops.toList.toArray true := by rw [← e]
          rw [hcode]
          have hlen := compL_len h1
          refine Gho.region (Cof cx N t0 ob0 (relB ops) preF a) (List.range ops.toList.length) (Shf preF) hm (by rw [← e]; exact h2) ⟨E, ⟨by rw [obG_none (fun _ => rfl)]; exact R.drew, fun e he hs u hu => (by cases hu), fun e _ _ hg => (by cases hg)⟩⟩ ?_
          intro C' hC' _
          have hC' := hC'.out
          subst hC'
          rw [← e]
          refine ok_walk hfin (fun s c hs => ?_) (fun s hs => ?_) hcf hsk (fun i hi => hbl i (by rw [← hlen]; exact hi)) hok ops.toList [] a h1 (by rw [Nat.zero_add, hlen]) ⟨fun e he => (by cases he), fun e he => (by cases he), ⟨R.df, by rw [R.n], fun s => rfl⟩, fun e he => (by cases he), fun x hx => (by cases hx)⟩
          · have hr := R.tm s
            rw [show slotV (⟨N, t0, ob0⟩ : AS).t s = .bool c from hs] at hr
            exact rd_bool hr
          · have hr := R.tm s
            rw [show slotV (⟨N, t0, ob0⟩ : AS).t s = .tup [] from hs] at hr
            simp only [RdT, RdTs] at hr
            obtain ⟨vs, h1, rfl⟩ := hr
            exact h1
        · cases hc
    · cases hc
  all_goals (first | cases hc | (split at hc <;> first | cases hc | (split at hc <;> first | cases hc | (split at hc <;> cases hc))) | (simp at hc))
end
end Rdn.Dp
