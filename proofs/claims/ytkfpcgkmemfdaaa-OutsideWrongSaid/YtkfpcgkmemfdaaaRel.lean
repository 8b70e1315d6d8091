/- A region that draws its order, whose operations read, make memory, call: one walk in the order of the text serves every order, where what each operation leaves is told by facts that later operations keep. Over any program. -/
import Derived.Test.YtkfpcgkmemfdaaaBase
import Derived.Still
namespace Rdn
open Go Go.RowKit
set_option linter.unusedVariables false

section rel
variable (P : Program) (ops : Array Oper) (C : World → Prop) (T : World → World → Prop) (R : List Nat) (Sh : Nat → Value → Prop) (V : Nat → World → Value → Prop) (B : List (List Nat))

/-- An operation that touches no memory: one value, in the world that it got. -/
def pureUpon (w : World) (v : Value) : Result Next → Prop
  | .ok (.value u) w' => w' = w ∧ u = v
  | .ok .skip w' => w' = w ∧ v = undef
  | _ => False
def pureAt (o : Oper) (a : Act) (w : World) (v : Value) : Prop := pureUpon w v ((execOp a.eval o).run P w)

/-- An operation that yields some value in some world. -/
def relUpon (S : Value → World → Prop) : Result Next → Prop
  | .ok (.value u) w' => S u w'
  | .ok .skip w' => S undef w'
  | .ok (.enter f args) w' => Calls P f args w' fun e w'' => ∃ u, e = .returned u ∧ S u w''
  | _ => False
def relAt (o : Oper) (a : Act) (w : World) (S : Value → World → Prop) : Prop := relUpon P S ((execOp a.eval o).run P w)

def bk (k : Nat) : List Nat := B.getD k []

def relWalk (Q : Act → World → Prop) : List Oper → Nat → List (Nat × (World → Prop)) → Act → Prop
  | [], _, F, a => ∀ w, C w → (∀ x ∈ F, x.2 w) → Q a w
  | o :: l, i, F, a =>
    if Region.wanted o (yielded ops a.tmps) then
      if R.contains i then
        (∃ u, Sh i u) ∧ (∀ w, C w → (∀ x ∈ F, x.1 ∈ bk B i → x.2 w) → relAt P o a w (fun u w' => C w' ∧ T w w' ∧ Sh i u ∧ V i w' u)) ∧
          ∀ u, Sh i u → relWalk Q l (i + 1) ((i, fun w => V i w u) :: F) (a.put o.dst u)
      else ∃ v, (∀ w, C w → pureAt P o a w v) ∧ relWalk Q l (i + 1) F (a.put o.dst v)
    else relWalk Q l (i + 1) F (a.put o.dst undef)

def dstOf (k : Nat) : Option Tmp := (ops[k]?).bind (·.dst)

/-- What is asked of the region's text. -/
def relOk : Bool :=
  Region.noSelect ops && (List.range ops.size).all fun k =>
    match ops[k]? with
    | none => false
    | some o =>
      ((bk B k).all fun m => o.after.any fun e => Region.binds .any e && (e.on == m || (bk B e.on).contains m)) &&
      (o.after.all fun e => !Region.binds .any e || decide (e.on < k)) &&
      ((List.range ops.size).all fun m => match dstOf ops m with
        | none => true
        | some d => (m == k || dstOf ops k != some d) && (!(o.looksAt ops).contains d || m == k || (decide (m < k) && (bk B k).contains m) || (decide (k < m) && (bk B m).contains k)))

/-- The frame behind the first k operations, with these values. -/
def fr (a0 : Act) (val : Nat → Value) : Nat → Act
  | 0 => a0
  | k + 1 => (fr a0 val k).put (dstOf ops k) (val k)
def ff (a0 : Act) (val : Nat → Value) : Nat → List (Nat × (World → Prop))
  | 0 => []
  | k + 1 => if ((ops[k]?).map fun o => Region.wanted o (yielded ops (fr ops a0 val k).tmps) && R.contains k).getD false then (k, fun w => V k w (val k)) :: ff a0 val k else ff a0 val k
/-- Operation k, at these values, is as the walk has it. -/
def at_ (a0 : Act) (val : Nat → Value) (k : Nat) : Prop :=
  ∀ o, ops[k]? = some o →
    if Region.wanted o (yielded ops (fr ops a0 val k).tmps) then (if R.contains k then Sh k (val k) else ∀ w, C w → pureAt P o (fr ops a0 val k) w (val k)) else val k = undef
end rel

def upd (v : Nat → Value) (k : Nat) (u : Value) : Nat → Value := fun i => if i = k then u else v i
theorem upd_same (v : Nat → Value) (k : Nat) (u : Value) : upd v k u k = u := by simp [upd]
theorem upd_ne (v : Nat → Value) {k i : Nat} (u : Value) (h : i ≠ k) : upd v k u i = v i := by simp [upd, h]

theorem put_get (a : Act) (dst : Option Tmp) (v : Value) (t : Nat) : (a.put dst v).tmps[t]? = if dst = some t ∧ t < a.tmps.size then some v else a.tmps[t]? := by
  cases dst with
  | none => simp [Act.put]
  | some d =>
    simp only [Act.put, Option.some.injEq]
    rw [Array.getElem?_setIfInBounds]
    by_cases h : d = t
    · subst h
      by_cases h2 : d < a.tmps.size
      · simp [h2]
      · simp [h2]
    · simp [h]
theorem put_size (a : Act) (dst : Option Tmp) (v : Value) : (a.put dst v).tmps.size = a.tmps.size := by cases dst <;> simp [Act.put]
theorem put_defers (a : Act) (dst : Option Tmp) (v : Value) : (a.put dst v).defers = a.defers := by cases dst <;> rfl

section
variable {P : Program} {ops : Array Oper} {C : World → Prop} {T : World → World → Prop} {R : List Nat} {Sh : Nat → Value → Prop} {V : Nat → World → Value → Prop} {B : List (List Nat)} {a0 : Act}

theorem fr_size (val : Nat → Value) : ∀ k, (fr ops a0 val k).tmps.size = a0.tmps.size
  | 0 => rfl
  | k + 1 => by rw [fr, put_size, fr_size val k]
theorem fr_defers (val : Nat → Value) : ∀ k, (fr ops a0 val k).defers = a0.defers
  | 0 => rfl
  | k + 1 => by rw [fr, put_defers, fr_defers val k]
theorem fr_none {val : Nat → Value} {t : Nat} : ∀ {k}, (∀ m, m < k → dstOf ops m ≠ some t) → (fr ops a0 val k).tmps[t]? = a0.tmps[t]?
  | 0, _ => rfl
  | k + 1, h => by
    rw [fr, put_get, if_neg (fun e => h k (by omega) e.1)]
    exact fr_none fun m hm => h m (by omega)
theorem fr_some {val : Nat → Value} {t m : Nat} (hm : dstOf ops m = some t) (hu : ∀ j, dstOf ops j = some t → j = m) : ∀ {k}, m < k → (fr ops a0 val k).tmps[t]? = if t < a0.tmps.size then some (val m) else none
  | 0, h => by omega
  | k + 1, h => by
    rw [fr, put_get, fr_size]
    by_cases he : dstOf ops k = some t
    · have := hu k he
      subst this
      by_cases hs : t < a0.tmps.size
      · simp [he, hs]
      · simp only [he, hs, and_false, if_false]
        rw [fr_none (fun j hj e => by have := hu j e; omega)]
        exact Array.getElem?_eq_none (Nat.le_of_not_lt hs)
    · rw [if_neg (fun e => he e.1)]
      have : m ≠ k := fun e => he (e ▸ hm)
      exact fr_some hm hu (by omega)
theorem fr_val {val val' : Nat → Value} : ∀ {k}, (∀ m, m < k → val m = val' m) → fr ops a0 val k = fr ops a0 val' k
  | 0, _ => rfl
  | k + 1, h => by rw [fr, fr, fr_val (fun m hm => h m (by omega)), h k (by omega)]
theorem ff_val {val val' : Nat → Value} : ∀ {k}, (∀ m, m < k → val m = val' m) → ff ops R V a0 val k = ff ops R V a0 val' k
  | 0, _ => rfl
  | k + 1, h => by
    rw [ff, ff, ff_val (fun m hm => h m (by omega)), fr_val (fun m hm => h m (by omega)), h k (by omega)]
theorem at_val {val val' : Nat → Value} {k : Nat} (h : ∀ m, m ≤ k → val m = val' m) (ha : at_ P ops C R Sh a0 val k) : at_ P ops C R Sh a0 val' k := by
  intro o ho
  have := ha o ho
  rw [fr_val (fun m hm => h m (by omega)), h k (Nat.le_refl _)] at this
  exact this
theorem mem_ff {val : Nat → Value} : ∀ {k} {x}, x ∈ ff ops R V a0 val k → ∃ j, j < k ∧ x = (j, fun w => V j w (val j)) ∧ R.contains j = true ∧ ∃ o, ops[j]? = some o ∧ Region.wanted o (yielded ops (fr ops a0 val j).tmps) = true
  | 0, x, h => by cases h
  | k + 1, x, h => by
    unfold ff at h
    split at h
    · rename_i hc
      rcases List.mem_cons.1 h with rfl | h
      · cases ho : ops[k]? with
        | none => simp [ho] at hc
        | some o =>
          simp only [ho, Option.map_some, Option.getD_some, Bool.and_eq_true] at hc
          exact ⟨k, by omega, rfl, hc.2, o, ho, hc.1⟩
      · obtain ⟨j, hj, r⟩ := mem_ff h
        exact ⟨j, by omega, r⟩
    · obtain ⟨j, hj, r⟩ := mem_ff h
      exact ⟨j, by omega, r⟩

/-- Where two frames agree on what an operation looks at, it runs alike. -/
theorem run_alike {o : Oper} {a b : Act} (hs : ∀ cs bl, o.op ≠ .select cs bl) (h : ∀ t ∈ o.looksAt ops, a.tmps[t]? = b.tmps[t]?) :
    execOp a.eval o = execOp b.eval o ∧ Region.wanted o (yielded ops a.tmps) = Region.wanted o (yielded ops b.tmps) := by
  constructor
  · refine execOp_congr o hs fun x hx => ?_
    cases x with
    | tmp t =>
      have ht : t ∈ o.looksAt ops := List.mem_append_left _ (List.mem_filterMap.2 ⟨.tmp t, by simpa using hx, rfl⟩)
      have := h t ht
      simp only [Act.eval, Array.getD_eq_getD_getElem?, this]
    | _ => rfl
  · unfold Region.wanted
    cases hg : o.guard with
    | none => rfl
    | some p =>
      obtain ⟨g, want⟩ := p
      simp only []
      congr 1
      unfold yielded
      cases hd : (ops[g]?).bind (·.dst) with
      | none => simp
      | some d =>
        have : d ∈ o.looksAt ops := List.mem_append_right _ (by simp [hg, hd])
        simp only [Option.bind_some, h d this]

theorem dst_lt {m d : Nat} (h : dstOf ops m = some d) : m < ops.size := by
  unfold dstOf at h
  cases ho : ops[m]? with
  | none => simp [ho] at h
  | some o => exact (Array.getElem?_eq_some_iff.1 ho).1

structure Good (ops : Array Oper) (B : List (List Nat)) : Prop where
  sel : Region.noSelect ops = true
  pre : ∀ (k : Nat) (o : Oper), ops[k]? = some o → ∀ m ∈ bk B k, ∃ e ∈ o.after, Region.binds .any e = true ∧ (e.on = m ∨ m ∈ bk B e.on)
  low : ∀ (k : Nat) (o : Oper), ops[k]? = some o → ∀ e ∈ o.after, Region.binds .any e = true → e.on < k
  one : ∀ (k m d : Nat), k < ops.size → dstOf ops m = some d → dstOf ops k = some d → m = k
  look : ∀ (k : Nat) (o : Oper), ops[k]? = some o → ∀ m d, dstOf ops m = some d → d ∈ o.looksAt ops → m = k ∨ (m < k ∧ m ∈ bk B k) ∨ (k < m ∧ k ∈ bk B m)

theorem good_of (h : relOk ops B = true) : Good ops B := by
  unfold relOk at h
  rw [Bool.and_eq_true, List.all_eq_true] at h
  obtain ⟨hs, h⟩ := h
  have key : ∀ (k : Nat) (o : Oper), ops[k]? = some o →
      ((bk B k).all fun m => o.after.any fun e => Region.binds .any e && (e.on == m || (bk B e.on).contains m)) = true ∧
      (o.after.all fun e => !Region.binds .any e || decide (e.on < k)) = true ∧
      ((List.range ops.size).all fun m => match dstOf ops m with
        | none => true
        | some d => (m == k || dstOf ops k != some d) && (!(o.looksAt ops).contains d || m == k || (decide (m < k) && (bk B k).contains m) || (decide (k < m) && (bk B m).contains k))) = true := by
    intro k o ho
    have hk : k < ops.size := (Array.getElem?_eq_some_iff.1 ho).1
    have := h k (List.mem_range.2 hk)
    rw [ho] at this
    simp only [Bool.and_eq_true] at this
    exact ⟨this.1.1, this.1.2, this.2⟩
  refine ⟨hs, ?_, ?_, ?_, ?_⟩
  · intro k o ho m hm
    have h1 := List.all_eq_true.1 (key k o ho).1 m hm
    obtain ⟨e, he, hb⟩ := Array.any_eq_true'.1 h1
    rw [Bool.and_eq_true, Bool.or_eq_true] at hb
    exact ⟨e, he, hb.1, hb.2.imp (fun x => by simpa using x) (fun x => by simpa using x)⟩
  · intro k o ho e he hb
    have h1 := Array.all_eq_true'.1 (key k o ho).2.1 e he
    rw [hb] at h1
    simpa using h1
  · intro k m d hk hm hd
    have ho := Array.getElem?_eq_getElem hk
    have h1 := List.all_eq_true.1 (key k _ ho).2.2 m (List.mem_range.2 (dst_lt hm))
    rw [hm] at h1
    simp only [Bool.and_eq_true, Bool.or_eq_true, hd] at h1
    rcases h1.1 with e | e
    · simpa using e
    · simp at e
  · intro k o ho m d hm hl
    have h1 := List.all_eq_true.1 (key k o ho).2.2 m (List.mem_range.2 (dst_lt hm))
    rw [hm] at h1
    simp only [Bool.and_eq_true, Bool.or_eq_true] at h1
    have hc : (o.looksAt ops).contains d = true := by simpa using hl
    rw [hc] at h1
    rcases h1.2 with ((e | e) | e) | e
    · simp at e
    · exact .inl (by simpa using e)
    · exact .inr (.inl (by simpa using e))
    · exact .inr (.inr (by simpa using e))

theorem Good.nosel (g : Good ops B) {k : Nat} {o : Oper} (ho : ops[k]? = some o) : ∀ cs bl, o.op ≠ .select cs bl := fun cs bl => Region.noSelect_spec g.sel k o cs bl ho
theorem Good.uniq (g : Good ops B) {m t : Nat} (hm : dstOf ops m = some t) : ∀ j, dstOf ops j = some t → j = m := fun j hj => g.one m j t (dst_lt hm) hj hm

/-- What an operation looks at hangs on the values of those that must come before it. -/
theorem Good.agree (g : Good ops B) {k : Nat} {o : Oper} (ho : ops[k]? = some o) {val val' : Nat → Value} (h : ∀ m ∈ bk B k, val m = val' m) :
    ∀ t ∈ o.looksAt ops, (fr ops a0 val k).tmps[t]? = (fr ops a0 val' k).tmps[t]? := by
  intro t ht
  by_cases hw : ∃ m, dstOf ops m = some t
  · obtain ⟨m, hm⟩ := hw
    rcases g.look k o ho m t hm ht with rfl | ⟨hlt, hb⟩ | ⟨hlt, _⟩
    · rw [fr_none (fun j hj e => by have := g.uniq hm j e; omega), fr_none (fun j hj e => by have := g.uniq hm j e; omega)]
    · rw [fr_some hm (g.uniq hm) hlt, fr_some hm (g.uniq hm) hlt, h m hb]
    · rw [fr_none (fun j hj e => by have := g.uniq hm j e; omega), fr_none (fun j hj e => by have := g.uniq hm j e; omega)]
  · rw [fr_none (fun j _ e => hw ⟨j, e⟩), fr_none (fun j _ e => hw ⟨j, e⟩)]

theorem Good.alike (g : Good ops B) {k : Nat} {o : Oper} (ho : ops[k]? = some o) {val val' : Nat → Value} (h : ∀ m ∈ bk B k, val m = val' m) :
    execOp (fr ops a0 val k).eval o = execOp (fr ops a0 val' k).eval o ∧ Region.wanted o (yielded ops (fr ops a0 val k).tmps) = Region.wanted o (yielded ops (fr ops a0 val' k).tmps) :=
  run_alike (g.nosel ho) (g.agree ho h)

theorem at_cong (g : Good ops B) {val val' : Nat → Value} {k : Nat} (h : ∀ m ∈ bk B k, val m = val' m) (hk : val k = val' k) (ha : at_ P ops C R Sh a0 val k) : at_ P ops C R Sh a0 val' k := by
  intro o ho
  have h1 := ha o ho
  obtain ⟨e1, e2⟩ := g.alike (a0 := a0) ho h
  unfold pureAt at *
  rw [e1, e2, hk] at h1
  exact h1

theorem pure_one {o : Oper} {a : Act} {w : World} {u v : Value} (h1 : pureAt P o a w u) (h2 : pureAt P o a w v) : u = v := by
  unfold pureAt at *
  cases hr : (execOp a.eval o).run P w with
  | ok n w' =>
    rw [hr] at h1 h2
    cases n <;> simp only [pureUpon] at h1 h2
    · exact h1.2.symm.trans h2.2
    · exact h1.2.trans h2.2.symm
  | halt x w' => rw [hr] at h1; exact h1.elim

/-- The walk, along values that are as it has them. -/
theorem chain {Q : Act → World → Prop} {w0 : World} (hw0 : C w0) (start : relWalk P ops C T R Sh V B Q ops.toList 0 [] a0) (val : Nat → Value) :
    ∀ k, k ≤ ops.size → (∀ i, i < k → at_ P ops C R Sh a0 val i) → relWalk P ops C T R Sh V B Q (ops.toList.drop k) k (ff ops R V a0 val k) (fr ops a0 val k)
  | 0, _, _ => start
  | k + 1, hk, ha => by
    have ih := chain hw0 start val k (by omega) (fun i hi => ha i (by omega))
    have hlt : k < ops.toList.length := by simp; omega
    rw [List.drop_eq_getElem_cons hlt] at ih
    have ho : ops[k]? = some ops.toList[k] := by rw [← Array.getElem?_toList]; exact List.getElem?_eq_getElem hlt
    have hat := ha k (by omega) _ ho
    have hd : dstOf ops k = (ops.toList[k]).dst := by simp [dstOf, ho]
    unfold relWalk at ih
    rw [ff, fr, hd]
    simp only [ho, Option.map_some, Option.getD_some]
    by_cases hwt : Region.wanted ops.toList[k] (yielded ops (fr ops a0 val k).tmps) = true
    · rw [if_pos hwt] at ih hat
      by_cases hR : R.contains k = true
      · rw [if_pos hR] at ih hat
        rw [if_pos (by rw [hwt, hR]; rfl)]
        exact ih.2.2 _ hat
      · rw [if_neg hR] at ih hat
        rw [if_neg (by rw [hwt]; simpa using hR)]
        obtain ⟨v, hv, hr⟩ := ih
        rw [← pure_one (hv w0 hw0) (hat w0 hw0)]
        exact hr
    · rw [if_neg hwt] at ih hat
      rw [if_neg (fun e => hwt (by rw [Bool.and_eq_true] at e; exact e.1)), hat]
      exact ih

/-- Values of some operations go on to values of all. -/
theorem extend (g : Good ops B) {Q : Act → World → Prop} {w0 : World} (hw0 : C w0) (start : relWalk P ops C T R Sh V B Q ops.toList 0 [] a0) (L : Nat → Prop) (val : Nat → Value)
    (hcl : ∀ i, L i → ∀ m ∈ bk B i, L m) (hat : ∀ i, L i → at_ P ops C R Sh a0 val i) :
    ∀ k, k ≤ ops.size → ∃ val', (∀ i, L i → val i = val' i) ∧ ∀ i, i < k → at_ P ops C R Sh a0 val' i
  | 0, _ => ⟨val, fun _ _ => rfl, fun i hi => by omega⟩
  | k + 1, hk => by
    obtain ⟨val', h1, h2⟩ := extend g hw0 start L val hcl hat k (by omega)
    by_cases hL : L k
    · refine ⟨val', h1, fun i hi => ?_⟩
      by_cases hik : i = k
      · subst hik
        exact at_cong g (fun m hm => h1 m (hcl _ hL m hm)) (h1 _ hL) (hat _ hL)
      · exact h2 i (by omega)
    · have hc := chain hw0 start val' k (by omega) h2
      have hlt : k < ops.toList.length := by simp; omega
      rw [List.drop_eq_getElem_cons hlt] at hc
      have ho : ops[k]? = some ops.toList[k] := by rw [← Array.getElem?_toList]; exact List.getElem?_eq_getElem hlt
      unfold relWalk at hc
      obtain ⟨u, hu⟩ : ∃ u, if Region.wanted ops.toList[k] (yielded ops (fr ops a0 val' k).tmps) then (if R.contains k then Sh k u else ∀ w, C w → pureAt P ops.toList[k] (fr ops a0 val' k) w u) else u = undef := by
        by_cases hwt : Region.wanted ops.toList[k] (yielded ops (fr ops a0 val' k).tmps) = true
        · simp only [if_pos hwt] at hc ⊢
          by_cases hR : R.contains k = true
          · simp only [if_pos hR] at hc ⊢; exact hc.1
          · simp only [if_neg hR] at hc ⊢; exact ⟨hc.choose, hc.choose_spec.1⟩
        · simp only [if_neg hwt]; exact ⟨undef, rfl⟩
      have hsame : ∀ m, m < k → val' m = upd val' k u m := fun m hm => (upd_ne val' u (by omega)).symm
      refine ⟨upd val' k u, fun i hi => ?_, fun i hi => ?_⟩
      · rw [upd_ne val' u (fun e => by rw [e] at hi; exact hL hi)]
        exact h1 i hi
      · by_cases hik : i = k
        · subst hik
          intro o ho'
          rw [ho] at ho'
          obtain rfl := Option.some.inj ho'
          rw [← fr_val hsame, upd_same]
          exact hu
        · exact at_val (fun m hm => hsame m (by omega)) (h2 i (by omega))

/-- Some operations, L, have run: the frame and the world. -/
structure St (P : Program) (ops : Array Oper) (C : World → Prop) (R : List Nat) (Sh : Nat → Value → Prop) (V : Nat → World → Value → Prop) (B : List (List Nat)) (a0 : Act) (L : Nat → Prop) (val : Nat → Value) (a : Act) (w : World) : Prop where
  c : C w
  lt : ∀ i, L i → i < ops.size
  closed : ∀ i, L i → ∀ m ∈ bk B i, L m
  is : ∀ i, L i → at_ P ops C R Sh a0 val i
  fact : ∀ i, L i → ∀ o, ops[i]? = some o → Region.wanted o (yielded ops (fr ops a0 val i).tmps) = true → R.contains i = true → V i w (val i)
  size : a.tmps.size = a0.tmps.size
  defers : a.defers = a0.defers
  new : ∀ i t, L i → dstOf ops i = some t → a.tmps[t]? = if t < a0.tmps.size then some (val i) else none
  old : ∀ t, (∀ i, L i → dstOf ops i ≠ some t) → a.tmps[t]? = a0.tmps[t]?

/-- One operation more. -/
theorem St.step (g : Good ops B) (hT : ∀ w w' i u, T w w' → V i w u → V i w' u) {Q : Act → World → Prop} (start : relWalk P ops C T R Sh V B Q ops.toList 0 [] a0)
    {L : Nat → Prop} {val : Nat → Value} {a : Act} {w : World} (h : St P ops C R Sh V B a0 L val a w) {k : Nat} {o : Oper} (ho : ops[k]? = some o) (hk : ¬ L k) (hb : ∀ m ∈ bk B k, L m)
    {Q' : Exit → Act → World → Prop} {K : Act → World → Prop} (hK : ∀ val' a' w', St P ops C R Sh V B a0 (fun i => L i ∨ i = k) val' a' w' → K a' w') : wpOp P ops Q' k K a w := by
  have hkn : k < ops.size := (Array.getElem?_eq_some_iff.1 ho).1
  obtain ⟨v, hv1, hv2⟩ := extend g h.c start L val h.closed h.is ops.size (Nat.le_refl _)
  have hc := chain h.c start v k (by omega) (fun i hi => hv2 i (by omega))
  have hlt : k < ops.toList.length := by simp; omega
  rw [List.drop_eq_getElem_cons hlt] at hc
  have ho' : ops[k]? = some ops.toList[k] := by rw [← Array.getElem?_toList]; exact List.getElem?_eq_getElem hlt
  rw [ho] at ho'
  have hoe := Option.some.inj ho'
  rw [← hoe] at hc
  unfold relWalk at hc
  have hagree : ∀ t ∈ o.looksAt ops, (fr ops a0 v k).tmps[t]? = a.tmps[t]? := by
    intro t ht
    by_cases hw : ∃ m, dstOf ops m = some t
    · obtain ⟨m, hm⟩ := hw
      have hold : ¬ L m → a.tmps[t]? = a0.tmps[t]? := fun hn => h.old t (fun i hi e => hn (g.uniq hm i e ▸ hi))
      rcases g.look k o ho m t hm ht with rfl | ⟨hlt2, hbm⟩ | ⟨hlt2, hbm⟩
      · rw [fr_none (fun j hj e => by have := g.uniq hm j e; omega), hold hk]
      · rw [fr_some hm (g.uniq hm) hlt2, h.new m t (hb m hbm) hm, hv1 m (hb m hbm)]
      · rw [fr_none (fun j hj e => by have := g.uniq hm j e; omega), hold (fun hL => hk (h.closed m hL k hbm))]
    · rw [fr_none (fun j _ e => hw ⟨j, e⟩), h.old t (fun i _ e => hw ⟨i, e⟩)]
  obtain ⟨e1, e2⟩ := run_alike (g.nosel ho) hagree
  -- what the new state is, whatever the operation yields
  have next : ∀ u w', C w' → (∀ i u, V i w u → V i w' u) → (if Region.wanted o (yielded ops (fr ops a0 v k).tmps) then (if R.contains k then Sh k u ∧ V k w' u else ∀ w, C w → pureAt P o (fr ops a0 v k) w u) else u = undef) →
      St P ops C R Sh V B a0 (fun i => L i ∨ i = k) (upd v k u) (a.put o.dst u) w' := by
    intro u w' hC' hV' hu
    have hsame : ∀ m, m < k → v m = upd v k u m := fun m hm => (upd_ne v u (by omega)).symm
    have hne : ∀ i, L i → i ≠ k := fun i hi e => hk (e ▸ hi)
    have hbk : ∀ i, L i → ∀ m ∈ bk B i, v m = upd v k u m := fun i hi m hm => (upd_ne v u (hne m (h.closed i hi m hm))).symm
    have hvb : ∀ i, L i → ∀ m ∈ bk B i, val m = upd v k u m := fun i hi m hm => (hv1 m (h.closed i hi m hm)).trans (hbk i hi m hm)
    have hd : dstOf ops k = o.dst := by simp [dstOf, ho]
    refine ⟨hC', ?_, ?_, ?_, ?_, ?_, ?_, ?_, ?_⟩
    · rintro i (hi | rfl)
      · exact h.lt i hi
      · exact hkn
    · rintro i (hi | rfl) m hm
      · exact .inl (h.closed i hi m hm)
      · exact .inl (hb m hm)
    · rintro i (hi | rfl)
      · exact at_cong g (hvb i hi) (by rw [upd_ne v u (hne i hi)]; exact hv1 i hi) (h.is i hi)
      · intro o2 ho2
        rw [ho] at ho2
        obtain rfl := Option.some.inj ho2
        rw [← fr_val hsame, upd_same]
        split at hu
        · rename_i hw
          rw [if_pos hw]
          split at hu
          · rename_i hR; rw [if_pos hR]; exact hu.1
          · rename_i hR; rw [if_neg hR]; exact hu
        · rename_i hw
          rw [if_neg hw]; exact hu
    · rintro i (hi | rfl) o2 ho2 hw2 hR2
      · rw [upd_ne v u (hne i hi), ← hv1 i hi]
        refine hV' _ _ (h.fact i hi o2 ho2 ?_ hR2)
        rw [(g.alike (a0 := a0) ho2 (hvb i hi)).2]
        exact hw2
      · rw [ho] at ho2
        obtain rfl := Option.some.inj ho2
        rw [← fr_val hsame] at hw2
        rw [if_pos hw2, if_pos hR2] at hu
        rw [upd_same]
        exact hu.2
    · rw [put_size]; exact h.size
    · rw [put_defers]; exact h.defers
    · rintro i t (hi | rfl) ht
      · rw [upd_ne v u (hne i hi), put_get, if_neg (fun e => hne i hi (g.one k i t hkn ht (hd ▸ e.1))), h.new i t hi ht, hv1 i hi]
      · rw [upd_same, put_get, h.size, ← hd, ht]
        by_cases hs : t < a0.tmps.size
        · simp [hs]
        · rw [if_neg (fun e => hs e.2), if_neg hs]
          exact Array.getElem?_eq_none (Nat.le_of_not_lt (fun x => hs (h.size ▸ x)))
    · intro t ht
      rw [put_get, if_neg (fun e => ht k (.inr rfl) (hd ▸ e.1))]
      exact h.old t (fun i hi => ht i (.inl hi))
  unfold wpOp
  rw [ho]
  simp only []
  rw [← e2]
  by_cases hwt : Region.wanted o (yielded ops (fr ops a0 v k).tmps) = true
  · rw [if_pos hwt] at hc ⊢
    simp only [if_pos hwt] at next
    refine .inl ?_
    unfold Oper.wp
    rw [← e1]
    by_cases hR : R.contains k = true
    · rw [if_pos hR] at hc
      simp only [if_pos hR] at next
      have hfacts : ∀ x ∈ ff ops R V a0 v k, x.1 ∈ bk B k → x.2 w := by
        intro x hx hxb
        obtain ⟨j, hj, rfl, hRj, o2, ho2, hw2⟩ := mem_ff hx
        have hLj := hb j hxb
        have := h.fact j hLj o2 ho2 (by rw [(g.alike (a0 := a0) ho2 (fun m hm => hv1 m (h.closed j hLj m hm))).2]; exact hw2) hRj
        rw [hv1 j hLj] at this
        exact this
      have hr := hc.2.1 w h.c hfacts
      unfold relAt at hr
      cases hrun : (execOp (fr ops a0 v k).eval o).run P w with
      | ok n w1 =>
        rw [hrun] at hr
        cases n <;> simp only [relUpon] at hr <;> simp only [Oper.upon]
        case value u => exact hK _ _ _ (next u w1 hr.1 (fun i u => hT _ _ i u hr.2.1) hr.2.2)
        case skip => exact hK _ _ _ (next undef w1 hr.1 (fun i u => hT _ _ i u hr.2.1) hr.2.2)
        case enter f args =>
          refine hr.mono fun e w2 hh => ?_
          obtain ⟨u, rfl, h1, h2, h3⟩ := hh
          exact hK _ _ _ (next u w2 h1 (fun i u => hT _ _ i u h2) h3)
      | halt x w1 => rw [hrun] at hr; exact hr.elim
    · rw [if_neg hR] at hc
      simp only [if_neg hR] at next
      obtain ⟨u, hu, _⟩ := hc
      have hr := hu w h.c
      unfold pureAt at hr
      cases hrun : (execOp (fr ops a0 v k).eval o).run P w with
      | ok n w1 =>
        rw [hrun] at hr
        cases n <;> simp only [pureUpon] at hr <;> simp only [Oper.upon]
        case value u' =>
          obtain ⟨rfl, rfl⟩ := hr
          exact hK _ _ _ (next _ _ h.c (fun _ _ hh => hh) hu)
        case skip =>
          obtain ⟨rfl, rfl⟩ := hr
          exact hK _ _ _ (next _ _ h.c (fun _ _ hh => hh) hu)
      | halt x w1 => rw [hrun] at hr; exact hr.elim
  · rw [if_neg hwt]
    simp only [if_neg hwt] at next
    exact hK _ _ _ (next undef w h.c (fun _ _ hh => hh) rfl)

theorem act_ext {a b : Act} (h1 : a.tmps.size = b.tmps.size) (h2 : a.defers = b.defers) (h3 : ∀ t : Nat, a.tmps[t]? = b.tmps[t]?) : a = b := by
  obtain ⟨x, d⟩ := a
  obtain ⟨y, e⟩ := b
  simp only at h1 h2 h3
  subst h2
  congr 1
  exact Array.ext_getElem? h3

/-- All have run. -/
theorem St.all (g : Good ops B) {Q : Act → World → Prop} (start : relWalk P ops C T R Sh V B Q ops.toList 0 [] a0)
    {L : Nat → Prop} {val : Nat → Value} {a : Act} {w : World} (h : St P ops C R Sh V B a0 L val a w) (hall : ∀ i, i < ops.size → L i) : Q a w := by
  have hc := chain h.c start val ops.size (Nat.le_refl _) (fun i hi => h.is i (hall i hi))
  rw [List.drop_of_length_le (by simp)] at hc
  unfold relWalk at hc
  have hq := hc w h.c (fun x hx => by
    obtain ⟨j, hj, rfl, hRj, o2, ho2, hw2⟩ := mem_ff hx
    exact h.fact j (hall j hj) o2 ho2 hw2 hRj)
  have : fr ops a0 val ops.size = a := act_ext ((fr_size val _).trans h.size.symm) ((fr_defers val _).trans h.defers.symm) fun t => by
    by_cases hw : ∃ m, dstOf ops m = some t
    · obtain ⟨m, hm⟩ := hw
      rw [fr_some hm (g.uniq hm) (dst_lt hm), h.new m t (hall m (dst_lt hm)) hm]
    · rw [fr_none (fun j _ e => hw ⟨j, e⟩), h.old t (fun i _ e => hw ⟨i, e⟩)]
  rw [this] at hq
  exact hq

theorem ready_least (g : Good ops B) {listed : Array Bool} (hr : Region.ready .any ops listed = []) (hs : listed.size = ops.size) : ∀ n i, i < n → i < ops.size → listed.getD i false = true
  | 0, i, h, _ => by omega
  | n + 1, i, h, hi => by
    have hno : i ∉ Region.ready .any ops listed := by rw [hr]; simp
    rw [mem_ready] at hno
    have ho := Array.getElem?_eq_getElem hi
    cases hl : listed.getD i true with
    | true => simpa [Array.getD_eq_getD_getElem?, Array.getElem?_eq_getElem (show i < listed.size by omega)] using hl
    | false =>
      exact absurd ⟨hl, _, ho, fun e he hb => ready_least g hr hs n e.on (by have := g.low i _ ho e he hb; omega) (by have := g.low i _ ho e he hb; omega)⟩ hno

def left (ops : Array Oper) (listed : Array Bool) : Nat → Nat
  | 0 => 0
  | n + 1 => left ops listed n + if listed.getD n false then 0 else 1

theorem left_set (listed : Array Bool) {k : Nat} (hk : k < listed.size) (hl : listed.getD k false = false) : ∀ n, left ops (listed.setIfInBounds k true) n + (if k < n then 1 else 0) = left ops listed n
  | 0 => by simp [left]
  | n + 1 => by
    have ih := left_set listed hk hl n
    unfold left
    by_cases h : k = n
    · subst h
      have e : (listed.setIfInBounds k true).getD k false = true := by simp [hk]
      rw [e, hl]
      simp at ih ⊢
      omega
    · rw [getD_set_ne false h]
      by_cases h2 : k < n
      · have h3 : k < n + 1 := by omega
        simp only [h2, h3, if_true] at ih ⊢; omega
      · have h3 : ¬ k < n + 1 := by omega
        simp only [h2, h3, if_false] at ih ⊢; omega

theorem left_zero {listed : Array Bool} : ∀ {n}, left ops listed n = 0 → ∀ i, i < n → listed.getD i false = true
  | n + 1, h, i, hi => by
    unfold left at h
    by_cases he : i = n
    · subst he
      cases hl : listed.getD i false with
      | true => rfl
      | false => rw [hl] at h; simp at h
    · exact left_zero (n := n) (by omega) i (by omega)

theorem any_of_rel (g : Good ops B) (hT : ∀ w w' i u, T w w' → V i w u → V i w' u) {Q : Act → World → Prop} (start : relWalk P ops C T R Sh V B Q ops.toList 0 [] a0)
    {Q' : Exit → Act → World → Prop} (hQ : ∀ a w, Q a w → Q' .normal a w) :
    ∀ (fuel : Nat) (listed : Array Bool) (val : Nat → Value) (a : Act) (w : World), listed.size = ops.size → left ops listed ops.size = fuel →
      St P ops C R Sh V B a0 (fun i => i < ops.size ∧ listed.getD i false = true) val a w → wpAny P .any ops Q' fuel listed a w
  | 0, listed, val, a, w, hs, hf, h => by
    have hall : ∀ i, i < ops.size → listed.getD i false = true := fun i hi => left_zero hf i hi
    refine ⟨?_, hQ _ _ (h.all g start fun i hi => ⟨hi, hall i hi⟩)⟩
    cases hr : Region.ready .any ops listed with
    | nil => rfl
    | cons j l =>
      have : j ∈ Region.ready .any ops listed := by rw [hr]; simp
      obtain ⟨h1, o, ho, _⟩ := mem_ready.1 this
      have hj : j < ops.size := (Array.getElem?_eq_some_iff.1 ho).1
      have h2 := hall j hj
      simp [Array.getD_eq_getD_getElem?, Array.getElem?_eq_getElem (show j < listed.size by omega)] at h1 h2
      rw [h2] at h1
      cases h1
  | fuel + 1, listed, val, a, w, hs, hf, h => by
    refine ⟨fun hr => hQ _ _ (h.all g start fun i hi => ⟨hi, ready_least g hr hs (i + 1) i (by omega) hi⟩), fun k hk => ?_⟩
    obtain ⟨h1, o, ho, hall⟩ := mem_ready.1 hk
    have hkn : k < ops.size := (Array.getElem?_eq_some_iff.1 ho).1
    have hun : listed.getD k false = false := by
      simp [Array.getD_eq_getD_getElem?, Array.getElem?_eq_getElem (show k < listed.size by omega)] at h1 ⊢
      exact h1
    have hb : ∀ m ∈ bk B k, m < ops.size ∧ listed.getD m false = true := by
      intro m hm
      obtain ⟨e, he, hbd, hx⟩ := g.pre k o ho m hm
      have hl := hall e he hbd
      have hlt := g.low k o ho e he hbd
      rcases hx with rfl | hx
      · exact ⟨by omega, hl⟩
      · exact h.closed e.on ⟨by omega, hl⟩ m hx
    refine h.step g hT start ho (fun e => by rw [hun] at e; cases e.2) hb fun val' a' w' h' => ?_
    refine any_of_rel g hT start hQ fuel _ val' a' w' (by simpa using hs) ?_ ?_
    · have := left_set (ops := ops) listed (show k < listed.size by omega) hun ops.size
      rw [if_pos hkn] at this
      omega
    · have e : (fun i => i < ops.size ∧ (listed.setIfInBounds k true).getD i false = true) = (fun i => (i < ops.size ∧ listed.getD i false = true) ∨ i = k) := by
        funext i
        apply propext
        by_cases hik : i = k
        · subst hik
          simp [hkn, show i < listed.size by omega]
        · rw [getD_set_ne false (Ne.symm hik)]
          simp [hik]
      rw [e]
      exact h'

/-- **One walk in the order of the text serves every order.** -/
theorem wp_region_rel {id : Nat} {Q : Exit → Act → World → Prop} {w : World} (hm : P.follows .mixedOrders = true) (hB : relOk ops B = true) (hT : ∀ w w' i u, T w w' → V i w u → V i w' u)
    (hC : C { w with drawn := w.drawn + 1 }) (h : relWalk P ops C T R Sh V B (fun a w => Q .normal a w) ops.toList 0 [] a0) : (Code.region id ops true).wp P Q a0 w := by
  refine wp_region_any hm (any_of_rel (good_of hB) hT h (fun _ _ hq => hq) ops.size _ (fun _ => undef) a0 _ (by simp) ?_ ?_)
  · have : ∀ n, n ≤ ops.size → left ops (Array.replicate ops.size false) n = n := by
      intro n
      induction n with
      | zero => intro _; rfl
      | succ n ih => intro hn; unfold left; rw [ih (by omega)]; simp [show n < ops.size by omega]
    exact this _ (Nat.le_refl _)
  · have hno : ∀ i, ¬ (i < ops.size ∧ (Array.replicate ops.size false).getD i false = true) := by
      rintro i ⟨hi, hl⟩
      simp [hi] at hl
    exact ⟨hC, fun i hi => (hno i hi).elim, fun i hi => (hno i hi).elim, fun i hi => (hno i hi).elim, fun i hi => (hno i hi).elim, rfl, rfl, fun i t hi => (hno i hi).elim, fun t _ => rfl⟩

/-! ### In use -/
theorem relWalk_step {Q : Act → World → Prop} {o : Oper} {l : List Oper} {i : Nat} {F : List (Nat × (World → Prop))} {a : Act}
    (h : ∀ K : List (Nat × (World → Prop)) → Act → Prop, (∀ F a, relWalk P ops C T R Sh V B Q l (i + 1) F a → K F a) →
      if Region.wanted o (yielded ops a.tmps) then
        if R.contains i then
          (∃ u, Sh i u) ∧ (∀ w, C w → (∀ x ∈ F, x.1 ∈ bk B i → x.2 w) → relAt P o a w (fun u w' => C w' ∧ T w w' ∧ Sh i u ∧ V i w' u)) ∧
            ∀ u, Sh i u → K ((i, fun w => V i w u) :: F) (a.put o.dst u)
        else ∃ v, (∀ w, C w → pureAt P o a w v) ∧ K F (a.put o.dst v)
      else K F (a.put o.dst undef)) : relWalk P ops C T R Sh V B Q (o :: l) i F a := by
  have := h _ (fun _ _ h => h)
  unfold relWalk
  exact this
theorem relWalk_rel {Q : Act → World → Prop} {o : Oper} {l : List Oper} {i : Nat} {F : List (Nat × (World → Prop))} {a : Act}
    (hw : Region.wanted o (yielded ops a.tmps) = true) (hR : R.contains i = true) (hne : ∃ u, Sh i u)
    (hop : ∀ w, C w → (∀ x ∈ F, x.1 ∈ bk B i → x.2 w) → relAt P o a w (fun u w' => C w' ∧ T w w' ∧ Sh i u ∧ V i w' u))
    (hk : ∀ u, Sh i u → relWalk P ops C T R Sh V B Q l (i + 1) ((i, fun w => V i w u) :: F) (a.put o.dst u)) : relWalk P ops C T R Sh V B Q (o :: l) i F a := by
  unfold relWalk
  rw [if_pos hw, if_pos hR]
  exact ⟨hne, hop, hk⟩
theorem relWalk_nil {Q : Act → World → Prop} {i : Nat} {F : List (Nat × (World → Prop))} {a : Act} (h : ∀ w, C w → (∀ x ∈ F, x.2 w) → Q a w) : relWalk P ops C T R Sh V B Q [] i F a := h
end

/-- Worlds of a class, as a type. -/
structure CW (C : World → Prop) where
  w : World
  h : C w

def relB (ops : Array Oper) : List (List Nat) :=
  let b := Region.before ops
  (List.range ops.size).map fun k => (List.range k).filter fun m => (b.getD k 0).testBit m

/-- What an operation that is told by facts leaves. -/
structure RelPost (C : World → Prop) (T : World → World → Prop) (Sh : Nat → Value → Prop) (V : Nat → World → Value → Prop) (i : Nat) (w : World) (u : Value) (w' : World) : Prop where
  c : C w'
  t : T w w'
  sh : Sh i u
  v : V i w' u
/-- The facts at hand: those of operations that must come before. -/
def Facts (B : List (List Nat)) (i : Nat) (F : List (Nat × (World → Prop))) (w : World) : Prop := ∀ x ∈ F, x.1 ∈ bk B i → x.2 w
theorem Facts.get {B : List (List Nat)} {i : Nat} {F : List (Nat × (World → Prop))} {w : World} (h : Facts B i F w) (k : Nat) {j : Nat} {f : World → Prop} (hk : F[k]? = some (j, f)) (hj : (bk B i).contains j = true) : f w :=
  h (j, f) (List.mem_of_getElem? hk) (by simpa using hj)

abbrev Walk (P : Program) (C : World → Prop) (T : World → World → Prop) (R : List Nat) (Sh : Nat → Value → Prop) (V : Nat → World → Value → Prop) (ops : Array Oper) (Q : Act → World → Prop) (l : List Oper) (i : Nat) (F : List (Nat × (World → Prop))) (a : Act) : Prop :=
  relWalk P ops (fun w => ∃ p : CW C, w = p.w) T R Sh V (relB ops) Q l i F a

theorem walk_rel {P : Program} {C : World → Prop} {T : World → World → Prop} {R : List Nat} {Sh : Nat → Value → Prop} {V : Nat → World → Value → Prop} {ops : Array Oper} {B : List (List Nat)} {Q : Act → World → Prop} {o : Oper} {l : List Oper} {i : Nat} {F : List (Nat × (World → Prop))} {a : Act}
    (hw : Region.wanted o (yielded ops a.tmps) = true) (hR : R.contains i = true) (hne : ∃ u, Sh i u)
    (hop : ∀ w, C w → Facts B i F w → relAt P o a w (RelPost C T Sh V i w))
    (hk : ∀ u, Sh i u → relWalk P ops (fun w => ∃ p : CW C, w = p.w) T R Sh V B Q l (i + 1) ((i, fun w => V i w u) :: F) (a.put o.dst u)) :
    relWalk P ops (fun w => ∃ p : CW C, w = p.w) T R Sh V B Q (o :: l) i F a := by
  refine relWalk_rel hw hR hne ?_ hk
  rintro w ⟨p, rfl⟩ hF
  have h := hop p.w p.h hF
  unfold relAt at *
  generalize (execOp a.eval o).run P p.w = r at *
  cases r with
  | ok n w' =>
    cases n <;> simp only [relUpon] at h ⊢
    case value u => exact ⟨⟨⟨w', h.c⟩, rfl⟩, h.t, h.sh, h.v⟩
    case skip => exact ⟨⟨⟨w', h.c⟩, rfl⟩, h.t, h.sh, h.v⟩
    case enter f args => exact h.mono fun e w'' ⟨u, he, hh⟩ => ⟨u, he, ⟨⟨w'', hh.c⟩, rfl⟩, hh.t, hh.sh, hh.v⟩
  | halt x w' => exact h.elim
theorem walk_nil {P : Program} {C : World → Prop} {T : World → World → Prop} {R : List Nat} {Sh : Nat → Value → Prop} {V : Nat → World → Value → Prop} {ops : Array Oper} {B : List (List Nat)} {Q : Act → World → Prop} {i : Nat} {F : List (Nat × (World → Prop))} {a : Act}
    (h : ∀ w, C w → (∀ (k : Nat) (j : Nat) (f : World → Prop), F[k]? = some (j, f) → f w) → Q a w) : relWalk P ops (fun w => ∃ p : CW C, w = p.w) T R Sh V B Q [] i F a := by
  rintro w ⟨p, rfl⟩ hF
  exact h p.w p.h fun k j f hk => hF (j, f) (List.mem_of_getElem? hk)

theorem wp_region_rel_lit {P : Program} {C : World → Prop} {T : World → World → Prop} {a0 : Act} (R : List Nat) (Sh : Nat → Value → Prop) (V : Nat → World → Value → Prop) {id : Nat} {l : List Oper} {Q : Exit → Act → World → Prop} {w : World}
    (hm : P.follows .mixedOrders = true) (hB : relOk l.toArray (relB l.toArray) = true) (hT : ∀ w w' i u, T w w' → V i w u → V i w' u)
    (hC : C { w with drawn := w.drawn + 1 })
    (h : Nonempty (CW C) → relWalk P l.toArray (fun w => ∃ p : CW C, w = p.w) T R Sh V (relB l.toArray) (fun a w => Q .normal a w) l 0 [] a0) : (Code.region id l.toArray true).wp P Q a0 w :=
  wp_region_rel (C := fun w => ∃ p : CW C, w = p.w) hm hB hT ⟨⟨_, hC⟩, rfl⟩ (by simpa using h ⟨⟨_, hC⟩⟩)
attribute [go_sem] pureAt pureUpon relAt relUpon
end Rdn
