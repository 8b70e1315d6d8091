/- A region that draws its order, with a ghost: an invariant may look at the values that the operations already run have yielded. One walk in the order of the text serves every order. Over any program. -/
import Derived.Test.YtkfpcgkmemfdaaaRel
import Derived.Lib.Hide
namespace Rdn.Gho
open Go Go.RowKit Rdn
set_option linter.unusedVariables false

/-- Ghosts and worlds of a class, as a type. -/
structure CG (C : (Nat → Option Value) → World → Prop) where
  g : Nat → Option Value
  w : World
  h : C g w

section rel
variable (P : Program) (ops : Array Oper) (C : (Nat → Option Value) → World → Prop) (R : List Nat) (Sh : Nat → Value → Prop) (B : List (List Nat))

def upo (g : Nat → Option Value) (k : Nat) (u : Value) : Nat → Option Value := fun i => if i = k then some u else g i
theorem upo_same (g : Nat → Option Value) (k : Nat) (u : Value) : upo g k u k = some u := by simp [upo]
theorem upo_ne (g : Nat → Option Value) {k i : Nat} (u : Value) (h : i ≠ k) : upo g k u i = g i := by simp [upo, h]

def relWalk (Q : Act → World → Prop) : List Oper → Nat → List (Nat × Value) → Act → Prop
  | [], _, F, a => ∀ g w, C g w → (∀ x ∈ F, g x.1 = some x.2) → Q a w
  | o :: l, i, F, a =>
    if Region.wanted o (yielded ops a.tmps) then
      if R.contains i then
        (∃ u, Sh i u) ∧ (∀ g w, C g w → g i = none → (∀ x ∈ F, x.1 ∈ bk B i → g x.1 = some x.2) → relAt P o a w (fun u w' => C (upo g i u) w' ∧ Sh i u)) ∧
          ∀ u, Sh i u → relWalk Q l (i + 1) ((i, u) :: F) (a.put o.dst u)
      else ∃ v, (∀ w, (∃ p : CG C, w = p.w) → pureAt P o a w v) ∧ relWalk Q l (i + 1) F (a.put o.dst v)
    else relWalk Q l (i + 1) F (a.put o.dst undef)

def ff (a0 : Act) (val : Nat → Value) : Nat → List (Nat × Value)
  | 0 => []
  | k + 1 => if ((ops[k]?).map fun o => Region.wanted o (yielded ops (fr ops a0 val k).tmps) && R.contains k).getD false then (k, val k) :: ff a0 val k else ff a0 val k
/-- Operation k, at these values, is as the walk has it. -/
def at_ (a0 : Act) (val : Nat → Value) (k : Nat) : Prop :=
  ∀ o, ops[k]? = some o →
    if Region.wanted o (yielded ops (fr ops a0 val k).tmps) then (if R.contains k then Sh k (val k) else ∀ w, (∃ p : CG C, w = p.w) → pureAt P o (fr ops a0 val k) w (val k)) else val k = undef
end rel

section
variable {P : Program} {ops : Array Oper} {C : (Nat → Option Value) → World → Prop} {R : List Nat} {Sh : Nat → Value → Prop} {B : List (List Nat)} {a0 : Act}

theorem at_val {val val' : Nat → Value} {k : Nat} (h : ∀ m, m ≤ k → val m = val' m) (ha : at_ P ops C R Sh a0 val k) : at_ P ops C R Sh a0 val' k := by
  intro o ho
  have := ha o ho
  rw [fr_val (fun m hm => h m (by omega)), h k (Nat.le_refl _)] at this
  exact this

theorem mem_ff {val : Nat → Value} : ∀ {k} {x}, x ∈ ff ops R a0 val k → ∃ j, j < k ∧ x = (j, val j) ∧ R.contains j = true ∧ ∃ o, ops[j]? = some o ∧ Region.wanted o (yielded ops (fr ops a0 val j).tmps) = true
  | 0, x, h => by cases h
  | k + 1, x, h => by
    unfold ff at h
    split at h
    · rename_i hc
      rcases List.mem_cons.1 h with rfl | h
      · cases ho : ops[k]? with
        | none => simp [ho] at hc
        | some o =>
          simp only [ho, Option.map_some, Option.getD_some, Bool.and_eq_true] at hc
          exact ⟨k, by omega, rfl, hc.2, o, ho, hc.1⟩
      · obtain ⟨j, hj, r⟩ := mem_ff h
        exact ⟨j, by omega, r⟩
    · obtain ⟨j, hj, r⟩ := mem_ff h
      exact ⟨j, by omega, r⟩


theorem at_cong (g : Good ops B) {val val' : Nat → Value} {k : Nat} (h : ∀ m ∈ bk B k, val m = val' m) (hk : val k = val' k) (ha : at_ P ops C R Sh a0 val k) : at_ P ops C R Sh a0 val' k := by
  intro o ho
  have h1 := ha o ho
  obtain ⟨e1, e2⟩ := g.alike (a0 := a0) ho h
  unfold pureAt at *
  rw [e1, e2, hk] at h1
  exact h1


/-- The walk, along values that are as it has them. -/
theorem chain {Q : Act → World → Prop} {g0 : Nat → Option Value} {w0 : World} (hw0 : C g0 w0) (start : relWalk P ops C R Sh B Q ops.toList 0 [] a0) (val : Nat → Value) :
    ∀ k, k ≤ ops.size → (∀ i, i < k → at_ P ops C R Sh a0 val i) → relWalk P ops C R Sh B Q (ops.toList.drop k) k (ff ops R a0 val k) (fr ops a0 val k)
  | 0, _, _ => start
  | k + 1, hk, ha => by
    have ih := chain hw0 start val k (by omega) (fun i hi => ha i (by omega))
    have hlt : k < ops.toList.length := by simp; omega
    rw [List.drop_eq_getElem_cons hlt] at ih
    have ho : ops[k]? = some ops.toList[k] := by rw [← Array.getElem?_toList]; exact List.getElem?_eq_getElem hlt
    have hat := ha k (by omega) _ ho
    have hd : dstOf ops k = (ops.toList[k]).dst := by simp [dstOf, ho]
    unfold relWalk at ih
    rw [ff, fr, hd]
    simp only [ho, Option.map_some, Option.getD_some]
    by_cases hwt : Region.wanted ops.toList[k] (yielded ops (fr ops a0 val k).tmps) = true
    · rw [if_pos hwt] at ih hat
      by_cases hR : R.contains k = true
      · rw [if_pos hR] at ih hat
        rw [if_pos (by rw [hwt, hR]; rfl)]
        exact ih.2.2 _ hat
      · rw [if_neg hR] at ih hat
        rw [if_neg (by rw [hwt]; simpa using hR)]
        obtain ⟨v, hv, hr⟩ := ih
        rw [← pure_one (hv w0 ⟨⟨g0, w0, hw0⟩, rfl⟩) (hat w0 ⟨⟨g0, w0, hw0⟩, rfl⟩)]
        exact hr
    · rw [if_neg hwt] at ih hat
      rw [if_neg (fun e => hwt (by rw [Bool.and_eq_true] at e; exact e.1)), hat]
      exact ih

/-- Values of some operations go on to values of all. -/
theorem extend (g : Good ops B) {Q : Act → World → Prop} {g0 : Nat → Option Value} {w0 : World} (hw0 : C g0 w0) (start : relWalk P ops C R Sh B Q ops.toList 0 [] a0) (L : Nat → Prop) (val : Nat → Value)
    (hcl : ∀ i, L i → ∀ m ∈ bk B i, L m) (hat : ∀ i, L i → at_ P ops C R Sh a0 val i) :
    ∀ k, k ≤ ops.size → ∃ val', (∀ i, L i → val i = val' i) ∧ ∀ i, i < k → at_ P ops C R Sh a0 val' i
  | 0, _ => ⟨val, fun _ _ => rfl, fun i hi => by omega⟩
  | k + 1, hk => by
    obtain ⟨val', h1, h2⟩ := extend g hw0 start L val hcl hat k (by omega)
    by_cases hL : L k
    · refine ⟨val', h1, fun i hi => ?_⟩
      by_cases hik : i = k
      · subst hik
        exact at_cong g (fun m hm => h1 m (hcl _ hL m hm)) (h1 _ hL) (hat _ hL)
      · exact h2 i (by omega)
    · have hc := chain hw0 start val' k (by omega) h2
      have hlt : k < ops.toList.length := by simp; omega
      rw [List.drop_eq_getElem_cons hlt] at hc
      have ho : ops[k]? = some ops.toList[k] := by rw [← Array.getElem?_toList]; exact List.getElem?_eq_getElem hlt
      unfold relWalk at hc
      obtain ⟨u, hu⟩ : ∃ u, if Region.wanted ops.toList[k] (yielded ops (fr ops a0 val' k).tmps) then (if R.contains k then Sh k u else ∀ w, (∃ p : CG C, w = p.w) → pureAt P ops.toList[k] (fr ops a0 val' k) w u) else u = undef := by
        by_cases hwt : Region.wanted ops.toList[k] (yielded ops (fr ops a0 val' k).tmps) = true
        · simp only [if_pos hwt] at hc ⊢
          by_cases hR : R.contains k = true
          · simp only [if_pos hR] at hc ⊢; exact hc.1
          · simp only [if_neg hR] at hc ⊢; exact ⟨hc.choose, hc.choose_spec.1⟩
        · simp only [if_neg hwt]; exact ⟨undef, rfl⟩
      have hsame : ∀ m, m < k → val' m = upd val' k u m := fun m hm => (upd_ne val' u (by omega)).symm
      refine ⟨upd val' k u, fun i hi => ?_, fun i hi => ?_⟩
      · rw [upd_ne val' u (fun e => by rw [e] at hi; exact hL hi)]
        exact h1 i hi
      · by_cases hik : i = k
        · subst hik
          intro o ho'
          rw [ho] at ho'
          obtain rfl := Option.some.inj ho'
          rw [← fr_val hsame, upd_same]
          exact hu
        · exact at_val (fun m hm => hsame m (by omega)) (h2 i (by omega))


/-- Some operations, L, have run: the frame and the world. -/
structure St (P : Program) (ops : Array Oper) (C : (Nat → Option Value) → World → Prop) (R : List Nat) (Sh : Nat → Value → Prop) (B : List (List Nat)) (a0 : Act) (L : Nat → Prop) (val : Nat → Value) (a : Act) (gh : Nat → Option Value) (w : World) : Prop where
  c : C gh w
  no : ∀ i, ¬ L i → gh i = none
  lt : ∀ i, L i → i < ops.size
  closed : ∀ i, L i → ∀ m ∈ bk B i, L m
  is : ∀ i, L i → at_ P ops C R Sh a0 val i
  fact : ∀ i, L i → ∀ o, ops[i]? = some o → Region.wanted o (yielded ops (fr ops a0 val i).tmps) = true → R.contains i = true → gh i = some (val i)
  size : a.tmps.size = a0.tmps.size
  defers : a.defers = a0.defers
  new : ∀ i t, L i → dstOf ops i = some t → a.tmps[t]? = if t < a0.tmps.size then some (val i) else none
  old : ∀ t, (∀ i, L i → dstOf ops i ≠ some t) → a.tmps[t]? = a0.tmps[t]?

/-- One operation more. -/
theorem St.step (g : Good ops B) {Q : Act → World → Prop} (start : relWalk P ops C R Sh B Q ops.toList 0 [] a0)
    {L : Nat → Prop} {val : Nat → Value} {a : Act} {gh : Nat → Option Value} {w : World} (h : St P ops C R Sh B a0 L val a gh w) {k : Nat} {o : Oper} (ho : ops[k]? = some o) (hk : ¬ L k) (hb : ∀ m ∈ bk B k, L m)
    {Q' : Exit → Act → World → Prop} {K : Act → World → Prop} (hK : ∀ val' a' gh' w', St P ops C R Sh B a0 (fun i => L i ∨ i = k) val' a' gh' w' → K a' w') : wpOp P ops Q' k K a w := by
  have hkn : k < ops.size := (Array.getElem?_eq_some_iff.1 ho).1
  obtain ⟨v, hv1, hv2⟩ := extend g h.c start L val h.closed h.is ops.size (Nat.le_refl _)
  have hc := chain h.c start v k (by omega) (fun i hi => hv2 i (by omega))
  have hlt : k < ops.toList.length := by simp; omega
  rw [List.drop_eq_getElem_cons hlt] at hc
  have ho' : ops[k]? = some ops.toList[k] := by rw [← Array.getElem?_toList]; exact List.getElem?_eq_getElem hlt
  rw [ho] at ho'
  have hoe := Option.some.inj ho'
  rw [← hoe] at hc
  unfold relWalk at hc
  have hagree : ∀ t ∈ o.looksAt ops, (fr ops a0 v k).tmps[t]? = a.tmps[t]? := by
    intro t ht
    by_cases hw : ∃ m, dstOf ops m = some t
    · obtain ⟨m, hm⟩ := hw
      have hold : ¬ L m → a.tmps[t]? = a0.tmps[t]? := fun hn => h.old t (fun i hi e => hn (g.uniq hm i e ▸ hi))
      rcases g.look k o ho m t hm ht with rfl | ⟨hlt2, hbm⟩ | ⟨hlt2, hbm⟩
      · rw [fr_none (fun j hj e => by have := g.uniq hm j e; omega), hold hk]
      · rw [fr_some hm (g.uniq hm) hlt2, h.new m t (hb m hbm) hm, hv1 m (hb m hbm)]
      · rw [fr_none (fun j hj e => by have := g.uniq hm j e; omega), hold (fun hL => hk (h.closed m hL k hbm))]
    · rw [fr_none (fun j _ e => hw ⟨j, e⟩), h.old t (fun i _ e => hw ⟨i, e⟩)]
  obtain ⟨e1, e2⟩ := run_alike (g.nosel ho) hagree
  -- what the new state is, whatever the operation yields
  have next : ∀ u gh' w', C gh' w' → (∀ i, i ≠ k → gh' i = gh i) → (if Region.wanted o (yielded ops (fr ops a0 v k).tmps) then (if R.contains k then Sh k u ∧ gh' k = some u else ∀ w, (∃ p : CG C, w = p.w) → pureAt P o (fr ops a0 v k) w u) else u = undef) →
      St P ops C R Sh B a0 (fun i => L i ∨ i = k) (upd v k u) (a.put o.dst u) gh' w' := by
    intro u gh' w' hC' hV' hu
    have hsame : ∀ m, m < k → v m = upd v k u m := fun m hm => (upd_ne v u (by omega)).symm
    have hne : ∀ i, L i → i ≠ k := fun i hi e => hk (e ▸ hi)
    have hbk : ∀ i, L i → ∀ m ∈ bk B i, v m = upd v k u m := fun i hi m hm => (upd_ne v u (hne m (h.closed i hi m hm))).symm
    have hvb : ∀ i, L i → ∀ m ∈ bk B i, val m = upd v k u m := fun i hi m hm => (hv1 m (h.closed i hi m hm)).trans (hbk i hi m hm)
    have hd : dstOf ops k = o.dst := by simp [dstOf, ho]
    refine ⟨hC', fun i hi => (hV' i (fun e => hi (.inr e))).trans (h.no i (fun e => hi (.inl e))), ?_, ?_, ?_, ?_, ?_, ?_, ?_, ?_⟩
    · rintro i (hi | rfl)
      · exact h.lt i hi
      · exact hkn
    · rintro i (hi | rfl) m hm
      · exact .inl (h.closed i hi m hm)
      · exact .inl (hb m hm)
    · rintro i (hi | rfl)
      · exact at_cong g (hvb i hi) (by rw [upd_ne v u (hne i hi)]; exact hv1 i hi) (h.is i hi)
      · intro o2 ho2
        rw [ho] at ho2
        obtain rfl := Option.some.inj ho2
        rw [← fr_val hsame, upd_same]
        split at hu
        · rename_i hw
          rw [if_pos hw]
          split at hu
          · rename_i hR; rw [if_pos hR]; exact hu.1
          · rename_i hR; rw [if_neg hR]; exact hu
        · rename_i hw
          rw [if_neg hw]; exact hu
    · rintro i (hi | rfl) o2 ho2 hw2 hR2
      · rw [upd_ne v u (hne i hi), ← hv1 i hi]
        refine (hV' _ (hne i hi)).trans (h.fact i hi o2 ho2 ?_ hR2)
        rw [(g.alike (a0 := a0) ho2 (hvb i hi)).2]
        exact hw2
      · rw [ho] at ho2
        obtain rfl := Option.some.inj ho2
        rw [← fr_val hsame] at hw2
        rw [if_pos hw2, if_pos hR2] at hu
        rw [upd_same]
        exact hu.2
    · rw [put_size]; exact h.size
    · rw [put_defers]; exact h.defers
    · rintro i t (hi | rfl) ht
      · rw [upd_ne v u (hne i hi), put_get, if_neg (fun e => hne i hi (g.one k i t hkn ht (hd ▸ e.1))), h.new i t hi ht, hv1 i hi]
      · rw [upd_same, put_get, h.size, ← hd, ht]
        by_cases hs : t < a0.tmps.size
        · simp [hs]
        · rw [if_neg (fun e => hs e.2), if_neg hs]
          exact Array.getElem?_eq_none (Nat.le_of_not_lt (fun x => hs (h.size ▸ x)))
    · intro t ht
      rw [put_get, if_neg (fun e => ht k (.inr rfl) (hd ▸ e.1))]
      exact h.old t (fun i hi => ht i (.inl hi))
  unfold wpOp
  rw [ho]
  simp only []
  rw [← e2]
  by_cases hwt : Region.wanted o (yielded ops (fr ops a0 v k).tmps) = true
  · rw [if_pos hwt] at hc ⊢
    simp only [if_pos hwt] at next
    refine .inl ?_
    unfold Oper.wp
    rw [← e1]
    by_cases hR : R.contains k = true
    · rw [if_pos hR] at hc
      simp only [if_pos hR] at next
      have hfacts : ∀ x ∈ ff ops R a0 v k, x.1 ∈ bk B k → gh x.1 = some x.2 := by
        intro x hx hxb
        obtain ⟨j, hj, rfl, hRj, o2, ho2, hw2⟩ := mem_ff hx
        have hLj := hb j hxb
        have := h.fact j hLj o2 ho2 (by rw [(g.alike (a0 := a0) ho2 (fun m hm => hv1 m (h.closed j hLj m hm))).2]; exact hw2) hRj
        rw [hv1 j hLj] at this
        exact this
      have hr := hc.2.1 gh w h.c (h.no k hk) hfacts
      unfold relAt at hr
      cases hrun : (execOp (fr ops a0 v k).eval o).run P w with
      | ok n w1 =>
        rw [hrun] at hr
        cases n <;> simp only [relUpon] at hr <;> simp only [Oper.upon]
        case value u => exact hK _ _ _ _ (next u _ w1 hr.1 (fun i hi => upo_ne _ _ hi) ⟨hr.2, upo_same _ _ _⟩)
        case skip => exact hK _ _ _ _ (next undef _ w1 hr.1 (fun i hi => upo_ne _ _ hi) ⟨hr.2, upo_same _ _ _⟩)
        case enter f args =>
          refine hr.mono fun e w2 hh => ?_
          obtain ⟨u, rfl, h1, h2⟩ := hh
          exact hK _ _ _ _ (next u _ w2 h1 (fun i hi => upo_ne _ _ hi) ⟨h2, upo_same _ _ _⟩)
      | halt x w1 => rw [hrun] at hr; exact hr.elim
    · rw [if_neg hR] at hc
      simp only [if_neg hR] at next
      obtain ⟨u, hu, _⟩ := hc
      have hr := hu w ⟨⟨gh, w, h.c⟩, rfl⟩
      unfold pureAt at hr
      cases hrun : (execOp (fr ops a0 v k).eval o).run P w with
      | ok n w1 =>
        rw [hrun] at hr
        cases n <;> simp only [pureUpon] at hr <;> simp only [Oper.upon]
        case value u' =>
          obtain ⟨rfl, rfl⟩ := hr
          exact hK _ _ _ _ (next _ _ _ h.c (fun _ _ => rfl) hu)
        case skip =>
          obtain ⟨rfl, rfl⟩ := hr
          exact hK _ _ _ _ (next _ _ _ h.c (fun _ _ => rfl) hu)
      | halt x w1 => rw [hrun] at hr; exact hr.elim
  · rw [if_neg hwt]
    simp only [if_neg hwt] at next
    exact hK _ _ _ _ (next undef _ w h.c (fun _ _ => rfl) rfl)


/-- All have run. -/
theorem St.all (g : Good ops B) {Q : Act → World → Prop} (start : relWalk P ops C R Sh B Q ops.toList 0 [] a0)
    {L : Nat → Prop} {val : Nat → Value} {a : Act} {gh : Nat → Option Value} {w : World} (h : St P ops C R Sh B a0 L val a gh w) (hall : ∀ i, i < ops.size → L i) : Q a w := by
  have hc := chain h.c start val ops.size (Nat.le_refl _) (fun i hi => h.is i (hall i hi))
  rw [List.drop_of_length_le (by simp)] at hc
  unfold relWalk at hc
  have hq := hc gh w h.c (fun x hx => by
    obtain ⟨j, hj, rfl, hRj, o2, ho2, hw2⟩ := mem_ff hx
    exact h.fact j (hall j hj) o2 ho2 hw2 hRj)
  have : fr ops a0 val ops.size = a := act_ext ((fr_size val _).trans h.size.symm) ((fr_defers val _).trans h.defers.symm) fun t => by
    by_cases hw : ∃ m, dstOf ops m = some t
    · obtain ⟨m, hm⟩ := hw
      rw [fr_some hm (g.uniq hm) (dst_lt hm), h.new m t (hall m (dst_lt hm)) hm]
    · rw [fr_none (fun j _ e => hw ⟨j, e⟩), h.old t (fun i _ e => hw ⟨i, e⟩)]
  rw [this] at hq
  exact hq


theorem any_of_rel (g : Good ops B) {Q : Act → World → Prop} (start : relWalk P ops C R Sh B Q ops.toList 0 [] a0)
    {Q' : Exit → Act → World → Prop} (hQ : ∀ a w, Q a w → Q' .normal a w) :
    ∀ (fuel : Nat) (listed : Array Bool) (val : Nat → Value) (a : Act) (gh : Nat → Option Value) (w : World), listed.size = ops.size → left ops listed ops.size = fuel →
      St P ops C R Sh B a0 (fun i => i < ops.size ∧ listed.getD i false = true) val a gh w → wpAny P .any ops Q' fuel listed a w
  | 0, listed, val, a, gh, w, hs, hf, h => by
    have hall : ∀ i, i < ops.size → listed.getD i false = true := fun i hi => left_zero hf i hi
    refine ⟨?_, hQ _ _ (h.all g start fun i hi => ⟨hi, hall i hi⟩)⟩
    cases hr : Region.ready .any ops listed with
    | nil => rfl
    | cons j l =>
      have : j ∈ Region.ready .any ops listed := by rw [hr]; simp
      obtain ⟨h1, o, ho, _⟩ := mem_ready.1 this
      have hj : j < ops.size := (Array.getElem?_eq_some_iff.1 ho).1
      have h2 := hall j hj
      simp [Array.getD_eq_getD_getElem?, Array.getElem?_eq_getElem (show j < listed.size by omega)] at h1 h2
      rw [h2] at h1
      cases h1
  | fuel + 1, listed, val, a, gh, w, hs, hf, h => by
    refine ⟨fun hr => hQ _ _ (h.all g start fun i hi => ⟨hi, ready_least g hr hs (i + 1) i (by omega) hi⟩), fun k hk => ?_⟩
    obtain ⟨h1, o, ho, hall⟩ := mem_ready.1 hk
    have hkn : k < ops.size := (Array.getElem?_eq_some_iff.1 ho).1
    have hun : listed.getD k false = false := by
      simp [Array.getD_eq_getD_getElem?, Array.getElem?_eq_getElem (show k < listed.size by omega)] at h1 ⊢
      exact h1
    have hb : ∀ m ∈ bk B k, m < ops.size ∧ listed.getD m false = true := by
      intro m hm
      obtain ⟨e, he, hbd, hx⟩ := g.pre k o ho m hm
      have hl := hall e he hbd
      have hlt := g.low k o ho e he hbd
      rcases hx with rfl | hx
      · exact ⟨by omega, hl⟩
      · exact h.closed e.on ⟨by omega, hl⟩ m hx
    refine h.step g start ho (fun e => by rw [hun] at e; cases e.2) hb fun val' a' gh' w' h' => ?_
    refine any_of_rel g start hQ fuel _ val' a' gh' w' (by simpa using hs) ?_ ?_
    · have := left_set (ops := ops) listed (show k < listed.size by omega) hun ops.size
      rw [if_pos hkn] at this
      omega
    · have e : (fun i => i < ops.size ∧ (listed.setIfInBounds k true).getD i false = true) = (fun i => (i < ops.size ∧ listed.getD i false = true) ∨ i = k) := by
        funext i
        apply propext
        by_cases hik : i = k
        · subst hik
          simp [hkn, show i < listed.size by omega]
        · rw [getD_set_ne false (Ne.symm hik)]
          simp [hik]
      rw [e]
      exact h'


/-- **One walk in the order of the text serves every order.** -/
theorem wp_region_rel {id : Nat} {Q : Exit → Act → World → Prop} {w : World} (hm : P.follows .mixedOrders = true) (hB : relOk ops B = true) 
    (hC : C (fun _ => none) { w with drawn := w.drawn + 1 }) (h : relWalk P ops C R Sh B (fun a w => Q .normal a w) ops.toList 0 [] a0) : (Code.region id ops true).wp P Q a0 w := by
  refine wp_region_any hm (any_of_rel (good_of hB) h (fun _ _ hq => hq) ops.size _ (fun _ => undef) a0 (fun _ => none) _ (by simp) ?_ ?_)
  · have : ∀ n, n ≤ ops.size → left ops (Array.replicate ops.size false) n = n := by
      intro n
      induction n with
      | zero => intro _; rfl
      | succ n ih => intro hn; unfold left; rw [ih (by omega)]; simp [show n < ops.size by omega]
    exact this _ (Nat.le_refl _)
  · have hno : ∀ i, ¬ (i < ops.size ∧ (Array.replicate ops.size false).getD i false = true) := by
      rintro i ⟨hi, hl⟩
      simp [hi] at hl
    exact ⟨hC, fun _ _ => rfl, fun i hi => (hno i hi).elim, fun i hi => (hno i hi).elim, fun i hi => (hno i hi).elim, fun i hi => (hno i hi).elim, rfl, rfl, fun i t hi => (hno i hi).elim, fun t _ => rfl⟩



/-! ### In use -/
theorem step {Q : Act → World → Prop} {o : Oper} {l : List Oper} {i : Nat} {F : List (Nat × Value)} {a : Act}
    (h : ∀ K : List (Nat × Value) → Act → Prop, (∀ F a, relWalk P ops C R Sh B Q l (i + 1) F a → K F a) →
      if Region.wanted o (yielded ops a.tmps) then
        if R.contains i then
          (∃ u, Sh i u) ∧ (∀ g w, C g w → g i = none → (∀ x ∈ F, x.1 ∈ bk B i → g x.1 = some x.2) → relAt P o a w (fun u w' => C (upo g i u) w' ∧ Sh i u)) ∧
            ∀ u, Sh i u → K ((i, u) :: F) (a.put o.dst u)
        else ∃ v, (∀ w, (∃ p : CG C, w = p.w) → pureAt P o a w v) ∧ K F (a.put o.dst v)
      else K F (a.put o.dst undef)) : relWalk P ops C R Sh B Q (o :: l) i F a := by
  have := h _ (fun _ _ h => h)
  unfold relWalk
  exact this
/-- What an operation that is told by the ghost leaves. -/
structure Post (C : (Nat → Option Value) → World → Prop) (Sh : Nat → Value → Prop) (i : Nat) (g : Nat → Option Value) (u : Value) (w' : World) : Prop where
  c : C (upo g i u) w'
  sh : Sh i u
/-- What is known: the values of operations that must come before. -/
def Facts (B : List (List Nat)) (i : Nat) (F : List (Nat × Value)) (g : Nat → Option Value) : Prop := ∀ x ∈ F, x.1 ∈ bk B i → g x.1 = some x.2
theorem Facts.get {B : List (List Nat)} {i : Nat} {F : List (Nat × Value)} {g : Nat → Option Value} (h : Facts B i F g) (k : Nat) {j : Nat} {u : Value} (hk : F[k]? = some (j, u)) (hj : (bk B i).contains j = true) : g j = some u :=
  h (j, u) (List.mem_of_getElem? hk) (by simpa using hj)
theorem rel {Q : Act → World → Prop} {o : Oper} {l : List Oper} {i : Nat} {F : List (Nat × Value)} {a : Act}
    (hw : Region.wanted o (yielded ops a.tmps) = true) (hR : R.contains i = true) (hne : ∃ u, Sh i u)
    (hop : ∀ g w, C g w → g i = none → Facts B i F g → relAt P o a w (Post C Sh i g))
    (hk : ∀ u, Sh i u → relWalk P ops C R Sh B Q l (i + 1) ((i, u) :: F) (a.put o.dst u)) : relWalk P ops C R Sh B Q (o :: l) i F a := by
  unfold relWalk
  rw [if_pos hw, if_pos hR]
  refine ⟨hne, ?_, hk⟩
  intro g w hC hn hF
  have h := hop g w hC hn hF
  unfold relAt at *
  generalize (execOp a.eval o).run P w = r at *
  cases r with
  | ok n w' =>
    cases n <;> simp only [relUpon] at h ⊢
    case value u => exact ⟨h.c, h.sh⟩
    case skip => exact ⟨h.c, h.sh⟩
    case enter f args => exact h.mono fun e w'' ⟨u, he, hh⟩ => ⟨u, he, hh.c, hh.sh⟩
  | halt x w' => exact h.elim
theorem done {Q : Act → World → Prop} {i : Nat} {F : List (Nat × Value)} {a : Act}
    (h : ∀ g w, C g w → (∀ (k : Nat) (j : Nat) (u : Value), F[k]? = some (j, u) → g j = some u) → Q a w) : relWalk P ops C R Sh B Q [] i F a := by
  intro g w hC hF
  exact h g w hC fun k j u hk => hF (j, u) (List.mem_of_getElem? hk)
theorem region {l : List Oper} {id : Nat} {Q : Exit → Act → World → Prop} {w : World} {a0 : Act} (C : (Nat → Option Value) → World → Prop) (R : List Nat) (Sh : Nat → Value → Prop)
    (hm : P.follows .mixedOrders = true) (hB : relOk l.toArray (relB l.toArray) = true) (hC : C (fun _ => none) { w with drawn := w.drawn + 1 })
    (h : ∀ C' : (Nat → Option Value) → World → Prop, RowKit.Hid (C' = C) → Nonempty (CG C') → relWalk P l.toArray C' R Sh (relB l.toArray) (fun a w => Q .normal a w) l 0 [] a0) : (Code.region id l.toArray true).wp P Q a0 w :=
  wp_region_rel hm hB hC (by simpa using h C (Lib.hid rfl) ⟨⟨_, _, hC⟩⟩)
end
end Rdn.Gho
