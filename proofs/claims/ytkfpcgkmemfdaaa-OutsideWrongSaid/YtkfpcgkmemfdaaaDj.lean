/- A region that draws its order, over trees, worked out at one go. Over any program. -/
import Derived.Test.YtkfpcgkmemfdaaaDi
namespace Rdn.Dp
open Go Go.RowKit Rdn
set_option linter.unusedVariables false

/-- What was touched: the operation, the objects, the one that was written. -/
abbrev Lg := Nat × List Nat × Option Nat
def lgC (i : Nat) (fp : List Nat) (wr : Option Nat) (lg : List Lg) : List Lg := if fp.isEmpty = true then lg else (i, fp, wr) :: lg
def lgOf : List En → List Lg
  | [] => []
  | e :: l => if e.s = true then lgOf l else lgC e.j e.fp (e.wr.map (·.1)) (lgOf l)
def cfOk (B : List (List Nat)) : List Lg → Bool
  | [] => true
  | (i, fp, wr) :: l => l.all (fun p => (bk B i).contains p.1 || (p.2.2.all (fun r => !fp.contains r) && wr.all (fun r => !p.2.1.contains r))) && cfOk B l
theorem mem_lgOf : ∀ {l : List En} {e : En}, e ∈ l → e.s = false → e.fp ≠ [] → (e.j, e.fp, e.wr.map (·.1)) ∈ lgOf l
  | e' :: l, e, h, hs, hf => by
    unfold lgOf lgC
    rcases List.mem_cons.1 h with rfl | h
    · rw [if_neg (by simp [hs]), if_neg (by simpa using hf)]; simp
    · have ih := mem_lgOf h hs hf
      split
      · exact ih
      · split
        · exact ih
        · simp [ih]
theorem cfOk_conf {B : List (List Nat)} : ∀ {pre : List En}, pre.Pairwise (fun e e' => e'.j < e.j) → (∀ e ∈ pre, e.s = true ∨ e.fp = [] → e.wr = none) → cfOk B (lgOf pre) = true → Conf B pre
  | [], _, _, _ => fun e he => by cases he
  | e0 :: l, hp, hw, h => by
    have hp' := List.pairwise_cons.1 hp
    have htl : cfOk B (lgOf l) = true := by
      unfold lgOf lgC at h
      split at h
      · exact h
      · split at h
        · exact h
        · simp only [cfOk, Bool.and_eq_true] at h; exact h.2
    have ih := cfOk_conf hp'.2 (fun e he => hw e (by simp [he])) htl
    intro e he e' he' hlt hs hs'
    rcases List.mem_cons.1 he with rfl | he1
    · rcases List.mem_cons.1 he' with rfl | he2
      · omega
      · by_cases hf : e.fp = []
        · have := hw e (by simp) (.inr hf)
          right
          refine ⟨fun r o ho hr => (by rw [hf] at hr; cases hr), fun r o ho => (by rw [this] at ho; cases ho)⟩
        · by_cases hf' : e'.fp = []
          · have := hw e' (by simp [he2]) (.inr hf')
            right
            refine ⟨fun r o ho => (by rw [this] at ho; cases ho), fun r o ho hr => (by rw [hf'] at hr; cases hr)⟩
          · unfold lgOf lgC at h
            rw [if_neg (by simp [hs]), if_neg (by simpa using hf)] at h
            simp only [cfOk, Bool.and_eq_true] at h
            have := List.all_eq_true.1 h.1 _ (mem_lgOf he2 hs' hf')
            simp only [Bool.or_eq_true, Bool.and_eq_true] at this
            rcases this with h | ⟨h1, h2⟩
            · exact .inl h
            · right
              refine ⟨fun r o ho => ?_, fun r o ho => ?_⟩
              · rw [ho] at h1; simpa using h1
              · rw [ho] at h2; simpa using h2
    · rcases List.mem_cons.1 he' with rfl | he2
      · have := hp'.1 e he1; omega
      · exact ih e he1 e' he2 hlt hs hs'
/-- What the walk so far comes from. -/
structure Pr (N : Nat) (t0 : List (Nat × V)) (ob0 : List Ob) (B : List (List Nat)) (l : List RO) (i : Nat) (σ : AS) (lg : List Lg) (pre : List En) : Prop where
  st : σ = ⟨N, tAll pre t0, obA pre ob0⟩
  lg : lg = lgOf pre
  dp : depL B l i (dsOf pre) = true
  pw : pre.Pairwise (fun e e' => e'.j < e.j)
  lt : ∀ e ∈ pre, e.j < i
  wr : ∀ e ∈ pre, e.s = true ∨ e.fp = [] → e.wr = none
structure EvW (P : Program) (cx : Cx) (N : Nat) (Q : Exit → Act → World → Prop) (k : List It) (t0 : List (Nat × V)) (ob0 : List Ob) (B : List (List Nat)) (l : List RO) (i : Nat) (σ : AS) (lg : List Lg) (nx : Nat) : Prop where
  h : ∀ pre, Pr N t0 ob0 B l i σ lg pre → ∃ preF, Conf B preF ∧ (∀ e ∈ preF, e.s = true → e.wr = none) ∧ Ok P N t0 ob0 B preF l i pre ∧ Ev P cx N Q k ⟨N, tAll preF t0, obA preF ob0⟩
section
variable {P : Program} {cx : Cx} {N : Nat} {Q : Exit → Act → World → Prop} {k : List It} {t0 : List (Nat × V)} {ob0 : List Ob} {B : List (List Nat)} {l : List RO} {i nx : Nat} {σ : AS} {lg : List Lg}
theorem Pr.next {r : RO} {pre : List En} (h : Pr N t0 ob0 B (r :: l) i σ lg pre) {σ' : AS} {lg' : List Lg} (x : V) (s : Bool) (fp : List Nat) (wr : Option (Nat × Ob)) (hs : σ' = ⟨N, tAll (⟨i, r.d, x, s, fp, wr⟩ :: pre) t0, obA (⟨i, r.d, x, s, fp, wr⟩ :: pre) ob0⟩)
    (hl : lg' = if s = true then lg else lgC i fp (wr.map (·.1)) lg) (hw : s = true ∨ fp = [] → wr = none) : Pr N t0 ob0 B l (i + 1) σ' lg' (⟨i, r.d, x, s, fp, wr⟩ :: pre) := by
  have hd := h.dp
  simp only [depL, Bool.and_eq_true] at hd
  refine ⟨hs, ?_, hd.2.2, List.pairwise_cons.2 ⟨fun e he => h.lt e he, h.pw⟩, fun e he => ?_, fun e he hh => ?_⟩
  · rw [hl]; simp only [lgOf, h.lg]
  · rcases List.mem_cons.1 he with rfl | he
    · exact Nat.lt_succ_self _
    · have := h.lt e he; omega
  · rcases List.mem_cons.1 he with rfl | he
    · exact hw hh
    · exact h.wr e he hh
theorem Pr.dep {r : RO} {pre : List En} (h : Pr N t0 ob0 B (r :: l) i σ lg pre) : depX (bk B i) (dsOf pre) (xsK r.k) = true := by
  have hd := h.dp
  simp only [depL, Bool.and_eq_true] at hd
  exact hd.2.1
theorem wants_ob {n n' : Nat} {t : List (Nat × V)} {ob ob' : List Ob} {gd : Option (Nat × Bool)} : wants ⟨n, t, ob⟩ gd = wants ⟨n', t, ob'⟩ gd := by cases gd <;> rfl
theorem evw_nil (hc : cfOk B lg = true) (h : Ev P cx N Q k σ) : EvW P cx N Q k t0 ob0 B [] i σ lg nx :=
  ⟨fun pre p => ⟨pre, cfOk_conf p.pw p.wr (by rw [← p.lg]; exact hc), fun e he hs => p.wr e he (.inl hs), .nil rfl, by rw [← p.st]; exact h⟩⟩
theorem evw_skip {r : RO} (hw : wants σ r.gd = some false) (h : EvW P cx N Q k t0 ob0 B l (i + 1) (σ.put r.d (.tup [])) lg nx) : EvW P cx N Q k t0 ob0 B (r :: l) i σ lg nx := by
  refine ⟨fun pre p => ?_⟩
  obtain ⟨pf, h1, h2, h3, h4⟩ := h.h _ (p.next (.tup []) true [] none (by rw [p.st]; cases r.d <;> rfl) rfl (fun _ => rfl))
  exact ⟨pf, h1, h2, .skip (by rw [p.st, wants_ob (ob' := [])] at hw; exact hw) h3, h4⟩
theorem evw_p {d : Option Nat} {gd : Option (Nat × Bool)} {m : POp} (hw : wants σ gd = some true) (hc : (aopP σ m).2) (h : EvW P cx N Q k t0 ob0 B l (i + 1) (σ.put d (aopP σ m).1) (lgC i (fpP σ m) none lg) nx) : EvW P cx N Q k t0 ob0 B (⟨d, gd, .p m⟩ :: l) i σ lg nx := by
  refine ⟨fun pre p => ?_⟩
  obtain ⟨pf, h1, h2, h3, h4⟩ := h.h _ (p.next (aopP σ m).1 false (fpP σ m) none (by rw [p.st]; cases d <;> rfl) rfl (fun _ => rfl))
  have hd := p.dep
  obtain rfl := p.st
  exact ⟨pf, h1, h2, .p (by rw [← wants_ob]; exact hw) hd hc h3, h4⟩
theorem evw_f {d : Option Nat} {gd : Option (Nat × Bool)} {m : MOp} (hw : wants σ gd = some true) (hc : (aopF σ m).2) (h : EvW P cx N Q k t0 ob0 B l (i + 1) (σ.put d (aopF σ m).1) (lgC i (fpM σ m) none lg) nx) : EvW P cx N Q k t0 ob0 B (⟨d, gd, .m m⟩ :: l) i σ lg nx := by
  refine ⟨fun pre p => ?_⟩
  obtain ⟨pf, h1, h2, h3, h4⟩ := h.h _ (p.next (aopF σ m).1 false (fpM σ m) none (by rw [p.st]; cases d <;> rfl) rfl (fun _ => rfl))
  have hd := p.dep
  obtain rfl := p.st
  exact ⟨pf, h1, h2, .f (by rw [← wants_ob]; exact hw) hd hc h3, h4⟩
theorem evw_w {d : Option Nat} {gd : Option (Nat × Bool)} {m : MOp} (hw : wants σ gd = some true) (hW : isW σ m = true) (hc : (aopM σ m).2.2) (h : EvW P cx N Q k t0 ob0 B l (i + 1) ((⟨σ.n, σ.t, (aopM σ m).2.1.ob⟩ : AS).put d (aopM σ m).1) (lgC i (fpM σ m) (tgtM σ m) lg) nx) : EvW P cx N Q k t0 ob0 B (⟨d, gd, .m m⟩ :: l) i σ lg nx := by
  have hloc := aopW_loc (σ := σ) (σ' := σ) (fun _ _ => rfl) (fun _ _ => rfl) hW hc
  refine ⟨fun pre p => ?_⟩
  have hwr : (wrOf σ (aopM σ m).2.1 m = none ∧ tgtM σ m = none ∧ (aopM σ m).2.1.ob = σ.ob) ∨ ∃ r o, wrOf σ (aopM σ m).2.1 m = some (r, o) ∧ tgtM σ m = some r ∧ r ∈ fpM σ m ∧ (aopM σ m).2.1.ob = σ.ob.set r o := by
    rcases hloc.2.2 with ⟨e1, e2, e3⟩ | ⟨r', o', e1, e2, e3, e4, e5⟩
    · exact .inl ⟨by simp only [wrOf, e1], e1, e2⟩
    · exact .inr ⟨r', o', by simp only [wrOf, e1, e4, List.getElem?_set_self e3, Option.map_some], e1, e2, e4⟩
  obtain ⟨pf, h1, h2, h3, h4⟩ := h.h _ (p.next (aopM σ m).1 false (fpM σ m) (wrOf σ (aopM σ m).2.1 m) (by
    rcases hwr with ⟨e1, e2, e3⟩ | ⟨r, o, e1, e2, e3, e4⟩
    · rw [e1, e3, p.st]; cases d <;> rfl
    · rw [e1, e4, p.st]; cases d <;> rfl) (by
    rcases hwr with ⟨e1, e2, e3⟩ | ⟨r, o, e1, e2, e3, e4⟩
    · rw [e1, e2]; rfl
    · rw [e1, e2]; rfl) (fun hh => by
    rcases hwr with ⟨e1, e2, e3⟩ | ⟨r, o, e1, e2, e3, e4⟩
    · exact e1
    · rcases hh with hh | hh
      · cases hh
      · rw [hh] at e3; cases e3))
  have hd := p.dep
  obtain rfl := p.st
  exact ⟨pf, h1, h2, .w (by rw [← wants_ob]; exact hw) hd hW hc h3, h4⟩
theorem evw_c {d : Option Nat} {gd : Option (Nat × Bool)} {m : MOp} (hw : wants σ gd = some true) (hn : σ.ob[nx]? = some resv) (hc : (aopC σ nx m).2.2) (h : EvW P cx N Q k t0 ob0 B l (i + 1) ((⟨σ.n, σ.t, σ.ob.set nx (aopC σ nx m).2.1⟩ : AS).put d (aopC σ nx m).1) (lgC i (nx :: fpM σ m) (some nx) lg) (nx + 1)) : EvW P cx N Q k t0 ob0 B (⟨d, gd, .m m⟩ :: l) i σ lg nx := by
  refine ⟨fun pre p => ?_⟩
  obtain ⟨pf, h1, h2, h3, h4⟩ := h.h _ (p.next (aopC σ nx m).1 false (nx :: fpM σ m) (some (nx, (aopC σ nx m).2.1)) (by rw [p.st]; cases d <;> rfl) rfl (fun hh => by rcases hh with hh | hh <;> cases hh))
  have hd := p.dep
  obtain rfl := p.st
  exact ⟨pf, h1, h2, .c nx (by rw [← wants_ob]; exact hw) hd hn hc h3, h4⟩
theorem evw_call {d : Option Nat} {gd : Option (Nat × Bool)} {f : FuncId} {xs : List X} (ys : List V) (x : V) {ws : List V} (hF : Fnc P f ys fun y obs => y = x ∧ obs = []) (hw : wants σ gd = some true)
    (hx : xs.map (X.ev σ) = ws) (hok : V.ressOk σ ws ∧ noTup ws) (hs : Subs (V.lows (V.ress σ [] ws)) ys) (hp : V.pureT x = true) (hq : newOr ws x [])
    (h : EvW P cx N Q k t0 ob0 B l (i + 1) (σ.put d x) (lgC i (V.idss ws) none lg) nx) : EvW P cx N Q k t0 ob0 B (⟨d, gd, .call f xs⟩ :: l) i σ lg nx := by
  subst hx
  refine ⟨fun pre p => ?_⟩
  obtain ⟨pf, h1, h2, h3, h4⟩ := h.h _ (p.next x false (V.idss (xs.map (X.ev σ))) none (by rw [p.st]; cases d <;> rfl) rfl (fun _ => rfl))
  have hd := p.dep
  obtain rfl := p.st
  exact ⟨pf, h1, h2, .call ys x hF (by rw [← wants_ob]; exact hw) hd hok.1 hok.2 hs hp hq h3, h4⟩
theorem evw_callV {d : Option Nat} {gd : Option (Nat × Bool)} {f : FuncId} {x0 : X} {xs : List X} {cs : List V} (ys : List V) (x : V) {ws : List V} (hF : Fnc P f ys fun y obs => y = x ∧ obs = []) (hf : okF P f = true) (hv : calleeV (X.ev σ x0) = some (f, cs)) (hw : wants σ gd = some true)
    (hx : xs.map (X.ev σ) ++ cs = ws) (hok : V.ressOk σ ws ∧ noTup ws) (hs : Subs (V.lows (V.ress σ [] ws)) ys) (hp : V.pureT x = true) (hq : newOr ws x [])
    (h : EvW P cx N Q k t0 ob0 B l (i + 1) (σ.put d x) (lgC i (V.idss ws) none lg) nx) : EvW P cx N Q k t0 ob0 B (⟨d, gd, .callv x0 xs⟩ :: l) i σ lg nx := by
  subst hx
  refine ⟨fun pre p => ?_⟩
  obtain ⟨pf, h1, h2, h3, h4⟩ := h.h _ (p.next x false (V.idss (xs.map (X.ev σ) ++ cs)) none (by rw [p.st]; cases d <;> rfl) rfl (fun _ => rfl))
  have hd := p.dep
  obtain rfl := p.st
  exact ⟨pf, h1, h2, .callV ys x hF hf hv (by rw [← wants_ob]; exact hw) hd hok.1 hok.2 hs hp hq h3, h4⟩
theorem evw_callN {d : Option Nat} {gd : Option (Nat × Bool)} {f : FuncId} {xs : List X} (ids : List Nat) (ys : List V) (x : V) (hF : Fnc P f ys fun y obs => y = x ∧ obs = []) (hw : wants σ gd = some true)
    (hA : ∀ σ' : AS, (∀ q ∈ ids, σ'.ob[q]? = σ.ob[q]?) → ∀ {cx : Cx} {E : Env} {a : Act} {w : World} {vs : List Value}, Rel cx E σ' a w → RdTs E w (xs.map (X.ev σ)) vs → RdTs (argE w) w ys vs) (hp : V.pureT x = true) (hq : x.fresh = true)
    (h : EvW P cx N Q k t0 ob0 B l (i + 1) (σ.put d x) (lgC i ids none lg) nx) : EvW P cx N Q k t0 ob0 B (⟨d, gd, .call f xs⟩ :: l) i σ lg nx := by
  refine ⟨fun pre p => ?_⟩
  obtain ⟨pf, h1, h2, h3, h4⟩ := h.h _ (p.next x false ids none (by rw [p.st]; cases d <;> rfl) rfl (fun _ => rfl))
  have hd := p.dep
  obtain rfl := p.st
  exact ⟨pf, h1, h2, .callN ids ys x hF (by rw [← wants_ob]; exact hw) hd hA hp hq h3, h4⟩
theorem evw_callR {d : Option Nat} {gd : Option (Nat × Bool)} {f : FuncId} {xs : List X} (ys : List V) {e s : Nat} {qs : List V} {ws : List V} (hF : Fnc P f ys fun y obs => y = .own 0 0 ∧ obs = [⟨.row e, true, 0, .arr s qs⟩]) (hw : wants σ gd = some true) (hn : σ.ob[nx]? = some resv)
    (hx : xs.map (X.ev σ) = ws) (hok : V.ressOk σ ws ∧ noTup ws) (hs : Subs (V.lows (V.ress σ [] ws)) ys) (hp : V.pures qs = true) (hq : newOr ws (.own 0 0) [⟨.row e, true, 0, .arr s qs⟩])
    (h : EvW P cx N Q k t0 ob0 B l (i + 1) ((⟨σ.n, σ.t, σ.ob.set nx ⟨.row e, true, 1, .arr s qs⟩⟩ : AS).put d (.own nx 1)) (lgC i (nx :: V.idss ws) (some nx) lg) (nx + 1)) : EvW P cx N Q k t0 ob0 B (⟨d, gd, .call f xs⟩ :: l) i σ lg nx := by
  subst hx
  refine ⟨fun pre p => ?_⟩
  obtain ⟨pf, h1, h2, h3, h4⟩ := h.h _ (p.next (.own nx 1) false (nx :: V.idss (xs.map (X.ev σ))) (some (nx, ⟨.row e, true, 1, .arr s qs⟩)) (by rw [p.st]; cases d <;> rfl) rfl (fun hh => by rcases hh with hh | hh <;> cases hh))
  have hd := p.dep
  obtain rfl := p.st
  exact ⟨pf, h1, h2, .callR nx ys e s qs hF (by rw [← wants_ob]; exact hw) hd hn hok.1 hok.2 hs hp hq h3, h4⟩
theorem evw_callM {d : Option Nat} {gd : Option (Nat × Bool)} {f : FuncId} {xs : List X} {r g : Nat} {ws ys : List V} {q : Bool} {T : TypeId} {dc d0 d' x : V} (hF : FncM P f T d0 ys fun y obs c => y = x ∧ obs = [] ∧ c = d') (hw : wants σ gd = some true)
    (hx : xs.map (X.ev σ) = .ptr r g [] 0 :: ws) (hob : σ.ob[r]? = some ⟨.box q T, true, g, dc⟩) (hdp : dc.pure = true) (hdl : dc.low = d0) (hwp : V.pures ws = true) (hys : V.lows ws = ys) (hp : V.pureT x = true)
    (h : EvW P cx N Q k t0 ob0 B l (i + 1) ((⟨σ.n, σ.t, σ.ob.set r ⟨.box q T, true, g, d'⟩⟩ : AS).put d x) (lgC i [r] (some r) lg) nx) : EvW P cx N Q k t0 ob0 B (⟨d, gd, .call f xs⟩ :: l) i σ lg nx := by
  refine ⟨fun pre p => ?_⟩
  obtain ⟨pf, h1, h2, h3, h4⟩ := h.h _ (p.next x false [r] (some (r, ⟨.box q T, true, g, d'⟩)) (by rw [p.st]; cases d <;> rfl) rfl (fun hh => by rcases hh with hh | hh <;> cases hh))
  have hd := p.dep
  obtain rfl := p.st
  exact ⟨pf, h1, h2, .callM r g ws ys q T dc d0 d' x hF (by rw [← wants_ob]; exact hw) hd hx hob hdp hdl hwp hys hp h3, h4⟩
end
def isC (md : List Nat) (i : Nat) : MOp → Bool
  | .alloc _ _ => true
  | .box _ _ => md.contains i
  | .build _ _ _ => false
  | .buildS _ _ _ _ _ => md.contains i
  | .store _ _ _ => false
  | .sl _ _ _ _ _ => false
  | .slA _ _ _ _ _ _ => false
  | .mkS _ _ _ _ _ _ => md.contains i
  | .app _ _ _ _ _ => md.contains i
  | .bytes _ => false
section
variable (E : List RO → Nat → AS → List Lg → Nat → Prop)
def dWP (r : V × Prop) (fp : List Nat) (d : Option Nat) (l : List RO) (i : Nat) (σ : AS) (lg : List Lg) (nx : Nat) : Prop := r.2 ∧ E l (i + 1) (σ.put d r.1) (lgC i fp none lg) nx
def dWW (r : V × AS × Prop) (fp : List Nat) (tg : Option Nat) (d : Option Nat) (l : List RO) (i : Nat) (σ : AS) (lg : List Lg) (nx : Nat) : Prop := r.2.2 ∧ E l (i + 1) ((⟨σ.n, σ.t, r.2.1.ob⟩ : AS).put d r.1) (lgC i fp tg lg) nx
def dWC (r : V × Ob × Prop) (fp : List Nat) (d : Option Nat) (l : List RO) (i : Nat) (σ : AS) (lg : List Lg) (nx : Nat) : Prop := σ.ob[nx]? = some resv ∧ r.2.2 ∧ E l (i + 1) ((⟨σ.n, σ.t, σ.ob.set nx r.2.1⟩ : AS).put d r.1) (lgC i (nx :: fp) (some nx) lg) (nx + 1)
def dWM (w c : Bool) (m : MOp) (d : Option Nat) (l : List RO) (i : Nat) (σ : AS) (lg : List Lg) (nx : Nat) : Prop := match w, c with
  | true, _ => dWW E (aopM σ m) (fpM σ m) (tgtM σ m) d l i σ lg nx
  | false, true => dWC E (aopC σ nx m) (fpM σ m) d l i σ lg nx
  | false, false => dWP E (aopF σ m) (fpM σ m) d l i σ lg nx
def dWG (md : List Nat) (w : Option Bool) (o : RK) (d : Option Nat) (l : List RO) (i : Nat) (σ : AS) (lg : List Lg) (nx : Nat) : Prop := ifW w (match o with
    | .p m => dWP E (aopP σ m) (fpP σ m) d l i σ lg nx
    | .m m => dWM E (isW σ m) (isC md i m) m d l i σ lg nx
    | .call _ _ => False
    | .callv _ _ => False) (E l (i + 1) (σ.put d (.tup [])) lg nx)
end
def evalW (C : List RO → Nat → AS → List Lg → Nat → Prop) (md : List Nat) : List Unit → List RO → Nat → AS → List Lg → Nat → Prop
  | [], l, i, σ, lg, nx => C l i σ lg nx
  | _ :: _, [], i, σ, lg, nx => C [] i σ lg nx
  | _ :: fu, ⟨d, gd, .p m⟩ :: l, i, σ, lg, nx => ifW (wants σ gd) ((aopP σ m).2 ∧ evalW C md fu l (i + 1) (σ.put d (aopP σ m).1) (lgC i (fpP σ m) none lg) nx) (evalW C md fu l (i + 1) (σ.put d (.tup [])) lg nx)
  | _ :: fu, ⟨d, gd, .m m⟩ :: l, i, σ, lg, nx => ifW (wants σ gd) (match isW σ m, isC md i m with
      | true, _ => (aopM σ m).2.2 ∧ evalW C md fu l (i + 1) ((⟨σ.n, σ.t, (aopM σ m).2.1.ob⟩ : AS).put d (aopM σ m).1) (lgC i (fpM σ m) (tgtM σ m) lg) nx
      | false, true => σ.ob[nx]? = some resv ∧ (aopC σ nx m).2.2 ∧ evalW C md fu l (i + 1) ((⟨σ.n, σ.t, σ.ob.set nx (aopC σ nx m).2.1⟩ : AS).put d (aopC σ nx m).1) (lgC i (nx :: fpM σ m) (some nx) lg) (nx + 1)
      | false, false => (aopF σ m).2 ∧ evalW C md fu l (i + 1) (σ.put d (aopF σ m).1) (lgC i (fpM σ m) none lg) nx) (evalW C md fu l (i + 1) (σ.put d (.tup [])) lg nx)
  | _ :: _, ⟨d, gd, .call f xs⟩ :: l, i, σ, lg, nx => C (⟨d, gd, .call f xs⟩ :: l) i σ lg nx
  | _ :: _, ⟨d, gd, .callv x xs⟩ :: l, i, σ, lg, nx => C (⟨d, gd, .callv x xs⟩ :: l) i σ lg nx
theorem evw_all {P : Program} {cx : Cx} {N : Nat} {Q : Exit → Act → World → Prop} {k : List It} {t0 : List (Nat × V)} {ob0 : List Ob} {B : List (List Nat)} {md : List Nat} : ∀ {fu : List Unit} {l : List RO} {i : Nat} {σ : AS} {lg : List Lg} {nx : Nat}, evalW (EvW P cx N Q k t0 ob0 B) md fu l i σ lg nx → EvW P cx N Q k t0 ob0 B l i σ lg nx
  | [], l, i, σ, lg, nx, h => h
  | _ :: _, [], i, σ, lg, nx, h => h
  | _ :: fu, ⟨d, gd, .p m⟩ :: l, i, σ, lg, nx, h => by
    rcases ifW_some h with ⟨hw, h⟩ | ⟨hw, h⟩
    · exact evw_p hw h.1 (evw_all h.2)
    · exact evw_skip hw (evw_all h)
  | _ :: fu, ⟨d, gd, .m m⟩ :: l, i, σ, lg, nx, h => by
    rcases ifW_some h with ⟨hw, h⟩ | ⟨hw, h⟩
    · cases hW : isW σ m with
      | true =>
        simp only [hW] at h
        exact evw_w hw hW h.1 (evw_all h.2)
      | false =>
        cases hC : isC md i m with
        | true =>
          simp only [hW, hC] at h
          exact evw_c hw h.1 h.2.1 (evw_all h.2.2)
        | false =>
          simp only [hW, hC] at h
          exact evw_f hw h.1 (evw_all h.2)
    · exact evw_skip hw (evw_all h)
  | _ :: _, ⟨d, gd, .call f xs⟩ :: l, i, σ, lg, nx, h => h
  | _ :: _, ⟨d, gd, .callv x xs⟩ :: l, i, σ, lg, nx, h => h
theorem evw_goP {P : Program} {cx : Cx} {N : Nat} {Q : Exit → Act → World → Prop} {k : List It} {t0 : List (Nat × V)} {ob0 : List Ob} {B : List (List Nat)} {d : Option Nat} {gd : Option (Nat × Bool)} {m : POp} {l : List RO} {i nx : Nat} {σ : AS} {lg : List Lg} (h : evalW (EvW P cx N Q k t0 ob0 B) [] [(), (), (), (), (), (), (), ()] (⟨d, gd, .p m⟩ :: l) i σ lg nx) : EvW P cx N Q k t0 ob0 B (⟨d, gd, .p m⟩ :: l) i σ lg nx := evw_all h
theorem evw_goM {P : Program} {cx : Cx} {N : Nat} {Q : Exit → Act → World → Prop} {k : List It} {t0 : List (Nat × V)} {ob0 : List Ob} {B : List (List Nat)} {d : Option Nat} {gd : Option (Nat × Bool)} {m : MOp} {l : List RO} {i nx : Nat} {σ : AS} {lg : List Lg} (h : evalW (EvW P cx N Q k t0 ob0 B) [] [(), (), (), (), (), (), (), ()] (⟨d, gd, .m m⟩ :: l) i σ lg nx) : EvW P cx N Q k t0 ob0 B (⟨d, gd, .m m⟩ :: l) i σ lg nx := evw_all h
/-- A place is kept. -/
theorem ev_resv {P : Program} {cx : Cx} {N : Nat} {Q : Exit → Act → World → Prop} {k : List It} {n : Nat} {t : List (Nat × V)} : ∀ (c : Nat) {ob : List Ob}, Ev P cx N Q k ⟨n, t, ob ++ List.replicate c resv⟩ → Ev P cx N Q k ⟨n, t, ob⟩
  | 0, ob, h => by simpa using h
  | c + 1, ob, h => by
    have h := ev_resv c (ob := ob ++ [resv]) (by simpa [List.replicate_succ] using h)
    refine ⟨fun hn E a w R => ?_⟩
    obtain ⟨L, R'⟩ := R.new (w' := w) (o := resv) (u := .slice none 0 0) (Below.refl _ _) (fun b hb => by simp [blk] at hb) rfl rfl (by
      unfold OkO
      exact ⟨1, [], [], rfl, rfl, by simp [Unif], by omega, by simp, World.ownsRow_nil _ _ _ _, by simp [RdL], fun b hb => by simp [blk] at hb⟩)
    exact h.h hn _ a w R'
def nC : List RO → Nat
  | [] => 0
  | ⟨_, _, .m (.alloc _ _)⟩ :: l => nC l + 1
  | _ :: l => nC l
theorem depL_lt {B : List (List Nat)} : ∀ {l : List RO} {i : Nat} {ds : List (Nat × Option Nat)}, depL B l i ds = true → ∀ q, i ≤ q → q < i + l.length → ∀ j ∈ bk B q, j < q
  | [], i, ds, h, q, h1, h2 => by simp at h2; omega
  | r :: l, i, ds, h, q, h1, h2 => by
    simp only [depL, Bool.and_eq_true] at h
    by_cases e : q = i
    · subst e
      intro j hj
      simpa using List.all_eq_true.1 h.1 j hj
    · exact depL_lt h.2.2 q (by omega) (by simp at h2; omega)
/-- A region that draws its order; md: the operations that make objects to be written; c: how many places are kept. -/
theorem ev_draw {P : Program} {cx : Cx} {N : Nat} {Q : Exit → Act → World → Prop} {k : List It} {t0 : List (Nat × V)} {ob0 : List Ob} {B : List (List Nat)} {l : List RO} (hm : P.follows .mixedOrders = true) (md : List Nat) (c : Nat) (hn : nC l + md.length = c) (hd : depL B l 0 [] = true)
    {fu : List Unit} (h : evalW (EvW P cx N Q k t0 (ob0 ++ List.replicate c resv) B) md fu l 0 ⟨N, t0, ob0 ++ List.replicate c resv⟩ [] ob0.length) : Ev P cx N Q (.code (.dreg l B) :: k) ⟨N, t0, ob0⟩ := by
  refine ev_resv c (ev_dreg hm (fun i hi => depL_lt hd i (Nat.zero_le _) (by omega)) ?_)
  obtain ⟨pf, h1, h2, h3, h4⟩ := (evw_all h).h [] ⟨rfl, rfl, hd, List.Pairwise.nil, fun e he => (by cases he), fun e he => (by cases he)⟩
  exact ⟨pf, h1, h2, h3, h4⟩
/-! ### As rules -/
section
variable (C : List RO → Nat → AS → List Lg → Nat → Prop) (md : List Nat) (d : Option Nat) (l : List RO) (i : Nat) (σ : AS) (lg : List Lg) (nx : Nat) (u : Unit) (fu : List Unit)
theorem evWe : evalW C md [] l i σ lg nx = C l i σ lg nx := rfl
theorem evW0 : evalW C md (u :: fu) [] i σ lg nx = C [] i σ lg nx := rfl
theorem evWv (gd : Option (Nat × Bool)) (x : X) (xs : List X) : evalW C md (u :: fu) (⟨d, gd, .callv x xs⟩ :: l) i σ lg nx = C (⟨d, gd, .callv x xs⟩ :: l) i σ lg nx := rfl
theorem evWc (gd : Option (Nat × Bool)) (f : FuncId) (xs : List X) : evalW C md (u :: fu) (⟨d, gd, .call f xs⟩ :: l) i σ lg nx = C (⟨d, gd, .call f xs⟩ :: l) i σ lg nx := rfl
theorem evWp (m : POp) : evalW C md (u :: fu) (⟨d, none, .p m⟩ :: l) i σ lg nx = dWP (evalW C md fu) (aopP σ m) (fpP σ m) d l i σ lg nx := rfl
theorem evWm (m : MOp) : evalW C md (u :: fu) (⟨d, none, .m m⟩ :: l) i σ lg nx = dWM (evalW C md fu) (isW σ m) (isC md i m) m d l i σ lg nx := rfl
theorem evWgp (g : Nat × Bool) (m : POp) : evalW C md (u :: fu) (⟨d, some g, .p m⟩ :: l) i σ lg nx = dWG (evalW C md fu) md (wants σ (some g)) (.p m) d l i σ lg nx := rfl
theorem evWgm (g : Nat × Bool) (m : MOp) : evalW C md (u :: fu) (⟨d, some g, .m m⟩ :: l) i σ lg nx = dWG (evalW C md fu) md (wants σ (some g)) (.m m) d l i σ lg nx := rfl
end
section
variable (E : List RO → Nat → AS → List Lg → Nat → Prop) (md : List Nat) (l : List RO) (i s n : Nat) (t : List (Nat × V)) (ob : List Ob) (lg : List Lg) (nx : Nat) (fp : List Nat) (x : V) (c : Prop)
theorem dWGF (o : RK) (d : Option Nat) (σ : AS) : dWG E md (some false) o d l i σ lg nx = E l (i + 1) (σ.put d (.tup [])) lg nx := rfl
theorem dWGP (m : POp) (d : Option Nat) (σ : AS) : dWG E md (some true) (.p m) d l i σ lg nx = dWP E (aopP σ m) (fpP σ m) d l i σ lg nx := rfl
theorem dWGM (m : MOp) (d : Option Nat) (σ : AS) : dWG E md (some true) (.m m) d l i σ lg nx = dWM E (isW σ m) (isC md i m) m d l i σ lg nx := rfl
theorem dWMw (cc : Bool) (m : MOp) (d : Option Nat) (σ : AS) : dWM E true cc m d l i σ lg nx = dWW E (aopM σ m) (fpM σ m) (tgtM σ m) d l i σ lg nx := rfl
theorem dWMc (m : MOp) (d : Option Nat) (σ : AS) : dWM E false true m d l i σ lg nx = dWC E (aopC σ nx m) (fpM σ m) d l i σ lg nx := rfl
theorem dWMf (m : MOp) (d : Option Nat) (σ : AS) : dWM E false false m d l i σ lg nx = dWP E (aopF σ m) (fpM σ m) d l i σ lg nx := rfl
theorem dWP1 : dWP E (x, c) fp (some s) l i ⟨n, t, ob⟩ lg nx = (c ∧ E l (i + 1) ⟨n, (s, x) :: t, ob⟩ (lgC i fp none lg) nx) := rfl
theorem dWW1 (n' : Nat) (t' : List (Nat × V)) (ob' : List Ob) (tg : Option Nat) : dWW E (x, ⟨n', t', ob'⟩, c) fp tg (some s) l i ⟨n, t, ob⟩ lg nx = (c ∧ E l (i + 1) ⟨n, (s, x) :: t, ob'⟩ (lgC i fp tg lg) nx) := rfl
theorem dWW0 (n' : Nat) (t' : List (Nat × V)) (ob' : List Ob) (tg : Option Nat) : dWW E (x, ⟨n', t', ob'⟩, c) fp tg none l i ⟨n, t, ob⟩ lg nx = (c ∧ E l (i + 1) ⟨n, t, ob'⟩ (lgC i fp tg lg) nx) := rfl
theorem dWC1 (o : Ob) : dWC E (x, o, c) fp (some s) l i ⟨n, t, ob⟩ lg nx = (ob[nx]? = some resv ∧ c ∧ E l (i + 1) ⟨n, (s, x) :: t, ob.set nx o⟩ (lgC i (nx :: fp) (some nx) lg) (nx + 1)) := rfl
theorem lgC0 (wr : Option Nat) : lgC i [] wr lg = lg := rfl
theorem lgC1 (a : Nat) (wr : Option Nat) : lgC i (a :: fp) wr lg = (i, a :: fp, wr) :: lg := rfl
end
end Rdn.Dp
