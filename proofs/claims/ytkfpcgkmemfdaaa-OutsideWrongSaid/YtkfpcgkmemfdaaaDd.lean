/- Walks in few words: control at one go, calls and returns with one condition each. Over any program. -/
import Derived.Test.YtkfpcgkmemfdaaaDw
namespace Rdn.Dp
open Go Go.RowKit Rdn
set_option linter.unusedVariables false
/-- One step of control. -/
def ctl1 : List It → AS → Option (List It)
  | .code (.seq x y) :: k, _ => some (.code x :: .code y :: k)
  | .code .skip :: k, _ => some k
  | .code (.block id x) :: k, _ => some (.code x :: .inBlock id :: k)
  | .code (.exit id) :: k, _ => popTo id k
  | .code (.cond x y z) :: k, σ => match x.ev σ with
    | .bool true => some (.code y :: k)
    | .bool false => some (.code z :: k)
    | _ => none
  | .inBlock id :: k, _ => some k
  | .rounds x (n + 1) :: k, _ => some (.code x :: .rounds x n :: k)
  | _, _ => none
def ctlF : List Unit → List It → AS → Option (List It)
  | [], k, _ => some k
  | _ :: fu, k, σ => match ctl1 k σ with
    | none => some k
    | some k1 => ctlF fu k1 σ
section
variable {P : Program} {cx : Cx} {N : Nat} {Q : Exit → Act → World → Prop} {k k1 k2 : List It} {σ : AS}
theorem ev_ctl1 (h : ctl1 k σ = some k1) (h' : Ev P cx N Q k1 σ) : Ev P cx N Q k σ := by
  unfold ctl1 at h
  split at h
  · obtain rfl := Option.some.inj h; exact ev_seq h'
  · obtain rfl := Option.some.inj h; exact ev_skip h'
  · obtain rfl := Option.some.inj h; exact ev_block h'
  · exact ev_exit h h'
  · split at h
    · rename_i e
      obtain rfl := Option.some.inj h; exact ev_condT e h'
    · rename_i e
      obtain rfl := Option.some.inj h; exact ev_condF e h'
    · cases h
  · obtain rfl := Option.some.inj h; exact ev_inBlock h'
  · obtain rfl := Option.some.inj h; exact ev_round h'
  · cases h
theorem ev_ctlF : ∀ {fu : List Unit} {k k2 : List It}, ctlF fu k σ = some k2 → Ev P cx N Q k2 σ → Ev P cx N Q k σ
  | [], k, k2, h, h' => by
    simp only [ctlF, Option.some.injEq] at h
    subst h; exact h'
  | _ :: fu, k, k2, h, h' => by
    simp only [ctlF] at h
    split at h
    · obtain rfl := Option.some.inj h; exact h'
    · rename_i k1 e
      exact ev_ctl1 e (ev_ctlF h h')
theorem ev_ctl (h : ctl1 k σ = some k1) (h2 : ctlF [(), (), (), (), (), ()] k1 σ = some k2) (h' : Ev P cx N Q k2 σ) : Ev P cx N Q k σ := ev_ctl1 h (ev_ctlF h2 h')
/-- What is worked out next in a region. -/
def goR (σ : AS) : List RO → Option (List RO × AS)
  | ⟨d, gd, .p m⟩ :: l => some (⟨d, gd, .p m⟩ :: l, σ)
  | ⟨d, gd, .m m⟩ :: l => some (⟨d, gd, .m m⟩ :: l, σ)
  | ⟨d, gd, .call f xs⟩ :: l => match wants σ gd with
    | some false => some (l, σ.put d (.tup []))
    | _ => none
  | ⟨d, gd, .callv f xs⟩ :: l => match wants σ gd with
    | some false => some (l, σ.put d (.tup []))
    | _ => none
  | [] => none
theorem evr_go {l l' : List RO} {σ' : AS} (h : goR σ l = some (l', σ')) (h' : evalR (EvR P cx N Q k) [(), (), (), (), (), (), (), ()] l' σ') : EvR P cx N Q k l σ := by
  unfold goR at h
  split at h
  · obtain ⟨rfl, rfl⟩ := Prod.mk.inj (Option.some.inj h); exact ev_all h'
  · obtain ⟨rfl, rfl⟩ := Prod.mk.inj (Option.some.inj h); exact ev_all h'
  · split at h
    · rename_i e
      obtain ⟨rfl, rfl⟩ := Prod.mk.inj (Option.some.inj h)
      exact evr_skip e (ev_all h')
    · cases h
  · split at h
    · rename_i e
      obtain ⟨rfl, rfl⟩ := Prod.mk.inj (Option.some.inj h)
      exact evr_skip e (ev_all h')
    · cases h
  · cases h
def goW (σ : AS) : List RO → Option (List RO × AS × Nat)
  | ⟨d, gd, .p m⟩ :: l => some (⟨d, gd, .p m⟩ :: l, σ, 0)
  | ⟨d, gd, .m m⟩ :: l => some (⟨d, gd, .m m⟩ :: l, σ, 0)
  | ⟨d, gd, .call f xs⟩ :: l => match wants σ gd with
    | some false => some (l, σ.put d (.tup []), 1)
    | _ => none
  | ⟨d, gd, .callv f xs⟩ :: l => match wants σ gd with
    | some false => some (l, σ.put d (.tup []), 1)
    | _ => none
  | [] => none
variable {t0 : List (Nat × V)} {ob0 : List Ob} {B : List (List Nat)} {i nx : Nat} {lg : List Lg}
theorem evw_go {l l' : List RO} {σ' : AS} {j : Nat} (h : goW σ l = some (l', σ', j)) (h' : evalW (EvW P cx N Q k t0 ob0 B) [] [(), (), (), (), (), (), (), ()] l' (i + j) σ' lg nx) : EvW P cx N Q k t0 ob0 B l i σ lg nx := by
  unfold goW at h
  split at h
  · obtain ⟨rfl, h2⟩ := Prod.mk.inj (Option.some.inj h); obtain ⟨rfl, rfl⟩ := Prod.mk.inj h2; exact evw_all h'
  · obtain ⟨rfl, h2⟩ := Prod.mk.inj (Option.some.inj h); obtain ⟨rfl, rfl⟩ := Prod.mk.inj h2; exact evw_all h'
  · split at h
    · rename_i e
      obtain ⟨rfl, h2⟩ := Prod.mk.inj (Option.some.inj h); obtain ⟨rfl, rfl⟩ := Prod.mk.inj h2
      exact evw_skip e (evw_all h')
    · cases h
  · split at h
    · rename_i e
      obtain ⟨rfl, h2⟩ := Prod.mk.inj (Option.some.inj h); obtain ⟨rfl, rfl⟩ := Prod.mk.inj h2
      exact evw_skip e (evw_all h')
    · cases h
  · cases h
theorem evw_gom (md : List Nat) {l l' : List RO} {σ' : AS} {j : Nat} (h : goW σ l = some (l', σ', j)) (h' : evalW (EvW P cx N Q k t0 ob0 B) md [(), (), (), (), (), (), (), ()] l' (i + j) σ' lg nx) : EvW P cx N Q k t0 ob0 B l i σ lg nx := by
  unfold goW at h
  split at h
  · obtain ⟨rfl, h2⟩ := Prod.mk.inj (Option.some.inj h); obtain ⟨rfl, rfl⟩ := Prod.mk.inj h2; exact evw_all h'
  · obtain ⟨rfl, h2⟩ := Prod.mk.inj (Option.some.inj h); obtain ⟨rfl, rfl⟩ := Prod.mk.inj h2; exact evw_all h'
  · split at h
    · rename_i e
      obtain ⟨rfl, h2⟩ := Prod.mk.inj (Option.some.inj h); obtain ⟨rfl, rfl⟩ := Prod.mk.inj h2
      exact evw_skip e (evw_all h')
    · cases h
  · split at h
    · rename_i e
      obtain ⟨rfl, h2⟩ := Prod.mk.inj (Option.some.inj h); obtain ⟨rfl, rfl⟩ := Prod.mk.inj h2
      exact evw_skip e (evw_all h')
    · cases h
  · cases h
abbrev fu8 : List Unit := [(), (), (), (), (), (), (), ()]
theorem ev_dr0 {l : List RO} (hm : P.follows .mixedOrders = true) (hn : nC l = 0) (hd : depL B l 0 [] = true) (h : evalW (EvW P cx N Q k t0 (ob0 ++ []) B) [] [(), (), (), (), (), (), (), ()] l 0 ⟨N, t0, ob0 ++ []⟩ [] ob0.length) : Ev P cx N Q (.code (.dreg l B) :: k) ⟨N, t0, ob0⟩ := ev_draw hm [] 0 (by simpa using hn) hd h
theorem ev_dr1 {l : List RO} (hm : P.follows .mixedOrders = true) (hn : nC l = 1) (hd : depL B l 0 [] = true) (h : evalW (EvW P cx N Q k t0 (ob0 ++ [resv]) B) [] [(), (), (), (), (), (), (), ()] l 0 ⟨N, t0, ob0 ++ [resv]⟩ [] ob0.length) : Ev P cx N Q (.code (.dreg l B) :: k) ⟨N, t0, ob0⟩ := ev_draw hm [] 1 (by simpa using hn) hd h
theorem ev_dr2 {l : List RO} (hm : P.follows .mixedOrders = true) (hn : nC l = 2) (hd : depL B l 0 [] = true) (h : evalW (EvW P cx N Q k t0 (ob0 ++ [resv, resv]) B) [] [(), (), (), (), (), (), (), ()] l 0 ⟨N, t0, ob0 ++ [resv, resv]⟩ [] ob0.length) : Ev P cx N Q (.code (.dreg l B) :: k) ⟨N, t0, ob0⟩ := ev_draw hm [] 2 (by simpa using hn) hd h
end
/-- Two structs that differ in nil slices alone. -/
def aggN (l m : List V) : Prop := SubVs l m
/-- Rows of one's own that a call gets are not written any more. -/
theorem evr_calmA {P : Program} {cx : Cx} {N : Nat} {Q : Exit → Act → World → Prop} {k : List It} {σ : AS} {l : List RO} {d : Option Nat} {gd : Option (Nat × Bool)} {f : FuncId} {xs : List X} (h : (calms σ xs).2 ∧ EvR P cx N Q k (⟨d, gd, .call f xs⟩ :: l) (calms σ xs).1) : EvR P cx N Q k (⟨d, gd, .call f xs⟩ :: l) σ := by
  refine ⟨fun hn E a w R => ?_⟩
  obtain ⟨E', R', hn'⟩ := Rel.calmL _ R h.1
  exact h.2.h (hn'.trans hn) E' a w R'
/-- Told of an argument: as the contract wants it. -/
def Sub2 (x y : V) : Prop := match x, y with
  | .agg l, .agg m => aggN l m
  | x, y => Sub x y
def Subs2 : List V → List V → Prop
  | [], [] => True
  | x :: l, y :: m => Sub2 x y ∧ Subs2 l m
  | _, _ => False
theorem SubVs.refl : ∀ l : List V, SubVs l l
  | [] => trivial
  | x :: l => ⟨SubV.refl x, SubVs.refl l⟩
theorem Sub2.to {x y : V} (h : Sub2 x y) : Sub x y := by
  unfold Sub2 at h
  split at h
  · exact Sub.agg h
  · exact h
theorem sub2_self (x : V) : Sub2 x x = True := eq_true (by
  cases x <;> first | exact SubVs.refl _ | exact Sub.refl _)
theorem sub2_nil (s : Nat) : Sub2 .nilS (.sl false s []) = True := eq_true (Sub.nil s)
theorem subV_self (x : V) : SubV x x = True := eq_true (SubV.refl x)
theorem subV_nil (t : Bool) (s : Nat) : SubV .nilS (.sl t s []) = True := eq_true (SubV.nil t s)
theorem sub2_agg (l m : List V) : Sub2 (.agg l) (.agg m) = aggN l m := rfl
theorem aggN_cons (x y : V) (l m : List V) : aggN (x :: l) (y :: m) = (SubV x y ∧ aggN l m) := rfl
theorem aggN_nil : aggN [] [] = True := rfl
theorem subs2_nil : Subs2 [] [] = True := rfl
theorem subs2_cons (x y : V) (l m : List V) : Subs2 (x :: l) (y :: m) = (Sub2 x y ∧ Subs2 l m) := rfl
theorem Subs2.to : ∀ {l m : List V}, Subs2 l m → Subs l m
  | [], [], _ => trivial
  | x :: l, y :: m, h => ⟨h.1.to, Subs2.to h.2⟩
  | [], y :: m, h => h.elim
  | x :: l, [], h => h.elim
def frOb : List Ob → Prop
  | [] => True
  | o :: l => o.v.fresh = true ∧ frOb l
theorem frOb_all : ∀ {l : List Ob}, frOb l → ∀ o ∈ l, o.v.fresh = true
  | o' :: l, h, o, ho => by
    rcases List.mem_cons.1 ho with rfl | ho
    · exact h.1
    · exact frOb_all h.2 o ho
/-- A call may be made, and its result taken over. -/
def callOk (σ : AS) (ws ys : List V) (x : V) (obs : List Ob) : Prop := V.ressOk σ ws ∧ noTup ws ∧ Subs2 (V.lows (V.ress σ [] ws)) ys ∧ (V.pures ws = true ∨ (x.fresh = true ∧ frOb obs))
section
variable {P : Program} {cx : Cx} {N : Nat} {Q : Exit → Act → World → Prop} {k : List It} {n : Nat} {t : List (Nat × V)} {ob : List Ob} {l : List RO} {gd : Option (Nat × Bool)} {i : Nat} {f : FuncId} {xs : List X} {ys : List V} {x : V} {os : List Ob}
theorem callD (hF : Fnc P f ys fun y obs => y = x ∧ obs = []) (h : wants ⟨n, t, ob⟩ gd = some true ∧ callOk ⟨n, t, ob⟩ (xs.map (X.ev ⟨n, t, ob⟩)) ys x [] ∧ V.pureT x = true ∧ evalR (EvR P cx N Q k) [(), (), (), (), (), (), (), ()] l ⟨n, (i, x) :: t, ob⟩) : EvR P cx N Q k (⟨some i, gd, .call f xs⟩ :: l) ⟨n, t, ob⟩ := by
  obtain ⟨h1, ⟨h2, h3, h4, h5⟩, h6, h7⟩ := h
  exact st_callD ys x hF h1 rfl ⟨h2, h3⟩ h4.to h6 (h5.imp id fun h => ⟨h.1, frOb_all h.2⟩) (ev_all h7)
theorem callX (hF : Fnc P f ys fun y obs => y = x ∧ obs = os) (h : wants ⟨n, t, ob⟩ gd = some true ∧ callOk ⟨n, t, ob⟩ (xs.map (X.ev ⟨n, t, ob⟩)) ys x os ∧ evalR (EvR P cx N Q k) [(), (), (), (), (), (), (), ()] l ⟨n, (i, x.shift ob.length) :: t, ob ++ os.map (Ob.shift ob.length)⟩) : EvR P cx N Q k (⟨some i, gd, .call f xs⟩ :: l) ⟨n, t, ob⟩ := by
  obtain ⟨h1, ⟨h2, h3, h4, h5⟩, h7⟩ := h
  exact st_callX ys x os hF h1 rfl ⟨h2, h3⟩ h4.to rfl rfl (h5.imp id fun h => ⟨h.1, frOb_all h.2⟩) (ev_all h7)
/-- A call of a value. -/
theorem callDv {x0 : X} {cs : List V} (hF : Fnc P f ys fun y obs => y = x ∧ obs = []) (hf : okF P f = true) (hv : calleeV (x0.ev ⟨n, t, ob⟩) = some (f, cs)) (h : wants ⟨n, t, ob⟩ gd = some true ∧ callOk ⟨n, t, ob⟩ (xs.map (X.ev ⟨n, t, ob⟩) ++ cs) ys x [] ∧ V.pureT x = true ∧ evalR (EvR P cx N Q k) [(), (), (), (), (), (), (), ()] l ⟨n, (i, x) :: t, ob⟩) : EvR P cx N Q k (⟨some i, gd, .callv x0 xs⟩ :: l) ⟨n, t, ob⟩ := by
  obtain ⟨h1, ⟨h2, h3, h4, h5⟩, h6, h7⟩ := h
  refine evr_callv ys _ hF hf hv h1 h2 h3 h4.to (fun y obs hy => by obtain ⟨rfl, rfl⟩ := hy; exact h5.imp id fun h => ⟨h.1, frOb_all h.2⟩) fun y obs hy => ?_
  obtain ⟨rfl, rfl⟩ := hy
  rw [V.shift_pureT _ _ h6, List.map_nil, List.append_nil]
  exact ev_all h7
variable {t0 : List (Nat × V)} {ob0 : List Ob} {B : List (List Nat)} {nx : Nat} {σ : AS} {lg : List Lg} {d : Option Nat} {j : Nat}
theorem callDw (hF : Fnc P f ys fun y obs => y = x ∧ obs = []) (h : wants σ gd = some true ∧ callOk σ (xs.map (X.ev σ)) ys x [] ∧ V.pureT x = true ∧ evalW (EvW P cx N Q k t0 ob0 B) [] [(), (), (), (), (), (), (), ()] l (j + 1) (σ.put d x) (lgC j (V.idss (xs.map (X.ev σ))) none lg) nx) : EvW P cx N Q k t0 ob0 B (⟨d, gd, .call f xs⟩ :: l) j σ lg nx := by
  obtain ⟨h1, ⟨h2, h3, h4, h5⟩, h6, h7⟩ := h
  exact evw_call ys x hF h1 rfl ⟨h2, h3⟩ h4.to h6 (h5.imp id fun h => ⟨h.1, frOb_all h.2⟩) (evw_all h7)
theorem callDvw {x0 : X} {cs : List V} (hF : Fnc P f ys fun y obs => y = x ∧ obs = []) (hf : okF P f = true) (hv : calleeV (X.ev σ x0) = some (f, cs)) (h : wants σ gd = some true ∧ callOk σ (xs.map (X.ev σ) ++ cs) ys x [] ∧ V.pureT x = true ∧ evalW (EvW P cx N Q k t0 ob0 B) [] [(), (), (), (), (), (), (), ()] l (j + 1) (σ.put d x) (lgC j (V.idss (xs.map (X.ev σ) ++ cs)) none lg) nx) : EvW P cx N Q k t0 ob0 B (⟨d, gd, .callv x0 xs⟩ :: l) j σ lg nx := by
  obtain ⟨h1, ⟨h2, h3, h4, h5⟩, h6, h7⟩ := h
  exact evw_callV ys x hF hf hv h1 rfl ⟨h2, h3⟩ h4.to h6 (h5.imp id fun h => ⟨h.1, frOb_all h.2⟩) (evw_all h7)
theorem callXw {e s : Nat} {qs : List V} (hF : Fnc P f ys fun y obs => y = .own 0 0 ∧ obs = [⟨.row e, true, 0, .arr s qs⟩]) (h : wants σ gd = some true ∧ callOk σ (xs.map (X.ev σ)) ys (.own 0 0) [⟨.row e, true, 0, .arr s qs⟩] ∧ σ.ob[nx]? = some resv ∧ V.pures qs = true ∧ evalW (EvW P cx N Q k t0 ob0 B) [] [(), (), (), (), (), (), (), ()] l (j + 1) ((⟨σ.n, σ.t, σ.ob.set nx ⟨.row e, true, 1, .arr s qs⟩⟩ : AS).put d (.own nx 1)) (lgC j (nx :: V.idss (xs.map (X.ev σ))) (some nx) lg) (nx + 1)) : EvW P cx N Q k t0 ob0 B (⟨d, gd, .call f xs⟩ :: l) j σ lg nx := by
  obtain ⟨h1, ⟨h2, h3, h4, h5⟩, h8, h6, h7⟩ := h
  exact evw_callR ys hF h1 h8 rfl ⟨h2, h3⟩ h4.to h6 (h5.imp id fun h => ⟨h.1, frOb_all h.2⟩) (evw_all h7)
def outO : Option Ob → Prop
  | some ⟨.row _, true, _, .arr _ _⟩ => True
  | _ => False
def outOk2 (σ : AS) : List Nat → Prop
  | [] => True
  | [r] => outO σ.ob[r]?
  | _ => False
theorem outOk2.to {σ : AS} {ids : List Nat} (h : outOk2 σ ids) : outOk σ ids := by
  unfold outOk2 at h
  split at h
  · exact ⟨List.nodup_nil, fun r hr => by cases hr⟩
  · rename_i r
    unfold outO at h
    split at h
    · rename_i e g s l' h'
      exact ⟨by simp, fun q hq => by simp at hq; subst hq; exact ⟨e, g, s, l', h'⟩⟩
    · exact h.elim
  · exact h.elim
theorem ret {f : FuncId} {W : World} {S : Nat → Prop} {R0 : V → List Ob → Prop} {n0 : Nat} {m : MC} {rs : List POp} (hc : compF P f = some (n0, m, rs)) (ids : List Nat) (h : (retV ⟨n, t, ob⟩ rs).2 ∧ outOk2 ⟨n, t, ob⟩ ids ∧ V.resOk ⟨n, t, ob⟩ (retV ⟨n, t, ob⟩ rs).1 ∧ R0 ((retV ⟨n, t, ob⟩ rs).1.res ⟨n, t, ob⟩ ids) (outObs ⟨n, t, ob⟩ ids)) : Ev P ⟨W, fun _ => False, S⟩ N (post P f W S R0) (.code .ret :: k) ⟨n, t, ob⟩ := by
  obtain ⟨h1, h2, h3, h4⟩ := h
  exact st_return hc ids rfl h1 h2.to h3 rfl rfl h4
end
/-- A variable is not written any more. -/
theorem Rel.frozeB {cx : Cx} {E : Env} {a : Act} {w : World} {n : Nat} {t : List (Nat × V)} {ob : List Ob} (R : Rel cx E ⟨n, t, ob⟩ a w) {r g : Nat} {T : TypeId} {c : V} (ho : ob[r]? = some ⟨.box false T, true, g, c⟩) (hp : c.pure = true) : ∃ E', Rel cx E' ⟨n, t, ob.set r ⟨.box false T, false, g, c⟩⟩ a w ∧ ∀ v, RdT E w (.ptr r g [] 0) v → RdT E' w (.rp c) v := by
  obtain ⟨u, k1, k2⟩ := R.ob r _ ho
  have k3 := k2
  unfold OkO at k3
  obtain ⟨b, cs, rfl, m2, m3, m4, m5⟩ := k3
  simp only [Bool.false_eq_true, if_false] at m4
  obtain ⟨L, R1⟩ := R.freeze (r := r) ho k1 (fun b' hb' => by
    simp only [blk, Option.some.injEq] at hb'
    subst hb'
    exact ⟨m4, hp⟩)
  have e : (⟨n, t, ob⟩ : AS).upd r Ob.freeze = ⟨n, t, ob.set r ⟨.box false T, false, g, c⟩⟩ := by simp [AS.upd, ho, Ob.freeze]
  rw [e] at R1
  refine ⟨_, R1, fun v hx => ?_⟩
  have hv : v = .pointer (some ⟨b, 0, none⟩) := by
    simp only [RdT, RdV] at hx
    obtain ⟨v', e, _, _, h⟩ := hx
    simp only [List.cons.injEq, and_true] at e
    subst e
    obtain ⟨_, h2⟩ := h g _ k1
    obtain ⟨b', e1, e2⟩ := h2 rfl
    simp only [blk, Option.some.injEq] at e1
    subst e1
    exact e2
  rw [hv]
  exact mk_rp hp (.inr rfl) (m3.mono L) (fun j v hv => by simpa [World.cell?, m2] using hv)
theorem Rel.slot {cx : Cx} {E : Env} {a : Act} {w : World} {n : Nat} {t : List (Nat × V)} {ob : List Ob} (R : Rel cx E ⟨n, t, ob⟩ a w) {i : Nat} {y : V} (h : RdT E w y (a.tmps.getD i undef)) : Rel cx E ⟨n, (i, y) :: t, ob⟩ a w := by
  refine ⟨R.df, R.n, fun j => ?_, R.len, R.ob, R.sep, R.lt, R.fr, R.old, R.keep⟩
  simp only [slotV]
  split
  · rename_i e
    subst e
    exact h
  · exact R.tm j
section
variable {P : Program} {cx : Cx} {N : Nat} {Q : Exit → Act → World → Prop} {k : List It} {n : Nat} {t : List (Nat × V)} {ob : List Ob} {l : List RO}
/-- A variable is not written any more; what points to it, through the slot i. -/
theorem ev_freezeB (i : Nat) {r g : Nat} {T : TypeId} {c : V} (hi : slotV t i = .ptr r g [] 0) (ho : ob[r]? = some ⟨.box false T, true, g, c⟩) (hp : c.pure = true) (h : Ev P cx N Q k ⟨n, (i, .rp c) :: t, ob.set r ⟨.box false T, false, g, c⟩⟩) : Ev P cx N Q k ⟨n, t, ob⟩ := by
  refine ⟨fun hn E a w R => ?_⟩
  obtain ⟨E', R', hv⟩ := R.frozeB ho hp
  have hx : RdT E w (slotV t i) (a.tmps.getD i undef) := R.tm i
  rw [hi] at hx
  exact h.h hn E' a w (R'.slot (hv _ hx))
/-- A function value that has captured a variable: this is not written any more. -/
theorem evr_cloB (i : Nat) {f : FuncId} {r g : Nat} {T : TypeId} {c : V} (hi : slotV t i = .clo f [.ptr r g [] 0]) (ho : ob[r]? = some ⟨.box false T, true, g, c⟩) (hp : c.pure = true) (h : EvR P cx N Q k l ⟨n, (i, .clo f [.rp c]) :: t, ob.set r ⟨.box false T, false, g, c⟩⟩) : EvR P cx N Q k l ⟨n, t, ob⟩ := by
  refine ⟨fun hn E a w R => ?_⟩
  obtain ⟨E', R', hv⟩ := R.frozeB ho hp
  have hx : RdT E w (slotV t i) (a.tmps.getD i undef) := R.tm i
  rw [hi] at hx
  refine h.h hn E' a w (R'.slot ?_)
  simp only [RdT, RdTs] at hx ⊢
  obtain ⟨vs, h1, v, ys, h2, h3, h4⟩ := hx
  have h5 := hv v (by simpa only [RdT] using h3)
  simp only [RdT] at h5
  exact ⟨vs, h1, v, ys, h2, h5, h4⟩
/-- The same, between regions, held in two slots. -/
theorem ev_clo2 (i j : Nat) {f : FuncId} {r g : Nat} {T : TypeId} {c : V} (hi : slotV t i = .clo f [.ptr r g [] 0]) (hj : slotV t j = .clo f [.ptr r g [] 0]) (ho : ob[r]? = some ⟨.box false T, true, g, c⟩) (hp : c.pure = true) (h : Ev P cx N Q k ⟨n, (j, .clo f [.rp c]) :: (i, .clo f [.rp c]) :: t, ob.set r ⟨.box false T, false, g, c⟩⟩) : Ev P cx N Q k ⟨n, t, ob⟩ := by
  refine ⟨fun hn E a w R => ?_⟩
  obtain ⟨E', R', hv⟩ := R.frozeB ho hp
  have key : ∀ q, slotV t q = .clo f [.ptr r g [] 0] → RdT E' w (.clo f [.rp c]) (a.tmps.getD q undef) := fun q hq => by
    have hx : RdT E w (slotV t q) (a.tmps.getD q undef) := R.tm q
    rw [hq] at hx
    simp only [RdT, RdTs] at hx ⊢
    obtain ⟨vs, h1, v, ys, h2, h3, h4⟩ := hx
    have h5 := hv v (by simpa only [RdT] using h3)
    simp only [RdT] at h5
    exact ⟨vs, h1, v, ys, h2, h5, h4⟩
  exact h.h hn E' a w ((R'.slot (key i hi)).slot (key j hj))
end
attribute [go_sem] sub2_self sub2_nil subV_self subV_nil aggN_cons aggN_nil subs2_nil subs2_cons sub2_agg frOb callOk outO outOk2 outObs calleeV V.noTups evRv evWv V.shift V.shifts shifts_lo Ob.shift List.idxOf?_cons
end Rdn.Dp
