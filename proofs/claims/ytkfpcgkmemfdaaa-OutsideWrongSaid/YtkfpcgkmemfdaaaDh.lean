/- Walks over trees, a step at a time, with the state written out. Over any program. -/
import Derived.Test.YtkfpcgkmemfdaaaDg
namespace Rdn.Dp
open Go Go.RowKit Rdn
set_option linter.unusedVariables false
/-- By a guard: run, or leave out. -/
def ifW (w : Option Bool) (A B : Prop) : Prop := match w with
  | some true => A
  | some false => B
  | none => False
/-- A region's operations up to its next call, worked out at one go. -/
def evalR (C : List RO → AS → Prop) : List Unit → List RO → AS → Prop
  | [], l, σ => C l σ
  | _ :: _, [], σ => C [] σ
  | _ :: fu, ⟨d, gd, .p m⟩ :: l, σ => ifW (wants σ gd) ((aopP σ m).2 ∧ evalR C fu l (σ.put d (aopP σ m).1)) (evalR C fu l (σ.put d (.tup [])))
  | _ :: fu, ⟨d, gd, .m m⟩ :: l, σ => ifW (wants σ gd) ((calmM σ m).2 ∧ wants (calmM σ m).1 gd = some true ∧ (aopM (calmM σ m).1 m).2.2 ∧ (aopM (calmM σ m).1 m).2.1.n = (calmM σ m).1.n ∧ evalR C fu l ((aopM (calmM σ m).1 m).2.1.put d (aopM (calmM σ m).1 m).1)) (evalR C fu l (σ.put d (.tup [])))
  | _ :: _, ⟨d, gd, .call f xs⟩ :: l, σ => C (⟨d, gd, .call f xs⟩ :: l) σ
  | _ :: _, ⟨d, gd, .callv x xs⟩ :: l, σ => C (⟨d, gd, .callv x xs⟩ :: l) σ
def doP (E : List RO → AS → Prop) (r : V × Prop) (d : Option Nat) (l : List RO) (σ : AS) : Prop := r.2 ∧ E l (σ.put d r.1)
def doM (E : List RO → AS → Prop) (r : V × AS × Prop) (d : Option Nat) (l : List RO) (n : Nat) : Prop := r.2.2 ∧ r.2.1.n = n ∧ E l (r.2.1.put d r.1)
/-- After rows that go into memory were frozen. -/
def doC (E : List RO → AS → Prop) (p : AS × Prop) (gd : Option (Nat × Bool)) (m : MOp) (d : Option Nat) (l : List RO) : Prop := p.2 ∧ wants p.1 gd = some true ∧ doM E (aopM p.1 m) d l p.1.n
def doG (E : List RO → AS → Prop) (w : Option Bool) (gd : Option (Nat × Bool)) (o : RK) (d : Option Nat) (l : List RO) (σ : AS) : Prop := ifW w (match o with | .p m => doP E (aopP σ m) d l σ | .m m => doC E (calmM σ m) gd m d l | .call _ _ => False | .callv _ _ => False) (E l (σ.put d (.tup [])))
theorem evRe (C : List RO → AS → Prop) (l : List RO) (σ : AS) : evalR C [] l σ = C l σ := rfl
theorem evR0 (C : List RO → AS → Prop) (u : Unit) (fu : List Unit) (σ : AS) : evalR C (u :: fu) [] σ = C [] σ := rfl
theorem evRc (C : List RO → AS → Prop) (u : Unit) (fu : List Unit) (d : Option Nat) (gd : Option (Nat × Bool)) (f : FuncId) (xs : List X) (l : List RO) (σ : AS) : evalR C (u :: fu) (⟨d, gd, .call f xs⟩ :: l) σ = C (⟨d, gd, .call f xs⟩ :: l) σ := rfl
theorem evRv (C : List RO → AS → Prop) (u : Unit) (fu : List Unit) (d : Option Nat) (gd : Option (Nat × Bool)) (x : X) (xs : List X) (l : List RO) (σ : AS) : evalR C (u :: fu) (⟨d, gd, .callv x xs⟩ :: l) σ = C (⟨d, gd, .callv x xs⟩ :: l) σ := rfl
theorem evRp (C : List RO → AS → Prop) (u : Unit) (fu : List Unit) (d : Option Nat) (m : POp) (l : List RO) (σ : AS) : evalR C (u :: fu) (⟨d, none, .p m⟩ :: l) σ = doP (evalR C fu) (aopP σ m) d l σ := rfl
theorem evRm (C : List RO → AS → Prop) (u : Unit) (fu : List Unit) (d : Option Nat) (m : MOp) (l : List RO) (σ : AS) : evalR C (u :: fu) (⟨d, none, .m m⟩ :: l) σ = doC (evalR C fu) (calmM σ m) none m d l := rfl
theorem doC1 (E : List RO → AS → Prop) (σ : AS) (gd : Option (Nat × Bool)) (m : MOp) (d : Option Nat) (l : List RO) : doC E (σ, True) gd m d l = (wants σ gd = some true ∧ doM E (aopM σ m) d l σ.n) := by simp [doC]
theorem doC2 (E : List RO → AS → Prop) (σ : AS) (c : Prop) (gd : Option (Nat × Bool)) (m : MOp) (d : Option Nat) (l : List RO) : doC E (σ, c) gd m d l = (c ∧ wants σ gd = some true ∧ doM E (aopM σ m) d l σ.n) := rfl
theorem wants0 (σ : AS) : (wants σ none = some true) = True := by simp [wants]
theorem evRgp (C : List RO → AS → Prop) (u : Unit) (fu : List Unit) (d : Option Nat) (g : Nat × Bool) (m : POp) (l : List RO) (σ : AS) : evalR C (u :: fu) (⟨d, some g, .p m⟩ :: l) σ = doG (evalR C fu) (wants σ (some g)) (some g) (.p m) d l σ := rfl
theorem evRgm (C : List RO → AS → Prop) (u : Unit) (fu : List Unit) (d : Option Nat) (g : Nat × Bool) (m : MOp) (l : List RO) (σ : AS) : evalR C (u :: fu) (⟨d, some g, .m m⟩ :: l) σ = doG (evalR C fu) (wants σ (some g)) (some g) (.m m) d l σ := rfl
theorem doGF (E : List RO → AS → Prop) (gd : Option (Nat × Bool)) (o : RK) (d : Option Nat) (l : List RO) (σ : AS) : doG E (some false) gd o d l σ = E l (σ.put d (.tup [])) := rfl
theorem doGP (E : List RO → AS → Prop) (gd : Option (Nat × Bool)) (m : POp) (d : Option Nat) (l : List RO) (σ : AS) : doG E (some true) gd (.p m) d l σ = doP E (aopP σ m) d l σ := rfl
theorem doGM (E : List RO → AS → Prop) (gd : Option (Nat × Bool)) (m : MOp) (d : Option Nat) (l : List RO) (σ : AS) : doG E (some true) gd (.m m) d l σ = doC E (calmM σ m) gd m d l := rfl
theorem doP1 (E : List RO → AS → Prop) (x : V) (c : Prop) (i : Nat) (l : List RO) (n : Nat) (t : List (Nat × V)) (ob : List Ob) : doP E (x, c) (some i) l ⟨n, t, ob⟩ = (c ∧ E l ⟨n, (i, x) :: t, ob⟩) := rfl
theorem doM1 (E : List RO → AS → Prop) (x : V) (c : Prop) (i : Nat) (l : List RO) (n : Nat) (t : List (Nat × V)) (ob : List Ob) : doM E (x, ⟨n, t, ob⟩, c) (some i) l n = (c ∧ E l ⟨n, (i, x) :: t, ob⟩) := by simp [doM, AS.put]
theorem doM0 (E : List RO → AS → Prop) (x : V) (c : Prop) (l : List RO) (n : Nat) (t : List (Nat × V)) (ob : List Ob) : doM E (x, ⟨n, t, ob⟩, c) none l n = (c ∧ E l ⟨n, t, ob⟩) := by simp [doM, AS.put]
theorem ifW_some {w : Option Bool} {A B : Prop} (h : ifW w A B) : (w = some true ∧ A) ∨ (w = some false ∧ B) := by
  unfold ifW at h
  split at h
  · exact .inl ⟨rfl, h⟩
  · exact .inr ⟨rfl, h⟩
  · exact h.elim
/-- An operation that makes memory or writes; rows that go into memory are frozen before. -/
theorem evr_mc {P : Program} {cx : Cx} {N : Nat} {Q : Exit → Act → World → Prop} {k : List It} {σ : AS} {d : Option Nat} {gd : Option (Nat × Bool)} {m : MOp} {l : List RO} (hk : (calmM σ m).2) (hw : wants (calmM σ m).1 gd = some true) (hc : (aopM (calmM σ m).1 m).2.2) (hnn : (aopM (calmM σ m).1 m).2.1.n = (calmM σ m).1.n) (h : EvR P cx N Q k l ((aopM (calmM σ m).1 m).2.1.put d (aopM (calmM σ m).1 m).1)) : EvR P cx N Q k (⟨d, gd, .m m⟩ :: l) σ := by
  have h1 := evr_m (d := d) hw hc hnn h
  refine ⟨fun hn E a w R => ?_⟩
  obtain ⟨E', R', hn'⟩ := R.calmO hk
  exact h1.h (hn'.trans hn) E' a w R'
theorem ev_all {P : Program} {cx : Cx} {N : Nat} {Q : Exit → Act → World → Prop} {k : List It} : ∀ {fu : List Unit} {l : List RO} {σ : AS}, evalR (EvR P cx N Q k) fu l σ → EvR P cx N Q k l σ
  | [], l, σ, h => h
  | _ :: _, [], σ, h => h
  | _ :: fu, ⟨d, gd, .p m⟩ :: l, σ, h => by
    rcases ifW_some h with ⟨hw, h⟩ | ⟨hw, h⟩
    · exact evr_p hw h.1 (ev_all h.2)
    · exact evr_skip hw (ev_all h)
  | _ :: fu, ⟨d, gd, .m m⟩ :: l, σ, h => by
    rcases ifW_some h with ⟨hw, h⟩ | ⟨hw, h⟩
    · exact evr_mc h.1 h.2.1 h.2.2.1 h.2.2.2.1 (ev_all h.2.2.2.2)
    · exact evr_skip hw (ev_all h)
  | _ :: _, ⟨d, gd, .call f xs⟩ :: l, σ, h => h
  | _ :: _, ⟨d, gd, .callv x xs⟩ :: l, σ, h => h
theorem ev_region {P : Program} {cx : Cx} {N : Nat} {Q : Exit → Act → World → Prop} {k : List It} {l : List RO} {σ : AS} (h : evalR (EvR P cx N Q k) [(), (), (), (), (), (), (), ()] l σ) : Ev P cx N Q (.code (.reg l) :: k) σ := ev_reg (ev_all h)
theorem evr_goP {P : Program} {cx : Cx} {N : Nat} {Q : Exit → Act → World → Prop} {k : List It} {d : Option Nat} {gd : Option (Nat × Bool)} {m : POp} {l : List RO} {σ : AS} (h : evalR (EvR P cx N Q k) [(), (), (), (), (), (), (), ()] (⟨d, gd, .p m⟩ :: l) σ) : EvR P cx N Q k (⟨d, gd, .p m⟩ :: l) σ := ev_all h
theorem evr_goM {P : Program} {cx : Cx} {N : Nat} {Q : Exit → Act → World → Prop} {k : List It} {d : Option Nat} {gd : Option (Nat × Bool)} {m : MOp} {l : List RO} {σ : AS} (h : evalR (EvR P cx N Q k) [(), (), (), (), (), (), (), ()] (⟨d, gd, .m m⟩ :: l) σ) : EvR P cx N Q k (⟨d, gd, .m m⟩ :: l) σ := ev_all h
theorem ev_condT {P : Program} {cx : Cx} {N : Nat} {Q : Exit → Act → World → Prop} {k : List It} {σ : AS} {x : X} {y z : MC} (hx : x.ev σ = .bool true) (h : Ev P cx N Q (.code y :: k) σ) : Ev P cx N Q (.code (.cond x y z) :: k) σ := ev_cond hx (fun _ => h) (fun e => by cases e)
theorem ev_condF {P : Program} {cx : Cx} {N : Nat} {Q : Exit → Act → World → Prop} {k : List It} {σ : AS} {x : X} {y z : MC} (hx : x.ev σ = .bool false) (h : Ev P cx N Q (.code z :: k) σ) : Ev P cx N Q (.code (.cond x y z) :: k) σ := ev_cond hx (fun e => by cases e) (fun _ => h)
theorem bTF : (true == false) = false := rfl
theorem bFT : (false == true) = false := rfl
theorem decT {p : Prop} [Decidable p] (h : p) : decide p = true := decide_eq_true h
theorem decF {p : Prop} [Decidable p] (h : ¬ p) : decide p = false := decide_eq_false h
theorem beqT {a b : Int} (h : a = b) : (a == b) = true := by simp [h]
theorem beqF {a b : Int} (h : a ≠ b) : (a == b) = false := by simp [h]
theorem bneT {a b : Int} (h : a ≠ b) : (a != b) = true := by simp [h]
theorem bneF {a b : Int} (h : a = b) : (a != b) = false := by simp [h]
section
variable {P : Program} {cx : Cx} {N : Nat} {Q : Exit → Act → World → Prop} {k : List It} {n : Nat} {t : List (Nat × V)} {ob : List Ob} {l : List RO} {gd : Option (Nat × Bool)}
theorem st_call {i : Nat} {f : FuncId} {xs : List X} (ys : List V) {ws : List V} {R0 : V → List Ob → Prop} (hF : Fnc P f ys R0) (hw : wants ⟨n, t, ob⟩ gd = some true) (hx : xs.map (X.ev ⟨n, t, ob⟩) = ws) (hok : V.ressOk ⟨n, t, ob⟩ ws ∧ noTup ws)
    (hs : Subs (V.lows (V.ress ⟨n, t, ob⟩ [] ws)) ys) (hq : ∀ x obs, R0 x obs → newOr ws x obs) (h : ∀ x obs, R0 x obs → EvR P cx N Q k l ⟨n, (i, x.shift ob.length) :: t, ob ++ obs.map (Ob.shift ob.length)⟩) : EvR P cx N Q k (⟨some i, gd, .call f xs⟩ :: l) ⟨n, t, ob⟩ := by
  subst hx
  exact evr_call ys R0 hF hw hok.1 hok.2 hs hq h
/-- Less is known: t, and the objects ob'. -/
theorem st_less (t' : List (Nat × V)) {ob' : List Ob} (m : Nat) (ho : ob.take m = ob') (hm : m ≤ ob.length) (ht : ∀ x ∈ t', slotV t x.1 = slotV t' x.1) (hs : ∀ x ∈ t', x.2.scp m = true) (hs' : ∀ o ∈ ob', o.scp m = true) (h : Ev P cx N Q k ⟨n, t', ob'⟩) : Ev P cx N Q k ⟨n, t, ob⟩ := by
  subst ho
  exact ev_less hm ht hs hs' h
theorem st_goal {J : AS → Prop} {σ : AS} (h : J σ) : Ev P cx N Q (.goal J :: k) σ := ev_goal h
/-- A function returns y, told as z, with objects obs. -/
theorem st_return {f : FuncId} {W : World} {S : Nat → Prop} {R0 : V → List Ob → Prop} {n0 : Nat} {m : MC} {rs : List POp} {y z : V} {c : Prop} {obs : List Ob} (hc : compF P f = some (n0, m, rs)) (ids : List Nat) (hv : retV ⟨n, t, ob⟩ rs = (y, c)) (hcc : c) (ho : outOk ⟨n, t, ob⟩ ids) (hp : V.resOk ⟨n, t, ob⟩ y) (hz : y.res ⟨n, t, ob⟩ ids = z)
    (hobs : outObs ⟨n, t, ob⟩ ids = obs) (h : R0 z obs) : Ev P ⟨W, fun _ => False, S⟩ N (post P f W S R0) (.code .ret :: k) ⟨n, t, ob⟩ := by
  subst hz hobs
  exact ev_return hc ids (by rw [hv]; exact hcc) ho (by rw [hv]; exact hp) (by rw [hv]; exact h)
/-- A contract may tell less of its result. -/
theorem Fnc.low {f : FuncId} {xs : List V} {R0 : V → List Ob → Prop} (h : Fnc P f xs fun x obs => R0 x.low (obs.map Ob.low)) : Fnc P f xs R0 := fun w S vs hS hvs => (h w S vs hS hvs).mono (by
  rintro e w' ⟨x, obs, v, h1, h2, h3⟩
  exact ⟨_, _, v, h1, h2, h3.low⟩)
theorem Fnc.mono {f : FuncId} {xs : List V} {R0 R1 : V → List Ob → Prop} (h : Fnc P f xs R0) (hR : ∀ x obs, R0 x obs → R1 x obs) : Fnc P f xs R1 := fun w S vs hS hvs => (h w S vs hS hvs).mono (by
  rintro e w' ⟨x, obs, v, h1, h2, h3⟩
  exact ⟨x, obs, v, hR _ _ h1, h2, h3⟩)
theorem st_returnP {f : FuncId} {W : World} {S : Nat → Prop} {R0 : V → List Ob → Prop} {n0 : Nat} {m : MC} {rs : List POp} {r g : Nat} {T : TypeId} {d : V} {c : Prop} (hc : compF P f = some (n0, m, rs)) (hv : retV ⟨n, t, ob⟩ rs = (.ptr r g [] 0, c)) (hcc : c) (h0 : ob[r]? = some ⟨.box false T, true, g, d⟩) (hp : d.pure = true)
    (h : R0 (.ptr 0 0 [] 0) [⟨.box false T, true, 0, d⟩]) : Ev P ⟨W, fun _ => False, S⟩ N (post P f W S R0) (.code .ret :: k) ⟨n, t, ob⟩ :=
  ev_returnP hc (by rw [hv]; exact hcc) (by rw [hv]) h0 hp h
/-- A nil slice is a row of the call's own from now on. -/
theorem ev_adopt {i e s : Nat} (hi : slotV t i = .nilS) (hs : 0 < s) (h : Ev P cx N Q k ⟨n, (i, .own ob.length 0) :: t, ob ++ [⟨.row e, true, 0, .arr s []⟩]⟩) : Ev P cx N Q k ⟨n, t, ob⟩ := by
  refine ⟨fun hn E a w R => ?_⟩
  have hv := R.tm i
  have hv : RdT E w (slotV t i) (a.tmps.getD i undef) := hv
  rw [hi] at hv
  simp only [RdT, RdV, List.cons.injEq, and_true] at hv
  obtain ⟨L, R'⟩ := R.new (w' := w) (o := ⟨.row e, true, 0, .arr s []⟩) (u := .slice none 0 0) (Below.refl _ _) (fun b hb => by simp [blk] at hb) rfl rfl (by
    unfold OkO
    exact ⟨s, [], [], rfl, rfl, by simp [Unif], hs, by simp, World.ownsRow_nil _ _ _ _, by simp [RdL], fun b hb => by simp [blk] at hb⟩)
  refine h.h hn _ a w ⟨R'.df, R'.n, fun j => ?_, R'.len, R'.ob, R'.sep, R'.lt, R'.fr, R'.old, R'.keep⟩
  simp only [slotV]
  split
  · rename_i e; subst e
    rw [hv]
    simp only [RdT, RdV]
    refine ⟨_, rfl, rfl, by simp [R.len], fun gc u h => ?_⟩
    have hl : E.ref.length = ob.length := R.len
    rw [← hl, List.getElem?_append_right (Nat.le_refl _)] at h
    simp at h
    obtain ⟨h1, h2⟩ := h
    subst h1
    exact ⟨Nat.le_refl _, fun _ => h2⟩
  · exact R'.tm j
end
theorem getD_map {α : Type} [Inhabited α] (f : α → V) (l : List α) (k : Nat) (h : k < l.length) : (l.map f).getD k .junk = f (l[k]!) := by
  simp [List.getD_eq_getElem?_getD, h]
theorem wrapI64 {e : Int} (h0 : -9223372036854775808 ≤ e) (h1 : e ≤ 9223372036854775807) : IntKind.i64.wrap e = e := by simp [IntKind.wrap, IntKind.bits, IntKind.signed]; omega
theorem wrapU8 {e : Int} (h0 : 0 ≤ e) (h1 : e ≤ 255) : IntKind.u8.wrap e = e := by simp [IntKind.wrap, IntKind.bits, IntKind.signed]; omega
theorem wrapU16 {e : Int} (h0 : 0 ≤ e) (h1 : e ≤ 65535) : IntKind.u16.wrap e = e := by simp [IntKind.wrap, IntKind.bits, IntKind.signed]; omega
theorem wrapU32 {e : Int} (h0 : 0 ≤ e) (h1 : e ≤ 4294967295) : IntKind.u32.wrap e = e := by simp [IntKind.wrap, IntKind.bits, IntKind.signed]; omega
theorem wrapU64 {e : Int} (h0 : 0 ≤ e) (h1 : e ≤ 18446744073709551615) : IntKind.u64.wrap e = e := by simp [IntKind.wrap, IntKind.bits, IntKind.signed]; omega
theorem modU8 (e : Int) : IntKind.u8.wrap e = e % 256 := by simp [IntKind.wrap, IntKind.bits, IntKind.signed]
theorem modU16 (e : Int) : IntKind.u16.wrap e = e % 65536 := by simp [IntKind.wrap, IntKind.bits, IntKind.signed]
theorem modU32 (e : Int) : IntKind.u32.wrap e = e % 4294967296 := by simp [IntKind.wrap, IntKind.bits, IntKind.signed]
theorem modU64 (e : Int) : IntKind.u64.wrap e = e % 18446744073709551616 := by simp [IntKind.wrap, IntKind.bits, IntKind.signed]
theorem modIn {e m : Int} (h0 : 0 ≤ e) (h1 : e < m) : e % m = e := Int.emod_eq_of_lt h0 h1
theorem fdivE {a b : Int} (h : 0 ≤ b) : a.fdiv b = a / b := Int.fdiv_eq_ediv_of_nonneg a h
theorem tmodE {a b : Int} (h : 0 ≤ a) : a.tmod b = a % b := Int.tmod_eq_emod_of_nonneg h
theorem tdivE {a b : Int} (h : 0 ≤ a) : a.tdiv b = a / b := Int.tdiv_eq_ediv_of_nonneg h
theorem take_snoc {α : Type} [Inhabited α] {l : List α} {k : Nat} (h : k < l.length) : l.take (k + 1) = l.take k ++ [l[k]!] := by
  rw [List.take_succ_eq_append_getElem h]; simp [h]
theorem mem_at {α : Type} [Inhabited α] {l : List α} {k : Nat} (h : k < l.length) : l[k]! ∈ l := by
  rw [List.getElem!_eq_getElem?_getD, List.getElem?_eq_getElem h]; exact List.getElem_mem h
theorem pures_map {α : Type} (f : α → V) (l : List α) (h : ∀ a, (f a).pure = true) : V.pures (l.map f) = true := pures_iff.2 fun x hx => by obtain ⟨a, _, rfl⟩ := List.mem_map.1 hx; exact h a
theorem pures_appE (l m : List V) : V.pures (l ++ m) = (V.pures l && V.pures m) := by
  induction l with
  | nil => simp [V.pures]
  | cons x l ih => simp [V.pures, ih, Bool.and_assoc]
theorem freshs_map {α : Type} (f : α → V) (l : List α) (h : ∀ a, (f a).fresh = true) : V.freshs (l.map f) = true := freshs_iff.2 fun x hx => by obtain ⟨a, _, rfl⟩ := List.mem_map.1 hx; exact h a
theorem lowsMap {α : Type} (f g : α → V) (l : List α) (h : ∀ a, (f a).low = g a) : V.lows (l.map f) = l.map g := by rw [lows_map, List.map_map]; exact List.map_congr_left fun a _ => h a
end Rdn.Dp
