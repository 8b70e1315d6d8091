/- The rules by which a walk over trees is worked out, as one set; loops; branches. Over any program. -/
import Derived.Test.YtkfpcgkmemfdaaaDk
namespace Rdn.Dp
open Go Go.RowKit Rdn
set_option linter.unusedVariables false
section
variable {P : Program} {cx : Cx} {N : Nat} {Q : Exit → Act → World → Prop} {k : List It} {n : Nat} {t : List (Nat × V)} {ob : List Ob}
/-- A branch: both ways. -/
theorem ev_condS {σ : AS} {x : X} {y z : MC} {b : Bool} {p : Prop} (hx : x.ev σ = .bool b) (hp : b = true ↔ p) (h1 : p → Ev P cx N Q (.code y :: k) σ) (h2 : ¬ p → Ev P cx N Q (.code z :: k) σ) : Ev P cx N Q (.code (.cond x y z) :: k) σ := by
  cases b with
  | true => exact ev_condT hx (h1 (hp.1 rfl))
  | false => exact ev_condF hx (h2 (fun h => by have := hp.2 h; cases this))
theorem notT {b : Bool} (h : b = false) : (!b) = true := by rw [h]; rfl
theorem notF {b : Bool} (h : b = true) : (!b) = false := by rw [h]; rfl
theorem ev_condTb {σ : AS} {x : X} {y z : MC} {b : Bool} (hx : x.ev σ = .bool b) (hb : b = true) (h : Ev P cx N Q (.code y :: k) σ) : Ev P cx N Q (.code (.cond x y z) :: k) σ := ev_condT (hx.trans (by rw [hb])) h
theorem ev_condFb {σ : AS} {x : X} {y z : MC} {b : Bool} (hx : x.ev σ = .bool b) (hb : b = false) (h : Ev P cx N Q (.code z :: k) σ) : Ev P cx N Q (.code (.cond x y z) :: k) σ := ev_condF (hx.trans (by rw [hb])) h
/-- What is told of slots holds. -/
def Eqs (t : List (Nat × V)) : List (Nat × V) → Prop
  | [] => True
  | (j, x) :: l => slotV t j = x ∧ Eqs t l
theorem Eqs.all {t : List (Nat × V)} : ∀ {l : List (Nat × V)}, Eqs t l → ∀ p ∈ l, slotV t p.1 = p.2
  | (j, x) :: l, h, p, hp => by
    rcases List.mem_cons.1 hp with rfl | hp
    · exact h.1
    · exact h.2.all p hp
theorem Eqs.app {t : List (Nat × V)} : ∀ {l m : List (Nat × V)}, Eqs t l → Eqs t m → Eqs t (l ++ m)
  | [], m, _, k => k
  | (j, x) :: l, m, h, k => ⟨h.1, h.2.app k⟩
theorem Eqs.look {t l : List (Nat × V)} (h : Eqs t l) : ∀ p ∈ l, slotV t p.1 = slotV l p.1 := by
  have key : ∀ (m : List (Nat × V)), (∀ p ∈ m, slotV t p.1 = p.2) → ∀ p ∈ m, slotV t p.1 = slotV m p.1 := by
    intro m
    induction m with
    | nil => intro _ p hp; cases hp
    | cons q m ih =>
      obtain ⟨j, x⟩ := q
      intro hm p hp
      simp only [slotV]
      split
      · rename_i e
        rw [← e]
        exact hm (j, x) (by simp)
      · rename_i e
        rcases List.mem_cons.1 hp with rfl | hp
        · exact absurd rfl e
        · exact ih (fun p hp => hm p (by simp [hp])) p hp
  exact key l h.all
def scpT (m : Nat) : List (Nat × V) → Bool
  | [] => true
  | (_, x) :: l => x.scp m && scpT m l
theorem scpT_all {m : Nat} : ∀ {l : List (Nat × V)}, scpT m l = true → ∀ p ∈ l, p.2.scp m = true
  | (_, x) :: l, h, p, hp => by
    simp only [scpT, Bool.and_eq_true] at h
    rcases List.mem_cons.1 hp with rfl | hp
    · exact h.1
    · exact scpT_all h.2 p hp
def scpO (m : Nat) : List Ob → Bool
  | [] => true
  | o :: l => o.scp m && scpO m l
theorem scpO_all {m : Nat} : ∀ {l : List Ob}, scpO m l = true → ∀ o ∈ l, o.scp m = true
  | o' :: l, h, o, ho => by
    simp only [scpO, Bool.and_eq_true] at h
    rcases List.mem_cons.1 ho with rfl | ho
    · exact h.1
    · exact scpO_all h.2 o ho
/-- What is kept of slots. -/
def keepT (t : List (Nat × V)) : List Nat → List (Nat × V)
  | [] => []
  | j :: l => (j, slotV t j) :: keepT t l
theorem keepT_eqs {t : List (Nat × V)} : ∀ {l : List Nat}, Eqs t (keepT t l)
  | [] => trivial
  | j :: l => ⟨rfl, keepT_eqs⟩
/-- Only what is named is kept. -/
theorem ev_keep {t' : List (Nat × V)} {ob' : List Ob} (m : Nat) (he : Eqs t t') (ho : ob.take m = ob') (hm : m ≤ ob.length) (hs : scpT m t' = true) (hs' : scpO m ob' = true) (h : Ev P cx N Q k ⟨n, t', ob'⟩) : Ev P cx N Q k ⟨n, t, ob⟩ :=
  st_less t' m ho hm he.look (scpT_all hs) (scpO_all hs') h
/-- A loop: U: the slots that change, at each round's head; ks: those that stay; O: the objects (the first m). -/
theorem ev_loopK {ι : Type} (ks : List Nat) (U : ι → List (Nat × V)) (O : ι → List Ob) (μ : ι → Nat) (i0 : ι) (m : Nat) {tk : List (Nat × V)} {x : MC} (htk : keepT t ks = tk)
    (hU : Eqs t (U i0)) (hO : ob.take m = O i0) (hm : m ≤ ob.length) (hs : scpT m (U i0) = true) (hs2 : scpT m tk = true) (hs3 : scpO m (O i0) = true)
    (round : ∀ J : ι → AS → Prop, (∀ i i', μ i' < μ i → J i ⟨n, U i' ++ tk, O i'⟩) → ∀ i, Ev P cx N Q (.code x :: .goal (J i) :: k) ⟨n, U i ++ tk, O i⟩) : Ev P cx N Q (.code (.loop x) :: k) ⟨n, t, ob⟩ := by
  subst htk
  have hsc : ∀ l1 l2 : List (Nat × V), scpT m l1 = true → scpT m l2 = true → scpT m (l1 ++ l2) = true := by
    intro l1
    induction l1 with
    | nil => intro l2 _ h; exact h
    | cons p l1 ih =>
      intro l2 h1 h2
      simp only [scpT, Bool.and_eq_true] at h1
      show (p.2.scp m && scpT m (l1 ++ l2)) = true
      rw [h1.1, ih l2 h1.2 h2]; rfl
  exact ev_loop (fun i => ⟨n, U i ++ keepT t ks, O i⟩) μ i0 (ev_keep m (hU.app keepT_eqs) hO hm (hsc _ _ hs hs2) hs3 (ev_goal rfl)) (round (fun i σ' => ∃ i', σ' = ⟨n, U i' ++ keepT t ks, O i'⟩ ∧ μ i' < μ i) (fun i i' h => ⟨i', rfl, h⟩))
/-- The next round. -/
theorem ev_next {J : AS → Prop} {n' : Nat} {t' : List (Nat × V)} {ob' : List Ob} (m : Nat) (h : J ⟨n', t', ob'⟩) (hn : n = n') (hm : m ≤ ob.length) (hO : ob.take m = ob') (hs : scpT m t' = true) (hs3 : scpO m ob' = true) (he : Eqs t t') :
    Ev P cx N Q (.goal J :: k) ⟨n, t, ob⟩ := by
  subst hn
  exact ev_keep m he hO hm hs hs3 (ev_goal h)
end
/-- A call whose result is a variable of its own. -/
theorem st_callP {P : Program} {cx : Cx} {N : Nat} {Q : Exit → Act → World → Prop} {k : List It} {n : Nat} {t : List (Nat × V)} {ob : List Ob} {l : List RO} {gd : Option (Nat × Bool)} {i : Nat} {f : FuncId} {xs : List X} (ys : List V) {T : TypeId} {c : V} {ws : List V} (hF : Fnc P f ys fun y obs => y = .ptr 0 0 [] 0 ∧ obs = [⟨.box false T, true, 0, c⟩]) (hw : wants ⟨n, t, ob⟩ gd = some true)
    (hx : xs.map (X.ev ⟨n, t, ob⟩) = ws) (hok : V.ressOk ⟨n, t, ob⟩ ws ∧ noTup ws) (hs : Subs (V.lows (V.ress ⟨n, t, ob⟩ [] ws)) ys) (hp : c.pure = true) (hq : newOr ws (.ptr 0 0 [] 0) [⟨.box false T, true, 0, c⟩]) (h : EvR P cx N Q k l ⟨n, (i, .ptr ob.length 0 [] 0) :: t, ob ++ [⟨.box false T, true, 0, c⟩]⟩) : EvR P cx N Q k (⟨some i, gd, .call f xs⟩ :: l) ⟨n, t, ob⟩ := by
  refine st_call ys hF hw hx hok hs (fun y obs hy => by obtain ⟨rfl, rfl⟩ := hy; exact hq) fun y obs hy => ?_
  obtain ⟨rfl, rfl⟩ := hy
  simp only [V.shift, List.map_cons, List.map_nil, Ob.shift, V.shift_pure _ _ hp, Nat.add_zero]
  exact h
/-- Rows of one's own that a call with a pointer gets are not written any more. -/
theorem evr_calmC {P : Program} {cx : Cx} {N : Nat} {Q : Exit → Act → World → Prop} {k : List It} {σ : AS} {l : List RO} {d : Option Nat} {gd : Option (Nat × Bool)} {f : FuncId} {x : X} {xs : List X} (h : (calms σ xs).2 ∧ EvR P cx N Q k (⟨d, gd, .call f (x :: xs)⟩ :: l) (calms σ xs).1) : EvR P cx N Q k (⟨d, gd, .call f (x :: xs)⟩ :: l) σ := by
  refine ⟨fun hn E a w R => ?_⟩
  obtain ⟨E', R', hn'⟩ := Rel.calmL _ R h.1
  exact h.2.h (hn'.trans hn) E' a w R'
/-- f: trees without references; g: the same, told without when slices were made. -/
class Lo {α : Type} (f : α → V) (g : outParam (α → V)) : Prop where
  pure : ∀ a, (f a).pure = true
  low : ∀ a, (f a).low = g a
theorem pures_lo {α : Type} (f : α → V) {g : α → V} [h : Lo f g] (l : List α) : V.pures (l.map f) = true := pures_map _ _ h.pure
theorem lows_lo {α : Type} (f : α → V) {g : α → V} [h : Lo f g] (l : List α) : V.lows (l.map f) = l.map g := lowsMap _ _ _ h.low
instance (k : IntKind) : Lo (V.int k) (V.int k) := ⟨fun _ => rfl, fun _ => rfl⟩
instance : Lo V.bool V.bool := ⟨fun _ => rfl, fun _ => rfl⟩
instance : Lo cellV cellV := ⟨fun _ => rfl, fun _ => rfl⟩
instance : Lo canonV canonV := ⟨fun _ => rfl, fun _ => rfl⟩
/-- A list of lists of canonical cells, of words, ..: elements of slices. -/
abbrev slV' {α : Type} (t : Bool) (s : Nat) (f : α → V) (l : List α) : V := .sl t s (l.map f)
instance {α : Type} (t : Bool) (s : Nat) (f g : α → V) [h : Lo f g] : Lo (slV' t s f) (slV' false s g) := ⟨fun _ => rfl, fun l => by simp only [slV', V.low, lows_lo]⟩
instance (t : Bool) : Lo (outputV t) (outputV false) := ⟨fun _ => rfl, fun o => by simp only [outputV, V.low, V.lows, lows_lo]⟩
instance (t : Bool) : Lo (viewV t) (viewV false) := ⟨fun _ => rfl, fun o => by simp only [viewV, V.low, V.lows, lows_lo]⟩
theorem map_app {α β : Type} (f : α → β) (l m : List α) : l.map f ++ m.map f = (l ++ m).map f := (List.map_append).symm
theorem snoc_int (k : IntKind) (l : List Int) (a : Int) (r : List V) : l.map (V.int k) ++ (V.int k a :: r) = (l ++ [a]).map (V.int k) ++ r := by simp
theorem snoc_bool (l : List Bool) (a : Bool) (r : List V) : l.map V.bool ++ (V.bool a :: r) = (l ++ [a]).map V.bool ++ r := by simp
theorem snoc_cell (l : List Cell) (t v : Int) (r : List V) : l.map cellV ++ (V.agg [.int .u8 t, .int .u16 v] :: r) = (l ++ [(⟨t, v⟩ : Cell)]).map cellV ++ r := by simp
theorem snoc_canon (l : List Canon) (t v x y : Int) (r : List V) : l.map canonV ++ (V.agg [.int .u8 t, .int .u16 v, .int .i64 x, .int .i64 y] :: r) = (l ++ [(⟨t, v, x, y⟩ : Canon)]).map canonV ++ r := by simp
theorem snoc_output (t : Bool) (l : List Output) (a b : Int) (d : List Canon) (r : List V) : l.map (outputV t) ++ (V.agg [.int .i64 a, .int .i64 b, .sl t 4 (d.map canonV)] :: r) = (l ++ [(⟨a, b, d⟩ : Output)]).map (outputV t) ++ r := by simp
theorem snoc_sl {α : Type} (t : Bool) (s : Nat) (f : α → V) (l : List (List α)) (d : List α) (r : List V) : l.map (slV' t s f) ++ (V.sl t s (d.map f) :: r) = (l ++ [d]).map (slV' t s f) ++ r := by simp
theorem newOrI {ws : List V} {x : V} {obs : List Ob} (h : V.pures ws = true) : newOr ws x obs := .inl h
theorem newOrF {ws : List V} {x : V} (h : x.fresh = true) : newOr ws x [] := .inr ⟨h, fun o ho => by cases ho⟩
theorem newOrR {ws : List V} {x : V} {o : Ob} (h : x.fresh = true) (h' : o.v.fresh = true) : newOr ws x [o] := .inr ⟨h, fun o' ho => by simp at ho; subst ho; exact h'⟩
attribute [go_sem_proc] Nat.reduceBEq Nat.reduceAdd Nat.reduceMul Nat.reduceSub Nat.reduceLT Nat.reduceEqDiff reduceCtorEq Nat.reduceLeDiff Int.reduceToNat Int.reducePow Int.reduceMod Int.reduceAdd Int.reduceSub Int.reduceMul Int.reduceDiv Int.reduceNeg Int.reduceLT Int.reduceLE Int.reduceEq
attribute [go_sem_proc ↓] reduceIte
attribute [go_sem] evR0 evRc evRp evRm evRgp evRgm doGF doGP doGM doP1 doM1 doM0 wants AS.put aopP aopM X.ev slotV binV binI unV onInt nilcV loadV obV rowW rowV nav fieldAV
attribute [go_sem] fieldV idxAV idxAAV idxV lenV extV mxV mnV pickV strV storeV setp evW0 evWc evWp evWm evWgp evWgm dWGF dWGP dWGM dWMw dWMc dWMf dWP1 dWW1 dWW0 dWC1
attribute [go_sem] lgC0 lgC1 aopF aopC isW isC tgtM fpM fpP topId ptrId ownId isNil List.contains_nil List.contains_cons Bool.or_true Bool.true_or Bool.or_false
attribute [go_sem] Bool.false_or AS.upd Ob.freeze liveAt eAt slV slAV boundV srcV srcW okApp kOf appV evs setps fits bad bad3 beq_self_eq_true bTF bFT BEq.rfl Option.some.injEq
attribute [go_sem] List.getElem?_cons_zero List.getElem?_cons_succ List.getElem?_nil List.getD_cons_zero List.getD_cons_succ List.getD_nil List.length_cons
attribute [go_sem] List.length_nil List.length_map List.length_append List.length_replicate List.take_zero List.take_succ_cons List.take_nil List.drop_zero
attribute [go_sem] List.drop_succ_cons List.drop_nil List.length_take List.length_drop List.set_cons_zero List.set_cons_succ List.cons_append List.nil_append
attribute [go_sem] List.map_cons List.map_nil List.replicate_succ List.replicate_zero Nat.zero_add Nat.add_zero Nat.zero_mul Nat.one_mul Nat.mul_one V.size V.sizes
attribute [go_sem] V.isAgg V.pure V.pures pures_lo lows_lo pures_sls freshs_ints freshs_cells freshs_canons lows_appE
attribute [go_sem] all_u8s pures_appE Bool.and_true Bool.true_and Bool.and_self and_true true_and and_self or_true true_or or_false false_or ne_eq not_false_eq_true
attribute [go_sem] not_true_eq_false forall_const implies_true Nat.succ_ne_zero Option.isSome_none Option.isSome_some modU8 modU16 modU32 modU64 IntKind.bits
attribute [go_sem] IntKind.signed Int.toNat_natCast Int.toNat_zero Int.zero_add Int.ediv_one Int.add_zero Int.sub_zero decide_true decide_false Bool.not_true
attribute [go_sem] Bool.not_false
attribute [go_sem] V.fresh V.freshs V.low V.lows Ob.low V.res V.ress rowV V.resOk V.ressOk noTup V.scp V.scps Ob.scp scpT scpO keepT Eqs retV allV outObs List.idxOf?_nil V.idss V.ids
attribute [go_sem] evWe evRe
attribute [go_sem] doC1 doC2 wants0 calmM calmS calms calmOk AS.calm AS.frz
attribute [go_sem] map_app snoc_int snoc_bool snoc_cell snoc_canon snoc_output snoc_sl List.append_nil List.tail_cons
attribute [go_sem] imp_self V.pureT eqsV eqFl lenSV idxSV numV isU8 strV bytesV
end Rdn.Dp
