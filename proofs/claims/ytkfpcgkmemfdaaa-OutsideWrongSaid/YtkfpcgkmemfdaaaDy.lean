/- Operations by what they touch, in a region that draws its order: what they yield hangs on their operands and on the objects that these refer to alone. Over any program. -/
import Derived.Test.YtkfpcgkmemfdaaaDu
import Derived.Test.YtkfpcgkmemfdaaaGho
namespace Rdn.Dp
open Go Go.RowKit Rdn
set_option linter.unusedVariables false
set_option linter.unusedSimpArgs false

def topId : V → List Nat
  | .int _ _ => []
  | .bool _ => []
  | .str _ => []
  | .nilS => []
  | .agg _ => []
  | .arr _ _ => []
  | .sl _ _ _ => []
  | .own r _ => [r]
  | .ptr r _ _ _ => [r]
  | .rp _ => []
  | .tup _ => []
  | .clo _ _ => []
  | .fn _ => []
  | .junk => []
def ptrId : V → Option Nat
  | .int _ _ => none
  | .bool _ => none
  | .str _ => none
  | .nilS => none
  | .agg _ => none
  | .arr _ _ => none
  | .sl _ _ _ => none
  | .own r _ => none
  | .ptr r _ _ _ => some r
  | .rp _ => none
  | .tup _ => none
  | .clo _ _ => none
  | .fn _ => none
  | .junk => none
def ownId : V → Option Nat
  | .int _ _ => none
  | .bool _ => none
  | .str _ => none
  | .nilS => none
  | .agg _ => none
  | .arr _ _ => none
  | .sl _ _ _ => none
  | .own r _ => some r
  | .ptr r _ _ _ => none
  | .rp _ => none
  | .tup _ => none
  | .clo _ _ => none
  | .fn _ => none
  | .junk => none
def isNil : V → Bool
  | .int _ _ => false
  | .bool _ => false
  | .str _ => false
  | .nilS => true
  | .agg _ => false
  | .arr _ _ => false
  | .sl _ _ _ => false
  | .own _ _ => false
  | .ptr _ _ _ _ => false
  | .rp _ => false
  | .tup _ => false
  | .clo _ _ => false
  | .fn _ => false
  | .junk => false
/-- No reference to objects; or many such values. -/
def V.pureT : V → Bool
  | .tup l => V.pures l
  | x => x.pure
theorem V.shift_pureT (m : Nat) (x : V) (h : V.pureT x = true) : x.shift m = x := by
  unfold V.pureT at h
  split at h
  · simp only [V.shift, V.shifts_pure m _ h]
  · exact V.shift_pure m x h
def xsP : POp → List X
  | .mov x => [x]
  | .bin _ _ x y => [x, y]
  | .un _ x => [x]
  | .conv _ x => [x]
  | .nilc x => [x]
  | .load _ _ x => [x]
  | .fieldA _ _ x => [x]
  | .field _ _ _ _ x => [x]
  | .idxA _ x i => [x, i]
  | .idxAA _ _ x i => [x, i]
  | .idx _ _ _ x i => [x, i]
  | .ext x _ => [x]
  | .len x => [x]
  | .lenA _ => []
  | .mx x y => [x, y]
  | .mn x y => [x, y]
  | .pick c x y => [c, x, y]
  | .b2s x => [x]
  | .eqs _ _ x y => [x, y]
  | .lenS x => [x]
  | .idxS x i => [x, i]
  | .mkf _ xs => xs
  | .bad => []
def fpP (σ : AS) : POp → List Nat
  | .load _ _ x => topId (x.ev σ)
  | .fieldA _ _ x => topId (x.ev σ)
  | .idxA _ x _ => topId (x.ev σ)
  | .idxAA _ _ x _ => topId (x.ev σ)
  | .nilc x => topId (x.ev σ)
  | .len x => topId (x.ev σ)
  | .mov _ => []
  | .bin _ _ _ _ => []
  | .un _ _ => []
  | .conv _ _ => []
  | .field _ _ _ _ _ => []
  | .idx _ _ _ _ _ => []
  | .ext _ _ => []
  | .lenA _ => []
  | .mx _ _ => []
  | .mn _ _ => []
  | .pick _ _ _ => []
  | .b2s _ => []
  | .eqs _ _ _ _ => []
  | .lenS _ => []
  | .idxS _ _ => []
  | .mkf _ _ => []
  | .bad => []
def oX : Option X → List X
  | none => []
  | some x => [x]
def xsM : MOp → List X
  | .box _ x => [x]
  | .alloc _ _ => []
  | .build _ _ ps => ps.map (·.2)
  | .buildS _ _ _ _ ps => ps.map (·.2)
  | .store _ x y => [x, y]
  | .sl _ x lo hi mx => x :: (oX lo ++ (oX hi ++ oX mx))
  | .slA _ _ x lo hi mx => x :: (oX lo ++ (oX hi ++ oX mx))
  | .mkS _ _ _ _ x y => [x, y]
  | .app _ _ _ x y => [x, y]
  | .bytes x => [x]
/-- What an operation writes, of the objects that are there. -/
def tgtM (σ : AS) : MOp → Option Nat
  | .store _ x _ => ptrId (x.ev σ)
  | .sl _ x _ _ _ => ownId (x.ev σ)
  | .slA _ _ x _ _ _ => ptrId (x.ev σ)
  | .app _ _ _ x _ => ownId (x.ev σ)
  | .box _ _ => none
  | .alloc _ _ => none
  | .build _ _ _ => none
  | .buildS _ _ _ _ _ => none
  | .mkS _ _ _ _ _ _ => none
  | .bytes _ => none
def fpM (σ : AS) : MOp → List Nat
  | .store _ x _ => topId (x.ev σ)
  | .sl _ x _ _ _ => topId (x.ev σ)
  | .slA _ _ x _ _ _ => topId (x.ev σ)
  | .app _ _ _ x y => topId (x.ev σ) ++ topId (y.ev σ)
  | .box _ _ => []
  | .alloc _ _ => []
  | .build _ _ _ => []
  | .buildS _ _ _ _ _ => []
  | .mkS _ _ _ _ _ _ => []
  | .bytes _ => []
/-- It makes no object. -/
def isW (σ : AS) : MOp → Bool
  | .store _ _ _ => true
  | .sl _ _ _ _ _ => true
  | .slA _ _ _ _ _ _ => true
  | .app _ _ _ x _ => !isNil (x.ev σ)
  | .box _ _ => false
  | .alloc _ _ => false
  | .build _ _ _ => false
  | .buildS _ _ _ _ _ => false
  | .mkS _ _ _ _ _ _ => false
  | .bytes _ => false
/-- Operations that make memory that nobody will write. -/
def aopF (σ : AS) : MOp → V × Prop
  | .build none z ps => (.agg (setps z (evs σ ps)), fits z (evs σ ps))
  | .build (some s) z ps => (.arr s (setps z (evs σ ps)), fits z (evs σ ps))
  | .buildS e s z m ps => (.sl true s (setps (List.replicate m z) (evs σ ps)), fits (List.replicate m z) (evs σ ps) ∧ V.pures (setps (List.replicate m z) (evs σ ps)) = true)
  | .bytes x => ((bytesV σ (x.ev σ)).1, (bytesV σ (x.ev σ)).2.2)
  | .box T x => (.rp (x.ev σ), (x.ev σ).pure = true ∧ ((x.ev σ).size ≠ 0 ∨ (x.ev σ).isAgg = true))
  | .mkS e s b z x y => match x.ev σ, y.ev σ with
    | .int _ l, .int _ c => (.sl true s (List.replicate l.toNat z), 0 ≤ l ∧ l ≤ c ∧ (b : Int) * c ≤ 140737488355328 ∧ c ≤ 140737488355328)
    | _, _ => bad
  | .app e s b x y => match x.ev σ with
    | .nilS => (.sl true s (srcV σ σ.ob.length (y.ev σ)).1, (srcV σ σ.ob.length (y.ev σ)).2.2 ∧ ((srcV σ σ.ob.length (y.ev σ)).1 = [] ∨ (srcV σ σ.ob.length (y.ev σ)).2.1 = s) ∧ (srcV σ σ.ob.length (y.ev σ)).1.length * b ≤ 140737488355328 ∧ (srcV σ σ.ob.length (y.ev σ)).1.length ≤ 140737488355328)
    | _ => bad
  | _ => bad
/-- Operations that make an object, at the place nx. -/
def aopC (σ : AS) (nx : Nat) : MOp → V × Ob × Prop
  | .alloc T z => (.ptr nx 1 [] 0, ⟨.box false T, true, 1, z⟩, True)
  | .box T x => (.ptr nx 1 [] 0, ⟨.box false T, true, 1, x.ev σ⟩, (x.ev σ).size ≠ 0 ∨ (x.ev σ).isAgg = true)
  | .buildS e s z m ps => (.own nx 1, ⟨kOf (V.pures (setps (List.replicate m z) (evs σ ps))) e, true, 1, .arr s (setps (List.replicate m z) (evs σ ps))⟩, fits (List.replicate m z) (evs σ ps))
  | .mkS e s b z x y => match x.ev σ, y.ev σ with
    | .int _ l, .int _ c => (.own nx 1, ⟨.row e, true, 1, .arr s (List.replicate l.toNat z)⟩, 0 ≤ l ∧ l ≤ c ∧ (b : Int) * c ≤ 140737488355328 ∧ c ≤ 140737488355328)
    | _, _ => (.junk, resv, False)
  | .app e s b x y => match x.ev σ with
    | .nilS => (.own nx 1, ⟨.row e, true, 1, .arr s (srcV σ σ.ob.length (y.ev σ)).1⟩, (srcV σ σ.ob.length (y.ev σ)).2.2 ∧ ((srcV σ σ.ob.length (y.ev σ)).1 = [] ∨ (srcV σ σ.ob.length (y.ev σ)).2.1 = s) ∧ (srcV σ σ.ob.length (y.ev σ)).1.length * b ≤ 140737488355328 ∧ (srcV σ σ.ob.length (y.ev σ)).1.length ≤ 140737488355328)
    | _ => (.junk, resv, False)
  | _ => (.junk, resv, False)

/-! ### Alike states -/
section
variable {σ σ' : AS}
theorem obV_loc {r g : Nat} (h : σ.ob[r]? = σ'.ob[r]?) : obV σ r g = obV σ' r g := by simp only [obV, h]
theorem rowV_loc {r g : Nat} (h : σ.ob[r]? = σ'.ob[r]?) : rowV σ r g = rowV σ' r g := by simp only [rowV, h]
theorem rowW_loc {σ σ' : AS} {r g : Nat} (h : σ.ob[r]? = σ'.ob[r]?) : rowW σ r g = rowW σ' r g := by simp only [rowW, h]
theorem aopP_loc {m : POp} (hx : ∀ x ∈ xsP m, x.ev σ = x.ev σ') (ho : ∀ r ∈ fpP σ m, σ.ob[r]? = σ'.ob[r]?) : aopP σ m = aopP σ' m := by
  cases m <;> simp only [xsP, List.mem_cons, List.not_mem_nil, or_false, forall_eq_or_imp, forall_eq, fpP] at hx ho <;> simp only [aopP, hx]
  case mkf f xs => rw [List.map_congr_left hx]
  case load ag n x =>
    rw [hx] at ho
    cases h : x.ev σ' <;> simp only [loadV]
    rw [obV_loc (ho _ (by simp [topId, h]))]
  case fieldA fo j x =>
    rw [hx] at ho
    cases h : x.ev σ' <;> simp only [fieldAV]
    case rp y => cases y <;> rfl
    rw [obV_loc (ho _ (by simp [topId, h]))]
  case nilc x =>
    rw [hx] at ho
    cases h : x.ev σ' <;> simp only [nilcV]
    rw [obV_loc (ho _ (by simp [topId, h]))]
  case len x =>
    rw [hx] at ho
    cases h : x.ev σ' <;> simp only [lenV]
    rw [rowW_loc (ho _ (by simp [topId, h]))]
  case idxA s x i =>
    rw [hx.1] at ho
    refine congrArg (fun f => onInt f (i.ev σ')) (funext fun n => ?_)
    cases h : x.ev σ' <;> simp only [idxAV]
    rw [rowW_loc (ho _ (by simp [topId, h]))]
  case idxAA m s x i =>
    rw [hx.1] at ho
    refine congrArg (fun f => onInt f (i.ev σ')) (funext fun n => ?_)
    cases h : x.ev σ' <;> simp only [idxAAV]
    case rp y => cases y <;> rfl
    rw [obV_loc (ho _ (by simp [topId, h]))]
theorem evs_loc {ps : List (Nat × X)} (hx : ∀ x ∈ ps.map (·.2), X.ev σ x = X.ev σ' x) : evs σ ps = evs σ' ps := by
  unfold evs
  refine List.map_congr_left fun p hp => ?_
  rw [hx p.2 (List.mem_map.2 ⟨p, hp, rfl⟩)]
theorem srcW_loc {r0 r1 : Nat} (h0 : r0 = r1) {y : V} (ho : ∀ r ∈ topId y, σ.ob[r]? = σ'.ob[r]?) : srcW σ r0 y = srcW σ' r1 y := by
  subst h0
  cases y <;> simp only [srcW]
  rw [rowW_loc (ho _ (by simp [topId]))]
theorem okApp_loc {r : Nat} {y : V} (hr : σ.ob[r]? = σ'.ob[r]?) (ho : ∀ r ∈ topId y, σ.ob[r]? = σ'.ob[r]?) : okApp σ r y = okApp σ' r y := by
  unfold okApp
  rw [hr]
  cases y <;> try rfl
  rename_i q g'
  have := ho q (by simp [topId])
  simp only [this]
theorem srcV_loc {r0 r1 : Nat} (h0 : r0 = r1) {y : V} (ho : ∀ r ∈ topId y, σ.ob[r]? = σ'.ob[r]?) : srcV σ r0 y = srcV σ' r1 y := by
  subst h0
  cases y <;> simp only [srcV]
  rw [rowV_loc (ho _ (by simp [topId]))]
theorem boundV_loc {d : Int} {x : Option X} (hx : ∀ y ∈ oX x, y.ev σ = y.ev σ') : boundV d σ x = boundV d σ' x := by
  cases x with
  | none => rfl
  | some y => simp only [boundV, hx y (by simp [oX])]
theorem aopF_loc {m : MOp} (hx : ∀ x ∈ xsM m, x.ev σ = x.ev σ') (ho : ∀ r ∈ fpM σ m, σ.ob[r]? = σ'.ob[r]?) (hl : σ.ob.length = σ'.ob.length) : aopF σ m = aopF σ' m := by
  cases m with
  | box T x => simp only [aopF, hx x (by simp [xsM])]
  | build ar z ps => cases ar <;> simp only [aopF, evs_loc hx]
  | buildS e s z m ps => simp only [aopF, evs_loc hx]
  | bytes x =>
    simp only [aopF, hx x (by simp [xsM])]
    cases x.ev σ' <;> simp only [bytesV, bad3]
  | mkS e s b z x y => simp only [aopF, hx x (by simp [xsM]), hx y (by simp [xsM])]
  | app e s b x y =>
    have h1 := hx x (by simp [xsM])
    have h2 := hx y (by simp [xsM])
    simp only [fpM, h2] at ho
    simp only [aopF, h1, h2]
    rw [srcV_loc hl (y := y.ev σ') (fun r hr => ho r (by simp [hr]))]
  | _ => rfl
theorem aopC_loc {m : MOp} {nx : Nat} (hx : ∀ x ∈ xsM m, x.ev σ = x.ev σ') (ho : ∀ r ∈ fpM σ m, σ.ob[r]? = σ'.ob[r]?) (hl : σ.ob.length = σ'.ob.length) : aopC σ nx m = aopC σ' nx m := by
  cases m with
  | box T x => simp only [aopC, hx x (by simp [xsM])]
  | buildS e s z m ps => simp only [aopC, evs_loc hx]
  | mkS e s b z x y => simp only [aopC, hx x (by simp [xsM]), hx y (by simp [xsM])]
  | app e s b x y =>
    have h1 := hx x (by simp [xsM])
    have h2 := hx y (by simp [xsM])
    simp only [fpM, h2] at ho
    simp only [aopC, h1, h2]
    rw [srcV_loc hl (y := y.ev σ') (fun r hr => ho r (by simp [hr]))]
  | _ => rfl
mutual
theorem res_loc (ids : List Nat) : ∀ {x : V}, (∀ r ∈ x.ids, σ.ob[r]? = σ'.ob[r]?) → x.res σ ids = x.res σ' ids ∧ x.resOk σ = x.resOk σ'
  | .own r g, h => by
    have := rowV_loc (g := g) (h r (by simp [V.ids]))
    exact ⟨by simp only [V.res, this], by simp only [V.resOk, this]⟩
  | .agg l, h => by have := ress_loc ids (l := l) (by simpa only [V.ids] using h); exact ⟨by simp only [V.res, this.1], by simp only [V.resOk, this.2]⟩
  | .tup l, h => by have := ress_loc ids (l := l) (by simpa only [V.ids] using h); exact ⟨by simp only [V.res, this.1], by simp only [V.resOk, this.2]⟩
  | .clo f l, h => by have := ress_loc ids (l := l) (by simpa only [V.ids] using h); exact ⟨by simp only [V.res, this.1], by simp only [V.resOk, this.2]⟩
  | .int k n, _ => ⟨rfl, rfl⟩
  | .bool b, _ => ⟨rfl, rfl⟩
  | .str s, _ => ⟨rfl, rfl⟩
  | .nilS, _ => ⟨rfl, rfl⟩
  | .arr s l, _ => ⟨rfl, rfl⟩
  | .sl t s l, _ => ⟨rfl, rfl⟩
  | .ptr r g p o, _ => ⟨rfl, rfl⟩
  | .rp x, _ => ⟨rfl, rfl⟩
  | .fn f, _ => ⟨rfl, rfl⟩
  | .junk, _ => ⟨rfl, rfl⟩
theorem ress_loc (ids : List Nat) : ∀ {l : List V}, (∀ r ∈ V.idss l, σ.ob[r]? = σ'.ob[r]?) → V.ress σ ids l = V.ress σ' ids l ∧ V.ressOk σ l = V.ressOk σ' l
  | [], _ => ⟨rfl, rfl⟩
  | x :: l, h => by
    simp only [V.idss, List.mem_append] at h
    have h1 := res_loc ids (x := x) (fun r hr => h r (.inl hr))
    have h2 := ress_loc ids (l := l) (fun r hr => h r (.inr hr))
    exact ⟨by simp only [V.ress, h1.1, h2.1], by simp only [V.ressOk, h1.2, h2.2]⟩
end
theorem liveAt_some {r : Nat} (h : liveAt σ r) : ∃ o, σ.ob[r]? = some o := by
  unfold liveAt at h
  cases ho : σ.ob[r]? with
  | none => rw [ho] at h; exact h.elim
  | some o => exact ⟨o, rfl⟩
theorem upd_loc {r : Nat} {f f' : Ob → Ob} {o : Ob} (h1 : σ.ob[r]? = some o) (h2 : σ'.ob[r]? = some o) (hf : f o = f' o) : r < σ.ob.length ∧ (σ.upd r f).ob = σ.ob.set r (f o) ∧ (σ'.upd r f').ob = σ'.ob.set r (f o) :=
  ⟨(List.getElem?_eq_some_iff.1 h1).1, by simp [AS.upd, h1], by simp [AS.upd, h2, hf]⟩
theorem aopW_loc {m : MOp} (hx : ∀ x ∈ xsM m, x.ev σ = x.ev σ') (ho : ∀ r ∈ fpM σ m, σ.ob[r]? = σ'.ob[r]?) (hw : isW σ m = true) (hc : (aopM σ m).2.2) :
    (aopM σ' m).1 = (aopM σ m).1 ∧ (aopM σ' m).2.2 ∧ ((tgtM σ m = none ∧ (aopM σ m).2.1.ob = σ.ob ∧ (aopM σ' m).2.1.ob = σ'.ob) ∨ ∃ r o', tgtM σ m = some r ∧ r ∈ fpM σ m ∧ r < σ.ob.length ∧ (aopM σ m).2.1.ob = σ.ob.set r o' ∧ (aopM σ' m).2.1.ob = σ'.ob.set r o') := by
  cases m with
  | store n x y =>
    have h1 := hx x (by simp [xsM])
    have h2 := hx y (by simp [xsM])
    simp only [aopM, tgtM, fpM, h1, h2] at ho hc ⊢
    cases h : x.ev σ' <;> rw [h] at ho hc <;> simp only [storeV, bad3] at hc ⊢
    rename_i r g p o
    have hr := ho r (by simp [topId])
    obtain ⟨q, hq⟩ := liveAt_some hc.2.1
    obtain ⟨k1, k2, k3⟩ := upd_loc (f := fun ob => { ob with v := setp ob.v p (y.ev σ') }) (f' := fun ob => { ob with v := setp ob.v p (y.ev σ') }) hq (by rw [← hr]; exact hq) rfl
    refine ⟨trivial, ?_, .inr ⟨r, _, rfl, by simp [topId], k1, k2, k3⟩⟩
    simp only [obV_loc (g := g) hr, liveAt, hr] at hc
    simpa only [liveAt] using hc
  | sl s x lo hi mx =>
    have h1 := hx x (by simp [xsM])
    have b1 : ∀ d, boundV d σ lo = boundV d σ' lo := fun d => boundV_loc fun z hz => hx z (by simp [xsM, hz])
    have b2 : ∀ d, boundV d σ hi = boundV d σ' hi := fun d => boundV_loc fun z hz => hx z (by simp [xsM, hz])
    have b3 : ∀ d, boundV d σ mx = boundV d σ' mx := fun d => boundV_loc fun z hz => hx z (by simp [xsM, hz])
    simp only [aopM, tgtM, fpM, h1] at ho hc ⊢
    cases h : x.ev σ' <;> rw [h] at ho hc <;> simp only [slV, bad3, b1, b2, b3] at hc ⊢
    · exact ⟨trivial, hc, .inl ⟨by simp [ownId], trivial, trivial⟩⟩
    · rename_i r g
      have hr := ho r (by simp [topId])
      obtain ⟨e, lv, s', l, hq, _, _⟩ := rowV_some hc.1
      obtain ⟨k1, k2, k3⟩ := upd_loc (f := Ob.freeze) (f' := Ob.freeze) hq (by rw [← hr]; exact hq) rfl
      rw [rowV_loc hr] at hc ⊢
      exact ⟨rfl, hc, .inr ⟨r, _, rfl, by simp [topId], k1, k2, k3⟩⟩
  | slA m s x lo hi mx =>
    have h1 := hx x (by simp [xsM])
    have b1 : ∀ d, boundV d σ lo = boundV d σ' lo := fun d => boundV_loc fun z hz => hx z (by simp [xsM, hz])
    have b2 : ∀ d, boundV d σ hi = boundV d σ' hi := fun d => boundV_loc fun z hz => hx z (by simp [xsM, hz])
    simp only [aopM, tgtM, fpM, h1] at ho hc ⊢
    unfold slAV at hc ⊢
    cases h : x.ev σ' <;> rw [h] at ho hc <;> try (simp only [bad3] at hc; done)
    rename_i r g p o
    have hr := ho r (by simp [topId])
    split at hc
    case h_2 => simp only [bad3] at hc
    rename_i r' g' heq
    injection heq with e1 e2 e3 e4
    subst e1 e2 e3 e4
    have eo := obV_loc (g := g) hr
    simp only [eo] at hc ⊢
    split at hc
    case h_2 => simp only [bad3] at hc
    rename_i s' l heq
    simp only [heq, b1, b2] at hc ⊢
    obtain ⟨q, hq, _, _⟩ := obV_some (σ := σ') (r := r) (g := g) hc.1
    obtain ⟨k1, k2, k3⟩ := upd_loc (f := Ob.freeze) (f' := Ob.freeze) (σ := σ) (σ' := σ') (by rw [hr]; exact hq) hq rfl
    simp only [hr] at hc
    exact ⟨trivial, hc, .inr ⟨r, _, rfl, by simp [topId], k1, k2, k3⟩⟩
  | app e s b x y =>
    have h1 := hx x (by simp [xsM])
    have h2 := hx y (by simp [xsM])
    simp only [isW, h1, isNil] at hw
    simp only [aopM, tgtM, fpM, h1, h2] at ho hc ⊢
    cases h : x.ev σ' <;> rw [h] at ho hc hw <;> simp only [appV, bad3] at hc ⊢ <;> try (simp at hw; done)
    rename_i r g
    have hr := ho r (by simp [topId])
    have hs : srcW σ r (y.ev σ') = srcW σ' r (y.ev σ') := srcW_loc rfl (fun q hq => ho q (by simp [hq]))
    have hrow := rowW_loc (g := g) hr
    have hok := okApp_loc (y := y.ev σ') hr (fun q hq => ho q (by simp [hq]))
    obtain ⟨q, hq⟩ := liveAt_some hc.2.1
    simp only [hs, hrow, hok, liveAt, eAt, hr] at hc ⊢
    obtain ⟨k1, k2, k3⟩ := upd_loc (σ := σ) (σ' := σ') (f := fun o => (⟨o.k, o.live, g + 1, .arr s ((rowW σ' r g).2.1 ++ (srcW σ' r (y.ev σ')).1)⟩ : Ob)) (f' := fun o => ⟨o.k, o.live, g + 1, .arr s ((rowW σ' r g).2.1 ++ (srcW σ' r (y.ev σ')).1)⟩) hq (by rw [← hr]; exact hq) rfl
    exact ⟨trivial, hc, .inr ⟨r, _, rfl, by simp [topId], k1, k2, k3⟩⟩
  | _ => simp [isW] at hw
end
/-! ### Sound -/
section
variable {P : Program} {cx : Cx} {E : Env} {σ : AS} {a : Act} {w : World}
theorem compM_buildS {op : Op} {e s m : Nat} {z : V} {ps : List (Nat × X)} (hc : compM P op = some (.buildS e s z m ps)) : ∃ T qs i, op = .buildSlice T m qs ∧ P.underlying T = some (.slice e) ∧ P.info? e = some i ∧ zeroOk P e z = true ∧ 0 < i.size ∧ m * i.size ≤ 2 ^ 24 ∧ z.size = i.size ∧ compPs qs.toList = some ps ∧ s = i.size := by
  unfold compM at hc
  split at hc
  case h_4 =>
    split at hc
    · rename_i h1
      split at hc
      · rename_i h2 h3
        split at hc
        · rename_i h4
          simp only [Bool.and_eq_true, decide_eq_true_eq] at h4
          simp only [Option.map_eq_some_iff] at hc
          obtain ⟨x, hx, e⟩ := hc
          injection e with e1 e2 e3 e4 e5
          subst e1 e2 e3 e4 e5
          exact ⟨_, _, _, rfl, h1, h2, h4.1, h4.2.1, h4.2.2.1, h4.2.2.2, hx, rfl⟩
        · cases hc
      · cases hc
    · cases hc
  all_goals (repeat' split at hc) <;> first | (cases hc; done) | (simp [Option.bind_eq_some_iff] at hc; done)
theorem compM_box {op : Op} {T : TypeId} {x : X} (hc : compM P op = some (.box T x)) : ∃ y, op = .box T y ∧ compX y = some x := by
  unfold compM at hc
  split at hc
  case h_1 =>
    simp only [Option.map_eq_some_iff] at hc
    obtain ⟨y, hx, e⟩ := hc
    injection e with e1 e2
    subst e1 e2
    exact ⟨_, rfl, hx⟩
  all_goals (repeat' split at hc) <;> first | (cases hc; done) | (simp [Option.bind_eq_some_iff] at hc; done)
theorem compM_alloc {op : Op} {T : TypeId} {z : V} (hc : compM P op = some (.alloc T z)) : zeroOk P T z = true := by
  unfold compM at hc
  split at hc
  case h_2 =>
    split at hc
    · split at hc
      · cases hc; assumption
      · cases hc
    · cases hc
  all_goals (repeat' split at hc) <;> first | (cases hc; done) | (simp [Option.bind_eq_some_iff] at hc; done)
theorem opF_sound {o : Oper} {m : MOp} (hc : compM P o.op = some m) (R : Rel cx E σ a w) (h : (aopF σ m).2) : Leaves P cx E a w o (aopF σ m).1 σ := by
  have hw : cx.W.heap.size ≤ w.heap.size := R.keep.size
  unfold aopF at h ⊢
  split at h
  · exact opM_sound hc R h
  · exact opM_sound hc R h
  · rename_i e s z m ps
    exact leaves_ro R (opM_sound hc R h)
  · rename_i x
    have := opM_sound hc R h
    simp only [aopM] at this h ⊢
    cases e1 : x.ev σ <;> simp only [e1, bytesV, bad3] at h this ⊢ <;> exact this
  · rename_i T x
    obtain ⟨y, e1, hx⟩ := compM_box hc
    obtain ⟨L, R'⟩ := R.allocB (a.eval y).cells T
    refine ⟨.pointer (some ⟨w.heap.size, 0, none⟩), _, _, .inl (by simp only [execOp, e1, Instr.box, newVar, newRow, Sem.run_bind, run_newObj, Result.andThen_ok, Sem.run_pure]; rfl), L, ?_, R'⟩
    refine mk_rp h.1 (.inr rfl) (((compX_rd R hx).toV h.2).mono L) (fun j v hv => ?_)
    rw [Nat.zero_add]
    unfold World.cell?
    rw [heap_new]
    simpa using hv
  · rename_i e s b z x y
    have := opM_sound hc R
    simp only [aopM] at this
    cases e1 : x.ev σ <;> simp only [e1, bad] at h this ⊢
    cases e2 : y.ev σ <;> simp only [e2, bad] at h this ⊢
    exact leaves_ro R (this h)
  · rename_i e s b x y
    have := opM_sound hc R
    simp only [aopM, appV] at this
    cases e1 : x.ev σ <;> simp only [e1, bad] at h this ⊢
    exact leaves_ro R (this h)
  · exact h.elim
theorem rowScoped {m : Nat} {e s : Nat} {g : Nat} {l : List V} : Ob.scp m ⟨.row e, true, g, .arr s l⟩ = true := rfl
theorem opC_sound {o : Oper} {m : MOp} {nx : Nat} (hc : compM P o.op = some m) (R : Rel cx E σ a w) (hn : σ.ob[nx]? = some resv) (h : (aopC σ nx m).2.2) : Leaves P cx E a w o (aopC σ nx m).1 { σ with ob := σ.ob.set nx (aopC σ nx m).2.1 } := by
  unfold aopC at h ⊢
  split at h
  · rename_i T z
    refine leaves_box R (o := ⟨.box false T, true, 0, z⟩) (fun _ => opM_sound hc R (by simp [aopM])) rfl rfl ?_ hn
    simp only [Ob.scp]
    exact V.scp_pure _ _ (zeroOk_pure' (compM_alloc hc))
  · rename_i T x
    obtain ⟨y, e1, hx⟩ := compM_box hc
    refine leaves_box R (o := ⟨.box false T, true, 0, x.ev σ⟩) (fun _ => opM_sound hc R h) rfl rfl ?_ hn
    simp only [Ob.scp]
    have := (compX_rd R hx).scp
    rwa [R.len] at this
  · rename_i e s z m ps
    obtain ⟨T, qs, i, b1, b2, b3, b4, b5, b6, b7, b8, rfl⟩ := compM_buildS hc
    cases hp : V.pures (setps (List.replicate m z) (evs σ ps)) with
    | true => exact leaves_row R (o := ⟨.row e, true, 0, .arr i.size (setps (List.replicate m z) (evs σ ps))⟩) (fun _ => buildS_sound R b1 b2 b3 b4 b5 b6 b7 b8 h hp) rfl rfl rfl hn
    | false =>
      obtain ⟨k1, cs, k2⟩ := buildR_sound R b1 b2 b3 b4 b5 b6 b7 b8 h
      refine leaves_row R (o := ⟨.rows e, true, 0, .arr i.size (setps (List.replicate m z) (evs σ ps))⟩) (fun _ => k1) rfl rfl ?_ hn
      simp only [Ob.scp, V.scp]
      have := k2.scp
      rwa [R.len] at this
  · rename_i e s b z x y
    have := opM_sound hc R
    simp only [aopM] at this
    cases e1 : x.ev σ <;> simp only [e1] at h this ⊢
    cases e2 : y.ev σ <;> simp only [e2] at h this ⊢
    exact leaves_row R (o := ⟨.row e, true, 0, _⟩) (fun _ => this h) rfl rfl rfl hn
  · rename_i e s b x y
    have := opM_sound hc R
    simp only [aopM, appV] at this
    cases e1 : x.ev σ <;> simp only [e1] at h this ⊢
    exact leaves_row R (o := ⟨.row e, true, 0, _⟩) (fun _ => this h) rfl rfl rfl hn
  · exact h.elim
theorem relAt_of {o : Oper} {x : V} {σ' : AS} {S : Value → World → Prop} (h : Leaves P cx E a w o x σ') (hS : ∀ v w' E', Leads E w E' w' → RdT E' w' x v → Rel cx E' σ' a w' → S v w') : relAt P o a w S := by
  obtain ⟨v, w', E', hr, L, hx, R⟩ := h
  unfold relAt
  rcases hr with hr | ⟨hr, rfl⟩
  · rw [hr]; exact hS v w' E' L hx R
  · rw [hr]; exact hS _ w' E' L hx R
theorem relAt_p {o : Oper} {m : POp} (hc : compP P o.op = some m) (R : Rel cx E σ a w) (h : (aopP σ m).2) {S : Value → World → Prop} (hS : ∀ v, RdT E w (aopP σ m).1 v → S v w) : relAt P o a w S := by
  obtain ⟨v, hr, hx⟩ := opP_sound hc R h
  unfold relAt
  rw [hr]
  exact hS v hx
theorem compK_p {op : Op} {m : POp} (h : compK P op = some (.p m)) (hb : m ≠ .bad) : compP P op = some m := by
  unfold compK at h
  split at h
  · rename_i e; cases h; exact e
  · split at h
    · cases h
    · split at h
      · split at h
        · split at h
          · simp at h
          · cases h; exact absurd rfl hb
        · cases h; exact absurd rfl hb
      · simp at h
      · cases h; exact absurd rfl hb
theorem compK_m {op : Op} {m : MOp} (h : compK P op = some (.m m)) : compM P op = some m := by
  unfold compK at h
  split at h
  · cases h
  · split at h
    · rename_i e; cases h; exact e
    · split at h
      · split at h
        · split at h
          · simp at h
          · cases h
        · cases h
      · simp at h
      · cases h
theorem compK_call {o : Oper} {f : FuncId} {xs : List X} (h : compK P o.op = some (.call f xs)) (a : Act) : ∃ as : List Operand, compXs as = some xs ∧ ∀ w, (execOp a.eval o).run P w = .ok (.enter f (as.map a.eval).toArray) w := by
  unfold compK at h
  split at h
  · cases h
  split at h
  · cases h
  split at h
  · rename_i f' as ats e1
    split at h
    · rename_i fn hfn
      split at h
      · rename_i hcnd
        simp only [Bool.and_eq_true] at hcnd
        simp only [Option.map_eq_some_iff, RK.call.injEq] at h
        obtain ⟨ys', hys, rfl, rfl⟩ := h
        refine ⟨as.toList, hys, fun w => ?_⟩
        have e2 : (as.toList.map a.eval).toArray = as.map a.eval := by rw [← Array.toList_map, Array.toArray_toList]
        rw [e2]
        simp only [execOp, e1, resolve, Act.eval, Deferred.ofValue, Sem.run_bind, Sem.run_pure, Result.andThen_ok, invoke]
        rw [run_callv hfn hcnd.1 hcnd.2]
        simp
      · cases h
    · cases h
  · simp at h
  · cases h
end
end Rdn.Dp
