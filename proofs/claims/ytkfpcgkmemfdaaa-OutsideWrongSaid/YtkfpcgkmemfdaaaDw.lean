/- Contracts over trees out of contracts of the kit's kind; equality of structs. Over any program. -/
import Derived.Test.YtkfpcgkmemfdaaaDx
import Derived.Test.YtkfpcgkmemfdaaaDb
namespace Rdn.Dp
open Go Go.RowKit Rdn
set_option linter.unusedVariables false
/-- A function whose arguments and result are no references. -/
theorem Fnc.ofCalls {P : Program} {f : FuncId} {xs : List V} {x : V} {v : Value} (args : List Value) (ha : ∀ S w vs, RdTs (argS S) w xs vs → vs = args) (hv : ∀ E w, RdT E w x v)
    (h : ∀ w, Calls P f args.toArray w fun e w' => e = .returned v ∧ Below w.heap.size w w') : Fnc P f xs (fun y obs => y = x ∧ obs = []) := by
  intro w S vs hS hvs
  obtain rfl := ha S w vs hvs
  refine (h w).mono ?_
  rintro e w' ⟨rfl, hb⟩
  refine ⟨x, [], v, ⟨rfl, rfl⟩, rfl, ⟨fun _ => False, fun b => w.heap.size ≤ b, []⟩, fun b hb => False.elim hb, fun o ho => (by cases ho), rfl, rfl, fun i => ?_, rfl, fun r o hr => by simp at hr, fun r r' o o' g g' u u' b _ hr => by simp at hr, fun b hb => False.elim hb, fun b => Iff.rfl, fun b hb => False.elim hb, Keep.of_below hb⟩
  cases i with
  | zero => exact hv _ _
  | succ i =>
    have e : slotV [(0, x)] (i + 1) = .junk := by simp [slotV]
    show RdT _ _ (slotV [(0, x)] (i + 1)) _
    rw [e]
    simp only [RdT]
theorem rdT_int {E : Env} {w : World} {k : IntKind} {n : Int} {v : Value} (h : RdT E w (.int k n) v) : v = .int k n := (rd_int h).1
theorem ofInt_nat {n : Nat} {x : Int} (h0 : 0 ≤ x) (h1 : x < 2 ^ n) : (BitVec.ofInt n x).toNat = x.toNat := by
  rw [BitVec.toNat_ofInt]
  congr 1
  exact Int.emod_eq_of_lt h0 (by exact_mod_cast h1)
theorem bxor_nat {k : IntKind} (hk : k.signed = false) {x y : Int} (h0 : 0 ≤ x) (h1 : x < 2 ^ k.bits) (h2 : 0 ≤ y) (h3 : y < 2 ^ k.bits) : bxor k x y = ((x.toNat ^^^ y.toNat : Nat) : Int) ∧ x.toNat ^^^ y.toNat < 2 ^ k.bits := by
  have e := Nat.xor_lt_two_pow (n := k.bits) (x := x.toNat) (y := y.toNat) ((Int.toNat_lt h0).2 (by exact_mod_cast h1)) ((Int.toNat_lt h2).2 (by exact_mod_cast h3))
  refine ⟨?_, e⟩
  unfold bxor IntKind.wrap
  rw [BitVec.toNat_xor, ofInt_nat h0 h1, ofInt_nat h2 h3]
  simp only [hk, Bool.false_and, Bool.false_eq_true, if_false]
  exact Int.emod_eq_of_lt (by omega) (by exact_mod_cast e)
theorem bor_nat {k : IntKind} (hk : k.signed = false) {x y : Int} (h0 : 0 ≤ x) (h1 : x < 2 ^ k.bits) (h2 : 0 ≤ y) (h3 : y < 2 ^ k.bits) : bor k x y = ((x.toNat ||| y.toNat : Nat) : Int) ∧ x.toNat ||| y.toNat < 2 ^ k.bits := by
  have e := Nat.or_lt_two_pow (n := k.bits) (x := x.toNat) (y := y.toNat) ((Int.toNat_lt h0).2 (by exact_mod_cast h1)) ((Int.toNat_lt h2).2 (by exact_mod_cast h3))
  refine ⟨?_, e⟩
  unfold bor IntKind.wrap
  rw [BitVec.toNat_or, ofInt_nat h0 h1, ofInt_nat h2 h3]
  simp only [hk, Bool.false_and, Bool.false_eq_true, if_false]
  exact Int.emod_eq_of_lt (by omega) (by exact_mod_cast e)
theorem cell_beq (c d : Cell) : (c.tag == d.tag && c.val == d.val) = decide (c = d) := by
  obtain ⟨a, b⟩ := c
  obtain ⟨a', b'⟩ := d
  rw [Bool.eq_iff_iff]
  simp
theorem canon_beq (c d : Canon) : (c.tag == d.tag && (c.val == d.val && (c.region == d.region && c.offset == d.offset))) = decide (c = d) := by
  obtain ⟨a, b, x, y⟩ := c
  obtain ⟨a', b', x', y'⟩ := d
  rw [Bool.eq_iff_iff]
  simp
attribute [go_sem] cell_beq canon_beq
theorem eq_of_take {α : Type} {a b : List α} {k : Nat} (ha : a.length ≤ k) (hb : b.length ≤ k) (h : a.take k = b.take k) : a = b := by
  rwa [List.take_of_length_le ha, List.take_of_length_le hb] at h
theorem at_of_eq {α : Type} [Inhabited α] {a b : List α} (h : a = b) (k : Nat) : a[k]! = b[k]! := by rw [h]
/-- Less is told of a result. -/
theorem ResOkM.low {w w' : World} {S : Nat → Prop} {b0 : Nat} {T : TypeId} {x d : V} {obs : List Ob} {v : Value} (h : ResOkM w w' S b0 T x obs d v) : ResOkM w w' S b0 T x.low (obs.map Ob.low) d.low v := by
  obtain ⟨E1, h1, hb, h2, R, hd, cs, hcs, hr⟩ := h
  have ol : ∀ (r : Nat) (o' : Ob), (obs.map Ob.low)[r]? = some o' → ∃ o : Ob, obs[r]? = some o ∧ o' = o.low := by
    intro r o' h
    rw [List.getElem?_map, Option.map_eq_some_iff] at h
    obtain ⟨o, h, rfl⟩ := h
    exact ⟨o, h, rfl⟩
  refine ⟨E1, h1, hb, fun o ho => ?_, ⟨R.df, R.n, fun i => ?_, by simp [R.len], fun r o hr => ?_, fun r r' o o' g g' u u' b k1 k2 k3 k4 k5 k6 k7 k8 k9 => ?_, R.lt, R.fr, R.old, R.keep⟩, by rw [V.low_pure]; exact hd, cs, hcs, lowE_rd hr⟩
  · obtain ⟨o1, ho1, rfl⟩ := List.mem_map.1 ho
    exact h2 o1 ho1
  · have := R.tm i
    cases i with
    | zero =>
      simp only [slotV, if_true] at this ⊢
      exact lowET_rd this
    | succ i =>
      have e : slotV [(0, x.low)] (i + 1) = .junk := by simp [slotV]
      show RdT _ _ (slotV [(0, x.low)] (i + 1)) _
      rw [e]
      simp only [RdT]
  · obtain ⟨o1, h, rfl⟩ := ol r o hr
    obtain ⟨u, k1, k2⟩ := R.ob r o1 h
    refine ⟨u, k1, ?_⟩
    unfold OkO at k2 ⊢
    simp only [Ob.low]
    split at k2
    · obtain ⟨b, cs, m1, m2, m3, m4, m5⟩ := k2
      exact ⟨b, cs, m1, m2, lowE_rd m3, m4, by rw [V.low_pure]; exact m5⟩
    · obtain ⟨s, l, xs, m1, m2, m3, m4, m5, m6, m7, m8⟩ := k2
      have hl : (V.lows l).length = l.length := by simp [lows_map]
      exact ⟨s, V.lows l, xs, by rw [m1]; rfl, by rw [V.lows_pures]; exact m2, unif_lows m3, m4, by omega, by rw [hl]; exact m6, lowsE_rd m7, m8⟩
    · obtain ⟨m0, s, l, xs, m1, m3, m4, m5, m6, m7, m8⟩ := k2
      have hl : (V.lows l).length = l.length := by simp [lows_map]
      exact ⟨m0, s, V.lows l, xs, by rw [m1]; rfl, unif_lows m3, m4, by omega, by rw [hl]; exact m6, lowsE_rd m7, m8⟩
  · obtain ⟨o1, q1, rfl⟩ := ol r o k2
    obtain ⟨o2, q2, rfl⟩ := ol r' o' k3
    exact R.sep r r' o1 o2 g g' u u' b k1 q1 q2 k4 k5 k6 k7 k8 k9
theorem FncM.low {P : Program} {f : FuncId} {T : TypeId} {d : V} {xs : List V} {R0 : V → List Ob → V → Prop} (h : FncM P f T d xs fun x obs c => R0 x.low (obs.map Ob.low) c.low) : FncM P f T d xs R0 := fun w S b0 hS cs hcs hd vs hvs => (h w S b0 hS cs hcs hd vs hvs).mono (by
  rintro e w' ⟨x, obs, c, v, h1, h2, h3⟩
  exact ⟨_, _, _, v, h1, h2, h3.low⟩)
theorem FncM.wf {P : Program} {f : FuncId} {T : TypeId} {d : V} {xs : List V} {R0 : V → List Ob → V → Prop} (h : d.wf → V.wfs xs → FncM P f T d xs R0) : FncM P f T d xs R0 := fun w S b0 hS cs hcs hd vs hvs => h hd.wf hvs.wfs w S b0 hS cs hcs hd vs hvs
theorem set_cell (l : List Cell) (i : Nat) (t v : Int) : (l.map cellV).set i (.agg [.int .u8 t, .int .u16 v]) = (l.set i ⟨t, v⟩).map cellV := by rw [List.map_set]
theorem set_canon (l : List Canon) (i : Nat) (t v x y : Int) : (l.map canonV).set i (.agg [.int .u8 t, .int .u16 v, .int .i64 x, .int .i64 y]) = (l.set i ⟨t, v, x, y⟩).map canonV := by rw [List.map_set]
theorem set_ints (k : IntKind) (l : List Int) (i : Nat) (v : Int) : (l.map (V.int k)).set i (.int k v) = (l.set i v).map (V.int k) := by rw [List.map_set]
attribute [go_sem] set_cell set_canon set_ints
/-- A call with a pointer whose result is a row of its own. -/
theorem st_callMR {P : Program} {cx : Cx} {N : Nat} {Q : Exit → Act → World → Prop} {k : List It} {n : Nat} {t : List (Nat × V)} {ob : List Ob} {l : List RO} {gd : Option (Nat × Bool)} {i : Nat} {f : FuncId} {xs : List X} {r g : Nat} {ws ys : List V} {q : Bool} {T : TypeId} {dc d d' : V} {e s : Nat} {qs : List V} (hF : FncM P f T d ys fun y obs c => y = .own 0 0 ∧ obs = [⟨.row e, true, 0, .arr s qs⟩] ∧ c = d') (hw : wants ⟨n, t, ob⟩ gd = some true)
    (hx : xs.map (X.ev ⟨n, t, ob⟩) = .ptr r g [] 0 :: ws) (hob : ob[r]? = some ⟨.box q T, true, g, dc⟩) (hdp : dc.pure = true) (hd : dc.low = d) (hwp : V.pures ws = true) (hys : V.lows ws = ys) (hp : V.pures qs = true)
    (h : EvR P cx N Q k l ⟨n, (i, .own ob.length 0) :: t, ob.set r ⟨.box q T, true, g, d'⟩ ++ [⟨.row e, true, 0, .arr s qs⟩]⟩) : EvR P cx N Q k (⟨some i, gd, .call f xs⟩ :: l) ⟨n, t, ob⟩ := by
  refine st_callM hF hw hx hob hdp hd hwp hys fun y obs c hy => ?_
  obtain ⟨rfl, rfl, rfl⟩ := hy
  simp only [V.shift, List.map_cons, List.map_nil, Ob.shift, V.shifts_pure _ _ hp, Nat.add_zero]
  exact h
theorem bxor_i64 {x y : Int} (h0 : 0 ≤ x) (h1 : x < 4611686018427387904) (h2 : 0 ≤ y) (h3 : y < 4611686018427387904) : bxor .i64 x y = ((x.toNat ^^^ y.toNat : Nat) : Int) ∧ x.toNat ^^^ y.toNat < 4611686018427387904 := by
  have e := Nat.xor_lt_two_pow (n := 62) (x := x.toNat) (y := y.toNat) (by omega) (by omega)
  refine ⟨?_, by omega⟩
  have hw : ∀ m : Nat, m < 4611686018427387904 → IntKind.i64.wrap (m : Int) = m := by
    intro m hm
    show (if (true && decide ((m : Int) % 18446744073709551616 ≥ 9223372036854775808)) = true then (m : Int) % 18446744073709551616 - 18446744073709551616 else (m : Int) % 18446744073709551616) = m
    rw [Int.emod_eq_of_lt (by omega) (by omega), if_neg (by simp; omega)]
  have e1 : (BitVec.ofInt 64 x).toNat = x.toNat := ofInt_nat h0 (by omega)
  have e2 : (BitVec.ofInt 64 y).toNat = y.toNat := ofInt_nat h2 (by omega)
  show IntKind.i64.wrap (((BitVec.ofInt 64 x ^^^ BitVec.ofInt 64 y).toNat : Nat) : Int) = _
  rw [BitVec.toNat_xor, e1, e2]
  exact hw _ (by omega)
/-- A nil slice reads as an empty one. -/
theorem ev_nil2 {P : Program} {cx : Cx} {N : Nat} {Q : Exit → Act → World → Prop} {k : List It} {n : Nat} {t : List (Nat × V)} {ob : List Ob} (i : Nat) (u : Bool) (s : Nat) (hi : slotV t i = .nilS) (h : Ev P cx N Q k ⟨n, (i, .sl u s []) :: t, ob⟩) : Ev P cx N Q k ⟨n, t, ob⟩ := by
  refine ⟨fun hn E a w R => h.h hn E a w ⟨R.df, R.n, fun j => ?_, R.len, R.ob, R.sep, R.lt, R.fr, R.old, R.keep⟩⟩
  simp only [slotV]
  split
  · rename_i e
    subst e
    have := R.tm i
    have this : RdT E w (slotV t i) (a.tmps.getD i undef) := this
    rw [hi] at this
    simp only [RdT, RdV, List.cons.injEq, and_true] at this ⊢
    exact ⟨rfl, by simp [Unif], none, 0, by rw [this]; rfl, by simp, by simp, by simp⟩
  · exact R.tm j
theorem shifts_lo {α : Type} (m : Nat) (f : α → V) {g : α → V} [h : Lo f g] (l : List α) : V.shifts m (l.map f) = l.map f := V.shifts_pure _ _ (pures_lo f l)
/-- A call whose result is told as it is, with objects of its own. -/
theorem st_callX {P : Program} {cx : Cx} {N : Nat} {Q : Exit → Act → World → Prop} {k : List It} {n : Nat} {t : List (Nat × V)} {ob : List Ob} {l : List RO} {gd : Option (Nat × Bool)} {i : Nat} {f : FuncId} {xs : List X} (ys : List V) (x : V) (os : List Ob) {x' : V} {os' : List Ob} {ws : List V} (hF : Fnc P f ys fun y obs => y = x ∧ obs = os) (hw : wants ⟨n, t, ob⟩ gd = some true)
    (hx : xs.map (X.ev ⟨n, t, ob⟩) = ws) (hok : V.ressOk ⟨n, t, ob⟩ ws ∧ noTup ws) (hs : Subs (V.lows (V.ress ⟨n, t, ob⟩ [] ws)) ys) (hsh : x.shift ob.length = x') (hos : os.map (Ob.shift ob.length) = os') (hq : newOr ws x os) (h : EvR P cx N Q k l ⟨n, (i, x') :: t, ob ++ os'⟩) : EvR P cx N Q k (⟨some i, gd, .call f xs⟩ :: l) ⟨n, t, ob⟩ := by
  subst hsh hos
  refine st_call ys hF hw hx hok hs (fun y obs hy => by obtain ⟨rfl, rfl⟩ := hy; exact hq) fun y obs hy => ?_
  obtain ⟨rfl, rfl⟩ := hy
  exact h
/-- A tree tells less than another one: wherever cells read as the first one they read as the second one. -/
def SubV (x y : V) : Prop := ∀ (E : Env) (w : World) (cs : List Value), RdV E w x cs → RdV E w y cs
theorem SubV.refl (x : V) : SubV x x := fun _ _ _ h => h
theorem SubV.nil (t : Bool) (s : Nat) : SubV .nilS (.sl t s []) := by
  intro E w cs h
  simp only [RdV] at h ⊢
  subst h
  exact ⟨rfl, by simp [Unif], none, 0, by simp, by simp, by simp, by simp⟩
def SubVs : List V → List V → Prop
  | [], [] => True
  | x :: l, y :: m => SubV x y ∧ SubVs l m
  | _, _ => False
theorem SubVs.rd {E : Env} {w : World} : ∀ {l m : List V} {cs : List Value}, SubVs l m → RdL E w l cs → RdL E w m cs
  | [], [], cs, _, h => h
  | x :: l, y :: m, cs, hs, h => by
    simp only [RdL] at h ⊢
    obtain ⟨c, ys, h1, h2, h3⟩ := h
    exact ⟨c, ys, h1, hs.1 E w c h2, hs.2.rd h3⟩
  | [], y :: m, cs, hs, h => hs.elim
  | x :: l, [], cs, hs, h => hs.elim
theorem SubV.agg {l m : List V} (h : SubVs l m) : SubV (.agg l) (.agg m) := by
  intro E w cs hr
  simp only [RdV] at hr ⊢
  exact h.rd hr
theorem Sub.agg {l m : List V} (h : SubVs l m) : Sub (.agg l) (.agg m) := by
  intro S w v hr
  simp only [RdT] at hr ⊢
  obtain ⟨cs, e, hr⟩ := hr
  exact ⟨cs, e, SubV.agg h _ _ _ hr⟩
/-- Less is told of a variable. -/
theorem Rel.obSub {cx : Cx} {E : Env} {n : Nat} {t : List (Nat × V)} {ob : List Ob} {a : Act} {w : World} (R : Rel cx E ⟨n, t, ob⟩ a w) {r : Nat} {q : Bool} {T : TypeId} {g : Nat} {x y : V} (hr : ob[r]? = some ⟨.box q T, true, g, x⟩) (hs : ∀ cs, RdV E w x cs → RdV E w y cs) : Rel cx E ⟨n, t, ob.set r ⟨.box q T, true, g, y⟩⟩ a w := by
  have rl : r < ob.length := (List.getElem?_eq_some_iff.1 hr).1
  have get : ∀ (j : Nat) (o : Ob), (ob.set r ⟨.box q T, true, g, y⟩)[j]? = some o → ∃ o', ob[j]? = some o' ∧ o'.live = o.live ∧ o'.g = o.g ∧ (o' = o ∨ (o' = ⟨.box q T, true, g, x⟩ ∧ o = ⟨.box q T, true, g, y⟩)) := by
    intro j o h
    by_cases e : r = j
    · subst e
      rw [List.getElem?_set_self rl] at h
      obtain rfl := Option.some.inj h
      exact ⟨_, hr, rfl, rfl, .inr ⟨rfl, rfl⟩⟩
    · rw [List.getElem?_set_ne e] at h
      exact ⟨o, h, rfl, rfl, .inl rfl⟩
  refine ⟨R.df, R.n, R.tm, by simp [R.len], fun j o h => ?_, fun r1 r2 o1 o2 g1 g2 u1 u2 b h1 h2 h3 h4 h5 h6 h7 h8 h9 => ?_, R.lt, R.fr, R.old, R.keep⟩
  · obtain ⟨o', k1, k2, k3, k4⟩ := get j o h
    obtain ⟨u, m1, m2⟩ := R.ob j o' k1
    rcases k4 with rfl | ⟨rfl, rfl⟩
    · exact ⟨u, m1, m2⟩
    · refine ⟨u, m1, ?_⟩
      unfold OkO at m2 ⊢
      obtain ⟨b, cs, c1, c2, c3, c4, c5⟩ := m2
      exact ⟨b, cs, c1, c2, hs _ c3, c4, c5⟩
  · obtain ⟨p1, k1, k2, k3, k4⟩ := get r1 o1 h2
    obtain ⟨p2, q1, q2, q3, q4⟩ := get r2 o2 h3
    exact R.sep r1 r2 p1 p2 g1 g2 u1 u2 b h1 k1 q1 (by rw [k2]; exact h4) (by rw [q2]; exact h5) h6 h7 h8 h9
theorem ev_obSub {P : Program} {cx : Cx} {N : Nat} {Q : Exit → Act → World → Prop} {k : List It} {n : Nat} {t : List (Nat × V)} {ob : List Ob} (r : Nat) {q : Bool} {T : TypeId} {g : Nat} {x : V} (y : V) (hr : ob[r]? = some ⟨.box q T, true, g, x⟩) (hs : SubV x y) {ob' : List Ob} (ho : ob.set r ⟨.box q T, true, g, y⟩ = ob') (h : Ev P cx N Q k ⟨n, t, ob'⟩) : Ev P cx N Q k ⟨n, t, ob⟩ := by
  subst ho
  exact ⟨fun hn E a w R => h.h hn E a w (R.obSub hr (hs E w))⟩
theorem evr_obSub {P : Program} {cx : Cx} {N : Nat} {Q : Exit → Act → World → Prop} {k : List It} {n : Nat} {t : List (Nat × V)} {ob : List Ob} {l : List RO} (r : Nat) {q : Bool} {T : TypeId} {g : Nat} {x : V} (y : V) (hr : ob[r]? = some ⟨.box q T, true, g, x⟩) (hs : SubV x y) (h : EvR P cx N Q k l ⟨n, t, ob.set r ⟨.box q T, true, g, y⟩⟩) : EvR P cx N Q k l ⟨n, t, ob⟩ :=
  ⟨fun hn E a w R => h.h hn E a w (R.obSub hr (hs E w))⟩
theorem RdL.nilOwn {E : Env} {w : World} {y : V} (hy : ∀ c, RdV E w .nilS c → RdV E w y c) : ∀ {vs : List V} {cs : List Value} {j : Nat}, vs[j]? = some .nilS → RdL E w vs cs → RdL E w (vs.set j y) cs
  | x :: vs, cs, 0, hj, h => by
    simp only [List.getElem?_cons_zero, Option.some.injEq] at hj
    subst hj
    simp only [List.set_cons_zero, RdL] at h ⊢
    obtain ⟨c, ys, h1, h2, h3⟩ := h
    exact ⟨c, ys, h1, hy c h2, h3⟩
  | x :: vs, cs, j + 1, hj, h => by
    simp only [List.getElem?_cons_succ] at hj
    simp only [List.set_cons_succ, RdL] at h ⊢
    obtain ⟨c, ys, h1, h2, h3⟩ := h
    exact ⟨c, ys, h1, h2, RdL.nilOwn hy hj h3⟩
/-- A nil slice in a variable's field is taken for a row of one's own. -/
theorem ev_adoptB {P : Program} {cx : Cx} {N : Nat} {Q : Exit → Act → World → Prop} {k : List It} {n : Nat} {t : List (Nat × V)} {ob : List Ob} (r j : Nat) {q : Bool} {T : TypeId} {g : Nat} {vs : List V} (e s : Nat) (hr : ob[r]? = some ⟨.box q T, true, g, .agg vs⟩) (hj : vs[j]? = some .nilS) (hs : 0 < s) {ob' : List Ob} (ho : (ob ++ [(⟨.row e, true, 0, .arr s []⟩ : Ob)]).set r ⟨.box q T, true, g, .agg (vs.set j (.own ob.length 0))⟩ = ob') (h : Ev P cx N Q k ⟨n, t, ob'⟩) : Ev P cx N Q k ⟨n, t, ob⟩ := by
  subst ho
  refine ⟨fun hn E a w R => ?_⟩
  obtain ⟨L, R'⟩ := R.new (w' := w) (o := ⟨.row e, true, 0, .arr s []⟩) (u := .slice none 0 0) (Below.refl _ _) (fun b hb => by simp [blk] at hb) rfl rfl (by
    unfold OkO
    exact ⟨s, [], [], rfl, rfl, by simp [Unif], hs, by simp, World.ownsRow_nil _ _ _ _, by simp [RdL], fun b hb => by simp [blk] at hb⟩)
  have rl : r < ob.length := (List.getElem?_eq_some_iff.1 hr).1
  have R' : Rel cx { E with ref := E.ref ++ [(0, .slice none 0 0)] } ⟨n, t, ob ++ [⟨.row e, true, 0, .arr s []⟩]⟩ a w := R'
  refine h.h hn _ a w (R'.obSub (by rw [List.getElem?_append_left rl]; exact hr) fun cs hcs => ?_)
  simp only [RdV] at hcs ⊢
  refine RdL.nilOwn (fun c hc => ?_) hj hcs
  simp only [RdV] at hc ⊢
  subst hc
  refine ⟨_, rfl, rfl, by simp [R.len], fun gc u h => ?_⟩
  have hl : E.ref.length = ob.length := R.len
  rw [← hl, List.getElem?_append_right (Nat.le_refl _)] at h
  simp at h
  obtain ⟨h1, h2⟩ := h
  subst h1
  exact ⟨Nat.le_refl _, fun _ => h2⟩
/-- Things drawn one after the other: f draws one at a position. -/
def drw {α : Type} (f : Nat → α × Nat) (k : Nat) : Nat → List α × Nat
  | 0 => ([], k)
  | i + 1 => ((drw f k i).1 ++ [(f (drw f k i).2).1], (f (drw f k i).2).2)
theorem drw_le {α : Type} {f : Nat → α × Nat} {m : Nat} (hf : ∀ k, k ≤ m → (f k).2 ≤ m) {k : Nat} (hk : k ≤ m) : ∀ i, (drw f k i).2 ≤ m
  | 0 => hk
  | i + 1 => hf _ (drw_le hf hk i)
theorem drw_len {α : Type} (f : Nat → α × Nat) (k : Nat) : ∀ i, (drw f k i).1.length = i
  | 0 => rfl
  | i + 1 => by simp [drw, drw_len f k i]
theorem drw_all {α : Type} {f : Nat → α × Nat} {p : α → Prop} (hf : ∀ k, p (f k).1) (k : Nat) : ∀ i, ∀ x ∈ (drw f k i).1, p x
  | 0 => by simp [drw]
  | i + 1 => by
    intro x hx
    simp only [drw, List.mem_append, List.mem_singleton] at hx
    rcases hx with hx | rfl
    · exact drw_all hf k i x hx
    · exact hf _
end Rdn.Dp
