/- What is told of numbers in arguments; the structs as trees. -/
import Derived.Test.YtkfpcgkmemfdaaaDj
import Derived.Test.YtkfpcgkmemfdaaaShapes
namespace Rdn.Dp
open Go Go.RowKit Rdn
set_option linter.unusedVariables false
mutual
/-- Every number is of its kind. -/
def V.wf : V → Prop
  | .int k n => inK k n
  | .agg l => V.wfs l
  | .arr _ l => V.wfs l
  | .sl _ _ l => V.wfs l ∧ l.length ≤ 140737488355328
  | .tup _ => True
  | .clo _ _ => True
  | .bool _ => True
  | .str _ => True
  | .nilS => True
  | .own _ _ => True
  | .ptr _ _ _ _ => True
  | .rp _ => True
  | .fn _ => True
  | .junk => True
def V.wfs : List V → Prop
  | [] => True
  | x :: l => x.wf ∧ V.wfs l
end
theorem wfs_iff : ∀ {l : List V}, V.wfs l ↔ ∀ x ∈ l, x.wf
  | [] => by simp [V.wfs]
  | x :: l => by simp [V.wfs, wfs_iff (l := l)]
theorem wfs_map {α : Type} (f : α → V) (l : List α) : V.wfs (l.map f) ↔ ∀ a ∈ l, (f a).wf := by simp [wfs_iff]
section
variable {E : Env} {w : World}
mutual
theorem RdV.wf : ∀ {x : V} {cs : List Value}, RdV E w x cs → x.wf
  | .int k n, cs, h => by simp only [RdV] at h; simp only [V.wf]; exact h.2
  | .agg l, cs, h => by simp only [RdV] at h; simp only [V.wf]; exact h.wfs
  | .arr s l, cs, h => by simp only [RdV] at h; simp only [V.wf]; exact h.1.wfs
  | .sl t s l, cs, h => by
    simp only [RdV] at h
    simp only [V.wf]
    obtain ⟨_, _, A, c, _, _, hm, hh⟩ := h
    refine ⟨?_, hm⟩
    cases l with
    | nil => simp [V.wfs]
    | cons a l =>
      obtain ⟨b, o, xs, _, _, _, hr, _⟩ := hh (by simp)
      exact hr.wfs
  | .tup _, cs, h => by simp only [V.wf]
  | .clo f _, cs, h => by simp only [V.wf]
  | .bool _, cs, h => by simp only [V.wf]
  | .str _, cs, h => by simp only [V.wf]
  | .nilS, cs, h => by simp only [V.wf]
  | .own _ _, cs, h => by simp only [V.wf]
  | .ptr _ _ _ _, cs, h => by simp only [V.wf]
  | .rp _, cs, h => by simp only [V.wf]
  | .fn _, cs, h => by simp only [V.wf]
  | .junk, cs, h => by simp only [V.wf]
theorem RdL.wfs : ∀ {l : List V} {cs : List Value}, RdL E w l cs → V.wfs l
  | [], cs, h => by simp only [V.wfs]
  | a :: l, cs, h => by
    simp only [RdL] at h
    obtain ⟨c, ys, rfl, h1, h2⟩ := h
    simp only [V.wfs]
    exact ⟨h1.wf, h2.wfs⟩
end
theorem RdT.wf : ∀ {x : V} {v : Value}, RdT E w x v → x.wf
  | .int k n, v, h => by simp only [RdT] at h; exact h.wf
  | .agg l, v, h => by simp only [RdT] at h; obtain ⟨cs, _, h⟩ := h; exact h.wf
  | .arr s l, v, h => by simp only [RdT] at h; obtain ⟨cs, _, h⟩ := h; exact h.wf
  | .sl t s l, v, h => by simp only [RdT] at h; exact h.wf
  | .tup _, v, h => by simp only [V.wf]
  | .clo f _, v, h => by simp only [V.wf]
  | .bool _, v, h => by simp only [V.wf]
  | .str _, v, h => by simp only [V.wf]
  | .nilS, v, h => by simp only [V.wf]
  | .own _ _, v, h => by simp only [V.wf]
  | .ptr _ _ _ _, v, h => by simp only [V.wf]
  | .rp _, v, h => by simp only [V.wf]
  | .fn _, v, h => by simp only [V.wf]
  | .junk, v, h => by simp only [V.wf]
theorem RdTs.wfs : ∀ {l : List V} {vs : List Value}, RdTs E w l vs → V.wfs l
  | [], vs, h => by simp only [V.wfs]
  | a :: l, vs, h => by
    simp only [RdTs] at h
    obtain ⟨v, ys, rfl, h1, h2⟩ := h
    simp only [V.wfs]
    exact ⟨h1.wf, h2.wfs⟩
end
/-- A contract may take the numbers of its arguments to be of their kinds. -/
theorem Fnc.wf {P : Program} {f : FuncId} {xs : List V} {R0 : V → List Ob → Prop} (h : V.wfs xs → Fnc P f xs R0) : Fnc P f xs R0 := fun w S vs hS hvs => h hvs.wfs w S vs hS hvs
theorem inK_u8' {n : Int} (h : inK .u8 n) : 0 ≤ n ∧ n ≤ 255 := by unfold inK at h; simpa [IntKind.min, IntKind.max, IntKind.signed, IntKind.bits] using h
theorem inK_u16' {n : Int} (h : inK .u16 n) : 0 ≤ n ∧ n ≤ 65535 := by unfold inK at h; simpa [IntKind.min, IntKind.max, IntKind.signed, IntKind.bits] using h
theorem inK_u32' {n : Int} (h : inK .u32 n) : 0 ≤ n ∧ n ≤ 4294967295 := by unfold inK at h; simpa [IntKind.min, IntKind.max, IntKind.signed, IntKind.bits] using h
theorem inK_i64' {n : Int} (h : inK .i64 n) : -9223372036854775808 ≤ n ∧ n ≤ 9223372036854775807 := by unfold inK at h; simpa [IntKind.min, IntKind.max, IntKind.signed, IntKind.bits] using h
/-- A call whose result is fixed, and that makes nothing that may be written. -/
theorem st_callD {P : Program} {cx : Cx} {N : Nat} {Q : Exit → Act → World → Prop} {k : List It} {n : Nat} {t : List (Nat × V)} {ob : List Ob} {l : List RO} {gd : Option (Nat × Bool)} {i : Nat} {f : FuncId} {xs : List X} (ys : List V) (x : V) {ws : List V} (hF : Fnc P f ys fun y obs => y = x ∧ obs = []) (hw : wants ⟨n, t, ob⟩ gd = some true)
    (hx : xs.map (X.ev ⟨n, t, ob⟩) = ws) (hok : V.ressOk ⟨n, t, ob⟩ ws ∧ noTup ws) (hs : Subs (V.lows (V.ress ⟨n, t, ob⟩ [] ws)) ys) (hp : V.pureT x = true) (hq : newOr ws x []) (h : EvR P cx N Q k l ⟨n, (i, x) :: t, ob⟩) : EvR P cx N Q k (⟨some i, gd, .call f xs⟩ :: l) ⟨n, t, ob⟩ := by
  refine st_call ys hF hw hx hok hs (fun y obs hy => by obtain ⟨rfl, rfl⟩ := hy; exact hq) fun y obs hy => ?_
  obtain ⟨rfl, rfl⟩ := hy
  rw [V.shift_pureT _ _ hp, List.map_nil, List.append_nil]
  exact h
/-- A call whose result is a row of its own. -/
theorem st_callR {P : Program} {cx : Cx} {N : Nat} {Q : Exit → Act → World → Prop} {k : List It} {n : Nat} {t : List (Nat × V)} {ob : List Ob} {l : List RO} {gd : Option (Nat × Bool)} {i : Nat} {f : FuncId} {xs : List X} (ys : List V) {e s : Nat} {q : List V} {ws : List V} (hF : Fnc P f ys fun y obs => y = .own 0 0 ∧ obs = [⟨.row e, true, 0, .arr s q⟩]) (hw : wants ⟨n, t, ob⟩ gd = some true)
    (hx : xs.map (X.ev ⟨n, t, ob⟩) = ws) (hok : V.ressOk ⟨n, t, ob⟩ ws ∧ noTup ws) (hs : Subs (V.lows (V.ress ⟨n, t, ob⟩ [] ws)) ys) (hp : V.pures q = true) (hq : newOr ws (.own 0 0) [⟨.row e, true, 0, .arr s q⟩]) (h : EvR P cx N Q k l ⟨n, (i, .own ob.length 0) :: t, ob ++ [⟨.row e, true, 0, .arr s q⟩]⟩) : EvR P cx N Q k (⟨some i, gd, .call f xs⟩ :: l) ⟨n, t, ob⟩ := by
  refine st_call ys hF hw hx hok hs (fun y obs hy => by obtain ⟨rfl, rfl⟩ := hy; exact hq) fun y obs hy => ?_
  obtain ⟨rfl, rfl⟩ := hy
  simp only [V.shift, List.map_cons, List.map_nil, Ob.shift, V.shifts_pure _ _ hp]
  exact h
/-- A call with a pointer, whose result is fixed. -/
theorem st_callMD {P : Program} {cx : Cx} {N : Nat} {Q : Exit → Act → World → Prop} {k : List It} {n : Nat} {t : List (Nat × V)} {ob : List Ob} {l : List RO} {gd : Option (Nat × Bool)} {i : Nat} {f : FuncId} {xs : List X} {r g : Nat} {ws ys : List V} {q : Bool} {T : TypeId} {dc d d' x : V} (hF : FncM P f T d ys fun y obs c => y = x ∧ obs = [] ∧ c = d') (hw : wants ⟨n, t, ob⟩ gd = some true)
    (hx : xs.map (X.ev ⟨n, t, ob⟩) = .ptr r g [] 0 :: ws) (hob : ob[r]? = some ⟨.box q T, true, g, dc⟩) (hdp : dc.pure = true) (hd : dc.low = d) (hwp : V.pures ws = true) (hys : V.lows ws = ys) (hp : V.pureT x = true)
    (h : EvR P cx N Q k l ⟨n, (i, x) :: t, ob.set r ⟨.box q T, true, g, d'⟩⟩) : EvR P cx N Q k (⟨some i, gd, .call f xs⟩ :: l) ⟨n, t, ob⟩ := by
  refine st_callM hF hw hx hob hdp hd hwp hys fun y obs c hy => ?_
  obtain ⟨rfl, rfl, rfl⟩ := hy
  rw [V.shift_pureT _ _ hp, List.map_nil, List.append_nil]
  exact h
instance : Inhabited Cell := ⟨⟨0, 0⟩⟩
instance : Inhabited Canon := ⟨⟨0, 0, 0, 0⟩⟩
instance : Inhabited View := ⟨⟨0, 0, 0, 0, 0, 0, 0, []⟩⟩
instance : Inhabited Output := ⟨⟨0, 0, []⟩⟩
abbrev u8s (l : List Int) : List V := l.map (V.int .u8)
abbrev u16s (l : List Int) : List V := l.map (V.int .u16)
abbrev u32s (l : List Int) : List V := l.map (V.int .u32)
abbrev i64s (l : List Int) : List V := l.map (V.int .i64)
abbrev cellV (c : Cell) : V := .agg [.int .u8 c.tag, .int .u16 c.val]
abbrev canonV (c : Canon) : V := .agg [.int .u8 c.tag, .int .u16 c.val, .int .i64 c.region, .int .i64 c.offset]
abbrev viewV (t : Bool) (v : View) : V := .agg [.int .i64 v.state, .int .i64 v.pc, .int .i64 v.count, .int .i64 v.handler, .int .i64 v.saved, .int .i64 v.trap, .int .u16 v.code, .sl t 4 (v.regs.map canonV)]
abbrev outputV (t : Bool) (o : Output) : V := .agg [.int .i64 o.seq, .int .i64 o.socket, .sl t 4 (o.data.map canonV)]
theorem pures_ints (k : IntKind) (l : List Int) : V.pures (l.map (V.int k)) = true := pures_map _ _ (fun _ => rfl)
theorem pures_cells (l : List Cell) : V.pures (l.map cellV) = true := pures_map _ _ (fun _ => rfl)
theorem pures_canons (l : List Canon) : V.pures (l.map canonV) = true := pures_map _ _ (fun _ => rfl)
theorem pures_sls {α : Type} (t : Bool) (s : Nat) (f : α → List V) (l : List α) : V.pures (l.map fun x => V.sl t s (f x)) = true := pures_map _ _ (fun _ => rfl)
theorem freshs_ints (k : IntKind) (l : List Int) : V.freshs (l.map (V.int k)) = true := freshs_map _ _ (fun _ => rfl)
theorem freshs_cells (l : List Cell) : V.freshs (l.map cellV) = true := freshs_map _ _ (fun _ => rfl)
theorem freshs_canons (l : List Canon) : V.freshs (l.map canonV) = true := freshs_map _ _ (fun _ => rfl)
theorem lows_ints (k : IntKind) (l : List Int) : V.lows (l.map (V.int k)) = l.map (V.int k) := lowsMap _ _ _ (fun _ => rfl)
theorem lows_cells (l : List Cell) : V.lows (l.map cellV) = l.map cellV := lowsMap _ _ _ (fun _ => rfl)
theorem lows_canons (l : List Canon) : V.lows (l.map canonV) = l.map canonV := lowsMap _ _ _ (fun _ => rfl)
theorem freshs_appE (l m : List V) : V.freshs (l ++ m) = (V.freshs l && V.freshs m) := by
  induction l with
  | nil => simp [V.freshs]
  | cons x l ih => simp [V.freshs, ih, Bool.and_assoc]
theorem outOk1 {σ : AS} {r e g s : Nat} {l : List V} (h : σ.ob[r]? = some ⟨.row e, true, g, .arr s l⟩) : outOk σ [r] := ⟨by simp, fun q hq => by simp at hq; subst hq; exact ⟨e, g, s, l, h⟩⟩
theorem lows_appE (l m : List V) : V.lows (l ++ m) = V.lows l ++ V.lows m := by
  induction l with
  | nil => simp [V.lows]
  | cons x l ih => simp [V.lows, ih]
theorem all_u8s (l : List Int) : (l.map (V.int .u8)).all isU8 = true := by simp [isU8]
theorem takeAll {α : Type} (l : List α) {n : Nat} (h : l.length ≤ n) : l.take n = l := List.take_of_length_le h
end Rdn.Dp
