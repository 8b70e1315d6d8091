/- Values as trees, and when cells of the heap read as them. Over any program. -/
import Derived.Test.YtkfpcgkmemfdaaaApp
namespace Rdn.Dp
open Go Go.RowKit Rdn
set_option linter.unusedVariables false

/-- What a walk knows of a value. sl: a slice that nobody writes (t: made since the call began; s: cells of an element); own: a slice of the call's own, object r at its g-th growth; ptr: a pointer into object r, along a path, o cells behind its head; rp: a pointer to memory that nobody writes. -/
inductive V where
  | int (k : IntKind) (n : Int)
  | bool (b : Bool)
  | str (s : ByteArray)
  | nilS
  | agg (l : List V)
  | arr (s : Nat) (l : List V)
  | sl (t : Bool) (s : Nat) (l : List V)
  | own (r g : Nat)
  | ptr (r g : Nat) (p : List Nat) (o : Nat)
  | rp (x : V)
  | tup (l : List V)
  | fn (f : FuncId)
  | clo (f : FuncId) (l : List V)
  | junk
instance : Inhabited V := ⟨.junk⟩

mutual
/-- How many cells a value takes. -/
def V.size : V → Nat
  | .agg l => V.sizes l
  | .arr s l => s * l.length
  | .tup _ => 0
  | .clo _ _ => 0
  | .junk => 0
  | .int _ _ => 1
  | .bool _ => 1
  | .str _ => 1
  | .nilS => 1
  | .sl _ _ _ => 1
  | .own _ _ => 1
  | .ptr _ _ _ _ => 1
  | .rp _ => 1
  | .fn _ => 1
def V.sizes : List V → Nat
  | [] => 0
  | x :: l => x.size + V.sizes l
end
mutual
/-- No reference to the walk's own objects, no pointer. -/
def V.pure : V → Bool
  | .agg l => V.pures l
  | .arr _ l => V.pures l
  | .int _ _ => true
  | .bool _ => true
  | .str _ => true
  | .nilS => true
  | .sl _ _ _ => true
  | .own _ _ => false
  | .ptr _ _ _ _ => false
  | .rp _ => false
  | .fn _ => false
  | .tup _ => false
  | .clo _ _ => false
  | .junk => false
def V.pures : List V → Bool
  | [] => true
  | x :: l => x.pure && V.pures l
end
mutual
/-- References to objects below m alone. -/
def V.scp (m : Nat) : V → Bool
  | .agg l => V.scps m l
  | .arr _ l => V.scps m l
  | .int _ _ => true
  | .bool _ => true
  | .str _ => true
  | .nilS => true
  | .sl _ _ _ => true
  | .own r _ => decide (r < m)
  | .ptr r _ _ _ => decide (r < m)
  | .rp x => x.pure
  | .fn _ => true
  | .tup l => V.scps m l
  | .clo _ l => V.scps m l
  | .junk => true
def V.scps (m : Nat) : List V → Bool
  | [] => true
  | x :: l => x.scp m && V.scps m l
end
/-- All elements have s cells. -/
def Unif (s : Nat) (l : List V) : Prop := ∀ x ∈ l, x.size = s

/-- B: the blocks that nobody writes; F: those made since the call began; ref: the objects, their growth and the value that refers to them. -/
structure Env where
  B : Nat → Prop
  F : Nat → Prop
  ref : List (Nat × Value)
def blk : Value → Option Nat
  | .slice (some a) _ _ => some a.block
  | .pointer (some a) => some a.block
  | _ => none

mutual
/-- The cells cs read as the tree. -/
def RdV (E : Env) (w : World) : V → List Value → Prop
  | .int k n, cs => cs = [.int k n] ∧ inK k n
  | .bool b, cs => cs = [.bool b]
  | .str s, cs => cs = [.string s]
  | .nilS, cs => cs = [.slice none 0 0]
  | .agg l, cs => RdL E w l cs
  | .arr s l, cs => RdL E w l cs ∧ Unif s l
  | .sl t s l, cs => V.pures l = true ∧ Unif s l ∧ ∃ A c, cs = [.slice A l.length c] ∧ l.length ≤ c ∧ l.length ≤ 140737488355328 ∧
      (0 < l.length → ∃ b o xs, A = some ⟨b, o, none⟩ ∧ E.B b ∧ (t = true → E.F b) ∧ RdL E w l xs ∧ At w b o xs)
  | .own r g, cs => ∃ v, cs = [v] ∧ v.oneCell' = true ∧ r < E.ref.length ∧ ∀ gc u, E.ref[r]? = some (gc, u) → g ≤ gc ∧ (g = gc → v = u)
  | .ptr r g _ o, cs => ∃ v, cs = [v] ∧ v.oneCell' = true ∧ r < E.ref.length ∧ ∀ gc u, E.ref[r]? = some (gc, u) → g ≤ gc ∧ (g = gc → ∃ b, blk u = some b ∧ v = .pointer (some ⟨b, o, none⟩))
  | .rp x, cs => x.pure = true ∧ ∃ b o xs, cs = [.pointer (some ⟨b, o, none⟩)] ∧ E.B b ∧ RdV E w x xs ∧ At w b o xs
  | .fn f, cs => cs = [.func (.func f) #[] #[]]
  | .tup _, _ => False
  | .clo _ _, _ => False
  | .junk, _ => False
def RdL (E : Env) (w : World) : List V → List Value → Prop
  | [], xs => xs = []
  | a :: l, xs => ∃ c ys, xs = c ++ ys ∧ RdV E w a c ∧ RdL E w l ys
end
mutual
/-- The value v of a slot reads as the tree. -/
def RdT (E : Env) (w : World) : V → Value → Prop
  | .agg l, v => ∃ cs, v = .agg cs.toArray ∧ RdV E w (.agg l) cs
  | .arr s l, v => ∃ cs, v = .agg cs.toArray ∧ RdV E w (.arr s l) cs
  | .tup l, v => ∃ vs, v = .tuple vs.toArray ∧ RdTs E w l vs
  | .clo f l, v => ∃ vs, v = .func (.func f) #[] vs.toArray ∧ RdTs E w l vs
  | .junk, _ => True
  | .int k n, v => RdV E w (.int k n) [v]
  | .bool b, v => RdV E w (.bool b) [v]
  | .str s, v => RdV E w (.str s) [v]
  | .nilS, v => RdV E w .nilS [v]
  | .sl t s l, v => RdV E w (.sl t s l) [v]
  | .own r g, v => RdV E w (.own r g) [v]
  | .ptr r g p o, v => RdV E w (.ptr r g p o) [v]
  | .rp x, v => RdV E w (.rp x) [v]
  | .fn f, v => RdV E w (.fn f) [v]
def RdTs (E : Env) (w : World) : List V → List Value → Prop
  | [], vs => vs = []
  | a :: l, vs => ∃ v ys, vs = v :: ys ∧ RdT E w a v ∧ RdTs E w l ys
end

theorem sizes_unif {s : Nat} : ∀ {l : List V}, Unif s l → V.sizes l = s * l.length
  | [], _ => rfl
  | x :: l, h => by
    have ih := sizes_unif (l := l) (fun y hy => h y (by simp [hy]))
    rw [V.sizes, ih, h x (by simp), List.length_cons, Nat.mul_add]; omega
theorem Unif.take {s : Nat} {l : List V} (h : Unif s l) (k : Nat) : Unif s (l.take k) := fun x hx => h x (List.mem_of_mem_take hx)
theorem Unif.drop {s : Nat} {l : List V} (h : Unif s l) (k : Nat) : Unif s (l.drop k) := fun x hx => h x (List.mem_of_mem_drop hx)
theorem Unif.app {s : Nat} {l m : List V} (h : Unif s l) (k : Unif s m) : Unif s (l ++ m) := fun x hx => (List.mem_append.1 hx).elim (h x) (k x)
theorem pures_iff : ∀ {l : List V}, V.pures l = true ↔ ∀ x ∈ l, x.pure = true
  | [] => by simp [V.pures]
  | x :: l => by simp [V.pures, pures_iff (l := l)]
theorem pures_app {l m : List V} (h : V.pures l = true) (k : V.pures m = true) : V.pures (l ++ m) = true :=
  pures_iff.2 fun x hx => (List.mem_append.1 hx).elim (pures_iff.1 h x) (pures_iff.1 k x)

section
variable {E : Env} {w : World}
mutual
theorem RdV.len : ∀ {x : V} {cs : List Value}, RdV E w x cs → cs.length = x.size
  | .int k n, cs, h => by simp only [RdV] at h; simp [h.1, V.size]
  | .bool b, cs, h => by simp only [RdV] at h; simp [h, V.size]
  | .str b, cs, h => by simp only [RdV] at h; simp [h, V.size]
  | .nilS, cs, h => by simp only [RdV] at h; simp [h, V.size]
  | .agg l, cs, h => by simp only [RdV] at h; simp only [V.size]; exact RdL.len h
  | .arr s l, cs, h => by simp only [RdV] at h; simp only [V.size]; rw [RdL.len h.1, sizes_unif h.2]
  | .sl t s l, cs, h => by simp only [RdV] at h; obtain ⟨_, _, A, c, rfl, _⟩ := h; simp [V.size]
  | .own r g, cs, h => by simp only [RdV] at h; obtain ⟨v, rfl, _⟩ := h; simp [V.size]
  | .ptr r g p o, cs, h => by simp only [RdV] at h; obtain ⟨v, rfl, _⟩ := h; simp [V.size]
  | .rp x, cs, h => by simp only [RdV] at h; obtain ⟨_, b, o, xs, rfl, _⟩ := h; simp [V.size]
  | .fn f, cs, h => by simp only [RdV] at h; simp [h, V.size]
  | .tup l, cs, h => by simp only [RdV] at h
  | .clo f l, cs, h => by simp only [RdV] at h
  | .junk, cs, h => by simp only [RdV] at h
theorem RdL.len : ∀ {l : List V} {cs : List Value}, RdL E w l cs → cs.length = V.sizes l
  | [], xs, h => by simp only [RdL] at h; simp [h, V.sizes]
  | a :: l, xs, h => by
    simp only [RdL] at h
    obtain ⟨c, ys, rfl, h1, h2⟩ := h
    simp only [V.sizes, List.length_append, h1.len, h2.len]
end
mutual
theorem RdV.one : ∀ {x : V} {cs : List Value}, RdV E w x cs → ∀ u ∈ cs, u.oneCell' = true
  | .int k n, cs, h => by simp only [RdV] at h; simp [h.1, Value.oneCell']
  | .bool b, cs, h => by simp only [RdV] at h; simp [h, Value.oneCell']
  | .str b, cs, h => by simp only [RdV] at h; simp [h, Value.oneCell']
  | .nilS, cs, h => by simp only [RdV] at h; simp [h, Value.oneCell']
  | .agg l, cs, h => by simp only [RdV] at h; exact RdL.one h
  | .arr s l, cs, h => by simp only [RdV] at h; exact RdL.one h.1
  | .sl t s l, cs, h => by simp only [RdV] at h; obtain ⟨_, _, A, c, rfl, _⟩ := h; simp [Value.oneCell']
  | .own r g, cs, h => by simp only [RdV] at h; obtain ⟨v, rfl, hv, _⟩ := h; simp [hv]
  | .ptr r g p o, cs, h => by simp only [RdV] at h; obtain ⟨v, rfl, hv, _⟩ := h; simp [hv]
  | .rp x, cs, h => by simp only [RdV] at h; obtain ⟨_, b, o, xs, rfl, _⟩ := h; simp [Value.oneCell']
  | .fn f, cs, h => by simp only [RdV] at h; simp [h, Value.oneCell']
  | .tup l, cs, h => by simp only [RdV] at h
  | .clo f l, cs, h => by simp only [RdV] at h
  | .junk, cs, h => by simp only [RdV] at h
theorem RdL.one : ∀ {l : List V} {cs : List Value}, RdL E w l cs → ∀ u ∈ cs, u.oneCell' = true
  | [], xs, h => by simp only [RdL] at h; simp [h]
  | a :: l, xs, h => by
    simp only [RdL] at h
    obtain ⟨c, ys, rfl, h1, h2⟩ := h
    intro u hu
    rcases List.mem_append.1 hu with hu | hu
    · exact h1.one u hu
    · exact h2.one u hu
end
end
/-- What was read is read again. -/
structure Leads (E : Env) (w : World) (E' : Env) (w' : World) : Prop where
  b : ∀ b, E.B b → E'.B b ∧ w'.heap[b]? = w.heap[b]?
  f : ∀ b, E.F b → E'.F b
  len : E.ref.length ≤ E'.ref.length
  ref : ∀ r g u, r < E.ref.length → E'.ref[r]? = some (g, u) → ∃ g0 u0, E.ref[r]? = some (g0, u0) ∧ g0 ≤ g ∧ (g0 = g → u0 = u)
theorem Leads.refl (E : Env) (w : World) : Leads E w E w := ⟨fun b h => ⟨h, rfl⟩, fun _ h => h, Nat.le_refl _, fun _ g u _ h => ⟨g, u, h, Nat.le_refl _, fun _ => rfl⟩⟩
theorem Leads.trans {E E' E'' : Env} {w w' w'' : World} (h : Leads E w E' w') (k : Leads E' w' E'' w'') : Leads E w E'' w'' :=
  ⟨fun b hb => ⟨(k.b b (h.b b hb).1).1, ((k.b b (h.b b hb).1).2).trans (h.b b hb).2⟩, fun b hb => k.f b (h.f b hb), Nat.le_trans h.len k.len, fun r g u hr hu => by
    obtain ⟨g1, u1, h1, h2, h3⟩ := k.ref r g u (Nat.lt_of_lt_of_le hr h.len) hu
    obtain ⟨g0, u0, k1, k2, k3⟩ := h.ref r g1 u1 hr h1
    refine ⟨g0, u0, k1, Nat.le_trans k2 h2, fun e => ?_⟩
    have e1 : g0 = g1 := by omega
    have e2 : g1 = g := by omega
    exact (k3 e1).trans (h3 e2)⟩
section
variable {E E' : Env} {w w' : World}
mutual
theorem RdV.mono (L : Leads E w E' w') : ∀ {x : V} {cs : List Value}, RdV E w x cs → RdV E' w' x cs
  | .int k n, cs, h => by simp only [RdV] at h ⊢; exact h
  | .bool b, cs, h => by simp only [RdV] at h ⊢; exact h
  | .str b, cs, h => by simp only [RdV] at h ⊢; exact h
  | .nilS, cs, h => by simp only [RdV] at h ⊢; exact h
  | .agg l, cs, h => by simp only [RdV] at h ⊢; exact h.mono L
  | .arr s l, cs, h => by simp only [RdV] at h ⊢; exact ⟨h.1.mono L, h.2⟩
  | .sl t s l, cs, h => by
    simp only [RdV] at h ⊢
    obtain ⟨h1, h2, A, c, h3, h4, h5, h6⟩ := h
    refine ⟨h1, h2, A, c, h3, h4, h5, fun h0 => ?_⟩
    obtain ⟨b, o, xs, hA, hb, hf, hr, ha⟩ := h6 h0
    exact ⟨b, o, xs, hA, (L.b b hb).1, fun ht => L.f b (hf ht), hr.mono L, ha.keep (L.b b hb).2⟩
  | .own r g, cs, h => by
    simp only [RdV] at h ⊢
    obtain ⟨v, h1, h2, h3, h4⟩ := h
    refine ⟨v, h1, h2, Nat.lt_of_lt_of_le h3 L.len, fun gc u hu => ?_⟩
    obtain ⟨g0, u0, k1, k2, k3⟩ := L.ref r gc u h3 hu
    obtain ⟨m1, m2⟩ := h4 g0 u0 k1
    refine ⟨Nat.le_trans m1 k2, fun e => ?_⟩
    have e1 : g0 = gc := by omega
    obtain rfl := k3 e1
    exact m2 (by omega)
  | .ptr r g p o, cs, h => by
    simp only [RdV] at h ⊢
    obtain ⟨v, h1, h2, h3, h4⟩ := h
    refine ⟨v, h1, h2, Nat.lt_of_lt_of_le h3 L.len, fun gc u hu => ?_⟩
    obtain ⟨g0, u0, k1, k2, k3⟩ := L.ref r gc u h3 hu
    obtain ⟨m1, m2⟩ := h4 g0 u0 k1
    refine ⟨Nat.le_trans m1 k2, fun e => ?_⟩
    have e1 : g0 = gc := by omega
    obtain rfl := k3 e1
    exact m2 (by omega)
  | .rp x, cs, h => by
    simp only [RdV] at h ⊢
    obtain ⟨h1, b, o, xs, h2, h3, h4, h5⟩ := h
    exact ⟨h1, b, o, xs, h2, (L.b b h3).1, h4.mono L, h5.keep (L.b b h3).2⟩
  | .fn f, cs, h => by simp only [RdV] at h ⊢; exact h
  | .tup l, cs, h => by simp only [RdV] at h
  | .clo f l, cs, h => by simp only [RdV] at h
  | .junk, cs, h => by simp only [RdV] at h
theorem RdL.mono (L : Leads E w E' w') : ∀ {l : List V} {cs : List Value}, RdL E w l cs → RdL E' w' l cs
  | [], xs, h => by simp only [RdL] at h ⊢; exact h
  | a :: l, xs, h => by
    simp only [RdL] at h ⊢
    obtain ⟨c, ys, h1, h2, h3⟩ := h
    exact ⟨c, ys, h1, h2.mono L, h3.mono L⟩
end
mutual
theorem RdT.mono (L : Leads E w E' w') : ∀ {x : V} {v : Value}, RdT E w x v → RdT E' w' x v
  | .int k n, v, h => by simp only [RdT] at h ⊢; exact h.mono L
  | .bool b, v, h => by simp only [RdT] at h ⊢; exact h.mono L
  | .str b, v, h => by simp only [RdT] at h ⊢; exact h.mono L
  | .nilS, v, h => by simp only [RdT] at h ⊢; exact h.mono L
  | .agg l, v, h => by simp only [RdT] at h ⊢; obtain ⟨cs, h1, h2⟩ := h; exact ⟨cs, h1, h2.mono L⟩
  | .arr s l, v, h => by simp only [RdT] at h ⊢; obtain ⟨cs, h1, h2⟩ := h; exact ⟨cs, h1, h2.mono L⟩
  | .sl t s l, v, h => by simp only [RdT] at h ⊢; exact h.mono L
  | .own r g, v, h => by simp only [RdT] at h ⊢; exact h.mono L
  | .ptr r g p o, v, h => by simp only [RdT] at h ⊢; exact h.mono L
  | .rp x, v, h => by simp only [RdT] at h ⊢; exact h.mono L
  | .fn f, v, h => by simp only [RdT] at h ⊢; exact h.mono L
  | .tup l, v, h => by simp only [RdT] at h ⊢; obtain ⟨vs, h1, h2⟩ := h; exact ⟨vs, h1, h2.mono L⟩
  | .clo f l, v, h => by simp only [RdT] at h ⊢; obtain ⟨vs, h1, h2⟩ := h; exact ⟨vs, h1, h2.mono L⟩
  | .junk, v, h => by simp only [RdT]
theorem RdTs.mono (L : Leads E w E' w') : ∀ {l : List V} {vs : List Value}, RdTs E w l vs → RdTs E' w' l vs
  | [], xs, h => by simp only [RdTs] at h ⊢; exact h
  | a :: l, xs, h => by
    simp only [RdTs] at h ⊢
    obtain ⟨c, ys, h1, h2, h3⟩ := h
    exact ⟨c, ys, h1, h2.mono L, h3.mono L⟩
end
mutual
/-- A reading that needs no object beyond m needs no reference beyond m. -/
theorem RdV.cut {m : Nat} (hm : m ≤ E.ref.length) : ∀ {x : V} {cs : List Value}, x.scp m = true → RdV E w x cs → RdV { E with ref := E.ref.take m } w x cs
  | .int k n, cs, _, h => by simp only [RdV] at h ⊢; exact h
  | .bool b, cs, _, h => by simp only [RdV] at h ⊢; exact h
  | .str b, cs, _, h => by simp only [RdV] at h ⊢; exact h
  | .nilS, cs, _, h => by simp only [RdV] at h ⊢; exact h
  | .agg l, cs, hs, h => by simp only [V.scp] at hs; simp only [RdV] at h ⊢; exact h.cut hm hs
  | .arr s l, cs, hs, h => by simp only [V.scp] at hs; simp only [RdV] at h ⊢; exact ⟨h.1.cut hm hs, h.2⟩
  | .sl t s l, cs, hs, h => by
    simp only [RdV] at h ⊢
    obtain ⟨h1, h2, A, c, h3, h4, h5, h6⟩ := h
    refine ⟨h1, h2, A, c, h3, h4, h5, fun h0 => ?_⟩
    obtain ⟨b, o, xs, hA, hb, hf, hr, ha⟩ := h6 h0
    exact ⟨b, o, xs, hA, hb, hf, RdL.cutp h1 hr, ha⟩
  | .own r g, cs, hs, h => by
    simp only [V.scp, decide_eq_true_eq] at hs
    simp only [RdV] at h ⊢
    obtain ⟨v, h1, h2, h3, h4⟩ := h
    exact ⟨v, h1, h2, by simp; omega, fun gc u hu => h4 gc u (by rw [List.getElem?_take, if_pos hs] at hu; exact hu)⟩
  | .ptr r g p o, cs, hs, h => by
    simp only [V.scp, decide_eq_true_eq] at hs
    simp only [RdV] at h ⊢
    obtain ⟨v, h1, h2, h3, h4⟩ := h
    exact ⟨v, h1, h2, by simp; omega, fun gc u hu => h4 gc u (by rw [List.getElem?_take, if_pos hs] at hu; exact hu)⟩
  | .rp x, cs, hs, h => by
    simp only [RdV] at h ⊢
    obtain ⟨h1, b, o, xs, h2, h3, h4, h5⟩ := h
    exact ⟨h1, b, o, xs, h2, h3, RdV.cutp h1 h4, h5⟩
  | .fn f, cs, _, h => by simp only [RdV] at h ⊢; exact h
  | .tup l, cs, _, h => by simp only [RdV] at h
  | .clo f l, cs, _, h => by simp only [RdV] at h
  | .junk, cs, _, h => by simp only [RdV] at h
theorem RdL.cut {m : Nat} (hm : m ≤ E.ref.length) : ∀ {l : List V} {cs : List Value}, V.scps m l = true → RdL E w l cs → RdL { E with ref := E.ref.take m } w l cs
  | [], xs, _, h => by simp only [RdL] at h ⊢; exact h
  | a :: l, xs, hs, h => by
    simp only [V.scps, Bool.and_eq_true] at hs
    simp only [RdL] at h ⊢
    obtain ⟨c, ys, h1, h2, h3⟩ := h
    exact ⟨c, ys, h1, h2.cut hm hs.1, h3.cut hm hs.2⟩
/-- A pure reading needs no reference at all. -/
theorem RdV.cutp {R : List (Nat × Value)} : ∀ {x : V} {cs : List Value}, x.pure = true → RdV E w x cs → RdV { E with ref := R } w x cs
  | .int k n, cs, _, h => by simp only [RdV] at h ⊢; exact h
  | .bool b, cs, _, h => by simp only [RdV] at h ⊢; exact h
  | .str b, cs, _, h => by simp only [RdV] at h ⊢; exact h
  | .nilS, cs, _, h => by simp only [RdV] at h ⊢; exact h
  | .agg l, cs, hs, h => by simp only [V.pure] at hs; simp only [RdV] at h ⊢; exact RdL.cutp hs h
  | .arr s l, cs, hs, h => by simp only [V.pure] at hs; simp only [RdV] at h ⊢; exact ⟨RdL.cutp hs h.1, h.2⟩
  | .sl t s l, cs, hs, h => by
    simp only [RdV] at h ⊢
    obtain ⟨h1, h2, A, c, h3, h4, h5, h6⟩ := h
    refine ⟨h1, h2, A, c, h3, h4, h5, fun h0 => ?_⟩
    obtain ⟨b, o, xs, hA, hb, hf, hr, ha⟩ := h6 h0
    exact ⟨b, o, xs, hA, hb, hf, RdL.cutp h1 hr, ha⟩
  | .own r g, cs, hs, h => by simp [V.pure] at hs
  | .ptr r g p o, cs, hs, h => by simp [V.pure] at hs
  | .rp x, cs, hs, h => by simp [V.pure] at hs
  | .fn f, cs, hs, h => by simp [V.pure] at hs
  | .tup l, cs, _, h => by simp only [RdV] at h
  | .clo f l, cs, _, h => by simp only [RdV] at h
  | .junk, cs, _, h => by simp only [RdV] at h
theorem RdL.cutp {R : List (Nat × Value)} : ∀ {l : List V} {cs : List Value}, V.pures l = true → RdL E w l cs → RdL { E with ref := R } w l cs
  | [], xs, _, h => by simp only [RdL] at h ⊢; exact h
  | a :: l, xs, hs, h => by
    simp only [V.pures, Bool.and_eq_true] at hs
    simp only [RdL] at h ⊢
    obtain ⟨c, ys, h1, h2, h3⟩ := h
    exact ⟨c, ys, h1, RdV.cutp hs.1 h2, RdL.cutp hs.2 h3⟩
end
mutual
theorem RdT.cut {m : Nat} (hm : m ≤ E.ref.length) : ∀ {x : V} {v : Value}, x.scp m = true → RdT E w x v → RdT { E with ref := E.ref.take m } w x v
  | .int k n, v, hs, h => by simp only [RdT] at h ⊢; exact h.cut hm hs
  | .bool b, v, hs, h => by simp only [RdT] at h ⊢; exact h.cut hm hs
  | .str b, v, hs, h => by simp only [RdT] at h ⊢; exact h.cut hm hs
  | .nilS, v, hs, h => by simp only [RdT] at h ⊢; exact h.cut hm hs
  | .agg l, v, hs, h => by simp only [RdT] at h ⊢; obtain ⟨cs, h1, h2⟩ := h; exact ⟨cs, h1, h2.cut hm hs⟩
  | .arr s l, v, hs, h => by simp only [RdT] at h ⊢; obtain ⟨cs, h1, h2⟩ := h; exact ⟨cs, h1, h2.cut hm hs⟩
  | .sl t s l, v, hs, h => by simp only [RdT] at h ⊢; exact h.cut hm hs
  | .own r g, v, hs, h => by simp only [RdT] at h ⊢; exact h.cut hm hs
  | .ptr r g p o, v, hs, h => by simp only [RdT] at h ⊢; exact h.cut hm hs
  | .rp x, v, hs, h => by simp only [RdT] at h ⊢; exact h.cut hm hs
  | .fn f, v, hs, h => by simp only [RdT] at h ⊢; exact h.cut hm hs
  | .tup l, v, hs, h => by simp only [V.scp] at hs; simp only [RdT] at h ⊢; obtain ⟨vs, h1, h2⟩ := h; exact ⟨vs, h1, h2.cut hm hs⟩
  | .clo f l, v, hs, h => by simp only [V.scp] at hs; simp only [RdT] at h ⊢; obtain ⟨vs, h1, h2⟩ := h; exact ⟨vs, h1, h2.cut hm hs⟩
  | .junk, v, hs, h => by simp only [RdT]
theorem RdTs.cut {m : Nat} (hm : m ≤ E.ref.length) : ∀ {l : List V} {vs : List Value}, V.scps m l = true → RdTs E w l vs → RdTs { E with ref := E.ref.take m } w l vs
  | [], xs, _, h => by simp only [RdTs] at h ⊢; exact h
  | a :: l, xs, hs, h => by
    simp only [V.scps, Bool.and_eq_true] at hs
    simp only [RdTs] at h ⊢
    obtain ⟨c, ys, h1, h2, h3⟩ := h
    exact ⟨c, ys, h1, h2.cut hm hs.1, h3.cut hm hs.2⟩
end
end

/-! ### Parts -/
section
variable {E : Env} {w : World}
theorem RdL.app : ∀ {l m : List V} {xs ys : List Value}, RdL E w l xs → RdL E w m ys → RdL E w (l ++ m) (xs ++ ys)
  | [], m, xs, ys, h, k => by simp only [RdL] at h; subst h; exact k
  | a :: l, m, xs, ys, h, k => by
    simp only [RdL] at h
    obtain ⟨c, zs, rfl, h1, h2⟩ := h
    show RdL E w (a :: (l ++ m)) _
    simp only [RdL]
    exact ⟨c, zs ++ ys, by rw [List.append_assoc], h1, h2.app k⟩
theorem RdL.split : ∀ {l m : List V} {xs : List Value}, RdL E w (l ++ m) xs → ∃ ys zs, xs = ys ++ zs ∧ RdL E w l ys ∧ RdL E w m zs
  | [], m, xs, h => ⟨[], xs, rfl, by simp only [RdL], h⟩
  | a :: l, m, xs, h => by
    have h' : RdL E w (a :: (l ++ m)) xs := h
    simp only [RdL] at h'
    obtain ⟨c, zs, rfl, h1, h2⟩ := h'
    obtain ⟨ys, zs', rfl, h3, h4⟩ := RdL.split h2
    refine ⟨c ++ ys, zs', by rw [List.append_assoc], ?_, h4⟩
    simp only [RdL]
    exact ⟨c, ys, rfl, h1, h3⟩
/-- The element at i: what stands before it, itself, what stands behind it; and another one in its place. -/
theorem RdL.part {l : List V} {xs : List Value} (h : RdL E w l xs) {i : Nat} (hi : i < l.length) :
    ∃ ys c zs, xs = ys ++ (c ++ zs) ∧ ys.length = V.sizes (l.take i) ∧ RdV E w l[i] c ∧ ∀ {E'} {w'} (hw : ∀ x cs, RdV E w x cs → RdV E' w' x cs) x' c', RdV E' w' x' c' → RdL E' w' (l.set i x') (ys ++ (c' ++ zs)) := by
  have e : l = l.take i ++ (l[i] :: l.drop (i + 1)) := by rw [List.getElem_cons_drop, List.take_append_drop]
  have h' : RdL E w (l.take i ++ (l[i] :: l.drop (i + 1))) xs := by rw [← e]; exact h
  obtain ⟨ys, zs, rfl, h1, h2⟩ := h'.split
  simp only [RdL] at h2
  obtain ⟨c, zs', rfl, h3, h4⟩ := h2
  refine ⟨ys, c, zs', rfl, h1.len, h3, fun {E'} {w'} hw x' c' hx => ?_⟩
  have e2 : l.set i x' = l.take i ++ (x' :: l.drop (i + 1)) := by rw [List.set_eq_take_append_cons_drop, if_pos hi]
  have lift : ∀ {m : List V} {cs : List Value}, RdL E w m cs → RdL E' w' m cs := by
    intro m
    induction m with
    | nil => intro cs hm; simp only [RdL] at hm ⊢; exact hm
    | cons a m ih =>
      intro cs hm
      simp only [RdL] at hm ⊢
      obtain ⟨c1, y1, e1, k1, k2⟩ := hm
      exact ⟨c1, y1, e1, hw _ _ k1, ih k2⟩
  rw [e2]
  refine RdL.app (lift h1) ?_
  simp only [RdL]
  exact ⟨c', zs', rfl, hx, lift h4⟩
end

/-- The part at a path: itself, and how many cells stand before it. -/
def nav : Nat → V → List Nat → V × Nat × Prop
  | acc, x, [] => (x, acc, True)
  | acc, .agg l, j :: p => ((nav (acc + V.sizes (l.take j)) (l.getD j .junk) p).1, (nav (acc + V.sizes (l.take j)) (l.getD j .junk) p).2.1, j < l.length ∧ (nav (acc + V.sizes (l.take j)) (l.getD j .junk) p).2.2)
  | acc, .arr s l, j :: p => ((nav (acc + j * s) (l.getD j .junk) p).1, (nav (acc + j * s) (l.getD j .junk) p).2.1, j < l.length ∧ (nav (acc + j * s) (l.getD j .junk) p).2.2)
  | _, _, _ => (.junk, 0, False)
def setp : V → List Nat → V → V
  | _, [], y => y
  | .agg l, j :: p, y => .agg (l.set j (setp (l.getD j .junk) p y))
  | .arr s l, j :: p, y => .arr s (l.set j (setp (l.getD j .junk) p y))
  | x, _, _ => x
theorem getD_lt {l : List V} {j : Nat} (h : j < l.length) : l.getD j .junk = l[j] := by rw [List.getD_eq_getElem?_getD, List.getElem?_eq_getElem h]; rfl
theorem sizes_set : ∀ {l : List V} {j : Nat} {y : V} (h : j < l.length), y.size = l[j].size → V.sizes (l.set j y) = V.sizes l
  | a :: l, 0, y, _, h => by simp only [List.set_cons_zero, V.sizes]; rw [show y.size = a.size from h]
  | a :: l, j + 1, y, hj, h => by simp only [List.set_cons_succ, V.sizes]; rw [sizes_set (by simpa using hj) (by simpa using h)]
theorem nav_rd {E : Env} {w : World} : ∀ (p : List Nat) (acc : Nat) (x : V) (cs : List Value), RdV E w x cs → (nav acc x p).2.2 →
    ∃ pre c post, cs = pre ++ (c ++ post) ∧ acc + pre.length = (nav acc x p).2.1 ∧ RdV E w (nav acc x p).1 c ∧
      ∀ {E' : Env} {w' : World} (hw : ∀ x cs, RdV E w x cs → RdV E' w' x cs) (y : V) (c' : List Value), y.size = (nav acc x p).1.size → RdV E' w' y c' → RdV E' w' (setp x p y) (pre ++ (c' ++ post)) ∧ (setp x p y).size = x.size
  | [], acc, x, cs, h, _ => ⟨[], cs, [], by simp, by simp [nav], by simpa [nav] using h, fun {E' w'} hw y c' hs hy => by simp only [nav] at hs; simp [setp, hy, hs]⟩
  | j :: p, acc, .agg l, cs, h, hc => by
    simp only [nav] at hc ⊢
    obtain ⟨hj, hc⟩ := hc
    simp only [RdV] at h
    obtain ⟨ys, c, zs, rfl, h1, h2, h3⟩ := h.part hj
    rw [getD_lt hj] at hc ⊢
    obtain ⟨pre, c1, post, rfl, k1, k2, k3⟩ := nav_rd p (acc + V.sizes (l.take j)) l[j] c h2 hc
    refine ⟨ys ++ pre, c1, post ++ zs, by simp, by rw [List.length_append]; omega, k2, fun {E' w'} hw y c' hs hy => ?_⟩
    obtain ⟨m1, m2⟩ := k3 hw y c' hs hy
    simp only [setp, getD_lt hj, RdV, V.size]
    refine ⟨?_, sizes_set hj m2⟩
    have := h3 hw _ _ m1
    simpa using this
  | j :: p, acc, .arr s l, cs, h, hc => by
    simp only [nav] at hc ⊢
    obtain ⟨hj, hc⟩ := hc
    simp only [RdV] at h
    obtain ⟨h, hU⟩ := h
    obtain ⟨ys, c, zs, rfl, h1, h2, h3⟩ := h.part hj
    rw [getD_lt hj] at hc ⊢
    obtain ⟨pre, c1, post, rfl, k1, k2, k3⟩ := nav_rd p (acc + j * s) l[j] c h2 hc
    have e : V.sizes (l.take j) = j * s := by rw [sizes_unif (hU.take j), List.length_take, Nat.min_eq_left (by omega), Nat.mul_comm]
    refine ⟨ys ++ pre, c1, post ++ zs, by simp, by rw [List.length_append]; omega, k2, fun {E' w'} hw y c' hs hy => ?_⟩
    obtain ⟨m1, m2⟩ := k3 hw y c' hs hy
    simp only [setp, getD_lt hj, RdV, V.size, List.length_set]
    refine ⟨⟨?_, fun x hx => ?_⟩, trivial⟩
    · have := h3 hw _ _ m1
      simpa using this
    · rcases List.mem_or_eq_of_mem_set hx with hx | rfl
      · exact hU x hx
      · rw [m2]; exact hU _ (List.getElem_mem hj)
  | j :: p, acc, .int k n, cs, h, hc => by simp [nav] at hc
  | j :: p, acc, .bool k, cs, h, hc => by simp [nav] at hc
  | j :: p, acc, .str k, cs, h, hc => by simp [nav] at hc
  | j :: p, acc, .nilS, cs, h, hc => by simp [nav] at hc
  | j :: p, acc, .sl _ _ _, cs, h, hc => by simp [nav] at hc
  | j :: p, acc, .own _ _, cs, h, hc => by simp [nav] at hc
  | j :: p, acc, .ptr _ _ _ _, cs, h, hc => by simp [nav] at hc
  | j :: p, acc, .rp _, cs, h, hc => by simp [nav] at hc
  | j :: p, acc, .tup _, cs, h, hc => by simp [nav] at hc
  | j :: p, acc, .fn _, cs, h, hc => by simp [nav] at hc
  | j :: p, acc, .junk, cs, h, hc => by simp [nav] at hc
/-- A part of what is pure is pure; a pure part in its place leaves it pure. -/
theorem nav_pure : ∀ (p : List Nat) (acc : Nat) (x : V), x.pure = true → (nav acc x p).2.2 → (nav acc x p).1.pure = true ∧ ∀ y : V, y.pure = true → (setp x p y).pure = true
  | [], acc, x, h, _ => ⟨by simpa [nav] using h, fun y hy => by simpa [setp] using hy⟩
  | j :: p, acc, .agg l, h, hc => by
    simp only [nav] at hc ⊢
    obtain ⟨hj, hc⟩ := hc
    simp only [V.pure] at h
    rw [getD_lt hj] at hc ⊢
    obtain ⟨k1, k2⟩ := nav_pure p _ l[j] (pures_iff.1 h _ (List.getElem_mem hj)) hc
    refine ⟨k1, fun y hy => ?_⟩
    simp only [setp, getD_lt hj, V.pure]
    refine pures_iff.2 fun x hx => ?_
    rcases List.mem_or_eq_of_mem_set hx with hx | rfl
    · exact pures_iff.1 h x hx
    · exact k2 y hy
  | j :: p, acc, .arr s l, h, hc => by
    simp only [nav] at hc ⊢
    obtain ⟨hj, hc⟩ := hc
    simp only [V.pure] at h
    rw [getD_lt hj] at hc ⊢
    obtain ⟨k1, k2⟩ := nav_pure p _ l[j] (pures_iff.1 h _ (List.getElem_mem hj)) hc
    refine ⟨k1, fun y hy => ?_⟩
    simp only [setp, getD_lt hj, V.pure]
    refine pures_iff.2 fun x hx => ?_
    rcases List.mem_or_eq_of_mem_set hx with hx | rfl
    · exact pures_iff.1 h x hx
    · exact k2 y hy
  | j :: p, acc, .int k n, h, hc => by simp [nav] at hc
  | j :: p, acc, .bool k, h, hc => by simp [nav] at hc
  | j :: p, acc, .str k, h, hc => by simp [nav] at hc
  | j :: p, acc, .nilS, h, hc => by simp [nav] at hc
  | j :: p, acc, .sl _ _ _, h, hc => by simp [nav] at hc
  | j :: p, acc, .own _ _, h, hc => by simp [nav] at hc
  | j :: p, acc, .ptr _ _ _ _, h, hc => by simp [nav] at hc
  | j :: p, acc, .rp _, h, hc => by simp [nav] at hc
  | j :: p, acc, .tup _, h, hc => by simp [nav] at hc
  | j :: p, acc, .fn _, h, hc => by simp [nav] at hc
  | j :: p, acc, .junk, h, hc => by simp [nav] at hc
end Rdn.Dp
