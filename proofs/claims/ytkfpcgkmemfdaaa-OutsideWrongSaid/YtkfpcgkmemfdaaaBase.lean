/- Words for what Go data read as: plain predicates and lemmas over the kit's worlds. No statement of the program stands here. -/
import Derived.WalkKit
import Derived.Deep.Draws
import Derived.Deep.QuietTactic
namespace Rdn
open Go Go.RowKit

/-- Whole heap blocks below a bound are as they were: 'Below', with names for what follows. -/
def Ext (w w' : World) : Prop := Below w.heap.size w w'

theorem Ext.refl (w : World) : Ext w w := Below.refl _ _
theorem Ext.trans {a b c : World} (h : Ext a b) (k : Ext b c) : Ext a c := Below.trans h (Below.mono k h.size)

/-- The cells 'cs' stand in block b from offset o on. -/
def At (w : World) (b o : Nat) (cs : List Value) : Prop := ∀ j u, cs[j]? = some u → w.cell? ⟨b, o + j, none⟩ = some u

theorem At.keep {w w' : World} {b o : Nat} {cs : List Value} (h : At w b o cs) (hb : w'.heap[b]? = w.heap[b]?) : At w' b o cs :=
  fun j u hu => (World.cell?_of_block (w := w) (a := ⟨b, o + j, none⟩) hb).trans (h j u hu)
theorem At.app {w : World} {b o : Nat} {c d : List Value} (h : At w b o c) (k : At w b (o + c.length) d) : At w b o (c ++ d) := by
  intro j u hu
  rw [List.getElem?_append] at hu
  split at hu
  · exact h j u hu
  · have := k _ u hu
    rwa [show o + c.length + (j - c.length) = o + j by omega] at this
theorem At.left {w : World} {b o : Nat} {c d : List Value} (h : At w b o (c ++ d)) : At w b o c := by
  intro j u hu
  refine h j u ?_
  have : j < c.length := (List.getElem?_eq_some_iff.1 hu).1
  rw [List.getElem?_append_left this]; exact hu
theorem At.right {w : World} {b o : Nat} {c d : List Value} (h : At w b o (c ++ d)) : At w b (o + c.length) d := by
  intro j u hu
  have := h (c.length + j) u (by rw [List.getElem?_append_right (by omega)]; simpa using hu)
  rwa [← Nat.add_assoc] at this

/-- A shape: how many cells a value of a Go type takes, and when cells read as a Lean value. 'S': the blocks through which the reading may go. -/
structure Sh (α : Type) where
  size : Nat
  bytes : Nat
  bd : α → Prop
  rd : (Nat → Prop) → World → α → List Value → Prop
  len : ∀ {S w a cs}, rd S w a cs → cs.length = size
  one : ∀ {S w a cs}, rd S w a cs → ∀ u ∈ cs, u.oneCell' = true
  mono : ∀ {S S' : Nat → Prop} {w w' : World} {a cs}, (∀ b, S b → S' b) → (∀ b, S b → w'.heap[b]? = w.heap[b]?) → rd S w a cs → rd S' w' a cs
  bnd : ∀ {S : Nat → Prop} {w : World} {a cs}, rd S w a cs → rd (fun b => S b ∧ b < w.heap.size) w a cs

theorem Sh.weaken {α : Type} (r : Sh α) {S S' : Nat → Prop} {w : World} {a : α} {cs : List Value} (h : r.rd S w a cs) (hs : ∀ b, S b → S' b) : r.rd S' w a cs :=
  r.mono hs (fun _ _ => rfl) h

/-- An integer of a kind. -/
def inK (k : IntKind) (n : Int) : Prop := k.min ≤ n ∧ n ≤ k.max
def Sh.int (k : IntKind) : Sh Int where
  size := 1
  bytes := k.bits / 8
  bd := fun _ => True
  rd := fun _ _ n cs => cs = [.int k n] ∧ inK k n
  len := by rintro _ _ _ _ ⟨rfl, _⟩; rfl
  one := by rintro _ _ _ _ ⟨rfl, _⟩ u hu; simp at hu; subst hu; rfl
  mono := fun _ _ h => h
  bnd := fun h => h
def Sh.bool : Sh Bool where
  size := 1
  bytes := 1
  bd := fun _ => True
  rd := fun _ _ b cs => cs = [.bool b]
  len := by rintro _ _ _ _ rfl; rfl
  one := by rintro _ _ _ _ rfl u hu; simp at hu; subst hu; rfl
  mono := fun _ _ h => h
  bnd := fun h => h
/-- Fields one behind the other. -/
def Sh.prod {α β : Type} (r : Sh α) (s : Sh β) : Sh (α × β) where
  size := r.size + s.size
  bytes := r.bytes + s.bytes
  bd := fun p => r.bd p.1 ∧ s.bd p.2
  rd := fun S w p cs => ∃ c d, cs = c ++ d ∧ r.rd S w p.1 c ∧ s.rd S w p.2 d
  len := by rintro S w p _ ⟨c, d, rfl, h, k⟩; rw [List.length_append, r.len h, s.len k]
  one := by
    rintro S w p _ ⟨c, d, rfl, h, k⟩ u hu
    rcases List.mem_append.1 hu with hu | hu
    · exact r.one h u hu
    · exact s.one k u hu
  mono := by
    rintro S S' w w' p _ hs hw ⟨c, d, rfl, h, k⟩
    exact ⟨c, d, rfl, r.mono hs hw h, s.mono hs hw k⟩
  bnd := by
    rintro S w p _ ⟨c, d, rfl, h, k⟩
    exact ⟨c, d, rfl, r.bnd h, s.bnd k⟩
/-- A struct: read through its tuple of fields. -/
def Sh.via {α γ : Type} (r : Sh α) (f : γ → α) : Sh γ where
  size := r.size
  bytes := if r.bytes ≤ 8 then r.bytes else (r.bytes + 7) / 8 * 8
  bd := fun g => r.bd (f g)
  rd := fun S w g cs => r.rd S w (f g) cs
  len := r.len
  one := r.one
  mono := r.mono
  bnd := r.bnd

/-- A slice value that reads as a list. -/
def SlV {α : Type} (r : Sh α) (S : Nat → Prop) (w : World) (l : List α) (v : Value) : Prop :=
  ∃ A c, v = .slice A l.length c ∧ l.length ≤ c ∧ l.length ≤ 140737488355328 ∧
    (0 < l.length → ∃ b o, A = some ⟨b, o, none⟩ ∧ S b ∧ b < w.heap.size ∧ ∀ i (h : i < l.length), ∃ cs, r.rd S w l[i] cs ∧ At w b (o + i * r.size) cs)

theorem SlV.mono {α : Type} {r : Sh α} {S S' : Nat → Prop} {w w' : World} {l : List α} {v : Value} (hs : ∀ b, S b → S' b) (hw : ∀ b, S b → w'.heap[b]? = w.heap[b]?) (h : SlV r S w l v) : SlV r S' w' l v := by
  obtain ⟨A, c, rfl, hc, hm, hn⟩ := h
  refine ⟨A, c, rfl, hc, hm, fun h0 => ?_⟩
  obtain ⟨b, o, rfl, hb, hlt, hi⟩ := hn h0
  refine ⟨b, o, rfl, hs b hb, ?_, fun i h => ?_⟩
  · have := hw b hb
    rw [Array.getElem?_eq_getElem hlt] at this
    exact (Array.getElem?_eq_some_iff.1 this).1
  · obtain ⟨cs, hr, ha⟩ := hi i h
    exact ⟨cs, r.mono hs hw hr, ha.keep (hw b hb)⟩
theorem SlV.bnd {α : Type} {r : Sh α} {S : Nat → Prop} {w : World} {l : List α} {v : Value} (h : SlV r S w l v) : SlV r (fun b => S b ∧ b < w.heap.size) w l v := by
  obtain ⟨A, c, rfl, hc, hm, hn⟩ := h
  refine ⟨A, c, rfl, hc, hm, fun h0 => ?_⟩
  obtain ⟨b, o, rfl, hb, hlt, hi⟩ := hn h0
  refine ⟨b, o, rfl, ⟨hb, hlt⟩, hlt, fun i h => ?_⟩
  obtain ⟨cs, hr, ha⟩ := hi i h
  exact ⟨cs, r.bnd hr, ha⟩
def Sh.slice {α : Type} (r : Sh α) : Sh (List α) where
  size := 1
  bytes := 24
  bd := fun l => l.length * r.bytes ≤ 140737488351232 ∧ ∀ a ∈ l, r.bd a
  rd := fun S w l cs => ∃ v, cs = [v] ∧ SlV r S w l v
  len := by rintro _ _ _ _ ⟨v, rfl, _⟩; rfl
  one := by rintro _ _ _ _ ⟨v, rfl, A, c, rfl, _⟩ u hu; simp at hu; subst hu; rfl
  mono := by rintro S S' w w' l _ hs hw ⟨v, rfl, h⟩; exact ⟨v, rfl, h.mono hs hw⟩
  bnd := by rintro S w l _ ⟨v, rfl, h⟩; exact ⟨v, rfl, h.bnd⟩

theorem SlV.nil {α : Type} (r : Sh α) (S : Nat → Prop) (w : World) : SlV r S w [] (.slice none 0 0) := ⟨none, 0, rfl, Nat.le_refl _, by simp, fun h => by simp at h⟩

/-- What is read below block bound B in w reads alike where w' is as w below B. -/
theorem SlV.below {α : Type} {r : Sh α} {B : Nat} {w w' : World} {l : List α} {v : Value} (h : SlV r (· < B) w l v) (hb : Below B w w') : SlV r (· < B) w' l v :=
  h.mono (fun _ hb => hb) (fun b hlt => hb.block b hlt)

/-- No field. -/
def Sh.unit : Sh Unit where
  size := 0
  bytes := 0
  bd := fun _ => True
  rd := fun _ _ _ cs => cs = []
  len := by rintro _ _ _ _ rfl; rfl
  one := by rintro _ _ _ _ rfl u hu; simp at hu
  mono := fun _ _ h => h
  bnd := fun h => h

/-- One element of a slice: where its cells stand. -/
theorem SlV.shape {α : Type} {r : Sh α} {S : Nat → Prop} {w : World} {l : List α} {v : Value} (h : SlV r S w l v) : ∃ A c, v = .slice A l.length c ∧ l.length ≤ c ∧ l.length ≤ 140737488355328 := by
  obtain ⟨A, c, h1, h2, h3, _⟩ := h
  exact ⟨A, c, h1, h2, h3⟩
theorem SlV.at_ {α : Type} {r : Sh α} {S : Nat → Prop} {w : World} {l : List α} {A : Option Addr} {n c : Nat} (h : SlV r S w l (.slice A n c)) {i : Nat} (hi : i < l.length) :
    ∃ b o cs, A = some ⟨b, o, none⟩ ∧ S b ∧ b < w.heap.size ∧ r.rd S w l[i] cs ∧ At w b (o + i * r.size) cs := by
  obtain ⟨A', c', h1, h2, h3, h4⟩ := h
  injection h1 with e1 e2 e3
  subst e1
  obtain ⟨b, o, rfl, hb, hlt, hx⟩ := h4 (by omega)
  obtain ⟨cs, hr, ha⟩ := hx i hi
  exact ⟨b, o, cs, rfl, hb, hlt, hr, ha⟩
theorem At.c0 {w : World} {b o : Nat} {u : Value} {l : List Value} (h : At w b o (u :: l)) : w.cell? ⟨b, o, none⟩ = some u := h 0 u rfl
theorem At.tl {w : World} {b o : Nat} {u : Value} {l : List Value} (h : At w b o (u :: l)) : At w b (o + 1) l := by
  intro j x hx
  have := h (j + 1) x (by simpa using hx)
  rwa [show o + (j + 1) = o + 1 + j by omega] at this
theorem At.ci {w : World} {b o : Nat} {l : List Value} (h : At w b o l) (j : Nat) {u : Value} (hu : l[j]? = some u) : w.cell? ⟨b, o + j, none⟩ = some u := h j u hu
theorem At.drewN {w : World} {b o : Nat} {l : List Value} (h : At w b o l) (n : Nat) : At (w.drewN n) b o l := h
theorem SlV.drewN {α : Type} {r : Sh α} {S : Nat → Prop} {w : World} {l : List α} {v : Value} (h : SlV r S w l v) (n : Nat) : SlV r S (w.drewN n) l v :=
  SlV.mono (w := w) (w' := w.drewN n) (fun _ hb => hb) (fun _ _ => rfl) h
theorem Below.drewN' {B : Nat} {a w : World} (h : Below B a w) (n : Nat) : Below B a (w.drewN n) := ⟨h.os, h.tape, h.output, h.size, h.block⟩

/-- A world that holds what W held. -/
structure BW (W : World) where
  w : World
  h : Below W.heap.size W w
instance (W : World) : Inhabited (BW W) := ⟨⟨W, Below.refl _ _⟩⟩
theorem BW.cell {W : World} (p : BW W) {a : Addr} {v : Value} (h : W.cell? a = some v) : p.w.cell? a = some v := (p.h.cell (World.block_lt_of_cell? W a h)).trans h

/-- A region that draws its order, whose operations read and whose calls may make memory: one walk, in the order of the text. -/
theorem wp_region_below {P : Program} {id : Nat} {Q : Exit → Act → World → Prop} {a : Act} {w : World} {l : List Oper} (hm : P.follows .mixedOrders = true) (hB : Region.lexB .any l.toArray = true)
    (h : wpQuiet P l.toArray (fun w' => ∃ p : BW w, w' = p.w) (fun a' => ∀ w', (∃ p : BW w, w' = p.w) → Q .normal a' w') l a) : (Code.region id l.toArray true).wp P Q a w :=
  wp_region_quiet (C := fun w' => ∃ p : BW w, w' = p.w) hm hB ⟨⟨{ w with drawn := w.drawn + 1 }, ⟨rfl, rfl, rfl, Nat.le_refl _, fun _ _ => rfl⟩⟩, rfl⟩ (by simpa using h)
theorem calls_bw {P : Program} {f : FuncId} {args : Array Value} {W : World} {p : BW W} {v : Value}
    (h : Calls P f args p.w fun e w' => e = .returned v ∧ Below p.w.heap.size p.w w') : Calls P f args p.w fun e w'' => e = .returned v ∧ ∃ q : BW W, w'' = q.w :=
  h.mono fun _ w' ⟨he, hb⟩ => ⟨he, ⟨w', p.h.trans (hb.mono p.h.size)⟩, rfl⟩
theorem calls_same {P : Program} {f : FuncId} {args : Array Value} {W : World} {v : Value}
    (h : Calls P f args W fun e w' => e = .returned v ∧ W = w') : Calls P f args W fun e w' => e = .returned v ∧ Below W.heap.size W w' :=
  h.mono fun _ _ ⟨he, e⟩ => ⟨he, by subst e; exact Below.refl _ _⟩
theorem calls_drew {P : Program} {f : FuncId} {args : Array Value} {W : World} {v : Value}
    (h : Calls P f args W fun e w' => e = .returned v ∧ ∃ n, w' = W.drewN n) : Calls P f args W fun e w' => e = .returned v ∧ Below W.heap.size W w' :=
  h.mono fun _ _ ⟨he, n, e⟩ => ⟨he, by subst e; exact Below.drewN' (Below.refl _ _) n⟩
/-- A callee's contract met behind earlier draws. -/
theorem quiet_add {P : Program} {f : FuncId} {args : Array Value} {w : World} {a n : Nat} {v : Value}
    (h : Calls P f args (w.drewN (a + n)) fun e w' => e = .returned v ∧ ∃ m, w' = (w.drewN (a + n)).drewN m) :
    Calls P f args (w.drewN (a + n)) fun e w'' => e = .returned v ∧ ∃ m, w'' = w.drewN (a + m) :=
  h.mono fun _ _ ⟨he, m, hm⟩ => ⟨he, n + m, by rw [hm, World.drewN_drewN, Nat.add_assoc]⟩
theorem quiet_add_same {P : Program} {f : FuncId} {args : Array Value} {w : World} {a n : Nat} {v : Value}
    (h : Calls P f args (w.drewN (a + n)) fun e w' => e = .returned v ∧ w.drewN (a + n) = w') :
    Calls P f args (w.drewN (a + n)) fun e w'' => e = .returned v ∧ ∃ m, w'' = w.drewN (a + m) :=
  h.mono fun _ _ ⟨he, hm⟩ => ⟨he, n, hm.symm⟩
theorem quiet_same {P : Program} {f : FuncId} {args : Array Value} {w : World} {n : Nat} {v : Value}
    (h : Calls P f args (w.drewN n) fun e w' => e = .returned v ∧ w.drewN n = w') : Calls P f args (w.drewN n) fun e w'' => e = .returned v ∧ ∃ m, w'' = w.drewN m :=
  h.mono fun _ _ ⟨he, hm⟩ => ⟨he, n, hm.symm⟩
theorem int_eq {k : IntKind} {a b : Int} (h : a = b) : Value.int k a = .int k b := by rw [h]
theorem ret_int {k : IntKind} {a b : Int} (h : a = b) : Ending.returned (.int k a) = .returned (.int k b) := by rw [h]
theorem ret_bool {a b : Bool} (h : a = b) : Ending.returned (.bool a) = .returned (.bool b) := by rw [h]
theorem arr_of {a : Array Value} {l : List Value} (h : a.toList = l) : a = l.toArray := by cases a; simp_all
def old (W : World) : Nat → Prop := fun b => b < W.heap.size
theorem inK_u8 {n : Int} (h0 : 0 ≤ n) (h1 : n ≤ 255) : inK .u8 n := by constructor <;> simp [IntKind.min, IntKind.max, IntKind.signed, IntKind.bits] <;> omega
theorem inK_u16 {n : Int} (h0 : 0 ≤ n) (h1 : n ≤ 65535) : inK .u16 n := by constructor <;> simp [IntKind.min, IntKind.max, IntKind.signed, IntKind.bits] <;> omega
theorem inK_u32 {n : Int} (h0 : 0 ≤ n) (h1 : n ≤ 4294967295) : inK .u32 n := by constructor <;> simp [IntKind.min, IntKind.max, IntKind.signed, IntKind.bits] <;> omega
theorem inK_i64 {n : Int} (h0 : -9223372036854775808 ≤ n) (h1 : n ≤ 9223372036854775807) : inK .i64 n := by constructor <;> simp [IntKind.min, IntKind.max, IntKind.signed, IntKind.bits] <;> omega
end Rdn
