/- Memory that a call makes: what stays, and slices that are built by append. Over any program. -/
import Derived.Test.YtkfpcgkmemfdaaaBase
import Derived.Maps.AppendAt
namespace Rdn
open Go Go.RowKit
set_option linter.unusedVariables false

/-- All but blocks of S is as it was. -/
structure Keep (S : Nat → Prop) (w w' : World) : Prop where
  os : w'.os = w.os
  tape : w'.tape = w.tape
  output : w'.output = w.output
  size : w.heap.size ≤ w'.heap.size
  block : ∀ k, k < w.heap.size → ¬ S k → w'.heap[k]? = w.heap[k]?
theorem Keep.refl (S : Nat → Prop) (w : World) : Keep S w w := ⟨rfl, rfl, rfl, Nat.le_refl _, fun _ _ _ => rfl⟩
theorem Keep.trans {S : Nat → Prop} {a b c : World} (h : Keep S a b) (k : Keep S b c) : Keep S a c :=
  ⟨k.os.trans h.os, k.tape.trans h.tape, k.output.trans h.output, Nat.le_trans h.size k.size, fun i hi hs => (k.block i (Nat.lt_of_lt_of_le hi h.size) hs).trans (h.block i hi hs)⟩
theorem Keep.drew (S : Nat → Prop) (w : World) : Keep S w w.drew := ⟨rfl, rfl, rfl, Nat.le_refl _, fun _ _ _ => rfl⟩
theorem Keep.alloc (S : Nat → Prop) (w : World) (o : Obj) : Keep S w (w.alloc o) := ⟨rfl, rfl, rfl, by simp, fun i hi _ => Below.heap_alloc w o i hi⟩
theorem Keep.setCell {S : Nat → Prop} (w : World) (a : Addr) (u : Value) (hs : S a.block) : Keep S w (w.setCell a u) :=
  ⟨rfl, rfl, rfl, by simp [World.setCell], fun i hi hn => Below.heap_setCell w a u i (fun e => hn (e ▸ hs))⟩
theorem heap_lt {w : World} {b : Nat} {o : Obj} (h : w.heap[b]? = some o) : b < w.heap.size := (Array.getElem?_eq_some_iff.1 h).1
theorem heap_new (w : World) (o : Obj) : (w.alloc o).heap[w.heap.size]? = some o := heap_alloc_new w o
theorem heap_push {w : World} {b : Nat} {o o' : Obj} (h : w.heap[b]? = some o) : (w.alloc o').heap[b]? = some o := (Below.heap_alloc w o' b (heap_lt h)).trans h
theorem Keep.at_ {S : Nat → Prop} {w w' : World} (k : Keep S w w') {b : Nat} {o : Obj} (h : w.heap[b]? = some o) (hs : ¬ S b) : w'.heap[b]? = some o := (k.block b (heap_lt h) hs).trans h
theorem cells_cell {w : World} {b : Nat} {cs : Array Value} {t : TypeId} (h : w.heap[b]? = some (.cells cs t (0, 0))) (i : Nat) : w.cell? ⟨b, i, none⟩ = cs[i]? := by simp [World.cell?, h]
theorem cells_free {w : World} {b : Nat} {cs : Array Value} {t : TypeId} (h : w.heap[b]? = some (.cells cs t (0, 0))) (i : Nat) : w.frozen? ⟨b, i, none⟩ = false := by simp [World.frozen?, h]
theorem cells_set {w : World} {b : Nat} {cs : Array Value} {t : TypeId} (h : w.heap[b]? = some (.cells cs t (0, 0))) (i : Nat) (u : Value) : (w.setCell ⟨b, i, none⟩ u).heap[b]? = some (.cells (cs.setIfInBounds i u) t (0, 0)) := by
  simp [World.setCell, Array.getElem?_modify, h]


theorem Keep.mono {S S' : Nat → Prop} {w w' : World} (h : Keep S w w') (hs : ∀ b, b < w.heap.size → S b → S' b) : Keep S' w w' := ⟨h.os, h.tape, h.output, h.size, fun k hk hn => h.block k hk (fun e => hn (hs k hk e))⟩
theorem Keep.below {S : Nat → Prop} {w w' : World} {B : Nat} (h : Keep S w w') (hs : ∀ b, b < w.heap.size → S b → B ≤ b) (hB : B ≤ w.heap.size) : Below B w w' :=
  ⟨h.os, h.tape, h.output, h.size, fun k hk => h.block k (by omega) (fun e => by have := hs k (by omega) e; omega)⟩
theorem Keep.of_below {S : Nat → Prop} {w w' : World} (h : Below w.heap.size w w') : Keep S w w' := ⟨h.os, h.tape, h.output, h.size, fun k hk _ => h.block k hk⟩
theorem Keep.of_grown {S : Nat → Prop} {w w' : World} {row : Option Nat} (h : w.grownBy w' row) (hs : ∀ g, row = some g → S g) : Keep S w w' :=
  ⟨h.os, h.tape, h.output, h.size, fun k hk hn => h.block k hk (fun e => hn (hs k e.symm))⟩

/-! ### Elements one behind the other -/
def Rows {α : Type} (r : Sh α) (Z : Nat → Prop) (w : World) : List α → List Value → Prop
  | [], xs => xs = []
  | a :: l, xs => ∃ c ys, xs = c ++ ys ∧ r.rd Z w a c ∧ Rows r Z w l ys

section
variable {α : Type} {r : Sh α} {Z Z' : Nat → Prop} {w w' : World}

theorem Rows.length : ∀ {l : List α} {xs : List Value}, Rows r Z w l xs → xs.length = l.length * r.size
  | [], xs, h => by simp [Rows] at h; simp [h]
  | a :: l, xs, ⟨c, ys, e, hr, h⟩ => by rw [e, List.length_append, r.len hr, h.length, List.length_cons, Nat.add_mul]; omega
theorem Rows.one : ∀ {l : List α} {xs : List Value}, Rows r Z w l xs → ∀ u ∈ xs, u.oneCell' = true
  | [], xs, h => by simp [Rows] at h; simp [h]
  | a :: l, xs, ⟨c, ys, e, hr, h⟩ => by
    intro u hu
    rw [e] at hu
    rcases List.mem_append.1 hu with hu | hu
    · exact r.one hr u hu
    · exact h.one u hu
theorem Rows.mono (hz : ∀ b, Z b → Z' b) (hw : ∀ b, Z b → w'.heap[b]? = w.heap[b]?) : ∀ {l : List α} {xs : List Value}, Rows r Z w l xs → Rows r Z' w' l xs
  | [], xs, h => h
  | a :: l, xs, ⟨c, ys, e, hr, h⟩ => ⟨c, ys, e, r.mono hz hw hr, h.mono hz hw⟩
theorem Rows.app : ∀ {l m : List α} {xs ys : List Value}, Rows r Z w l xs → Rows r Z w m ys → Rows r Z w (l ++ m) (xs ++ ys)
  | [], m, xs, ys, h, k => by simp [Rows] at h; subst h; exact k
  | a :: l, m, xs, ys, ⟨c, zs, e, hr, h⟩, k => ⟨c, zs ++ ys, by rw [e, List.append_assoc], hr, h.app k⟩
theorem Rows.single {a : α} {cs : List Value} (h : r.rd Z w a cs) : Rows r Z w [a] cs := ⟨cs, [], by simp, h, rfl⟩
theorem Rows.at_ : ∀ {l : List α} {xs : List Value} {b o : Nat}, Rows r Z w l xs → At w b o xs → ∀ (i : Nat) (h : i < l.length), ∃ cs, r.rd Z w l[i] cs ∧ At w b (o + i * r.size) cs
  | a :: l, xs, b, o, ⟨c, ys, e, hr, h⟩, ha, 0, _ => ⟨c, hr, by rw [e] at ha; simpa using ha.left⟩
  | a :: l, xs, b, o, ⟨c, ys, e, hr, h⟩, ha, i + 1, hi => by
    rw [e] at ha
    obtain ⟨cs, h1, h2⟩ := h.at_ ha.right i (by simpa using hi)
    refine ⟨cs, h1, ?_⟩
    rw [r.len hr] at h2
    rwa [show o + (i + 1) * r.size = o + r.size + i * r.size by rw [Nat.add_mul]; omega]
theorem Rows.of_at : ∀ {l : List α} {b o : Nat}, (∀ (i : Nat) (h : i < l.length), ∃ cs, r.rd Z w l[i] cs ∧ At w b (o + i * r.size) cs) → ∃ xs, Rows r Z w l xs ∧ At w b o xs
  | [], b, o, _ => ⟨[], rfl, fun j u hu => by simp at hu⟩
  | a :: l, b, o, h => by
    obtain ⟨c, hr, ha⟩ := h 0 (by simp)
    obtain ⟨ys, h1, h2⟩ := Rows.of_at (l := l) (b := b) (o := o + r.size) (fun i hi => by
      obtain ⟨cs, k1, k2⟩ := h (i + 1) (by simpa using hi)
      exact ⟨cs, k1, by rwa [show o + r.size + i * r.size = o + (i + 1) * r.size by rw [Nat.add_mul]; omega]⟩)
    refine ⟨c ++ ys, ⟨c, ys, rfl, hr, h1⟩, At.app (by simpa using ha) ?_⟩
    rw [r.len hr]
    exact h2
/-- A block that is known whole, read as a slice. -/
theorem SlV.of_block {l : List α} {g : Nat} {cs : Array Value} {e : TypeId} {fz : Nat × Nat} {c : Nat} (hg : w.heap[g]? = some (.cells cs e fz)) (h : Rows r Z w l cs.toList) (hz : Z g) (hc : l.length ≤ c) (hm : l.length ≤ 140737488355328) :
    SlV r Z w l (.slice (some ⟨g, 0, none⟩) l.length c) :=
  ⟨_, c, rfl, hc, hm, fun _ => ⟨g, 0, rfl, hz, heap_lt hg, fun i hi => h.at_ (fun j u hu => by simpa [World.cell?, hg] using hu) i hi⟩⟩
end

/-! ### A slice of the call's own, built by append. Z: the blocks that nobody writes any more -/
structure Own {α : Type} (r : Sh α) (Z : Nat → Prop) (base : Nat) (e : TypeId) (w : World) (v : Value) (l : List α) : Prop where
  ex : ∃ xs, w.ownsRow base e r.size v l.length xs ∧ Rows r Z w l xs
  out : ∀ g, v.ownBlock = some g → ¬ Z g

section
variable {α : Type} {r : Sh α} {Z Z' : Nat → Prop} {base : Nat} {e : TypeId} {w w' : World} {v : Value} {l : List α}
theorem Own.nil (r : Sh α) (Z : Nat → Prop) (base : Nat) (e : TypeId) (w : World) : Own r Z base e w (.slice none 0 0) [] := ⟨⟨[], World.ownsRow_nil _ _ _ _, rfl⟩, fun g h => by simp [Value.ownBlock] at h⟩
theorem Own.lt (h : Own r Z base e w v l) : ∀ g, v.ownBlock = some g → base ≤ g ∧ g < w.heap.size := by
  obtain ⟨⟨xs, h1, _⟩, _⟩ := h
  exact h1.lt
theorem Own.keep {K : Nat → Prop} (h : Own r Z base e w v l) (hk : Keep K w w') (hZw : ∀ b, Z b → b < w.heap.size) (hz : ∀ b, Z b → ¬ K b) (ho : ∀ g, v.ownBlock = some g → ¬ K g) : Own r Z base e w' v l := by
  obtain ⟨⟨xs, h1, h2⟩, h3⟩ := h
  refine ⟨⟨xs, ⟨h1.1, ?_⟩, h2.mono (fun _ hb => hb) (fun b hb => hk.block b (hZw b hb) (hz b hb))⟩, h3⟩
  rcases h1.2 with hn | ⟨g, cap, cur, rfl, hb, hg, rest⟩
  · exact .inl hn
  · exact .inr ⟨g, cap, cur, rfl, hb, (hk.block g (heap_lt hg) (ho g rfl)).trans hg, rest⟩
theorem Own.drew (h : Own r Z base e w v l) : Own r Z base e w.drew v l := by
  obtain ⟨⟨xs, h1, h2⟩, h3⟩ := h
  exact ⟨⟨xs, h1, Rows.mono (w := w) (w' := w.drew) (fun _ hb => hb) (fun _ _ => rfl) h2⟩, h3⟩
theorem Own.widen (h : Own r Z base e w v l) (hz : ∀ b, Z b → Z' b) (ho : ∀ g, v.ownBlock = some g → ¬ Z' g) : Own r Z' base e w v l := by
  obtain ⟨⟨xs, h1, h2⟩, _⟩ := h
  exact ⟨⟨xs, h1, h2.mono hz (fun _ _ => rfl)⟩, ho⟩
/-- Read as a slice. -/
theorem Own.sl (h : Own r Z base e w v l) (hm : l.length ≤ 140737488355328) (hz : ∀ b, Z b → Z' b) (ho : ∀ g, v.ownBlock = some g → Z' g) : SlV r Z' w l v := by
  obtain ⟨⟨xs, h1, h2⟩, _⟩ := h
  rcases h1.2 with ⟨rfl, hn⟩ | ⟨g, cap, cur, rfl, hb, hg, hnc, hcm, hcs, ht⟩
  · have : l = [] := List.eq_nil_of_length_eq_zero hn
    subst this
    exact SlV.nil _ _ _
  · refine ⟨_, cap, rfl, hnc, hm, fun h0 => ⟨g, 0, rfl, ho g rfl, heap_lt hg, ?_⟩⟩
    have h2' := h2.mono hz (fun _ _ => rfl)
    refine h2'.at_ (fun j u hu => ?_)
    rw [← ht, List.getElem?_take] at hu
    split at hu
    · simpa [World.cell?, hg] using hu
    · cases hu

theorem oneCells {cs : List Value} : cs.toArray.toList = cs := by simp

section
variable {P : Program} {ops : Array Oper} {rest : List Oper} {o : Oper} {a : Act} {Q : Exit → Act → World → Prop}
/-- 'out = append(out, x)': x is laid in a block of its own first. -/
theorem wpList_push (s x : Operand) {N0 : Nat}  (t : TypeId) (e : TypeId) (i : TypeInfo) (z : Value) (bytes : Nat) {c : Array Value} {x0 : α}
    (hgd : o.guard = none) (ho : o.op = .call { callee := .builtin .append, args := #[s, x], argTypes := #[t, t] })
    (ht : P.underlying t = some (.slice e)) (hi : P.info? e = some i) (hz : i.zero = some z) (hsize : i.size = r.size) (hby : i.bytes = bytes) (hzs : z.cells.size = r.size) (hsz : 0 < r.size)
    (hs : a.eval s = v) (hx : a.eval x = .slice (some ⟨N0, 0, none⟩) 1 1) (hN0 : N0 = w.heap.size)
    (hown : Own r Z base e w v l) (hr : r.rd Z w x0 c.toList) (hZ : ∀ b, Z b → b < w.heap.size)
    (h63 : l.length + 1 ≤ maxLen) (hbytes : (l.length + 1) * bytes ≤ 140737488355328) (hbase : base ≤ w.heap.size)
    (h : ∀ v' w', Own r Z base e w' v' (l ++ [x0]) → Keep (fun b => v.ownBlock = some b) w w' → (v'.ownBlock = v.ownBlock ∨ ∃ g, v'.ownBlock = some g ∧ w.heap.size ≤ g) → wpList P ops Q rest (a.put o.dst v') w') :
    wpList P ops Q (o :: rest) a (w.alloc (.cells c e)) := by
  subst hN0
  obtain ⟨⟨xs, h1, h2⟩, h3⟩ := hown
  refine wpList_append_own_at (w.alloc (.cells c e)) hgd s x t ho base e i z r.size bytes ht hi hz hsize hby hzs hsz v l.length xs hs (h1.alloc _) ⟨w.heap.size, 0, none⟩ 1 1 c.toList hx (by rw [r.len hr]; omega) ?_ (r.one hr) h63 hbytes (by simp; omega) ?_
  · intro j u hu
    rw [Addr.add_lit]
    unfold World.cell?
    rw [heap_new]
    simpa using hu
  · intro v' w' k1 k2 _ k4
    have hkeep : Keep (fun b => v.ownBlock = some b) w w' := (Keep.alloc _ w _).trans (Keep.of_grown k2 (fun g hg => hg))
    have hzz : ∀ b, Z b → ¬ v.ownBlock = some b := fun b hb e => h3 b e hb
    have hZ' : ∀ b, Z b → w'.heap[b]? = w.heap[b]? := fun b hb => hkeep.block b (hZ b hb) (hzz b hb)
    refine h v' w' ⟨⟨xs ++ c.toList, by simpa using k1, (h2.mono (fun _ hb => hb) hZ').app (Rows.single (r.mono (fun _ hb => hb) hZ' hr))⟩, fun g hg hb => ?_⟩ hkeep ?_
    · rcases k4 with k4 | k4
      · exact h3 g (k4 ▸ hg) hb
      · rw [k4] at hg
        injection hg with hg
        have := hZ g hb
        simp at hg
        omega
    · rcases k4 with k4 | k4
      · exact .inl k4
      · exact .inr ⟨_, k4, by simp⟩
end
end
/-- What is read stays, where the blocks that exist stay. -/
theorem SlV.keep {α : Type} {r : Sh α} {S K : Nat → Prop} {w w' : World} {l : List α} {v : Value} (h : SlV r S w l v) (hk : Keep K w w') (hs : ∀ b, S b → ¬ K b) : SlV r S w' l v :=
  h.bnd.mono (fun _ hb => hb.1) (fun b hb => hk.block b hb.2 (hs b hb.1))
theorem SlV.sub {α : Type} {r : Sh α} {S S' : Nat → Prop} {w : World} {l : List α} {v : Value} (h : SlV r S w l v) (hs : ∀ b, b < w.heap.size → S b → S' b) : SlV r S' w l v :=
  h.bnd.mono (fun b hb => hs b hb.2 hb.1) (fun _ _ => rfl)
theorem SlV.grow {α : Type} {r : Sh α} {S : Nat → Prop} {w w' : World} {l : List α} {v : Value} (h : SlV r S w l v) (hk : Below w.heap.size w w') : SlV r S w' l v :=
  h.bnd.mono (fun _ hb => hb.1) (fun b hb => hk.block b hb.2)
theorem ints_at {S : Nat → Prop} {k : IntKind} {w : World} {l : List Int} {A : Option Addr} {n c : Nat} (h : SlV (Sh.int k) S w l (.slice A n c)) {i : Nat} (hi : i < l.length) :
    ∃ b o, A = some ⟨b, o, none⟩ ∧ S b ∧ b < w.heap.size ∧ w.cell? ⟨b, o + i, none⟩ = some (.int k l[i]) ∧ inK k l[i] := by
  obtain ⟨b, o, cs, hA, hS, hlt, hr, ha⟩ := h.at_ hi
  obtain ⟨rfl, h1⟩ := hr
  refine ⟨b, o, hA, hS, hlt, ?_, h1⟩
  have := ha.c0
  simpa [Sh.int] using this

end Rdn
