/- append of a whole slice onto a slice of the call's own: over any program. -/
import Derived.Test.YtkfpcgkmemfdaaaMem
import Derived.Test.YtkfpcgkmemfdaaaRel
namespace Rdn
open Go Go.RowKit
set_option linter.unusedVariables false

theorem run_append_zero {P : Program} (w : World) (t ty e : TypeId) (i : TypeInfo) (ht : P.underlying t = some (.slice e)) (hi : P.info? e = some i) (A A' : Option Addr) (n c c' : Nat) (hn : n ≤ c) :
    (Builtin.append_ #[t, t] ty #[.slice A n c, .slice A' 0 c']).run P w = .ok (.slice A n c) w := by
  cases A <;> cases A' <;> simp [Builtin.append_, run_underlying ht, Go.sizeOf, typeInfo, hi, Builtin.lenOf, Builtin.firstCells, loadCells, loadCellsFrom, storeCells, hn]

section
variable {α : Type} {r : Sh α} {S Z Z' : Nat → Prop} {base : Nat} {e : TypeId} {w w' : World} {v : Value} {l : List α}

theorem Own.cap (h : Own r Z base e w v l) : ∃ A c, v = .slice A l.length c ∧ l.length ≤ c := by
  obtain ⟨⟨xs, h1, _⟩, _⟩ := h
  rcases h1.2 with ⟨rfl, hn⟩ | ⟨g, cap, cur, rfl, hb, hg, hnc, _⟩
  · exact ⟨none, 0, by rw [hn], by omega⟩
  · exact ⟨_, cap, rfl, hnc⟩
/-- The rows of a slice, where they stand. -/
theorem SlV.rows {m : List α} {A : Option Addr} {n c : Nat} (h : SlV r S w m (.slice A n c)) (h0 : 0 < m.length) : ∃ b o xs, A = some ⟨b, o, none⟩ ∧ S b ∧ b < w.heap.size ∧ n = m.length ∧ Rows r S w m xs ∧ At w b o xs := by
  obtain ⟨A', c', h1, h2, h3, h4⟩ := h
  injection h1 with e1 e2 e3
  subst e1
  obtain ⟨b, o, rfl, hb, hlt, hx⟩ := h4 h0
  obtain ⟨xs, k1, k2⟩ := Rows.of_at hx
  exact ⟨b, o, xs, rfl, hb, hlt, e2, k1, k2⟩
theorem Rows.imp {w1 : World} (hr : ∀ a cs, r.rd S w a cs → r.rd Z w1 a cs) : ∀ {m : List α} {xs : List Value}, Rows r S w m xs → Rows r Z w1 m xs
  | [], xs, h => h
  | a :: m, xs, ⟨c, ys, e, h1, h2⟩ => ⟨c, ys, e, hr _ _ h1, h2.imp hr⟩

/-- 'append(s, x...)': x may be nil, and may lie anywhere but in the row of s. -/
theorem run_appends {P : Program} (t ty : TypeId) (e : TypeId) (i : TypeInfo) (z : Value) (bytes : Nat) {vx : Value} {m : List α}
    (ht : P.underlying t = some (.slice e)) (hi : P.info? e = some i) (hz : i.zero = some z) (hsize : i.size = r.size) (hby : i.bytes = bytes) (hzs : z.cells.size = r.size) (hsz : 0 < r.size)
    (hown : Own r Z base e w v l) (hr : SlV r S w m vx) (hrd : ∀ a cs, r.rd S w a cs → r.rd Z w a cs) (hZ : ∀ b, Z b → b < w.heap.size)
    (h63 : l.length + m.length ≤ maxLen) (hbytes : (l.length + m.length) * bytes ≤ 140737488355328) (hbase : base ≤ w.heap.size) :
    ∃ v' w', (Builtin.append_ #[t, t] ty #[v, vx]).run P w = .ok v' w' ∧ Own r Z base e w' v' (l ++ m) ∧ Keep (fun b => v.ownBlock = some b) w w' ∧ (v'.ownBlock = v.ownBlock ∨ ∃ g, v'.ownBlock = some g ∧ w.heap.size ≤ g) := by
  have hlt := hown.lt
  obtain ⟨A, c, hv, hc⟩ := hown.cap
  obtain ⟨A', c', rfl, hc', hm'⟩ := hr.shape
  by_cases h0 : 0 < m.length
  · obtain ⟨b, oo, ys, rfl, hb, hblt, _, k1, k2⟩ := hr.rows h0
    obtain ⟨⟨xs, h1, h2⟩, h3⟩ := hown
    obtain ⟨v', w', hrun, k1', k2', _, k4⟩ := run_append_own_at (P := P) w base t ty e i z r.size bytes ht hi hz hsize hby hzs hsz v l.length xs h1 ⟨b, oo, none⟩ m.length c' ys k1.length (fun j u hu => by rw [Addr.add_lit]; exact k2 j u hu) k1.one h63 hbytes hbase
    have hkeep : Keep (fun b => v.ownBlock = some b) w w' := Keep.of_grown k2' (fun g hg => hg)
    have hzz : ∀ b, Z b → ¬ v.ownBlock = some b := fun b hb e => h3 b e hb
    have hZ' : ∀ b, Z b → w'.heap[b]? = w.heap[b]? := fun b hb => hkeep.block b (hZ b hb) (hzz b hb)
    refine ⟨v', w', hrun, ⟨⟨xs ++ ys, by rw [List.length_append]; exact k1', (h2.mono (fun _ hb => hb) hZ').app (k1.imp (fun a cs hh => r.mono (fun _ hb => hb) hZ' (hrd a cs hh)))⟩, fun g hg hb => ?_⟩, hkeep, ?_⟩
    · rcases k4 with k4 | k4
      · exact h3 g (k4 ▸ hg) hb
      · rw [k4] at hg
        injection hg with hg
        have := hZ g hb
        omega
    · rcases k4 with k4 | k4
      · exact .inl k4
      · exact .inr ⟨_, k4, by omega⟩
  · have hm0 : m = [] := List.eq_nil_of_length_eq_zero (by omega)
    subst hm0
    subst hv
    exact ⟨_, w, run_append_zero (P := P) w t ty e i ht hi A A' l.length c c' hc, by simpa using hown, Keep.refl _ _, .inl rfl⟩

variable {P : Program} {ops : Array Oper} {rest : List Oper} {o : Oper} {a : Act} {Q : Exit → Act → World → Prop}
theorem wpList_appends (s x : Operand) (t : TypeId) (e : TypeId) (i : TypeInfo) (z : Value) (bytes : Nat) {vx : Value} {m : List α}
    (hgd : o.guard = none) (ho : o.op = .call { callee := .builtin .append, args := #[s, x], argTypes := #[t, t] })
    (ht : P.underlying t = some (.slice e)) (hi : P.info? e = some i) (hz : i.zero = some z) (hsize : i.size = r.size) (hby : i.bytes = bytes) (hzs : z.cells.size = r.size) (hsz : 0 < r.size)
    (hs : a.eval s = v) (hx : a.eval x = vx)
    (hown : Own r Z base e w v l) (hr : SlV r S w m vx) (hrd : ∀ a cs, r.rd S w a cs → r.rd Z w a cs) (hZ : ∀ b, Z b → b < w.heap.size)
    (h63 : l.length + m.length ≤ maxLen) (hbytes : (l.length + m.length) * bytes ≤ 140737488355328) (hbase : base ≤ w.heap.size)
    (h : ∀ v' w', Own r Z base e w' v' (l ++ m) → Keep (fun b => v.ownBlock = some b) w w' → (v'.ownBlock = v.ownBlock ∨ ∃ g, v'.ownBlock = some g ∧ w.heap.size ≤ g) → wpList P ops Q rest (a.put o.dst v') w') :
    wpList P ops Q (o :: rest) a w := by
  refine wpList_plain hgd fun K hK => ?_
  obtain ⟨v', w', hr0, h1, h2, h3⟩ := run_appends (P := P) t o.type e i z bytes ht hi hz hsize hby hzs hsz hown hr hrd hZ h63 hbytes hbase
  unfold Oper.wp execOp
  simp only [ho, resolve, invoke, builtin, Sem.run_bind, Sem.run_pure, Result.andThen_ok, List.map_toArray, List.map_cons, List.map_nil, hs, hx, hr0]
  exact hK _ _ (h v' w' h1 h2 h3)
/-- In a region that draws its order. -/
theorem relAt_appends (s x : Operand) (t : TypeId) (e : TypeId) (i : TypeInfo) (z : Value) (bytes : Nat) {vx : Value} {m : List α} {T : Value → World → Prop}
    (ho : o.op = .call { callee := .builtin .append, args := #[s, x], argTypes := #[t, t] })
    (ht : P.underlying t = some (.slice e)) (hi : P.info? e = some i) (hz : i.zero = some z) (hsize : i.size = r.size) (hby : i.bytes = bytes) (hzs : z.cells.size = r.size) (hsz : 0 < r.size)
    (hs : a.eval s = v) (hx : a.eval x = vx)
    (hown : Own r Z base e w v l) (hr : SlV r S w m vx) (hrd : ∀ a cs, r.rd S w a cs → r.rd Z w a cs) (hZ : ∀ b, Z b → b < w.heap.size)
    (h63 : l.length + m.length ≤ maxLen) (hbytes : (l.length + m.length) * bytes ≤ 140737488355328) (hbase : base ≤ w.heap.size)
    (h : ∀ v' w', Own r Z base e w' v' (l ++ m) → Keep (fun b => v.ownBlock = some b) w w' → (v'.ownBlock = v.ownBlock ∨ ∃ g, v'.ownBlock = some g ∧ w.heap.size ≤ g) → T v' w') :
    relAt P o a w T := by
  obtain ⟨v', w', hr0, h1, h2, h3⟩ := run_appends (P := P) t o.type e i z bytes ht hi hz hsize hby hzs hsz hown hr hrd hZ h63 hbytes hbase
  unfold relAt execOp
  simp only [ho, resolve, invoke, builtin, Sem.run_bind, Sem.run_pure, Result.andThen_ok, List.map_toArray, List.map_cons, List.map_nil, hs, hx, hr0, relUpon]
  exact h v' w' h1 h2 h3
end
/-- An empty slice that is not nil: a block with no cells. -/
theorem Own.made {α : Type} (r : Sh α) (Z : Nat → Prop) (base : Nat) (e : TypeId) (w : World) (hb : base ≤ w.heap.size) (hZ : ∀ b, Z b → b < w.heap.size) (cs : Array Value) (hcs : cs = #[]) : Own r Z base e (w.alloc (.cells cs e)) (.slice (some ⟨w.heap.size, 0, none⟩) 0 0) [] := by
  subst hcs
  refine ⟨⟨[], ⟨by simp, .inr ⟨w.heap.size, 0, #[], rfl, hb, heap_alloc_new _ _, by simp, by simp, by simp, by simp⟩⟩, rfl⟩, fun g hg hz => ?_⟩
  simp [Value.ownBlock] at hg
  have := hZ g hz
  omega
/-- A block of the call's own, known whole. -/
theorem Own.of_block {α : Type} {r : Sh α} {Z : Nat → Prop} {base : Nat} {e : TypeId} {w : World} {l : List α} {g : Nat} {cs : Array Value} (hg : w.heap[g]? = some (.cells cs e (0, 0))) (h : Rows r Z w l cs.toList) (hb : base ≤ g) (hz : ¬ Z g) (hm : l.length ≤ maxLen) (n : Nat) (hn : n = l.length) :
    Own r Z base e w (.slice (some ⟨g, 0, none⟩) n n) l := by
  subst hn
  have hl := h.length
  refine ⟨⟨cs.toList, ⟨hl, .inr ⟨g, l.length, cs, rfl, hb, hg, Nat.le_refl _, hm, by simpa using hl, by rw [← hl]; exact List.take_length⟩⟩, h⟩, fun b hb' => ?_⟩
  simp [Value.ownBlock] at hb'
  subst hb'
  exact hz
theorem Rows.ints {k : IntKind} {Z : Nat → Prop} {w : World} : ∀ {l : List Int}, (∀ n ∈ l, inK k n) → Rows (Sh.int k) Z w l (l.map (Value.int k))
  | [], _ => rfl
  | n :: l, h => ⟨[.int k n], l.map (Value.int k), rfl, ⟨rfl, h n (by simp)⟩, Rows.ints (fun m hm => h m (by simp [hm]))⟩
theorem Rows.of_ints {k : IntKind} {Z : Nat → Prop} {w : World} : ∀ {l : List Int} {xs : List Value}, Rows (Sh.int k) Z w l xs → xs = l.map (Value.int k) ∧ ∀ n ∈ l, inK k n
  | [], xs, h => ⟨h, by simp⟩
  | a :: l, xs, ⟨c, ys, e, ⟨e1, h1⟩, h⟩ => by
    obtain ⟨h2, h3⟩ := h.of_ints
    refine ⟨by rw [e, e1, h2]; rfl, fun n hn => ?_⟩
    rcases List.mem_cons.1 hn with rfl | hn
    · exact h1
    · exact h3 n hn
/-- An element of a slice of the call's own is read, and written. -/
theorem Own.int_at {k : IntKind} {Z : Nat → Prop} {base : Nat} {e : TypeId} {w : World} {v : Value} {l : List Int} (h : Own (Sh.int k) Z base e w v l) {i : Nat} (hi : i < l.length) :
    ∃ g c, v = .slice (some ⟨g, 0, none⟩) l.length c ∧ base ≤ g ∧ l.length ≤ c ∧ w.cell? ⟨g, i, none⟩ = some (.int k l[i]) ∧ w.frozen? ⟨g, i, none⟩ = false ∧ inK k l[i] ∧
      ∀ x, inK k x → Own (Sh.int k) Z base e (w.setCell ⟨g, i, none⟩ (.int k x)) v (l.set i x) := by
  obtain ⟨⟨xs, h1, h2⟩, h3⟩ := h
  obtain ⟨e1, h4⟩ := h2.of_ints
  rcases h1.2 with ⟨rfl, hn⟩ | ⟨g, cap, cur, rfl, hb, hg, hnc, hcm, hcs, ht⟩
  · omega
  · simp only [Sh.int, Nat.mul_one] at hcs ht
    have hcur : cur[i]? = some (.int k l[i]) := by
      have : xs[i]? = some (.int k l[i]) := by rw [e1]; simp [hi]
      rw [← ht, List.getElem?_take, if_pos hi] at this
      simpa using this
    refine ⟨g, cap, rfl, hb, hnc, by rw [cells_cell hg]; exact hcur, cells_free hg i, h4 _ (List.getElem_mem hi), fun x hx => ⟨⟨(l.set i x).map (Value.int k), ⟨by simp [Sh.int], .inr ⟨g, cap, cur.setIfInBounds i (.int k x), by rw [List.length_set], hb, cells_set hg i _, by simpa using hnc, hcm, by simpa [Sh.int] using hcs, ?_⟩⟩, Rows.ints ?_⟩, h3⟩⟩
    · simp only [Sh.int, Nat.mul_one, List.length_set, Array.toList_setIfInBounds]
      rw [List.take_set, ht, e1, List.map_set]
    · intro n hn
      rcases List.mem_or_eq_of_mem_set hn with hn | rfl
      · exact h4 n hn
      · exact hx
theorem flat_int {k : IntKind} {S Z : Nat → Prop} {w w' : World} (a : Int) (cs : List Value) (h : (Sh.int k).rd S w a cs) : (Sh.int k).rd Z w' a cs := h
end Rdn
