/- The operations that make memory or write it: each does what is told of it. Over any program. -/
import Derived.Test.YtkfpcgkmemfdaaaDn
import Derived.Lib.ConvBytes
namespace Rdn.Dp
open Go Go.RowKit Rdn
set_option linter.unusedVariables false
section
variable {P : Program} {cx : Cx} {E : Env} {σ : AS} {a : Act} {w : World}
/-- A new block that nobody will write. -/
theorem Rel.allocO (R : Rel cx E σ a w) (ho : Obj) :
    Leads E w { E with B := fun b => E.B b ∨ b = w.heap.size } (w.alloc ho) ∧ Rel cx { E with B := fun b => E.B b ∨ b = w.heap.size } σ a (w.alloc ho) := by
  have hB : Below w.heap.size w (w.alloc ho) := (Below.refl _ _).alloc (Nat.le_refl _) _
  have L : Leads E w { E with B := fun b => E.B b ∨ b = w.heap.size } (w.alloc ho) :=
    ⟨fun b hb => ⟨.inl hb, hB.block b (R.lt b hb)⟩, fun _ h => h, Nat.le_refl _, fun _ g u _ h => ⟨g, u, h, Nat.le_refl _, fun _ => rfl⟩⟩
  refine ⟨L, R.df, R.n, fun i => (R.tm i).mono L, R.len, fun r o hr => ?_, R.sep, fun b hb => ?_, R.fr, fun b hb hlt => ?_, R.keep.trans (Keep.of_below (S := cx.lent) hB)⟩
  · obtain ⟨u, k1, k2⟩ := R.ob r o hr
    refine ⟨u, k1, k2.keep L (fun b hb => hB.block b (k2.blk_lt hb)) (fun _ b hb hn hB' => ?_)⟩
    rcases hB' with h | h
    · exact hn h
    · have := k2.blk_lt hb; omega
  · have hs := hB.size
    rcases hb with hb | hb
    · exact Nat.lt_of_lt_of_le (R.lt b hb) hs
    · subst hb; simp
  · rcases hb with hb | hb
    · exact R.old b hb hlt
    · have := R.keep.size; omega
theorem Rel.allocB (R : Rel cx E σ a w) (cs : Array Value) (e : TypeId) :
    Leads E w { E with B := fun b => E.B b ∨ b = w.heap.size } (w.alloc (.cells cs e)) ∧ Rel cx { E with B := fun b => E.B b ∨ b = w.heap.size } σ a (w.alloc (.cells cs e)) := R.allocO (.cells cs e)
theorem modify_last {α : Type} (l : Array α) (x : α) (f : α → α) : (l.push x).modify l.size f = l.push (f x) := by
  apply Array.ext
  · simp
  · intro i h1 h2
    rw [Array.getElem_modify]
    simp only [Array.getElem_push]
    by_cases h : i < l.size
    · rw [dif_pos h, dif_pos h, if_neg (by omega)]
    · rw [dif_neg h, dif_neg h, if_pos (by simp at h2; omega)]
theorem bytes_world (w : World) (e : TypeId) (s : ByteArray) : Lib.bytesWorld w e s = (w.drew).alloc (.cells (Lib.bytesCells w e s) e ((Lib.bytesCells w e s).size, (Lib.bytesCells w e s).size + 1)) := by
  unfold Lib.bytesWorld World.freeze World.alloc
  rw [if_neg (by decide)]
  have : (w.drew).heap.size = w.heap.size := rfl
  simp only [← this, modify_last]
  rfl
theorem bytes_rd (E : Env) (w : World) : ∀ l : List UInt8, RdL E w (l.map fun b => V.int .u8 b.toNat) (l.map fun b => Value.int .u8 b.toNat)
  | [] => by simp [RdL]
  | b :: l => by
    simp only [List.map_cons, RdL]
    exact ⟨[_], _, rfl, by simp only [RdV]; exact ⟨trivial, inK_u8 (by omega) (by have := b.toNat_lt; omega)⟩, bytes_rd E w l⟩
theorem leaves_same (R : Rel cx E σ a w) {o : Oper} {x : V} {v : Value} (h : (execOp a.eval o).run P w = .ok (.value v) w) (hx : RdT E w x v) : Leaves P cx E a w o x σ := ⟨v, w, E, .inl h, Leads.refl _ _, hx, R⟩
theorem bytes_pures (l : List UInt8) : V.pures (l.map fun b => V.int .u8 b.toNat) = true := by
  induction l with
  | nil => rfl
  | cons b l ih => simp only [List.map_cons, V.pures, V.pure, ih, Bool.and_self]
theorem bytes_sound (R : Rel cx E σ a w) {o : Oper} {s d e : TypeId} {x : Operand} (ho : o.op = .convert s d x) {u : TypeDesc} (hs : P.underlying s = some u) (hd : P.underlying d = some (.slice e)) (he : P.underlying e = some (.int .u8)) {y : V} (hx : RdT E w y (a.eval x)) (h : (bytesV σ y).2.2) : Leaves P cx E a w o (bytesV σ y).1 (bytesV σ y).2.1 := by
  cases y with
  | str b =>
    have hv : a.eval x = .string b := by simpa [RdT, RdV] using hx
    have hlen : (b.data.toList.map fun b => V.int .u8 b.toNat).length = b.size := by simp
    obtain ⟨L, R'⟩ := R.drew.allocO (.cells (Lib.bytesCells w e b) e ((Lib.bytesCells w e b).size, (Lib.bytesCells w e b).size + 1))
    refine ⟨.slice (some ⟨w.heap.size, 0, none⟩) b.size (grownCap w b.size 0 e), (w.drew).alloc (.cells (Lib.bytesCells w e b) e ((Lib.bytesCells w e b).size, (Lib.bytesCells w e b).size + 1)), _, .inl ?_, (Leads.heap (E := E) (w := w) (w' := { w with drawn := w.drawn + 1 }) fun _ _ => rfl).trans L, ?_, R'⟩
    · rw [← bytes_world]
      simp only [execOp, ho, hv, Sem.run_bind, Lib.run_convert_string_bytes w s d e b hs hd he, Result.andThen_ok, Sem.run_pure]
    · simp only [bytesV, RdT, RdV]
      refine ⟨bytes_pures _, fun z hz => ?_, some ⟨w.heap.size, 0, none⟩, grownCap w b.size 0 e, by rw [hlen], by rw [hlen]; exact grownCap_ge w b.size 0 e, by rw [hlen]; exact h, fun _ => ⟨w.heap.size, 0, b.data.toList.map fun b => Value.int .u8 b.toNat, rfl, .inr rfl, (fun h => by cases h), bytes_rd _ _ _, fun j v hj => ?_⟩⟩
      · obtain ⟨q, _, rfl⟩ := List.mem_map.1 hz
        rfl
      · rw [Nat.zero_add]
        have hb : ((w.drew).alloc (.cells (Lib.bytesCells w e b) e ((Lib.bytesCells w e b).size, (Lib.bytesCells w e b).size + 1))).heap[w.heap.size]? = some (.cells (Lib.bytesCells w e b) e ((Lib.bytesCells w e b).size, (Lib.bytesCells w e b).size + 1)) := heap_new (w.drew) _
        unfold World.cell?
        simp only [hb]
        have hj2 : j < b.data.size := by
          rcases Nat.lt_or_ge j b.data.size with h | h
          · exact h
          · rw [List.getElem?_eq_none (by simpa using h)] at hj; cases hj
        simp only [Lib.bytesCells]
        rw [Array.getElem?_append_left (by simpa using hj2)]
        simpa [Array.getElem?_map] using hj
  | _ => exact h.elim
theorem unif_setps : ∀ {ps : List (Nat × V)} {l : List V} {s : Nat}, Unif s l → fits l ps → Unif s (setps l ps)
  | [], l, s, h, _ => h
  | (i, x) :: ps, l, s, h, hf => by
    simp only [fits] at hf
    obtain ⟨hi, hs, _, hf⟩ := hf
    simp only [setps]
    refine unif_setps (fun y hy => ?_) hf
    rcases List.mem_or_eq_of_mem_set hy with hy | rfl
    · exact h y hy
    · rw [hs, getD_lt hi]; exact h _ (List.getElem_mem hi)
theorem len_setps : ∀ (ps : List (Nat × V)) (l : List V), (setps l ps).length = l.length
  | [], l => rfl
  | (i, x) :: ps, l => by simp [setps, len_setps ps]
theorem box_sound (R : Rel cx E σ a w) {o : Oper} {T : TypeId} {x : Operand} (ho : o.op = .box T x) {u : V} (hu : RdT E w u (a.eval x)) (h : u.size ≠ 0 ∨ u.isAgg = true) :
    Leaves P cx E a w o (.ptr σ.ob.length 0 [] 0) { σ with ob := σ.ob ++ [⟨.box false T, true, 0, u⟩] } := by
  obtain ⟨h1, h2, h3⟩ := new_box R (T := T) (hu.toV h)
  exact ⟨_, _, _, .inl (by simp only [execOp, ho, Instr.box, newVar, newRow, Sem.run_bind, run_newObj, Result.andThen_ok, Sem.run_pure]; rfl), h1, h2, h3⟩
theorem alloc_sound (R : Rel cx E σ a w) {o : Oper} {T : TypeId} (ho : o.op = .alloc T) {z : V} (hz : zeroOk P T z = true) :
    Leaves P cx E a w o (.ptr σ.ob.length 0 [] 0) { σ with ob := σ.ob ++ [⟨.box false T, true, 0, z⟩] } := by
  obtain ⟨i, v, hi, hv, hr⟩ := zeroOk_rd hz E w
  obtain ⟨h1, h2, h3⟩ := new_box R (T := T) hr
  exact ⟨_, _, _, .inl (by simp [execOp, ho, Instr.alloc, zeroValue, typeInfo, hi, hv, newVar, newRow]), h1, h2, h3⟩
theorem map_parts (a : Act) (ps : Array (Nat × Operand)) : (ps.map fun (i, x) => (i, a.eval x)).toList = ps.toList.map fun (p : Nat × Operand) => (p.1, a.eval p.2) := by
  rw [Array.toList_map]
theorem build_sound (R : Rel cx E σ a w) {o : Oper} {T : TypeId} {ps : Array (Nat × Operand)} (ho : o.op = .build T ps) {fs : Array Field} {z : List V} {qs : List (Nat × X)} (hT : P.underlying T = some (.struct fs))
    (hz : zeroOk P T (.agg z) = true) (hs : structOk P fs.toList z = true) (hq : compPs ps.toList = some qs) (hf : fits z (evs σ qs)) : Leaves P cx E a w o (.agg (setps z (evs σ qs))) σ := by
  obtain ⟨i, v, hi, hv, hr⟩ := zeroOk_rd hz E w
  simp only [RdV] at hr
  have hs' := of_decide_eq_true hs
  obtain ⟨r, k1, k2⟩ := fill_rd (place := fun x => (((List.range z.length).map fun i => (V.sizes (z.take i), (z.getD i .junk).size)).toArray)[x]?) _ _ z v.cells hr hf (compPs_rd R hq) (fun j hj => by simp [hj])
  have hb : P.built T (ps.map fun (i, x) => (i, a.eval x)).toList = some r := by
    unfold Program.built
    simp only [hi, hT, hv, hs', map_parts]
    exact k1
  refine leaves_same R (v := .agg r) (by simp only [execOp, ho, Sem.run_bind, run_build w T _ r hb, Result.andThen_ok, Sem.run_pure]) ?_
  simp only [RdT, RdV]
  exact ⟨r.toList, by simp, k2⟩
theorem buildA_sound (R : Rel cx E σ a w) {o : Oper} {T e : TypeId} {n s : Nat} {ps : Array (Nat × Operand)} (ho : o.op = .build T ps) {z : List V} {qs : List (Nat × X)} (hT : P.underlying T = some (.array n e)) (he : (P.info? e).map (·.size) = some s)
    (hz : zeroOk P T (.arr s z) = true) (hq : compPs ps.toList = some qs) (hf : fits z (evs σ qs)) : Leaves P cx E a w o (.arr s (setps z (evs σ qs))) σ := by
  obtain ⟨i, v, hi, hv, hr⟩ := zeroOk_rd hz E w
  simp only [RdV] at hr
  obtain ⟨ie, hie, rfl⟩ := Option.map_eq_some_iff.1 he
  obtain ⟨r, k1, k2⟩ := fill_rd (place := fun i => some (i * ie.size, ie.size)) _ _ z v.cells hr.1 hf (compPs_rd R hq) (fun j hj => by
    rw [sizes_take hr.2 (by omega), getD_lt hj, hr.2 _ (List.getElem_mem hj)])
  have hb : P.built T (ps.map fun (i, x) => (i, a.eval x)).toList = some r := by
    unfold Program.built
    simp only [hi, hT, hv, hie, map_parts]
    exact k1
  refine leaves_same R (v := .agg r) (by simp only [execOp, ho, Sem.run_bind, run_build w T _ r hb, Result.andThen_ok, Sem.run_pure]) ?_
  simp only [RdT, RdV]
  exact ⟨r.toList, by simp, k2, unif_setps hr.2 hf⟩
theorem buildS_run (R : Rel cx E σ a w) {o : Oper} {T e : TypeId} {m : Nat} {ps : Array (Nat × Operand)} (ho : o.op = .buildSlice T m ps) {i : TypeInfo} {z : V} {qs : List (Nat × X)} (hT : P.underlying T = some (.slice e)) (he : P.info? e = some i)
    (hz : zeroOk P e z = true) (h0 : 0 < i.size) (hm : m * i.size ≤ 2 ^ 24) (hzs : z.size = i.size) (hq : compPs ps.toList = some qs) (hf : fits (List.replicate m z) (evs σ qs)) :
    ∃ r : Array Value, (execOp a.eval o).run P w = .ok (.value (.slice (some ⟨w.heap.size, 0, none⟩) m m)) (w.alloc (.cells r e)) ∧ r.size = m * i.size ∧ RdL E w (setps (List.replicate m z) (evs σ qs)) r.toList ∧ Unif i.size (setps (List.replicate m z) (evs σ qs)) ∧ (setps (List.replicate m z) (evs σ qs)).length = m ∧ m ≤ 140737488355328 := by
  obtain ⟨i', v, hi, hv, hr⟩ := zeroOk_rd hz E w
  rw [he] at hi
  obtain rfl := Option.some.inj hi
  have hvl : v.cells.size = i.size := by have := hr.len; simpa [hzs] using this
  have hU0 : Unif i.size (List.replicate m z) := fun x hx => by rw [List.eq_of_mem_replicate hx, hzs]
  have hU := unif_setps hU0 hf
  have hlen := len_setps (evs σ qs) (List.replicate m z)
  rw [List.length_replicate] at hlen
  have hm' : m ≤ 140737488355328 := by
    have : m * 1 ≤ m * i.size := Nat.mul_le_mul_left _ h0
    omega
  have hzr : RdL E w (List.replicate m z) (((Array.range (m * i.size)).map (v.cells[· % v.cells.size]!)).toList) := by
    have := zeros_rd hr (by rw [hvl]; exact h0) m
    rw [hvl] at this
    simpa [hvl] using this
  obtain ⟨r, k1, k2⟩ := fill_rd (place := fun i' => some (i' * i.size, i.size)) _ _ _ _ hzr hf (compPs_rd R hq) (fun j hj => by
    rw [sizes_take hU0 (by omega), getD_lt hj, hU0 _ (List.getElem_mem hj)])
  have hrs : r.size = m * i.size := by
    have := k2.len
    rw [sizes_unif hU, hlen, Nat.mul_comm] at this
    simpa using this
  refine ⟨r, ?_, hrs, k2, hU, hlen, hm'⟩
  by_cases hm0 : m = 0
  · subst hm0
    have hq0 : qs = [] := by
      cases qs with
      | nil => rfl
      | cons q qs => simp [evs, fits] at hf
    subst hq0
    have hps : ps.toList = [] := by
      cases hpp : ps.toList with
      | nil => rfl
      | cons p l =>
        rw [hpp] at hq
        obtain ⟨i1, x1⟩ := p
        simp only [compPs] at hq
        split at hq <;> simp at hq
    have hps' : ps = #[] := by rw [← Array.toArray_toList (xs := ps), hps]
    subst hps'
    have hr0 : r = #[] := Array.eq_empty_of_size_eq_zero (by simpa using hrs)
    subst hr0
    simp [execOp, ho, Instr.buildSlice, run_underlying hT, Go.sizeOf, typeInfo, he, Instr.fill, newRow, Array.range_zero']
  · have := run_buildSlice (P := P) w T e m (ps.map fun (i, x) => (i, a.eval x)) r i v hT he hv (by omega) (by have : 0 < m * i.size := Nat.mul_pos (by omega) h0; omega) (by rw [map_parts]; exact k1)
    simp only [execOp, ho, Sem.run_bind, this, Result.andThen_ok, Sem.run_pure]
theorem buildS_sound (R : Rel cx E σ a w) {o : Oper} {T e : TypeId} {m : Nat} {ps : Array (Nat × Operand)} (ho : o.op = .buildSlice T m ps) {i : TypeInfo} {z : V} {qs : List (Nat × X)} (hT : P.underlying T = some (.slice e)) (he : P.info? e = some i)
    (hz : zeroOk P e z = true) (h0 : 0 < i.size) (hm : m * i.size ≤ 2 ^ 24) (hzs : z.size = i.size) (hq : compPs ps.toList = some qs) (hf : fits (List.replicate m z) (evs σ qs)) (hp : V.pures (setps (List.replicate m z) (evs σ qs)) = true) :
    Leaves P cx E a w o (.own σ.ob.length 0) { σ with ob := σ.ob ++ [⟨.row e, true, 0, .arr i.size (setps (List.replicate m z) (evs σ qs))⟩] } := by
  obtain ⟨r, hrun, hrs, k2, hU, hlen, hm'⟩ := buildS_run R ho hT he hz h0 hm hzs hq hf
  obtain ⟨h1, h2, h3⟩ := new_row R (e := e) (s := i.size) (l := setps (List.replicate m z) (evs σ qs)) (cs := r) (n := m) (c := m) hlen.symm (Nat.le_refl _) hrs h0 hm' hp hU (by
    rw [List.take_of_length_le (by simp [hrs])]
    exact k2)
  exact ⟨_, _, _, .inl hrun, h1, h2, h3⟩
/-- A literal that may hold rows of one's own. -/
theorem buildR_sound (R : Rel cx E σ a w) {o : Oper} {T e : TypeId} {m : Nat} {ps : Array (Nat × Operand)} (ho : o.op = .buildSlice T m ps) {i : TypeInfo} {z : V} {qs : List (Nat × X)} (hT : P.underlying T = some (.slice e)) (he : P.info? e = some i)
    (hz : zeroOk P e z = true) (h0 : 0 < i.size) (hm : m * i.size ≤ 2 ^ 24) (hzs : z.size = i.size) (hq : compPs ps.toList = some qs) (hf : fits (List.replicate m z) (evs σ qs)) :
    Leaves P cx E a w o (.own σ.ob.length 0) { σ with ob := σ.ob ++ [⟨.rows e, true, 0, .arr i.size (setps (List.replicate m z) (evs σ qs))⟩] } ∧ ∃ cs, RdL E w (setps (List.replicate m z) (evs σ qs)) cs := by
  obtain ⟨r, hrun, hrs, k2, hU, hlen, hm'⟩ := buildS_run R ho hT he hz h0 hm hzs hq hf
  obtain ⟨h1, h2, h3⟩ := new_rows R (e := e) (s := i.size) (l := setps (List.replicate m z) (evs σ qs)) (cs := r) (n := m) (c := m) hlen.symm (Nat.le_refl _) hrs h0 hm' hU (by
    rw [List.take_of_length_le (by simp [hrs])]
    exact k2)
  exact ⟨⟨_, _, _, .inl hrun, h1, h2, h3⟩, _, k2⟩
theorem mkS_sound (R : Rel cx E σ a w) {o : Oper} {T e : TypeId} {x y : Operand} (ho : o.op = .makeSlice T x y) {i : TypeInfo} {z : V} (hT : P.underlying T = some (.slice e)) (he : P.info? e = some i)
    (hz : zeroOk P e z = true) (h0 : 0 < i.size) (hzs : z.size = i.size) (hzp : z.pure = true) {k k' : IntKind} {l c : Int} (hx : a.eval x = .int k l) (hy : a.eval y = .int k' c) (hl : 0 ≤ l) (hlc : l ≤ c) (hb : (i.bytes : Int) * c ≤ 140737488355328) (hc : c ≤ 140737488355328) :
    Leaves P cx E a w o (.own σ.ob.length 0) { σ with ob := σ.ob ++ [⟨.row e, true, 0, .arr i.size (List.replicate l.toNat z)⟩] } := by
  obtain ⟨i', v, hi, hv, hr⟩ := zeroOk_rd hz E w
  rw [he] at hi
  obtain rfl := Option.some.inj hi
  have hvl : v.cells.size = i.size := by have := hr.len; simpa [hzs] using this
  have hU0 : ∀ m, Unif i.size (List.replicate m z) := fun m x hx => by rw [List.eq_of_mem_replicate hx, hzs]
  have hzr : ∀ m, RdL E w (List.replicate m z) ((List.range (m * i.size)).map (v.cells[· % i.size]!)) := fun m => by
    have := zeros_rd hr (by rw [hvl]; exact h0) m
    rw [hvl] at this
    exact this
  obtain ⟨h1, h2, h3⟩ := new_row R (e := e) (s := i.size) (l := List.replicate l.toNat z) (cs := madeCells v.cells (c.toNat * i.size)) (n := l.toNat) (c := c.toNat) (by simp) (by omega) (by simp [size_madeCells]) h0 (by omega) (pures_iff.2 fun x hx => by rw [List.eq_of_mem_replicate hx]; exact hzp) (hU0 _) (by
    have e1 : (madeCells v.cells (c.toNat * i.size)).toList.take (l.toNat * i.size) = (List.range (l.toNat * i.size)).map (v.cells[· % i.size]!) := by
      have hle : l.toNat * i.size ≤ c.toNat * i.size := Nat.mul_le_mul_right _ (by omega)
      simp only [madeCells, Array.toList_map, Array.toList_range, hvl, ← List.map_take, List.take_range, Nat.min_eq_left hle]
    rw [e1]
    exact hzr _)
  refine ⟨_, _, _, .inl ?_, h1, h2, h3⟩
  have := run_make (P := P) w T e i v hT he hv k k' l c hl hlc (by omega) (by omega)
  simp only [execOp, ho, hx, hy, Sem.run_bind, this, Result.andThen_ok, Sem.run_pure]
end
end Rdn.Dp
