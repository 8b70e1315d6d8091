/- The operations that change nothing: each does what is told of it. Over any program. -/
import Derived.Test.YtkfpcgkmemfdaaaDo
namespace Rdn.Dp
open Go Go.RowKit Rdn
set_option linter.unusedVariables false
section
variable {P : Program} {cx : Cx} {E : Env} {σ : AS} {a : Act} {w : World}

theorem run_equal_bool {T : TypeId} (ht : P.underlying T = some .bool) (x y : Bool) (w : World) : (Op.equal T (.bool x) (.bool y)).run P w = .ok (x == y) w := by
  have key : ∀ d, (Op.equalIn (d + 1) T (.bool x) (.bool y)).run P w = .ok (x == y) w := by
    intro d
    simp [Op.equalIn, run_underlying ht]
  exact key 9999
theorem bin_sound {op : BinOp} {T : TypeId} {x y : Operand} {u v : V} {p q : Value} (hu : RdT E w u p) (hv : RdT E w v q) (h : (binV (tbOf P T) op u v).2) :
    ∃ z, (do eqGuard op T x y p q; binOp op T p q : Sem Value).run P w = .ok z w ∧ RdT E w (binV (tbOf P T) op u v).1 z := by
  unfold binV at h ⊢
  split at h
  · rename_i k a k' b
    obtain ⟨rfl, ha⟩ := rd_int hu
    obtain ⟨rfl, hb⟩ := rd_int hv
    have hg : (eqGuard op T x y (.int k a) (.int k' b)).run P w = .ok () w := by
      unfold eqGuard
      cases op <;> simp
    simp only [Sem.run_bind, hg, Result.andThen_ok]
    unfold binI at h ⊢
    cases op <;> simp only at h ⊢
    case shl => exact ⟨_, by simp [binOp, Op.shift, show ¬ b < 0 by omega], rd_mk (wrap_inK _ _)⟩
    case shr => exact ⟨_, by simp [binOp, Op.shift, show ¬ b < 0 by omega], rd_mk (fdiv_inK _ ha)⟩
    case add => subst h; exact ⟨_, by simp [binOp, Op.intArith], rd_mk (wrap_inK _ _)⟩
    case sub => subst h; exact ⟨_, by simp [binOp, Op.intArith], rd_mk (wrap_inK _ _)⟩
    case mul => subst h; exact ⟨_, by simp [binOp, Op.intArith], rd_mk (wrap_inK _ _)⟩
    case quo => obtain ⟨rfl, h0⟩ := h; exact ⟨_, by simp [binOp, Op.intDiv, h0], rd_mk (wrap_inK _ _)⟩
    case rem => obtain ⟨rfl, h0⟩ := h; exact ⟨_, by simp [binOp, Op.intDiv, h0], rd_mk (tmod_inK ha)⟩
    case and => subst h; exact ⟨.int k (band k a b), by simp [binOp, Op.intBits, band], rd_mk (wrap_inK _ _)⟩
    case or => subst h; exact ⟨.int k (bor k a b), by simp [binOp, Op.intBits, bor], rd_mk (wrap_inK _ _)⟩
    case xor => subst h; exact ⟨.int k (bxor k a b), by simp [binOp, Op.intBits, bxor], rd_mk (wrap_inK _ _)⟩
    case andNot => subst h; exact ⟨.int k (bandn k a b), by simp [binOp, Op.intBits, bandn], rd_mk (wrap_inK _ _)⟩
    case eql => subst h; exact ⟨_, by simp [binOp, Op.intCmp], rd_mkb _⟩
    case neq => subst h; exact ⟨_, by simp [binOp, Op.intCmp], rd_mkb _⟩
    case lss => subst h; exact ⟨_, by simp [binOp, Op.intCmp], rd_mkb _⟩
    case leq => subst h; exact ⟨_, by simp [binOp, Op.intCmp], rd_mkb _⟩
    case gtr => subst h; exact ⟨_, by simp [binOp, Op.intCmp], rd_mkb _⟩
    case geq => subst h; exact ⟨_, by simp [binOp, Op.intCmp], rd_mkb _⟩
  · rename_i a b
    obtain rfl := rd_bool hu
    obtain rfl := rd_bool hv
    split at h
    · have ht : P.underlying T = some .bool := by
        cases hq : P.underlying T with
        | none => simp [tbOf, hq] at h
        | some d => cases d <;> simp_all [tbOf]
      exact ⟨_, by simp [eqGuard, binOp, run_equal_bool ht], rd_mkb _⟩
    · have ht : P.underlying T = some .bool := by
        cases hq : P.underlying T with
        | none => simp [tbOf, hq] at h
        | some d => cases d <;> simp_all [tbOf]
      exact ⟨_, by simp [eqGuard, binOp, run_equal_bool ht], rd_mkb _⟩
    · exact h.elim
  · rename_i a b
    obtain rfl := rd_str hu
    obtain rfl := rd_str hv
    split at h
    · exact ⟨_, by simp [eqGuard, binOp, Op.stringOp], rd_mkb _⟩
    · exact ⟨_, by simp [eqGuard, binOp, Op.stringOp], rd_mkb _⟩
    · exact h.elim
  · exact h.elim
theorem un_sound {op : UnOp} {u : V} {p : Value} (hu : RdT E w u p) (h : (unV op u).2) : ∃ z, (Op.unary op p).run P w = .ok z w ∧ RdT E w (unV op u).1 z := by
  unfold unV at h ⊢
  split at h
  · obtain ⟨rfl, ha⟩ := rd_int hu
    split at h
    · exact ⟨_, by simp [Op.unary, Op.intArith], rd_mk (wrap_inK _ _)⟩
    · exact ⟨_, by simp [Op.unary, Op.intBits], rd_mk (wrap_inK _ _)⟩
    · exact h.elim
  · obtain rfl := rd_bool hu
    split at h
    · exact ⟨_, by simp [Op.unary], rd_mkb _⟩
    · exact h.elim
  · exact h.elim
theorem onInt_some {f : Int → V × Prop} {x : V} (h : (onInt f x).2) : ∃ k n, x = .int k n ∧ (f n).2 ∧ (onInt f x).1 = (f n).1 := by
  unfold onInt at h ⊢
  split at h
  · exact ⟨_, _, rfl, h, rfl⟩
  · exact h.elim
theorem load_sound (R : Rel cx E σ a w) {T : TypeId} {d : TypeDesc} {i : TypeInfo} (hd : P.underlying T = some d) (hi : P.info? T = some i) {u : V} {p : Value} (hu : RdT E w u p) (h : (loadV (agD d) i.size σ u).2) :
    ∃ z, (Instr.loadAt T p).run P w = .ok z w ∧ RdT E w (loadV (agD d) i.size σ u).1 z := by
  unfold loadV at h ⊢
  split at h
  · obtain ⟨h1, b, o, xs, rfl, h3, h4, h5⟩ := rd_rp hu
    exact run_loadAt hd hi h5 h4 h.1 h.2
  · obtain ⟨hg, h1, h2, h3, h4⟩ := h
    obtain ⟨ob, u0, b, xs, k1, k2, k3, k4, k5, k6, rfl, k8, k9⟩ := rd_ptr R hu hg
    simp only [k3] at h1 h2 h3 h4 ⊢
    obtain ⟨pre, c, post, rfl, m1, m2, _⟩ := nav_rd _ 0 ob.v xs k9 h1
    have ha : At w b (0 + pre.length) c := k8.right.left
    rw [show (0 : Nat) + pre.length = _ by rw [m1, h2]] at ha
    exact run_loadAt hd hi ha m2 h3 h4
  · exact h.elim
theorem add_lit0 (b o j : Nat) : (⟨b, o, none⟩ : Addr).add j = ⟨b, o + j, none⟩ := by unfold Addr.add; split <;> simp_all
theorem at_part {b o : Nat} {l : List V} {xs : List Value} (ha : At w b o xs) (hr : RdL E w l xs) {j : Nat} (hj : j < l.length) : ∃ c, At w b (o + V.sizes (l.take j)) c ∧ RdV E w l[j] c := by
  obtain ⟨ys, c, zs, rfl, h1, h2, _⟩ := hr.part hj
  exact ⟨c, by rw [← h1]; exact ha.right.left, h2⟩
theorem sizes_take {s : Nat} {l : List V} (hU : Unif s l) {j : Nat} (hj : j ≤ l.length) : V.sizes (l.take j) = j * s := by
  rw [sizes_unif (hU.take j), List.length_take, Nat.min_eq_left hj, Nat.mul_comm]
theorem fieldA_sound (R : Rel cx E σ a w) {T : TypeId} {fs : Array Field} {f : Field} {i : TypeInfo} {j : Nat} (hT : P.underlying T = some (.struct fs)) (hf : fs[j]? = some f) (hi : P.info? f.type = some i) (h0 : i.size ≠ 0) {u : V} {p : Value} (hu : RdT E w u p) (h : (fieldAV f.offset j σ u).2) :
    ∃ z, (Instr.fieldAt T p j).run P w = .ok z w ∧ RdT E w (fieldAV f.offset j σ u).1 z := by
  have key : ∀ b o, (Instr.fieldAt T (.pointer (some ⟨b, o, none⟩)) j).run P w = .ok (.pointer (some ⟨b, o + f.offset, none⟩)) w := by
    intro b o
    simp [Instr.fieldAt, run_underlying hT, hf, Instr.sureAddr, fieldPlace, Go.sizeOf, typeInfo, hi, h0, add_lit0]
  unfold fieldAV at h ⊢
  split at h
  · obtain ⟨hj, hs⟩ := h
    obtain ⟨h1, b, o, xs, rfl, h3, h4, h5⟩ := rd_rp hu
    simp only [RdV] at h4
    obtain ⟨c, k1, k2⟩ := at_part h5 h4 hj
    refine ⟨_, key b o, ?_⟩
    simp only [V.pure] at h1
    rw [getD_lt hj]
    rw [hs] at k1
    exact mk_rp (pures_iff.1 h1 _ (List.getElem_mem hj)) h3 k2 k1
  · obtain ⟨ob, u0, b, xs, k1, k2, k3, k4, k5, k6, rfl, k8, k9⟩ := rd_ptr R hu h
    exact ⟨_, key b _, mk_ptr (g' := 0) k4 k6⟩
  · exact h.elim
theorem part_run {T : TypeId} {d : TypeDesc} {i : TypeInfo} (hd : P.underlying T = some d) (hi : P.info? T = some i) {x : V} {pre c post : List Value} (hx : RdV E w x c) (hs : x.size = i.size) (hag : x.isAgg = agD d) :
    ∃ v, (part T (pre ++ (c ++ post)).toArray pre.length).run P w = .ok v w ∧ RdT E w x v := by
  have hl := hx.len
  rcases hx.toT with ⟨h1, h2⟩ | ⟨h1, v, rfl, h2⟩
  · refine ⟨.agg c.toArray, ?_, h2⟩
    rw [h1] at hag
    have hagg : (isAgg T).run P w = .ok true w := by
      unfold isAgg
      rw [Sem.run_bind, run_underlying hd w]
      revert hag
      cases d <;> simp [agD]
    have e : (pre ++ (c ++ post)).toArray.extract pre.length (pre.length + i.size) = c.toArray := by
      rw [← hs, ← hl]
      apply Array.ext'
      simp
    simp only [part, Sem.run_bind, hagg, Result.andThen_ok, if_true, Go.sizeOf, typeInfo, run_program, hi, Sem.run_pure, e]
  · refine ⟨v, ?_, h2⟩
    rw [h1] at hag
    have hagg : (isAgg T).run P w = .ok false w := by
      unfold isAgg
      rw [Sem.run_bind, run_underlying hd w]
      revert hag
      cases d <;> simp [agD]
    simp [part, hagg]
theorem field_sound {T : TypeId} {fs : Array Field} {f : Field} {d : TypeDesc} {i : TypeInfo} {j : Nat} (hT : P.underlying T = some (.struct fs)) (hf : fs[j]? = some f) (hd : P.underlying f.type = some d) (hi : P.info? f.type = some i) {u : V} {p : Value} (hu : RdT E w u p) (h : (fieldV (agD d) i.size f.offset j u).2) :
    ∃ z, (Instr.field T p j).run P w = .ok z w ∧ RdT E w (fieldV (agD d) i.size f.offset j u).1 z := by
  unfold fieldV at h ⊢
  split at h
  · obtain ⟨hj, hs, hn, hag⟩ := h
    simp only [RdT] at hu
    obtain ⟨cs, rfl, hr⟩ := hu
    simp only [RdV] at hr
    obtain ⟨ys, c, zs, rfl, h1, h2, _⟩ := hr.part hj
    rw [getD_lt hj] at hn hag ⊢
    obtain ⟨v, k1, k2⟩ := part_run (P := P) hd hi (pre := ys) (post := zs) h2 hn hag
    rw [h1, hs] at k1
    exact ⟨v, by simp [Instr.field, run_underlying hT, hf, asAgg, k1], k2⟩
  · exact h.elim
theorem idx_sound {T : TypeId} {m : Nat} {e : TypeId} {d : TypeDesc} {f : TypeInfo} (hT : P.underlying T = some (.array m e)) (hd : P.underlying e = some d) (hi : P.info? e = some f) {k : IntKind} {n : Int} {u : V} {p : Value} (hu : RdT E w u p) (h : (idxV (agD d) m f.size n u).2) :
    ∃ z, (Instr.index T p (.int k n)).run P w = .ok z w ∧ RdT E w (idxV (agD d) m f.size n u).1 z := by
  unfold idxV at h ⊢
  split at h
  · obtain ⟨hs, hl, h0, hm, hag⟩ := h
    simp only [RdT] at hu
    obtain ⟨cs, rfl, hr⟩ := hu
    simp only [RdV] at hr
    obtain ⟨hr, hU⟩ := hr
    obtain ⟨ys, c, zs, rfl, h1, h2, _⟩ := hr.part (i := n.toNat) (by omega)
    rw [getD_lt (by omega)] at hag ⊢
    obtain ⟨v, k1, k2⟩ := part_run (P := P) hd hi (pre := ys) (post := zs) h2 (by rw [hU _ (List.getElem_mem _), hs]) hag
    rw [h1, sizes_take hU (by omega), hs] at k1
    exact ⟨v, by simp [Instr.index, run_underlying hT, asIntOf, Go.sizeOf, typeInfo, hi, k1, h0, hm], k2⟩
  · exact h.elim
theorem idxA_sound (R : Rel cx E σ a w) {T e : TypeId} {f : TypeInfo} (hT : P.underlying T = some (.slice e)) (hi : P.info? e = some f) {k : IntKind} {n : Int} {u : V} {p : Value} (hu : RdT E w u p) (h : (idxAV f.size σ n u).2) :
    ∃ z, (Instr.indexAt T p (.int k n)).run P w = .ok z w ∧ RdT E w (idxAV f.size σ n u).1 z := by
  have key : ∀ (b o l c : Nat), 0 ≤ n → n < (l : Int) → (Instr.indexAt T (.slice (some ⟨b, o, none⟩) l c) (.int k n)).run P w = .ok (.pointer (some ⟨b, o + n.toNat * f.size, none⟩)) w := by
    intro b o l c h0 hl
    simp [Instr.indexAt, run_underlying hT, asIntOf, Go.sizeOf, typeInfo, hi, h0, hl, add_lit0]
  unfold idxAV at h ⊢
  split at h
  · obtain ⟨hs, h0, hl⟩ := h
    simp only [RdT, RdV] at hu
    obtain ⟨hp, hU, A, c, h1, h2, h3, h4⟩ := hu
    simp at h1
    subst h1
    obtain ⟨b, o, xs, rfl, k1, k2, k3, k4⟩ := h4 (by omega)
    refine ⟨_, key b o _ c h0 hl, ?_⟩
    obtain ⟨c', m1, m2⟩ := at_part k4 k3 (j := n.toNat) (by omega)
    rw [sizes_take hU (by omega), hs] at m1
    rw [getD_lt (by omega)]
    exact mk_rp (pures_iff.1 hp _ (List.getElem_mem _)) k1 m2 m1
  · rename_i r g
    obtain ⟨hg, hs, h0, hl⟩ := h
    obtain ⟨_, e', lv, s, l, xs, h1, _, h2, h3, h4, _, _, _, h5, _⟩ := rd_ownW R hu hg
    rw [h3] at hl
    rcases h5.2 with ⟨rfl, hn⟩ | ⟨b, cap, cur, rfl, _⟩
    · omega
    · refine ⟨_, key b 0 _ _ h0 hl, ?_⟩
      rw [Nat.zero_add]
      exact mk_ptr (g' := 0) h4 rfl
  · exact h.elim
theorem idxAA_sound (R : Rel cx E σ a w) {T e : TypeId} {m : Nat} {f : TypeInfo} (hT : P.underlying T = some (.array m e)) (hi : P.info? e = some f) {k : IntKind} {n : Int} {u : V} {p : Value} (hu : RdT E w u p) (h : (idxAAV m f.size σ n u).2) :
    ∃ z, (Instr.indexAt T p (.int k n)).run P w = .ok z w ∧ RdT E w (idxAAV m f.size σ n u).1 z := by
  have key : ∀ (b o : Nat), 0 ≤ n → n < (m : Int) → (Instr.indexAt T (.pointer (some ⟨b, o, none⟩)) (.int k n)).run P w = .ok (.pointer (some ⟨b, o + n.toNat * f.size, none⟩)) w := by
    intro b o h0 hl
    simp [Instr.indexAt, run_underlying hT, asIntOf, Go.sizeOf, typeInfo, hi, h0, hl, add_lit0, Instr.sureAddr]
  unfold idxAAV at h ⊢
  split at h
  · obtain ⟨hg, h0, hl⟩ := h
    obtain ⟨ob, u0, b, xs, k1, k2, k3, k4, k5, k6, rfl, k8, k9⟩ := rd_ptr R hu hg
    exact ⟨_, key b _ h0 hl, mk_ptr (g' := 0) k4 k6⟩
  · obtain ⟨hs, hl, h0, hm⟩ := h
    obtain ⟨h1, b, o, xs, rfl, h3, h4, h5⟩ := rd_rp hu
    simp only [RdV] at h4
    refine ⟨_, key b o h0 hm, ?_⟩
    obtain ⟨c', m1, m2⟩ := at_part h5 h4.1 (j := n.toNat) (by omega)
    rw [sizes_take h4.2 (by omega), hs] at m1
    simp only [V.pure] at h1
    rw [getD_lt (by omega)]
    exact mk_rp (pures_iff.1 h1 _ (List.getElem_mem _)) h3 m2 m1
  · exact h.elim
theorem len_sound (R : Rel cx E σ a w) {T e y : TypeId} (hT : P.underlying T = some (.slice e)) {u : V} {p : Value} (hu : RdT E w u p) (h : (lenV σ u).2) :
    ∃ z, (Builtin.len_ #[T] y #[p]).run P w = .ok z w ∧ RdT E w (lenV σ u).1 z := by
  have key : ∀ A l c, (Builtin.len_ #[T] y #[.slice A l c]).run P w = .ok (.int .i64 l) w := by
    intro A l c
    simp [Builtin.len_, run_underlying hT, goInt]
  have inl : ∀ l : Nat, l ≤ 140737488355328 → inK .i64 (l : Int) := fun l hl => inK_i64 (by omega) (by omega)
  unfold lenV at h ⊢
  split at h
  · simp only [RdT, RdV] at hu
    obtain ⟨_, _, A, c, h1, _, h3, _⟩ := hu
    simp at h1
    subst h1
    exact ⟨_, key _ _ _, rd_mk (inl _ h3)⟩
  · simp only [RdT, RdV] at hu
    simp at hu
    subst hu
    exact ⟨_, key _ _ _, rd_mk (inl 0 (by omega))⟩
  · obtain ⟨_, e', lv, s, l, xs, h1, _, h2, h3, h4, _, _, h6, h5, _⟩ := rd_ownW R hu h
    rw [h3]
    rcases h5.2 with ⟨rfl, hn⟩ | ⟨b, cap, cur, rfl, _⟩
    · rw [hn]; exact ⟨_, key _ _ _, rd_mk (inl 0 (by omega))⟩
    · exact ⟨_, key _ _ _, rd_mk (inl _ h6)⟩
  · exact h.elim
theorem ext_sound {j : Nat} {u : V} {p : Value} (hu : RdT E w u p) (h : (extV j u).2) : ∃ z, (Instr.extract p j).run P w = .ok z w ∧ RdT E w (extV j u).1 z := by
  have key : ∀ (l : List V) (vs : List Value) (j : Nat), RdTs E w l vs → ∀ hj : j < l.length, ∃ z, vs[j]? = some z ∧ RdT E w l[j] z := by
    intro l
    induction l with
    | nil => intro vs j _ hj; simp at hj
    | cons x l ih =>
      intro vs j h hj
      simp only [RdTs] at h
      obtain ⟨v, ys, rfl, h1, h2⟩ := h
      cases j with
      | zero => exact ⟨v, rfl, h1⟩
      | succ j => obtain ⟨z, k1, k2⟩ := ih ys j h2 (by simpa using hj); exact ⟨z, by simpa using k1, by simpa using k2⟩
  unfold extV at h ⊢
  split at h
  · simp only [RdT] at hu
    obtain ⟨vs, rfl, h1⟩ := hu
    obtain ⟨z, k1, k2⟩ := key _ _ j h1 h
    exact ⟨z, by simp [Instr.extract, k1], by rw [getD_lt h]; exact k2⟩
  · exact h.elim
theorem pick_sound {c u v : V} {p q r : Value} (hc : RdT E w c p) (hu : RdT E w u q) (hv : RdT E w v r) (h : (pickV c u v).2) : ∃ z, (do pure (.value (if ← asBool p then q else r)) : Sem Next).run P w = .ok (.value z) w ∧ RdT E w (pickV c u v).1 z := by
  unfold pickV at h ⊢
  split at h
  · obtain rfl := rd_bool hc
    exact ⟨q, by simp [asBool], hu⟩
  · obtain rfl := rd_bool hc
    exact ⟨r, by simp [asBool], hv⟩
  · exact h.elim
theorem u8s_rd : ∀ {l : List V} {xs : List Value}, l.all isU8 = true → RdL E w l xs → xs = (l.map numV).map (Value.int .u8) ∧ ∀ n ∈ l.map numV, inK .u8 n
  | [], xs, _, h => by simp only [RdL] at h; simp [h]
  | x :: l, xs, hu, h => by
    simp only [List.all_cons, Bool.and_eq_true] at hu
    simp only [RdL] at h
    obtain ⟨c, ys, rfl, h1, h2⟩ := h
    obtain ⟨k1, k2⟩ := u8s_rd hu.2 h2
    have hx : ∃ n, x = .int .u8 n := by
      have := hu.1
      unfold isU8 at this
      split at this
      · exact ⟨_, rfl⟩
      · cases this
    obtain ⟨n, rfl⟩ := hx
    simp only [RdV] at h1
    refine ⟨by rw [h1.1, k1]; simp [numV], fun m hm => ?_⟩
    simp only [List.map_cons, List.mem_cons, numV] at hm
    rcases hm with rfl | hm
    · exact h1.2
    · exact k2 m hm
theorem str_sound {src e dst : TypeId} (hs : P.underlying src = some (.slice e)) (he : P.underlying e = some (.int .u8)) (hd : P.underlying dst = some .string) {u : V} {p : Value} (hu : RdT E w u p) (h : (strV u).2) : ∃ z, (convert src dst p).run P w = .ok z w ∧ RdT E w (strV u).1 z := by
  unfold strV at h ⊢
  split at h
  · rename_i t s l
    obtain ⟨rfl, h8⟩ := h
    simp only [RdT, RdV] at hu
    obtain ⟨hp, hU, A, c, h1, h2, h3, h4⟩ := hu
    simp at h1
    subst h1
    have hsl : SlV (Sh.int .u8) (fun _ => True) w (l.map numV) (.slice A (l.map numV).length c) := by
      refine ⟨A, c, rfl, by simpa using h2, by simpa using h3, fun h0 => ?_⟩
      obtain ⟨b, o, xs, rfl, _, _, hr, ha⟩ := h4 (by simpa using h0)
      obtain ⟨e1, e2⟩ := u8s_rd h8 hr
      have hlt : b < w.heap.size := by
        have h0' : 0 < (l.map numV).length := h0
        have := ha 0 (.int .u8 ((l.map numV)[0]'h0')) (by rw [e1, List.getElem?_map, List.getElem?_eq_getElem h0']; rfl)
        exact World.block_lt_of_cell? w _ this
      refine ⟨b, o, rfl, trivial, hlt, fun i hi => ⟨_, ⟨rfl, e2 _ (List.getElem_mem hi)⟩, fun j v hv => ?_⟩⟩
      cases j with
      | zero =>
        simp at hv
        subst hv
        have := ha i (.int .u8 ((l.map numV)[i]'hi)) (by rw [e1, List.getElem?_map, List.getElem?_eq_getElem hi]; rfl)
        simpa [Sh.int] using this
      | succ j => simp at hv
    have := run_str (P := P) src e dst hs he hd hsl
    refine ⟨_, by simpa using this, ?_⟩
    simp [RdT, RdV]
  · simp only [RdT, RdV] at hu
    simp at hu
    subst hu
    have := run_str (P := P) src e dst hs he hd (SlV.nil (Sh.int .u8) (fun _ => True) w)
    exact ⟨_, this, by simp [RdT, RdV]⟩
  · exact h.elim
theorem run_part_scalar {t : TypeId} {d : TypeDesc} (h : P.underlying t = some d) (hd : agD d = false) {cs : Array Value} {off : Nat} {v : Value} (hx : cs[off]? = some v) : (part t cs off).run P w = .ok v w := by
  unfold part isAgg
  cases d <;> simp [agD] at hd <;> simp [run_underlying h, hx]
theorem eqFl_sound {d : Nat} : ∀ {fs : List Field} {ks : List (Option IntKind)} {i : Nat} (_ : flatFs P i fs = some ks) {a b : List V} {px py xs ys : List Value}, px.length = i → py.length = i → RdL E w a xs → RdL E w b ys → (eqFl ks a b).2 →
    (Op.eqFields (d + 1) (px ++ xs).toArray (py ++ ys).toArray fs).run P w = .ok (eqFl ks a b).1 w
  | [], ks, i, hk, a, b, px, py, xs, ys, _, _, _, _, h => by
    simp only [flatFs, Option.some.injEq] at hk
    subst hk
    unfold eqFl at h ⊢
    split at h
    · simp [Op.eqFields]
    · rename_i e1 _ _; cases e1
    · rename_i e1 _ _; cases e1
    · exact h.elim
  | f :: fs, ks, i, hk, a, b, px, py, xs, ys, hpx, hpy, ha, hb, h => by
    simp only [flatFs] at hk
    split at hk
    · rename_i hf
      have key : ∀ {u v : Value} {xs' ys' : List Value}, (px ++ (u :: xs')).toArray[f.offset]? = some u ∧ (py ++ (v :: ys')).toArray[f.offset]? = some v := by
        intro u v xs' ys'
        rw [hf.2]
        constructor
        · simp [← hpx]
        · simp [← hpy]
      split at hk
      · rename_i k l hu hl
        cases hk
        unfold eqFl at h ⊢
        split at h
        · rename_i e; cases e
        · rename_i ks' k1 m a' k2 n b' e1
          cases e1
          obtain ⟨rfl, h⟩ := h
          simp only [RdL, RdV] at ha hb
          obtain ⟨c, xs', rfl, ⟨rfl, _⟩, ha⟩ := ha
          obtain ⟨c', ys', rfl, ⟨rfl, _⟩, hb⟩ := hb
          have ih := eqFl_sound (d := d) hl (px := px ++ [.int k1 m]) (py := py ++ [.int k1 n]) (by simp [hpx]) (by simp [hpy]) ha hb h
          have kk := key (u := .int k1 m) (v := .int k1 n) (xs' := xs') (ys' := ys')
          simp only [List.cons_append, List.nil_append, List.append_assoc] at ih ⊢
          simp only [Op.eqFields, if_pos hf.1, Sem.run_bind, run_part_scalar (P := P) (w := w) hu rfl kk.1, run_part_scalar (P := P) (w := w) hu rfl kk.2, Result.andThen_ok, run_equalIn_int w d f.type k1 k m n hu]
          by_cases e : m = n
          · subst e
            simp [ih]
          · simp [e]
        · rename_i e1; cases e1
        · exact h.elim
      · rename_i l hu hl
        cases hk
        unfold eqFl at h ⊢
        split at h
        · rename_i e; cases e
        · rename_i e1; cases e1
        · rename_i ks' m a' n b' e1
          cases e1
          simp only [RdL, RdV] at ha hb
          obtain ⟨c, xs', rfl, rfl, ha⟩ := ha
          obtain ⟨c', ys', rfl, rfl, hb⟩ := hb
          have ih := eqFl_sound (d := d) hl (px := px ++ [.bool m]) (py := py ++ [.bool n]) (by simp [hpx]) (by simp [hpy]) ha hb h
          have kk := key (u := .bool m) (v := .bool n) (xs' := xs') (ys' := ys')
          simp only [List.cons_append, List.nil_append, List.append_assoc] at ih ⊢
          simp only [Op.eqFields, if_pos hf.1, Sem.run_bind, run_part_scalar (P := P) (w := w) hu rfl kk.1, run_part_scalar (P := P) (w := w) hu rfl kk.2, Result.andThen_ok, run_equalIn_bool' w d f.type m n hu]
          by_cases e : m = n
          · subst e
            simp [ih]
          · simp [e]
        · exact h.elim
      · cases hk
    · cases hk
theorem eqs_sound {op : BinOp} {T : TypeId} {x y : Operand} {neg : Bool} {ks : List (Option IntKind)} (he : eqOp P T op = some (neg, ks)) {u v : V} {p q : Value} (hu : RdT E w u p) (hv : RdT E w v q) (h : (eqsV neg ks u v).2) :
    ∃ z, (do eqGuard op T x y p q; binOp op T p q : Sem Value).run P w = .ok z w ∧ RdT E w (eqsV neg ks u v).1 z := by
  unfold eqsV at h ⊢
  split at h
  · rename_i a b
    simp only [RdT, RdV] at hu hv
    obtain ⟨cs, rfl, hu⟩ := hu
    obtain ⟨ds, rfl, hv⟩ := hv
    have hfl : flatKs P T = some ks ∧ ((op = .eql ∧ neg = false) ∨ (op = .neq ∧ neg = true)) := by
      cases op <;> simp only [eqOp, Option.map_eq_some_iff, Prod.mk.injEq, reduceCtorEq] at he
      · obtain ⟨l, h1, h2, h3⟩ := he
        subst h3
        exact ⟨h1, .inl ⟨rfl, h2.symm⟩⟩
      · obtain ⟨l, h1, h2, h3⟩ := he
        subst h3
        exact ⟨h1, .inr ⟨rfl, h2.symm⟩⟩
    obtain ⟨hfk, hop⟩ := hfl
    unfold flatKs at hfk
    split at hfk
    · rename_i fs hT
      split at hfk
      · rename_i hg
        have hfo : P.fieldsOf T = fs := by unfold Program.fieldsOf; rw [hT]
        have hrun := eqFl_sound (P := P) (E := E) (w := w) (d := 9998) hfk (px := []) (py := []) rfl rfl hu hv h
        simp only [List.nil_append] at hrun
        have heq : (Op.equalIn 10000 T (.agg cs.toArray) (.agg ds.toArray)).run P w = .ok (eqFl ks a b).1 w := by
          rw [show (10000 : Nat) = 9999 + 1 from rfl, run_equalIn_agg w 9999 T _ _ (by rw [hfo]; exact hT) hg.2, hfo]
          exact hrun
        rcases hop with ⟨rfl, rfl⟩ | ⟨rfl, rfl⟩
        · refine ⟨.bool (eqFl ks a b).1, ?_, rd_mkb _⟩
          simp only [Sem.run_bind, run_eqGuard_agg w .eql T x y _ _ hg.1, Result.andThen_ok, run_eql_struct, heq]
        · refine ⟨.bool (!(eqFl ks a b).1), ?_, rd_mkb _⟩
          simp only [Sem.run_bind, run_eqGuard_agg w .neq T x y _ _ hg.1, Result.andThen_ok, run_neq_struct, heq]
      · cases hfk
    · cases hfk
  · exact h.elim
theorem opP_sound {o : Oper} {m : POp} (hc : compP P o.op = some m) (R : Rel cx E σ a w) (h : (aopP σ m).2) : ∃ v, (execOp a.eval o).run P w = .ok (.value v) w ∧ RdT E w (aopP σ m).1 v := by
  obtain ⟨dst, op, ty, pos, after, guard⟩ := o
  simp only at hc
  unfold compP at hc
  split at hc
  case h_1 =>
    simp only [Option.map_eq_some_iff] at hc
    obtain ⟨x, hx, rfl⟩ := hc
    exact ⟨_, rfl, compX_rd R hx⟩
  case h_2 =>
    simp only [Option.map_eq_some_iff] at hc
    obtain ⟨x, hx, rfl⟩ := hc
    exact ⟨_, rfl, compX_rd R hx⟩
  case h_3 =>
    split at hc
    · rename_i neg ks he
      simp only [Option.map_eq_some_iff, Option.bind_eq_some_iff] at hc
      obtain ⟨x, hx, y, hy, rfl⟩ := hc
      obtain ⟨z, h1, h2⟩ := eqs_sound (P := P) (x := _) (y := _) he (compX_rd R hx) (compX_rd R hy) h
      refine ⟨z, ?_, h2⟩
      simp only [execOp]
      rw [Sem.run_bind]
      erw [h1]
      rfl
    simp only [Option.map_eq_some_iff, Option.bind_eq_some_iff] at hc
    obtain ⟨x, hx, y, hy, rfl⟩ := hc
    obtain ⟨z, h1, h2⟩ := bin_sound (P := P) (x := _) (y := _) (compX_rd R hx) (compX_rd R hy) h
    refine ⟨z, ?_, h2⟩
    simp only [execOp]
    rw [Sem.run_bind]
    erw [h1]
    rfl
  case h_4 =>
    simp only [Option.map_eq_some_iff] at hc
    obtain ⟨x, hx, rfl⟩ := hc
    obtain ⟨z, h1, h2⟩ := un_sound (P := P) (compX_rd R hx) h
    exact ⟨z, by simp only [execOp, Sem.run_bind, h1, Result.andThen_ok, Sem.run_pure], h2⟩
  case h_5 =>
    simp only [Option.map_eq_some_iff, Option.bind_eq_some_iff] at hc
    obtain ⟨c, hcc, x, hx, y, hy, rfl⟩ := hc
    obtain ⟨z, h1, h2⟩ := pick_sound (P := P) (compX_rd R hcc) (compX_rd R hx) (compX_rd R hy) h
    exact ⟨z, h1, h2⟩
  case h_6 =>
    split at hc
    · rename_i h1 h2
      simp only [Option.map_eq_some_iff] at hc
      obtain ⟨x, hx, rfl⟩ := hc
      obtain ⟨k, n, e1, _, e2⟩ := onInt_some h
      have hr := compX_rd R hx
      rw [e1] at hr
      obtain ⟨e3, e4⟩ := rd_int hr
      refine ⟨.int _ (IntKind.wrap _ n), by simp only [execOp, e3, convert, Sem.run_bind, run_underlying h1, run_underlying h2, Result.andThen_ok, Conv.intToInt, Sem.run_pure]; rfl, ?_⟩
      show RdT E w (onInt _ _).1 _
      rw [e2]
      exact rd_mk (wrap_inK _ _)
    · rename_i h1 h2
      split at hc
      · rename_i h3
        simp only [Option.map_eq_some_iff] at hc
        obtain ⟨x, hx, rfl⟩ := hc
        obtain ⟨z, k1, k2⟩ := str_sound (P := P) h1 h3 h2 (compX_rd R hx) h
        exact ⟨z, by simp only [execOp, Sem.run_bind, k1, Result.andThen_ok, Sem.run_pure], k2⟩
      · cases hc
    · cases hc
  case h_7 =>
    simp only [Option.map_eq_some_iff] at hc
    obtain ⟨x, hx, rfl⟩ := hc
    have hr := compX_rd R hx
    have h' : (nilcV σ (x.ev σ)).2 := h
    show ∃ v, _ ∧ RdT E w (nilcV σ (x.ev σ)).1 v
    unfold nilcV at h' ⊢
    split at h'
    · rename_i e1
      rw [e1] at hr
      obtain ⟨ob, u0, b, xs, k1, k2, k3, k4, k5, k6, e2, k8, k9⟩ := rd_ptr R hr h'
      refine ⟨_, ?_, hr⟩
      rw [e2]
      simp only [execOp, e2, Sem.run_pure]
    · rename_i e1
      rw [e1] at hr
      obtain ⟨h1, b, o, xs, e2, h3, h4, h5⟩ := rd_rp hr
      refine ⟨_, ?_, hr⟩
      rw [e2]
      simp only [execOp, e2, Sem.run_pure]
    · exact h'.elim
  case h_8 =>
    split at hc
    · rename_i h1 h2
      simp only [Option.map_eq_some_iff] at hc
      obtain ⟨x, hx, rfl⟩ := hc
      obtain ⟨z, k1, k2⟩ := load_sound (P := P) R h1 h2 (compX_rd R hx) h
      exact ⟨z, by simp only [execOp, Sem.run_bind, k1, Result.andThen_ok, Sem.run_pure], k2⟩
    · cases hc
  case h_9 =>
    split at hc
    · rename_i h1
      split at hc
      · rename_i h2
        split at hc
        · rename_i h3
          split at hc
          · cases hc
          · rename_i h4
            simp only [Option.map_eq_some_iff] at hc
            obtain ⟨x, hx, rfl⟩ := hc
            obtain ⟨z, k1, k2⟩ := fieldA_sound (P := P) R h1 h2 h3 h4 (compX_rd R hx) h
            exact ⟨z, by simp only [execOp, Sem.run_bind, k1, Result.andThen_ok, Sem.run_pure], k2⟩
        · cases hc
      · cases hc
    · cases hc
  case h_10 =>
    split at hc
    · rename_i h1
      split at hc
      · rename_i h2
        split at hc
        · rename_i h3 h4
          simp only [Option.map_eq_some_iff] at hc
          obtain ⟨x, hx, rfl⟩ := hc
          obtain ⟨z, k1, k2⟩ := field_sound (P := P) h1 h2 h3 h4 (compX_rd R hx) h
          exact ⟨z, by simp only [execOp, Sem.run_bind, k1, Result.andThen_ok, Sem.run_pure], k2⟩
        · cases hc
      · cases hc
    · cases hc
  case h_11 =>
    split at hc
    · rename_i h1
      split at hc
      · rename_i h2
        simp only [Option.map_eq_some_iff, Option.bind_eq_some_iff] at hc
        obtain ⟨x, hx, y, hy, rfl⟩ := hc
        obtain ⟨k, n, e1, e3, e2⟩ := onInt_some h
        have hr := compX_rd R hy
        rw [e1] at hr
        obtain ⟨e4, _⟩ := rd_int hr
        obtain ⟨z, k1, k2⟩ := idxA_sound (P := P) R h1 h2 (k := k) (compX_rd R hx) e3
        refine ⟨z, by simp only [execOp, Sem.run_bind, e4, k1, Result.andThen_ok, Sem.run_pure], ?_⟩
        show RdT E w (onInt _ _).1 _
        rw [e2]
        exact k2
      · cases hc
    · rename_i h1
      split at hc
      · rename_i h2
        simp only [Option.map_eq_some_iff, Option.bind_eq_some_iff] at hc
        obtain ⟨x, hx, y, hy, rfl⟩ := hc
        obtain ⟨k, n, e1, e3, e2⟩ := onInt_some h
        have hr := compX_rd R hy
        rw [e1] at hr
        obtain ⟨e4, _⟩ := rd_int hr
        obtain ⟨z, k1, k2⟩ := idxAA_sound (P := P) R h1 h2 (k := k) (compX_rd R hx) e3
        refine ⟨z, by simp only [execOp, Sem.run_bind, e4, k1, Result.andThen_ok, Sem.run_pure], ?_⟩
        show RdT E w (onInt _ _).1 _
        rw [e2]
        exact k2
      · cases hc
    · cases hc
  case h_12 =>
    split at hc
    · rename_i h1
      split at hc
      · rename_i h2 h3
        simp only [Option.map_eq_some_iff, Option.bind_eq_some_iff] at hc
        obtain ⟨x, hx, y, hy, rfl⟩ := hc
        obtain ⟨k, n, e1, e3, e2⟩ := onInt_some h
        have hr := compX_rd R hy
        rw [e1] at hr
        obtain ⟨e4, _⟩ := rd_int hr
        obtain ⟨z, k1, k2⟩ := idx_sound (P := P) h1 h2 h3 (k := k) (compX_rd R hx) e3
        refine ⟨z, by simp only [execOp, Sem.run_bind, e4, k1, Result.andThen_ok, Sem.run_pure], ?_⟩
        show RdT E w (onInt _ _).1 _
        rw [e2]
        exact k2
      · cases hc
    · rename_i h1
      simp only [Option.map_eq_some_iff, Option.bind_eq_some_iff] at hc
      obtain ⟨x, hx, y, hy, rfl⟩ := hc
      obtain ⟨k, n, e1, e3, e2⟩ := onInt_some h
      have hr := compX_rd R hy
      rw [e1] at hr
      obtain ⟨e4, _⟩ := rd_int hr
      have hX := compX_rd R hx
      have e3 : (idxSV n (x.ev σ)).2 := e3
      have e2 : onInt (fun k => idxSV k (x.ev σ)) (y.ev σ) = idxSV n (x.ev σ) := by rw [e1]; rfl
      show ∃ v, _ ∧ RdT E w (onInt (fun k => idxSV k (x.ev σ)) (y.ev σ)).1 v
      rw [e2]
      unfold idxSV at e3 ⊢
      split at e3
      · rename_i s q1
        rw [q1] at hX
        simp only [RdT, RdV, List.cons.injEq, and_true] at hX
        have e3 : 0 ≤ n ∧ n < (s.size : Int) := e3
        have hlt : n.toNat < s.size := by omega
        refine ⟨.int .u8 (s[n.toNat]'hlt).toNat, by simp only [execOp, Sem.run_bind, e4, hX, run_index_string w _ s k n h1, dif_pos e3, Result.andThen_ok, Sem.run_pure], ?_⟩
        have e5 : (s[n.toNat]?.getD 0) = s[n.toNat]'hlt := by simp [hlt]
        rw [e5]
        refine rd_mk ?_
        have := (s[n.toNat]'hlt).toNat_lt
        unfold inK
        simp [IntKind.min, IntKind.max, IntKind.signed, IntKind.bits]
        omega
      · exact e3.elim
    · cases hc
  case h_13 =>
    simp only [Option.map_eq_some_iff] at hc
    obtain ⟨x, hx, rfl⟩ := hc
    obtain ⟨z, k1, k2⟩ := ext_sound (P := P) (compX_rd R hx) h
    exact ⟨z, by simp only [execOp, Sem.run_bind, k1, Result.andThen_ok, Sem.run_pure], k2⟩
  case h_14 b as ts =>
    split at hc
    · rename_i x t e1 e2
      obtain ⟨as⟩ := as
      obtain ⟨ts⟩ := ts
      simp only at e1 e2
      subst e1 e2
      split at hc
      · rename_i h1
        simp only [Option.map_eq_some_iff] at hc
        obtain ⟨y, hx, rfl⟩ := hc
        obtain ⟨z, k1, k2⟩ := len_sound (P := P) R (y := ty) h1 (compX_rd R hx) h
        exact ⟨z, by simp [execOp, resolve, invoke, builtin, k1], k2⟩
      · rename_i h1
        simp only [Option.map_eq_some_iff] at hc
        obtain ⟨y, hx, rfl⟩ := hc
        have hX := compX_rd R hx
        have h' : (lenSV (y.ev σ)).2 := h
        show ∃ v, _ ∧ RdT E w (lenSV (y.ev σ)).1 v
        unfold lenSV at h' ⊢
        split at h'
        · rename_i q1
          rw [q1] at hX
          simp only [RdT, RdV, List.cons.injEq, and_true] at hX
          exact ⟨_, by simp [execOp, resolve, invoke, builtin, Builtin.len_, run_underlying h1, goInt, hX], rd_mk h'⟩
        · exact h'.elim
      · rename_i h1
        cases hc
        exact ⟨_, by simp [execOp, resolve, invoke, builtin, Builtin.len_, run_underlying h1, goInt], rd_mk h⟩
      · rename_i h1
        split at hc
        · rename_i h2
          cases hc
          exact ⟨_, by simp [execOp, resolve, invoke, builtin, Builtin.len_, run_underlying h1, run_underlying h2, goInt], rd_mk h⟩
        · cases hc
      · cases hc
    · rename_i x y e1
      obtain ⟨as⟩ := as
      have e1 : as = [x, y] := e1
      subst e1
      simp only [Option.map_eq_some_iff, Option.bind_eq_some_iff] at hc
      obtain ⟨x', hx, y', hy, rfl⟩ := hc
      have hX := compX_rd R hx
      have hY := compX_rd R hy
      have h' : (mxV (x'.ev σ) (y'.ev σ)).2 := h
      show ∃ v, _ ∧ RdT E w (mxV (x'.ev σ) (y'.ev σ)).1 v
      unfold mxV at h' ⊢
      split at h'
      · rename_i q1 q2
        rw [q1] at hX
        rw [q2] at hY
        obtain ⟨r1, r2⟩ := rd_int hX
        obtain ⟨r3, r4⟩ := rd_int hY
        subst h'
        exact ⟨_, by simp [execOp, resolve, invoke, builtin, Builtin.max_, Builtin.max2, r1, r3], rd_mk (by split <;> assumption)⟩
      · exact h'.elim
    · rename_i x y e1
      obtain ⟨as⟩ := as
      have e1 : as = [x, y] := e1
      subst e1
      simp only [Option.map_eq_some_iff, Option.bind_eq_some_iff] at hc
      obtain ⟨x', hx, y', hy, rfl⟩ := hc
      have hX := compX_rd R hx
      have hY := compX_rd R hy
      have h' : (mnV (x'.ev σ) (y'.ev σ)).2 := h
      show ∃ v, _ ∧ RdT E w (mnV (x'.ev σ) (y'.ev σ)).1 v
      unfold mnV at h' ⊢
      split at h'
      · rename_i q1 q2
        rw [q1] at hX
        rw [q2] at hY
        obtain ⟨r1, r2⟩ := rd_int hX
        obtain ⟨r3, r4⟩ := rd_int hY
        subst h'
        exact ⟨_, by simp [execOp, resolve, invoke, builtin, Builtin.min_, Builtin.min2, r1, r3], rd_mk (by split <;> assumption)⟩
      · exact h'.elim
    · cases hc
  case h_15 f fst cap =>
    split at hc
    · rename_i e
      subst e
      simp only [Option.map_eq_some_iff] at hc
      obtain ⟨xs, hx, rfl⟩ := hc
      have hX := compXs_rd0 R hx
      refine ⟨.func (.func f) #[] (cap.map a.eval), by simp [execOp, Instr.makeFunc], ?_⟩
      show RdT E w (.clo f (xs.map (X.ev σ))) _
      simp only [RdT]
      exact ⟨cap.toList.map a.eval, by rw [← Array.toList_map, Array.toArray_toList], hX⟩
    · cases hc
  case h_16 => cases hc
end
end Rdn.Dp
