/- append: it does what is told of it; all operations that make memory or write it. Over any program. -/
import Derived.Test.YtkfpcgkmemfdaaaDr
namespace Rdn.Dp
open Go Go.RowKit Rdn
set_option linter.unusedVariables false
section
variable {P : Program} {cx : Cx} {E : Env} {σ : AS} {a : Act} {w : World}
/-- The elements that append reads. -/
theorem src_rd (R : Rel cx E σ a w) {r0 s : Nat} {u : V} {p : Value} (hu : RdT E w u p) (h : (srcV σ r0 u).2.2) (hs : (srcV σ r0 u).1 = [] ∨ (srcV σ r0 u).2.1 = s) :
    ∃ A m c ys, p = .slice A m c ∧ m = (srcV σ r0 u).1.length ∧ V.pures (srcV σ r0 u).1 = true ∧ Unif s (srcV σ r0 u).1 ∧ RdL E w (srcV σ r0 u).1 ys ∧ m ≤ 140737488355328 ∧ (0 < m → ∃ b o, A = some ⟨b, o, none⟩ ∧ At w b o ys) := by
  unfold srcV at h hs ⊢
  split at h
  · simp only [RdT, RdV] at hu
    obtain ⟨h1, h2, A, c, h3, h4, h5, h6⟩ := hu
    simp at h3
    rename_i t s' l
    by_cases h0 : 0 < l.length
    · obtain ⟨b, o, xs, k1, k2, k3, k4, k5⟩ := h6 h0
      have : s' = s := by
        rcases hs with hs | hs
        · have hs : l = [] := hs
          rw [hs] at h0; simp at h0
        · exact hs
      subst this
      exact ⟨A, _, c, xs, h3, rfl, h1, h2, k4, h5, fun _ => ⟨b, o, k1, k5⟩⟩
    · have hl : l = [] := List.eq_nil_of_length_eq_zero (by omega)
      subst hl
      exact ⟨A, _, c, [], h3, rfl, h1, by simp [Unif], by simp [RdL], h5, fun h0 => by simp at h0⟩
  · simp only [RdT, RdV] at hu
    simp at hu
    exact ⟨none, 0, 0, [], hu, rfl, rfl, by simp [Unif], by simp [RdL], by omega, fun h0 => by simp at h0⟩
  · rename_i r g
    obtain ⟨hg, hne⟩ := h
    obtain ⟨e', lv, s', l, xs, q1, q2, q3, q4, q5, q6, q7, q8, q9, q10, q11⟩ := rd_own R hu hg
    simp only [q2, q3] at hs ⊢
    rcases q9.2 with ⟨hv, hn⟩ | ⟨b, cap, cur, hv, m1, m2, m3, m4, m5, m6⟩
    · have hl : l = [] := List.eq_nil_of_length_eq_zero (by omega)
      subst hl
      exact ⟨none, 0, 0, [], hv, rfl, rfl, by simp [Unif], by simp [RdL], by omega, fun h0 => by simp at h0⟩
    · by_cases h0 : 0 < l.length
      · have : s' = s := by
          rcases hs with hs | hs
          · rw [hs] at h0; simp at h0
          · exact hs
        subst this
        refine ⟨_, _, cap, xs, hv, rfl, q5, q6, q10, q8, fun _ => ⟨b, 0, rfl, fun j v hv => ?_⟩⟩
        rw [← m6, List.getElem?_take] at hv
        split at hv
        · simpa [World.cell?, m2] using hv
        · cases hv
      · have hl : l = [] := List.eq_nil_of_length_eq_zero (by omega)
        subst hl
        exact ⟨_, _, cap, [], hv, rfl, rfl, by simp [Unif], by simp [RdL], by simp, fun h0 => by simp at h0⟩
  · exact h.elim
theorem srcW_rd (R : Rel cx E σ a w) {r0 s : Nat} {u : V} {p : Value} (hu : RdT E w u p) (h : (srcW σ r0 u).2.2) (hs : (srcW σ r0 u).1 = [] ∨ (srcW σ r0 u).2.1 = s) :
    ∃ A m c ys, p = .slice A m c ∧ m = (srcW σ r0 u).1.length ∧ Unif s (srcW σ r0 u).1 ∧ RdL E w (srcW σ r0 u).1 ys ∧ m ≤ 140737488355328 ∧ (0 < m → ∃ b o, A = some ⟨b, o, none⟩ ∧ At w b o ys) := by
  unfold srcW at h hs ⊢
  split at h
  · rename_i t s' l
    obtain ⟨A, m, c, ys, h1, h2, h3, h4, h5⟩ := src_rd (σ := σ) (r0 := r0) (s := s) R hu (by simp [srcV]) (by simpa [srcV] using hs)
    exact ⟨A, m, c, ys, h1, h2, h4, h5⟩
  · obtain ⟨A, m, c, ys, h1, h2, h3, h4, h5⟩ := src_rd (σ := σ) (r0 := r0) (s := s) R hu (by simp [srcV]) (by simp [srcV])
    exact ⟨A, m, c, ys, h1, h2, h4, h5⟩
  · rename_i r g
    obtain ⟨hg, hne⟩ := h
    obtain ⟨_, e', lv, s', l, xs, q1, _, q2, q3, q4, q6, q7, q8, q9, q10, q11⟩ := rd_ownW R hu hg
    simp only [q2, q3] at hs ⊢
    rcases q9.2 with ⟨hv, hn⟩ | ⟨b, cap, cur, hv, m1, m2, m3, m4, m5, m6⟩
    · have hl : l = [] := List.eq_nil_of_length_eq_zero (by omega)
      subst hl
      exact ⟨none, 0, 0, [], hv, rfl, by simp [Unif], by simp [RdL], by omega, fun h0 => by simp at h0⟩
    · by_cases h0 : 0 < l.length
      · have : s' = s := by
          rcases hs with hs | hs
          · rw [hs] at h0; simp at h0
          · exact hs
        subst this
        refine ⟨_, _, cap, xs, hv, rfl, q6, q10, q8, fun _ => ⟨b, 0, rfl, fun j v hv => ?_⟩⟩
        rw [← m6, List.getElem?_take] at hv
        split at hv
        · simpa [World.cell?, m2] using hv
        · cases hv
      · have hl : l = [] := List.eq_nil_of_length_eq_zero (by omega)
        subst hl
        exact ⟨_, _, cap, [], hv, rfl, by simp [Unif], by simp [RdL], by simp, fun h0 => by simp at h0⟩
  · exact h.elim
theorem srcW_pure (R : Rel cx E σ a w) {r0 r : Nat} {e : TypeId} {lv : Bool} {g : Nat} {q : V} {u : V} {p : Value} (hu : RdT E w u p) (hg : (srcW σ r0 u).2.2) (ho : σ.ob[r]? = some ⟨.row e, lv, g, q⟩) (h : okApp σ r u) : V.pures (srcW σ r0 u).1 = true := by
  unfold srcW at hg ⊢
  split at hg
  · simp only [RdT, RdV] at hu
    exact hu.1
  · rfl
  · rename_i r1 g1
    obtain ⟨k, e', lv', s', l, xs, q1, q0, q2, q3, _⟩ := rd_ownW R hu hg.1
    simp only [q3]
    rcases q0 with ⟨_, q0⟩ | ⟨q0, _⟩
    · exact q0
    · subst q0
      simp [okApp, ho, q1] at h
  · exact hg.elim
theorem app_run {base : Nat} {t ty e : TypeId} {i : TypeInfo} {z : Value} (ht : P.underlying t = some (.slice e)) (hi : P.info? e = some i) (hz : i.zero = some z) (hzs : z.cells.size = i.size) (h0 : 0 < i.size)
    {v : Value} {n : Nat} {xs : List Value} (hown : w.ownsRow base e i.size v n xs) {A : Option Addr} {m c : Nat} {l : List V} {ys : List Value} (hm : m = l.length) (hU : Unif i.size l) (hr : RdL E w l ys) (hA : 0 < m → ∃ b o, A = some ⟨b, o, none⟩ ∧ At w b o ys)
    (hb : (n + m) * i.bytes ≤ 140737488355328) (h63 : n + m ≤ 140737488355328) (hbase : base ≤ w.heap.size) :
    ∃ v' w', (Builtin.append_ #[t, t] ty #[v, .slice A m c]).run P w = .ok v' w' ∧ w'.ownsRow base e i.size v' (n + m) (xs ++ ys) ∧ Keep (fun b => v.ownBlock = some b) w w' ∧ (v'.ownBlock = v.ownBlock ∨ v'.ownBlock = some w.heap.size) := by
  have hyl : ys.length = m * i.size := by rw [hr.len, sizes_unif hU, hm, Nat.mul_comm]
  by_cases hm0 : 0 < m
  · obtain ⟨b, o, rfl, ha⟩ := hA hm0
    obtain ⟨v', w', k1, k2, k3, _, k4⟩ := run_append_own_at (P := P) w base t ty e i z i.size i.bytes ht hi hz rfl rfl hzs h0 v n xs hown ⟨b, o, none⟩ m c ys hyl (fun j u hu => by rw [add_lit0]; exact ha j u hu) hr.one (by simp [maxLen]; omega) hb hbase
    exact ⟨v', w', k1, k2, Keep.of_grown k3 (fun g hg => hg), k4⟩
  · have hm1 : m = 0 := by omega
    subst hm1
    have hy : ys = [] := List.eq_nil_of_length_eq_zero (by simpa using hyl)
    subst hy
    rcases hown.2 with ⟨rfl, rfl⟩ | ⟨g, cap, cur, rfl, _, _, hc, _⟩
    · exact ⟨_, w, run_append_zero (P := P) w t ty e i ht hi none A 0 0 c (Nat.le_refl _), by simpa using hown, Keep.refl _ _, .inl rfl⟩
    · exact ⟨_, w, run_append_zero (P := P) w t ty e i ht hi _ A n cap c hc, by simpa using hown, Keep.refl _ _, .inl rfl⟩
theorem app_sound (R : Rel cx E σ a w) {o : Oper} {t e : TypeId} {x y : Operand} (ho : o.op = .call { callee := .builtin .append, args := #[x, y], argTypes := #[t, t] }) {i : TypeInfo} {z : Value} (ht : P.underlying t = some (.slice e)) (hi : P.info? e = some i) (hz : i.zero = some z) (hzs : z.cells.size = i.size) (h0 : 0 < i.size)
    {u v : V} (hu : RdT E w u (a.eval x)) (hv : RdT E w v (a.eval y)) (h : (appV σ e i.size i.bytes v u).2.2) : Leaves P cx E a w o (appV σ e i.size i.bytes v u).1 (appV σ e i.size i.bytes v u).2.1 := by
  have run : ∀ {v' w'}, (Builtin.append_ #[t, t] o.type #[a.eval x, a.eval y]).run P w = .ok v' w' → (execOp a.eval o).run P w = .ok (.value v') w' := by
    intro v' w' hr
    simp only [execOp, ho, resolve, invoke, builtin, Sem.run_bind, Sem.run_pure, Result.andThen_ok, List.map_toArray, List.map_cons, List.map_nil, hr]
  unfold appV at h ⊢
  split at h
  · rename_i r g
    obtain ⟨hg, hl, he, hs, hsrc, hss, hb, h63, hokA⟩ := h
    obtain ⟨kk, e', lv, s', l, xs, q1, q0, q2, q3, q4, q6, q7, q8, q9, q10, q11⟩ := rd_ownW R hu hg
    rw [q2] at hs
    subst hs
    have hlv : lv = true := by simpa [liveAt, q1] using hl
    subst hlv
    have hee : e' = e := by
      rcases q0 with ⟨rfl, _⟩ | ⟨rfl, _⟩ <;> simpa [eAt, q1] using he
    subst hee
    rw [q3] at hb h63 ⊢
    obtain ⟨A, m, c, ys, e1, e2, e4, e5, e6, e7⟩ := srcW_rd R hv hsrc hss
    obtain ⟨v', w', k1, k2, k3, k4⟩ := app_run (P := P) (ty := o.type) (c := c) ht hi hz hzs h0 q9 e2 e4 e5 e7 (by rw [e2]; exact hb) (by rw [e2]; exact h63) R.keep.size
    rw [← e1] at k1
    have hob : ∀ (v : Value) (b : Nat), blk v = some b → (∃ A n c, v = .slice A n c) → v.ownBlock = some b := by
      rintro v b hb ⟨A, n, c, rfl⟩
      cases A with
      | none => simp [blk] at hb
      | some aa => simpa [blk, Value.ownBlock] using hb
    have hob' : ∀ (v : Value) (b : Nat), v.ownBlock = some b → blk v = some b := by
      intro v b hb
      cases v <;> simp [Value.ownBlock] at hb
      rename_i A n c
      cases A with
      | none => simp at hb
      | some aa => simpa [blk] using hb
    have hsl : ∀ {w : World} {base n : Nat} {e : TypeId} {s : Nat} {v : Value} {xs : List Value}, w.ownsRow base e s v n xs → ∃ A n c, v = .slice A n c := by
      rintro w base n e s v xs ⟨_, ⟨rfl, _⟩ | ⟨g, cap, cur, rfl, _⟩⟩
      · exact ⟨_, _, _, rfl⟩
      · exact ⟨_, _, _, rfl⟩
    have hS : Keep (fun b => blk (a.eval x) = some b) w w' := k3.mono (fun b _ hb => hob' _ _ hb)
    have hB : ∀ b, E.B b → w'.heap[b]? = w.heap[b]? := fun b hb => hS.block b (R.lt b hb) (fun eq => by have := q11 b eq; simp only [if_true] at this; exact this hb)
    have L0 : Leads E w E w' := Leads.heap hB
    have hnb : ∀ b, blk v' = some b → ¬ E.B b := by
      intro b hb hB'
      have hb := hob _ _ hb (hsl k2)
      rcases k4 with k4 | k4
      · rw [k4] at hb
        have := q11 b (hob' _ _ hb)
        simp only [if_true] at this
        exact this hB'
      · rw [k4] at hb
        injection hb with hb
        have := R.lt b hB'
        omega
    have hrl : r < E.ref.length := (List.getElem?_eq_some_iff.1 q4).1
    have L1 : Leads E w { E with ref := E.ref.set r (g + 1, v') } w' := by
      refine ⟨fun b hb => ⟨hb, hB b hb⟩, fun _ h => h, by simp, fun r2 g2 u2 hr2 h2 => ?_⟩
      by_cases er : r = r2
      · subst er
        rw [List.getElem?_set_self hrl] at h2
        injection h2 with h2
        injection h2 with h2 h3
        subst h2 h3
        exact ⟨g, _, q4, by omega, fun h => by omega⟩
      · rw [List.getElem?_set_ne er] at h2
        exact ⟨g2, u2, h2, Nat.le_refl _, fun _ => rfl⟩
    have hOk : OkO cx { E with ref := E.ref.set r (g + 1, v') } w' ⟨kk, true, g + 1, .arr i.size (l ++ (srcW σ r v).1)⟩ v' := by
      rcases q0 with ⟨rfl, q5⟩ | ⟨rfl, _⟩
      · have e3 := srcW_pure R hv hsrc q1 hokA
        unfold OkO
        refine ⟨i.size, _, xs ++ ys, rfl, pures_app q5 e3, q6.app e4, h0, by simpa using h63, by rw [List.length_append, ← e2]; exact k2, RdL.cutp (pures_app q5 e3) ((q10.mono L0).app (e5.mono L0)), fun b hb => ?_⟩
        simp only [if_true]
        exact hnb b hb
      · unfold OkO
        exact ⟨rfl, i.size, _, xs ++ ys, rfl, q6.app e4, h0, by simpa using h63, by rw [List.length_append, ← e2]; exact k2, (q10.mono L1).app (e5.mono L1), fun b hb => hnb b hb⟩
    obtain ⟨L', R'⟩ := R.touch (o' := ⟨kk, true, g + 1, .arr i.size (l ++ (srcW σ r v).1)⟩) (u' := v') q1 rfl q4 hS rfl (.inr rfl) (fun b hb => by
      have hb := hob _ _ hb (hsl k2)
      rcases k4 with k4 | k4
      · rw [k4] at hb; exact .inl (hob' _ _ hb)
      · rw [k4] at hb; injection hb with hb; exact .inr (by omega)) hOk
    refine ⟨v', w', _, .inl (run k1), L', ?_, by simpa [AS.upd, q1] using R'⟩
    obtain ⟨A', n', c', rfl⟩ := hsl k2
    simp only [RdT, RdV]
    refine ⟨_, rfl, rfl, by simpa using hrl, fun gc u h => ?_⟩
    rw [List.getElem?_set_self hrl] at h
    injection h with h
    injection h with h1 h2
    exact ⟨by omega, fun _ => h2⟩
  · obtain ⟨hsrc, hss, hb, h63⟩ := h
    obtain ⟨A, m, c, ys, e1, e2, e3, e4, e5, e6, e7⟩ := src_rd R hv hsrc hss
    have hx : a.eval x = .slice none 0 0 := by simp only [RdT, RdV] at hu; simpa using hu
    obtain ⟨v', w', k1, k2, k3, k4⟩ := app_run (P := P) (ty := o.type) (c := c) ht hi hz hzs h0 (World.ownsRow_nil w cx.W.heap.size e i.size) e2 e4 e5 e7 (by rw [e2]; simpa using hb) (by rw [e2]; simpa using h63) R.keep.size
    rw [← e1, ← hx] at k1
    have hsl : ∃ A n c, v' = .slice A n c := by
      rcases k2.2 with ⟨rfl, _⟩ | ⟨g, cap, cur, rfl, _⟩
      · exact ⟨_, _, _, rfl⟩
      · exact ⟨_, _, _, rfl⟩
    have hbk : ∀ b, blk v' = some b → b = w.heap.size := by
      intro b hb
      obtain ⟨A', n', c', rfl⟩ := hsl
      rcases k4 with k4 | k4
      · cases A' with
        | none => simp [blk] at hb
        | some aa => simp [Value.ownBlock] at k4
      · cases A' with
        | none => simp [blk] at hb
        | some aa => simp [Value.ownBlock] at k4; simp [blk] at hb; omega
    have hBl : Below w.heap.size w w' := k3.below (fun b _ e => by simp [Value.ownBlock] at e) (Nat.le_refl _)
    have L0 : Leads E w E w' := Leads.heap fun b hb => hBl.block b (R.lt b hb)
    simp only [Nat.zero_add, List.nil_append] at k2
    obtain ⟨L', R'⟩ := R.new (w' := w') (o := ⟨.row e, true, 0, .arr i.size (srcV σ σ.ob.length v).1⟩) (u := v') hBl (fun b hb => by have := hbk b hb; omega) rfl rfl (by
      unfold OkO
      refine ⟨i.size, _, ys, rfl, e3, e4, h0, by simpa using h63, by rw [← e2]; exact k2, RdL.cutp e3 (e5.mono L0), fun b hb => ?_⟩
      simp only [if_true]
      intro hB
      have := R.lt b hB
      have := hbk b hb
      omega)
    refine ⟨v', w', _, .inl (run k1), L', ?_, R'⟩
    obtain ⟨A', n', c', rfl⟩ := hsl
    simp only [RdT, RdV]
    refine ⟨_, rfl, rfl, by simp [R.len], fun gc u h => ?_⟩
    rw [← R.len, List.getElem?_append_right (Nat.le_refl _)] at h
    simp at h
    obtain ⟨h1, h2⟩ := h
    subst h1
    exact ⟨Nat.le_refl _, fun _ => h2⟩
  · exact h.elim
theorem zeroOk_pure {z : V} : ∀ {cs : List Value}, zcells z = some cs → z.pure = true := by
  have key : ∀ n, (∀ z : V, sizeOf z ≤ n → ∀ cs, zcells z = some cs → z.pure = true) ∧ (∀ l : List V, sizeOf l ≤ n → ∀ cs, zcellss l = some cs → V.pures l = true) := by
    intro n
    induction n with
    | zero =>
      refine ⟨fun z hz => ?_, fun l hl => ?_⟩
      · cases z <;> simp at hz
      · cases l <;> simp at hl
    | succ n ih =>
      refine ⟨fun z hz cs h => ?_, fun l hl cs h => ?_⟩
      · cases z <;> simp only [zcells] at h <;> simp only [V.pure] <;> try (cases h; done)
        · rename_i l
          exact ih.2 l (by simp at hz; omega) cs h
        · rename_i s l
          split at h
          · exact ih.2 l (by simp at hz; omega) cs h
          · cases h
      · cases l with
        | nil => rfl
        | cons x l =>
          simp only [zcellss] at h
          split at h
          · rename_i c ys h1 h2
            simp only [V.pures, Bool.and_eq_true]
            exact ⟨ih.1 x (by simp at hl; omega) c h1, ih.2 l (by simp at hl; omega) ys h2⟩
          · cases h
  intro cs h
  exact (key _).1 z (Nat.le_refl _) cs h
theorem zeroOk_pure' {t : TypeId} {z : V} (h : zeroOk P t z = true) : z.pure = true := by
  unfold zeroOk at h
  split at h
  · split at h
    · rename_i hc; exact zeroOk_pure hc
    · cases h
  · cases h
theorem opM_sound {o : Oper} {m : MOp} (hc : compM P o.op = some m) (R : Rel cx E σ a w) (h : (aopM σ m).2.2) : Leaves P cx E a w o (aopM σ m).1 (aopM σ m).2.1 := by
  obtain ⟨dst, op, ty, pos, after, guard⟩ := o
  simp only at hc
  unfold compM at hc
  split at hc
  case h_1 =>
    simp only [Option.map_eq_some_iff] at hc
    obtain ⟨x, hx, rfl⟩ := hc
    exact box_sound R rfl (compX_rd R hx) h
  case h_2 =>
    split at hc
    · split at hc
      · cases hc
        exact alloc_sound R rfl (by assumption)
      · cases hc
    · cases hc
  case h_3 =>
    split at hc
    · rename_i h1 h2
      split at hc
      · rename_i h3
        simp only [Bool.and_eq_true] at h3
        simp only [Option.map_eq_some_iff] at hc
        obtain ⟨x, hx, rfl⟩ := hc
        exact build_sound R rfl h2 h3.1 h3.2 hx h
      · cases hc
    · rename_i h1 h2
      split at hc
      · rename_i h3
        simp only [Bool.and_eq_true] at h3
        simp only [Option.map_eq_some_iff] at hc
        obtain ⟨x, hx, rfl⟩ := hc
        exact buildA_sound R rfl h2 (of_decide_eq_true h3.2) h3.1 hx h
      · cases hc
    · cases hc
  case h_4 =>
    split at hc
    · rename_i h1
      split at hc
      · rename_i h2 h3
        split at hc
        · rename_i h4
          simp only [Bool.and_eq_true, decide_eq_true_eq] at h4
          simp only [Option.map_eq_some_iff] at hc
          obtain ⟨x, hx, rfl⟩ := hc
          exact buildS_sound R rfl h1 h2 h4.1 h4.2.1 h4.2.2.1 h4.2.2.2 hx h.1 h.2
        · cases hc
      · cases hc
    · cases hc
  case h_5 =>
    split at hc
    · rename_i h1
      simp only [Option.map_eq_some_iff, Option.bind_eq_some_iff] at hc
      obtain ⟨x, hx, y, hy, rfl⟩ := hc
      exact store_sound R rfl h1 (compX_rd R hx) (compX_rd R hy) h
    · cases hc
  case h_6 =>
    split at hc
    · rename_i h1
      split at hc
      · rename_i h2
        simp only [Option.map_eq_some_iff, Option.bind_eq_some_iff] at hc
        obtain ⟨x, hx, lo, hlo, hi, hhi, mx, hmx, rfl⟩ := hc
        exact sl_sound R rfl h1 h2 hlo hhi hmx (compX_rd R hx) h
      · cases hc
    · rename_i h1
      split at hc
      · rename_i h2
        simp only [Option.map_eq_some_iff, Option.bind_eq_some_iff] at hc
        obtain ⟨x, hx, lo, hlo, hi, hhi, mx, hmx, rfl⟩ := hc
        exact slA_sound R rfl h1 h2 hlo hhi hmx (compX_rd R hx) h
      · cases hc
    · cases hc
  case h_7 =>
    split at hc
    · rename_i h1
      split at hc
      · rename_i h2 h3
        split at hc
        · rename_i h4
          simp only [Bool.and_eq_true, decide_eq_true_eq] at h4
          simp only [Option.map_eq_some_iff, Option.bind_eq_some_iff] at hc
          obtain ⟨x, hx, y, hy, rfl⟩ := hc
          unfold aopM at h ⊢
          simp only at h ⊢
          split at h
          · rename_i k l k' c e1 e2
            have hX := compX_rd R hx
            have hY := compX_rd R hy
            rw [e1] at hX
            rw [e2] at hY
            exact mkS_sound R rfl h1 h2 h4.1 h4.2.1 h4.2.2 (zeroOk_pure' h4.1) (rd_int hX).1 (rd_int hY).1 h.1 h.2.1 h.2.2.1 h.2.2.2
          · exact h.elim
        · cases hc
      · cases hc
    · cases hc
  case h_8 b as ts =>
    split at hc
    · rename_i x y t t' e1 e2
      obtain ⟨as⟩ := as
      obtain ⟨ts⟩ := ts
      have e1 : as = [x, y] := e1
      have e2 : ts = [t, t'] := e2
      subst e1 e2
      split at hc
      · rename_i ht
        subst ht
        split at hc
        · rename_i h1
          split at hc
          · rename_i h2
            split at hc
            · rename_i h3
              split at hc
              · rename_i h4
                simp only [Option.map_eq_some_iff, Option.bind_eq_some_iff] at hc
                obtain ⟨x', hx, y', hy, rfl⟩ := hc
                exact app_sound R rfl h1 h2 h3 h4.1 h4.2 (compX_rd R hx) (compX_rd R hy) h
              · cases hc
            · cases hc
          · cases hc
        · cases hc
      · cases hc
    · cases hc
  case h_9 =>
    split at hc
    · rename_i h1 h2
      split at hc
      · rename_i h3
        simp only [Option.map_eq_some_iff] at hc
        obtain ⟨x, hx, rfl⟩ := hc
        exact bytes_sound R rfl h1 h2 h3 (compX_rd R hx) h
      · cases hc
    · cases hc
  case h_10 => cases hc
end
end Rdn.Dp
