/- Values that go into memory: rows of the call's own that stand in them are not written any more. Over any program. -/
import Derived.Test.YtkfpcgkmemfdaaaDe
namespace Rdn.Dp
open Go Go.RowKit Rdn
set_option linter.unusedVariables false
mutual
def V.ids : V → List Nat
  | .own r _ => [r]
  | .ptr r _ _ _ => [r]
  | .agg l => V.idss l
  | .tup l => V.idss l
  | .clo f l => V.idss l
  | .arr _ _ => []
  | .sl _ _ _ => []
  | .int _ _ => []
  | .bool _ => []
  | .str _ => []
  | .nilS => []
  | .rp _ => []
  | .fn _ => []
  | .junk => []
def V.idss : List V → List Nat
  | [] => []
  | x :: l => x.ids ++ V.idss l
end
def AS.frz (σ : AS) : List Nat → AS
  | [] => σ
  | r :: l => (σ.upd r Ob.freeze).frz l
/-- The slot i is read as what nobody writes. -/
def AS.calm (σ : AS) (i : Nat) : AS := match V.ids (slotV σ.t i) with
  | [] => σ
  | r :: l => ⟨σ.n, (i, (slotV σ.t i).res σ []) :: σ.t, (σ.frz (r :: l)).ob⟩
def calmOk (σ : AS) (i : Nat) : Prop := match V.ids (slotV σ.t i) with
  | [] => True
  | _ :: _ => V.resOk σ (slotV σ.t i)
def calms : AS → List X → AS × Prop
  | σ, [] => (σ, True)
  | σ, .c _ :: l => calms σ l
  | σ, .t i :: l => ((calms (σ.calm i) l).1, calmOk σ i ∧ (calms (σ.calm i) l).2)
def calmS (σ : AS) (y : X) : V → AS × Prop
  | .ptr r _ _ _ => match σ.ob[r]? with
    | some ⟨.row _, _, _, _⟩ => calms σ [y]
    | _ => (σ, True)
  | _ => (σ, True)
def calmM (σ : AS) : MOp → AS × Prop
  | .buildS _ _ _ _ ps => calms σ (ps.map (·.2))
  | .store _ x y => calmS σ y (x.ev σ)
  | .box _ _ => (σ, True)
  | .alloc _ _ => (σ, True)
  | .build _ _ _ => (σ, True)
  | .sl _ _ _ _ _ => (σ, True)
  | .slA _ _ _ _ _ _ => (σ, True)
  | .mkS _ _ _ _ _ _ => (σ, True)
  | .app _ _ _ _ _ => (σ, True)
  | .bytes _ => (σ, True)
section
variable {cx : Cx} {E : Env} {σ : AS} {a : Act} {w : World}
theorem frz_t (l : List Nat) : ∀ σ : AS, (σ.frz l).t = σ.t ∧ (σ.frz l).n = σ.n := by
  induction l with
  | nil => intro σ; exact ⟨rfl, rfl⟩
  | cons r l ih => intro σ; exact ih _
theorem upd_get {σ : AS} {r r' : Nat} : (σ.upd r Ob.freeze).ob[r']? = if r = r' then (σ.ob[r']?).map Ob.freeze else σ.ob[r']? := by
  unfold AS.upd
  cases h : σ.ob[r]? with
  | none =>
    simp only []
    split
    · rename_i e; subst e; rw [h]; rfl
    · rfl
  | some o =>
    have rl : r < σ.ob.length := (List.getElem?_eq_some_iff.1 h).1
    simp only []
    split
    · rename_i e; subst e; rw [List.getElem?_set_self rl, h]; rfl
    · rename_i e; rw [List.getElem?_set_ne e]
theorem upd_row {σ : AS} {r q g : Nat} : rowV (σ.upd r Ob.freeze) q g = rowV σ q g := by
  unfold rowV
  rw [upd_get]
  by_cases e : r = q
  · rw [if_pos e]
    cases h : σ.ob[q]? with
    | none => rfl
    | some o =>
      obtain ⟨k, lv, g', v⟩ := o
      cases k <;> cases v <;> rfl
  · rw [if_neg e]
mutual
theorem upd_res {r : Nat} : ∀ x : V, x.res (σ.upd r Ob.freeze) [] = x.res σ []
  | .own q g => by simp only [V.res, List.idxOf?_nil, upd_row]
  | .agg l => by simp only [V.res, upd_ress l]
  | .tup l => by simp only [V.res, upd_ress l]
  | .clo f l => by simp only [V.res, upd_ress l]
  | .int _ _ => rfl
  | .bool _ => rfl
  | .str _ => rfl
  | .nilS => rfl
  | .arr _ _ => rfl
  | .sl _ _ _ => rfl
  | .ptr _ _ _ _ => rfl
  | .rp _ => rfl
  | .fn _ => rfl
  | .junk => rfl
theorem upd_ress {r : Nat} : ∀ l : List V, V.ress (σ.upd r Ob.freeze) [] l = V.ress σ [] l
  | [] => rfl
  | x :: l => by simp only [V.ress, upd_res x, upd_ress l]
end
mutual
theorem upd_resOk {r : Nat} : ∀ x : V, V.resOk (σ.upd r Ob.freeze) x = V.resOk σ x
  | .own q g => by simp only [V.resOk, upd_row]
  | .agg l => by simp only [V.resOk, upd_ressOk l]
  | .tup l => by simp only [V.resOk, upd_ressOk l]
  | .clo f l => by simp only [V.resOk, upd_ressOk l]
  | .int _ _ => rfl
  | .bool _ => rfl
  | .str _ => rfl
  | .nilS => rfl
  | .arr _ _ => rfl
  | .sl _ _ _ => rfl
  | .ptr _ _ _ _ => rfl
  | .rp _ => rfl
  | .fn _ => rfl
  | .junk => rfl
theorem upd_ressOk {r : Nat} : ∀ l : List V, V.ressOk (σ.upd r Ob.freeze) l = V.ressOk σ l
  | [] => rfl
  | x :: l => by simp only [V.ressOk, upd_resOk x, upd_ressOk l]
end
theorem frz_res (x : V) : ∀ (l : List Nat) (σ : AS), x.res (σ.frz l) [] = x.res σ [] ∧ V.resOk (σ.frz l) x = V.resOk σ x
  | [], σ => ⟨rfl, rfl⟩
  | r :: l, σ => by
    obtain ⟨h1, h2⟩ := frz_res x l (σ.upd r Ob.freeze)
    exact ⟨h1.trans (upd_res x), h2.trans (upd_resOk x)⟩
/-- Rows that are not written any more. -/
theorem Rel.frzs : ∀ (l : List Nat) {σ : AS} {E : Env}, Rel cx E σ a w → (∀ r ∈ l, ∃ e lv g v, σ.ob[r]? = some ⟨.row e, lv, g, v⟩) →
    ∃ E', Rel cx E' (σ.frz l) a w ∧ (∀ b, E.B b → E'.B b) ∧ (∀ r ∈ l, ∀ o, (σ.frz l).ob[r]? = some o → o.live = false)
  | [], σ, E, R, _ => ⟨E, R, fun _ h => h, fun r hr => by cases hr⟩
  | r :: l, σ, E, R, h => by
    obtain ⟨e, lv, g, v, hr⟩ := h r (by simp)
    obtain ⟨u, k1, k2⟩ := R.ob r _ hr
    obtain ⟨L, R1⟩ := R.freeze (r := r) hr k1 (fun b hb => ⟨by
      unfold OkO at k2
      obtain ⟨s, l', xs, q1, q2, q3, q4, q5, q6, q7, q8⟩ := k2
      rcases q6.2 with ⟨rfl, _⟩ | ⟨g', cap, cur, rfl, m1, m2, m3⟩
      · simp [blk] at hb
      · simp only [blk, Option.some.injEq] at hb
        subst hb
        exact m1, trivial⟩)
    obtain ⟨E', R2, hB, hl⟩ := Rel.frzs l R1 (fun q hq => by
      obtain ⟨e', lv', g', v', h1⟩ := h q (by simp [hq])
      rw [upd_get, h1]
      split
      · exact ⟨e', false, g', v', rfl⟩
      · exact ⟨e', lv', g', v', rfl⟩)
    refine ⟨E', R2, fun b hb => hB b (.inl hb), fun q hq o ho => ?_⟩
    by_cases hql : q ∈ l
    · exact hl q hql o ho
    · have hqr : q = r := by
        rcases List.mem_cons.1 hq with h | h
        · exact h
        · exact absurd h hql
      subst hqr
      have keep : ∀ (l : List Nat) (σ : AS), (∀ o, σ.ob[q]? = some o → o.live = false) → ∀ o, (σ.frz l).ob[q]? = some o → o.live = false := by
        intro l
        induction l with
        | nil => intro σ h; exact h
        | cons r' l ih =>
          intro σ h o ho
          refine ih (σ.upd r' Ob.freeze) (fun o ho => ?_) o ho
          rw [upd_get] at ho
          split at ho
          · rw [Option.map_eq_some_iff] at ho
            obtain ⟨o', _, rfl⟩ := ho
            rfl
          · exact h o ho
      refine keep l (σ.upd q Ob.freeze) (fun o ho => ?_) o ho
      rw [upd_get, if_pos rfl, hr] at ho
      simp at ho
      subst ho
      rfl
/-- Frozen rows read as slices that nobody writes. -/
theorem own_calm (R : Rel cx E σ a w) {r g : Nat} {v : Value} (h : RdT E w (.own r g) v) (hg : (rowV σ r g).2.2) (hf : ∀ o, σ.ob[r]? = some o → o.live = false) : RdV E w (.sl true (rowV σ r g).1 (rowV σ r g).2.1) [v] := by
  obtain ⟨e', lv, s', l, xs, q1, q2, q3, q4, q5, q6, q7, q8, q9, q10, q11⟩ := rd_own R h hg
  have hlv := hf _ q1
  simp only at hlv
  subst hlv
  rw [q2, q3]
  simp only [RdV]
  refine ⟨q5, q6, ?_⟩
  rcases q9.2 with ⟨rfl, hn⟩ | ⟨b, cap, cur, rfl, m1, m2, m3, m4, m5, m6⟩
  · exact ⟨none, 0, by rw [hn], by omega, by omega, fun h0 => by omega⟩
  · refine ⟨_, cap, rfl, m3, q8, fun h0 => ⟨b, 0, xs, rfl, by simpa using q11 b rfl, fun _ => (R.fr b).2 m1, q10, fun j v hv => ?_⟩⟩
    rw [← m6, List.getElem?_take] at hv
    split at hv
    · simpa [World.cell?, m2] using hv
    · cases hv
mutual
theorem calm_rd (R : Rel cx E σ a w) : ∀ {x : V} {cs : List Value}, V.resOk σ x → (∀ r ∈ x.ids, ∀ o, σ.ob[r]? = some o → o.live = false) → RdV E w x cs → RdV E w (x.res σ []) cs
  | .own r g, cs, hp, hf, h => by
    have h' := h
    simp only [RdV] at h'
    obtain ⟨v, rfl, _⟩ := h'
    simp only [V.resOk] at hp
    simp only [V.res, List.idxOf?_nil]
    exact own_calm R (by simpa only [RdT] using h) hp (hf r (by simp [V.ids]))
  | .agg l, cs, hp, hf, h => by simp only [V.resOk] at hp; simp only [V.ids] at hf; simp only [RdV, V.res] at h ⊢; exact calms_rd R hp hf h
  | .arr s l, cs, hp, _, h => h
  | .sl t s l, cs, hp, _, h => h
  | .int k n, cs, _, _, h => h
  | .bool b, cs, _, _, h => h
  | .str b, cs, _, _, h => h
  | .nilS, cs, _, _, h => h
  | .ptr r g p o, cs, hp, _, h => by simp [V.resOk] at hp
  | .rp x, cs, hp, _, h => h
  | .fn f, cs, hp, _, h => h
  | .tup l, cs, hp, _, h => by simp only [RdV] at h
  | .clo f l, cs, hp, _, h => by simp only [RdV] at h
  | .junk, cs, hp, _, h => by simp only [RdV] at h
theorem calms_rd (R : Rel cx E σ a w) : ∀ {l : List V} {cs : List Value}, V.ressOk σ l → (∀ r ∈ V.idss l, ∀ o, σ.ob[r]? = some o → o.live = false) → RdL E w l cs → RdL E w (V.ress σ [] l) cs
  | [], xs, _, _, h => by simp only [RdL, V.ress] at h ⊢; exact h
  | x :: l, xs, hp, hf, h => by
    simp only [V.ressOk] at hp
    simp only [V.idss, List.mem_append] at hf
    simp only [RdL, V.ress] at h ⊢
    obtain ⟨c, ys, h1, h2, h3⟩ := h
    exact ⟨c, ys, h1, calm_rd R hp.1 (fun r hr => hf r (.inl hr)) h2, calms_rd R hp.2 (fun r hr => hf r (.inr hr)) h3⟩
end
mutual
theorem calmT_rd (R : Rel cx E σ a w) : ∀ {x : V} {v : Value}, V.resOk σ x → (∀ r ∈ x.ids, ∀ o, σ.ob[r]? = some o → o.live = false) → RdT E w x v → RdT E w (x.res σ []) v
  | .own r g, v, hp, hf, h => by
    have := calm_rd R hp hf (by simpa only [RdT] using h)
    simp only [V.res, List.idxOf?_nil] at this ⊢
    simpa only [RdT] using this
  | .agg l, v, hp, hf, h => by
    simp only [RdT] at h
    obtain ⟨cs, rfl, h⟩ := h
    have := calm_rd R hp hf h
    simp only [V.res] at this ⊢
    simp only [RdT]
    exact ⟨cs, rfl, this⟩
  | .tup l, v, hp, hf, h => by
    simp only [V.resOk] at hp
    simp only [V.ids] at hf
    simp only [RdT, V.res] at h ⊢
    obtain ⟨vs, h1, h2⟩ := h
    exact ⟨vs, h1, calmsT_rd R hp hf h2⟩
  | .clo f l, v, hp, hf, h => by
    simp only [V.resOk] at hp
    simp only [V.ids] at hf
    simp only [RdT, V.res] at h ⊢
    obtain ⟨vs, h1, h2⟩ := h
    exact ⟨vs, h1, calmsT_rd R hp.1 hf h2⟩
  | .arr s l, v, hp, _, h => h
  | .sl t s l, v, hp, _, h => h
  | .int k n, v, _, _, h => h
  | .bool b, v, _, _, h => h
  | .str b, v, _, _, h => h
  | .nilS, v, _, _, h => h
  | .ptr r g p o, v, hp, _, h => by simp [V.resOk] at hp
  | .rp x, v, hp, _, h => h
  | .fn f, v, hp, _, h => h
  | .junk, v, hp, _, h => by simp [V.resOk] at hp
theorem calmsT_rd (R : Rel cx E σ a w) : ∀ {l : List V} {vs : List Value}, V.ressOk σ l → (∀ r ∈ V.idss l, ∀ o, σ.ob[r]? = some o → o.live = false) → RdTs E w l vs → RdTs E w (V.ress σ [] l) vs
  | [], xs, _, _, h => by simp only [RdTs, V.ress] at h ⊢; exact h
  | x :: l, xs, hp, hf, h => by
    simp only [V.ressOk] at hp
    simp only [V.idss, List.mem_append] at hf
    simp only [RdTs, V.ress] at h ⊢
    obtain ⟨c, ys, h1, h2, h3⟩ := h
    exact ⟨c, ys, h1, calmT_rd R hp.1 (fun r hr => hf r (.inl hr)) h2, calmsT_rd R hp.2 (fun r hr => hf r (.inr hr)) h3⟩
end
mutual
theorem ids_rows : ∀ {x : V}, V.resOk σ x → ∀ r ∈ x.ids, ∃ e lv g v, σ.ob[r]? = some ⟨.row e, lv, g, v⟩
  | .own q g, hp, r, hr => by
    simp only [V.ids, List.mem_singleton] at hr
    subst hr
    simp only [V.resOk] at hp
    obtain ⟨e, lv, s, l, h1, _⟩ := rowV_some hp
    exact ⟨e, lv, g, _, h1⟩
  | .agg l, hp, r, hr => by simp only [V.resOk] at hp; simp only [V.ids] at hr; exact idss_rows hp r hr
  | .tup l, hp, r, hr => by simp only [V.resOk] at hp; simp only [V.ids] at hr; exact idss_rows hp r hr
  | .clo f l, hp, r, hr => by simp only [V.resOk] at hp; simp only [V.ids] at hr; exact idss_rows hp.1 r hr
  | .arr s l, hp, r, hr => by simp [V.ids] at hr
  | .sl t s l, hp, r, hr => by simp [V.ids] at hr
  | .int k n, _, r, hr => by simp [V.ids] at hr
  | .bool b, _, r, hr => by simp [V.ids] at hr
  | .str b, _, r, hr => by simp [V.ids] at hr
  | .nilS, _, r, hr => by simp [V.ids] at hr
  | .ptr q g p o, hp, r, hr => by simp [V.resOk] at hp
  | .rp x, hp, r, hr => by simp [V.ids] at hr
  | .fn f, hp, r, hr => by simp [V.ids] at hr
  | .junk, hp, r, hr => by simp [V.resOk] at hp
theorem idss_rows : ∀ {l : List V}, V.ressOk σ l → ∀ r ∈ V.idss l, ∃ e lv g v, σ.ob[r]? = some ⟨.row e, lv, g, v⟩
  | [], _, r, hr => by simp [V.idss] at hr
  | x :: l, hp, r, hr => by
    simp only [V.ressOk] at hp
    simp only [V.idss, List.mem_append] at hr
    rcases hr with hr | hr
    · exact ids_rows hp.1 r hr
    · exact idss_rows hp.2 r hr
end
theorem Rel.calm1 (R : Rel cx E σ a w) {i : Nat} (h : calmOk σ i) : ∃ E', Rel cx E' (σ.calm i) a w := by
  unfold calmOk at h
  unfold AS.calm
  split at h
  · exact ⟨E, R⟩
  · rename_i r l e
    have hrows := ids_rows h
    rw [e] at hrows
    obtain ⟨E', R', _, hl⟩ := Rel.frzs (r :: l) R hrows
    have ht := frz_t (r :: l) σ
    refine ⟨E', R'.df, ?_, fun j => ?_, R'.len, R'.ob, R'.sep, R'.lt, R'.fr, R'.old, R'.keep⟩
    · rw [R'.n, ht.2]
    · simp only [slotV]
      split
      · rename_i ej
        subst ej
        have h1 := R'.tm i
        rw [ht.1] at h1
        have h2 := frz_res (slotV σ.t i) (r :: l) σ
        have h3 := calmT_rd R' (x := slotV σ.t i) (by rw [h2.2]; exact h) (by rw [e]; exact hl) h1
        rw [h2.1] at h3
        exact h3
      · have h1 := R'.tm j
        rw [ht.1] at h1
        exact h1
theorem calm_n (i : Nat) : (σ.calm i).n = σ.n := by
  unfold AS.calm
  split <;> rfl
theorem Rel.calmL : ∀ (l : List X) {σ : AS} {E : Env}, Rel cx E σ a w → (calms σ l).2 → ∃ E', Rel cx E' (calms σ l).1 a w ∧ (calms σ l).1.n = σ.n
  | [], σ, E, R, _ => ⟨E, R, rfl⟩
  | .c _ :: l, σ, E, R, h => Rel.calmL l R h
  | .t i :: l, σ, E, R, h => by
    obtain ⟨E1, R1⟩ := R.calm1 h.1
    obtain ⟨E2, R2, h2⟩ := Rel.calmL l R1 h.2
    exact ⟨E2, R2, h2.trans (calm_n i)⟩
theorem Rel.calmO (R : Rel cx E σ a w) {m : MOp} (h : (calmM σ m).2) : ∃ E', Rel cx E' (calmM σ m).1 a w ∧ (calmM σ m).1.n = σ.n := by
  unfold calmM at h ⊢
  split at h
  · exact Rel.calmL _ R h
  · unfold calmS at h ⊢
    split at h
    · split at h
      · exact Rel.calmL _ R h
      · exact ⟨E, R, rfl⟩
    · exact ⟨E, R, rfl⟩
  all_goals exact ⟨E, R, rfl⟩
end
end Rdn.Dp
