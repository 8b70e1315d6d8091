/- Contracts of functions, told on trees; what a call takes and leaves. Over any program. -/
import Derived.Test.YtkfpcgkmemfdaaaDt
namespace Rdn.Dp
open Go Go.RowKit Rdn
set_option linter.unusedVariables false

/-- No many values among these. -/
def V.noTups : List V → Bool
  | [] => true
  | .tup _ :: _ => false
  | _ :: l => V.noTups l
mutual
/-- Slices of the call's own read as slices; those of ids stay, numbered anew. -/
def V.res (σ : AS) (ids : List Nat) : V → V
  | .own r g => match ids.idxOf? r with
    | some i => .own i 0
    | none => .sl true (rowV σ r g).1 (rowV σ r g).2.1
  | .agg l => .agg (V.ress σ ids l)
  | .tup l => .tup (V.ress σ ids l)
  | .clo f l => .clo f (V.ress σ ids l)
  | .int k n => .int k n
  | .bool b => .bool b
  | .str s => .str s
  | .nilS => .nilS
  | .arr s l => .arr s l
  | .sl t s l => .sl t s l
  | .ptr r g p o => .ptr r g p o
  | .rp x => .rp x
  | .fn f => .fn f
  | .junk => .junk
def V.ress (σ : AS) (ids : List Nat) : List V → List V
  | [] => []
  | x :: l => x.res σ ids :: V.ress σ ids l
end
mutual
def V.resOk (σ : AS) : V → Prop
  | .own r g => (rowV σ r g).2.2
  | .agg l => V.ressOk σ l
  | .tup l => V.ressOk σ l
  | .clo f l => V.ressOk σ l ∧ V.noTups l = true
  | .arr s l => V.pures l = true
  | .int _ _ => True
  | .bool _ => True
  | .str _ => True
  | .nilS => True
  | .sl _ _ _ => True
  | .fn _ => True
  | .ptr _ _ _ _ => False
  | .rp _ => True
  | .junk => False
def V.ressOk (σ : AS) : List V → Prop
  | [] => True
  | x :: l => x.resOk σ ∧ V.ressOk σ l
end
mutual
/-- Nothing is told of when a slice was made. -/
def V.low : V → V
  | .sl t s l => .sl false s (V.lows l)
  | .agg l => .agg (V.lows l)
  | .arr s l => .arr s (V.lows l)
  | .tup l => .tup (V.lows l)
  | .clo f l => .clo f (V.lows l)
  | .int k n => .int k n
  | .bool b => .bool b
  | .str s => .str s
  | .nilS => .nilS
  | .own r g => .own r g
  | .ptr r g p o => .ptr r g p o
  | .rp x => .rp x.low
  | .fn f => .fn f
  | .junk => .junk
def V.lows : List V → List V
  | [] => []
  | x :: l => x.low :: V.lows l
end
mutual
/-- All slices were made since the call began. -/
def V.fresh : V → Bool
  | .sl t s l => t && V.freshs l
  | .agg l => V.freshs l
  | .arr s l => V.freshs l
  | .tup l => V.freshs l
  | .clo f l => V.freshs l
  | .int _ _ => true
  | .bool _ => true
  | .str _ => true
  | .nilS => true
  | .fn _ => true
  | .own _ _ => true
  | .ptr _ _ _ _ => true
  | .rp _ => false
  | .junk => false
def V.freshs : List V → Bool
  | [] => true
  | x :: l => x.fresh && V.freshs l
end
mutual
/-- Objects numbered on by m. -/
def V.shift (m : Nat) : V → V
  | .own r g => .own (m + r) g
  | .agg l => .agg (V.shifts m l)
  | .tup l => .tup (V.shifts m l)
  | .clo f l => .clo f (V.shifts m l)
  | .sl t s l => .sl t s l
  | .arr s l => .arr s (V.shifts m l)
  | .int k n => .int k n
  | .bool b => .bool b
  | .str s => .str s
  | .nilS => .nilS
  | .ptr r g p o => .ptr (m + r) g p o
  | .rp x => .rp x
  | .fn f => .fn f
  | .junk => .junk
def V.shifts (m : Nat) : List V → List V
  | [] => []
  | x :: l => x.shift m :: V.shifts m l
end
mutual
theorem V.shift_size (m : Nat) : ∀ x : V, (x.shift m).size = x.size
  | .sl t s l => rfl
  | .agg l => by simp only [V.shift, V.size]; exact V.shifts_sizes m l
  | .arr s l => by simp only [V.shift, V.size, V.shifts_len m l]
  | .tup l => rfl
  | .clo f l => rfl
  | .int k n => rfl
  | .bool b => rfl
  | .str s => rfl
  | .nilS => rfl
  | .own r g => rfl
  | .ptr r g p o => rfl
  | .rp x => rfl
  | .fn f => rfl
  | .junk => rfl
theorem V.shifts_sizes (m : Nat) : ∀ l : List V, V.sizes (V.shifts m l) = V.sizes l
  | [] => rfl
  | x :: l => by simp only [V.shifts, V.sizes, V.shift_size m x, V.shifts_sizes m l]
theorem V.shifts_len (m : Nat) : ∀ l : List V, (V.shifts m l).length = l.length
  | [] => rfl
  | x :: l => by simp only [V.shifts, List.length_cons, V.shifts_len m l]
end
theorem V.shifts_map (m : Nat) (l : List V) : V.shifts m l = l.map (V.shift m) := by
  induction l with
  | nil => rfl
  | cons x l ih => simp [V.shifts, ih]
mutual
theorem V.shift_pure (m : Nat) : ∀ x : V, x.pure = true → x.shift m = x
  | .sl t s l, _ => rfl
  | .agg l, h => by simp only [V.pure] at h; simp only [V.shift, V.shifts_pure m l h]
  | .arr s l, h => by simp only [V.pure] at h; simp only [V.shift, V.shifts_pure m l h]
  | .tup l, h => by simp [V.pure] at h
  | .clo f l, h => by simp [V.pure] at h
  | .int k n, _ => rfl
  | .bool b, _ => rfl
  | .str s, _ => rfl
  | .nilS, _ => rfl
  | .own r g, h => by simp [V.pure] at h
  | .ptr r g p o, h => by simp [V.pure] at h
  | .rp x, _ => rfl
  | .fn f, _ => rfl
  | .junk, _ => rfl
theorem V.shifts_pure (m : Nat) : ∀ l : List V, V.pures l = true → V.shifts m l = l
  | [], _ => rfl
  | x :: l, h => by
    simp only [V.pures, Bool.and_eq_true] at h
    simp only [V.shifts, V.shift_pure m x h.1, V.shifts_pure m l h.2]
end
theorem lows_map (l : List V) : V.lows l = l.map V.low := by
  induction l with
  | nil => rfl
  | cons x l ih => simp [V.lows, ih]
theorem freshs_iff : ∀ {l : List V}, V.freshs l = true ↔ ∀ x ∈ l, x.fresh = true
  | [] => by simp [V.freshs]
  | x :: l => by simp [V.freshs, freshs_iff (l := l)]
mutual
theorem V.low_size : ∀ x : V, x.low.size = x.size
  | .sl t s l => rfl
  | .agg l => by simp only [V.low, V.size]; exact V.lows_sizes l
  | .arr s l => by simp only [V.low, V.size, lows_map, List.length_map]
  | .tup l => rfl
  | .clo f l => rfl
  | .int k n => rfl
  | .bool b => rfl
  | .str s => rfl
  | .nilS => rfl
  | .own r g => rfl
  | .ptr r g p o => rfl
  | .rp x => rfl
  | .fn f => rfl
  | .junk => rfl
theorem V.lows_sizes : ∀ l : List V, V.sizes (V.lows l) = V.sizes l
  | [] => rfl
  | x :: l => by simp only [V.lows, V.sizes, V.low_size x, V.lows_sizes l]
end
mutual
theorem V.low_pure : ∀ x : V, x.low.pure = x.pure
  | .sl t s l => rfl
  | .agg l => by simp only [V.low, V.pure]; exact V.lows_pures l
  | .arr s l => by simp only [V.low, V.pure]; exact V.lows_pures l
  | .tup l => rfl
  | .clo f l => rfl
  | .int k n => rfl
  | .bool b => rfl
  | .str s => rfl
  | .nilS => rfl
  | .own r g => rfl
  | .ptr r g p o => rfl
  | .rp x => rfl
  | .fn f => rfl
  | .junk => rfl
theorem V.lows_pures : ∀ l : List V, V.pures (V.lows l) = V.pures l
  | [] => rfl
  | x :: l => by simp only [V.lows, V.pures, V.low_pure x, V.lows_pures l]
end
theorem unif_lows {s : Nat} {l : List V} (h : Unif s l) : Unif s (V.lows l) := by
  intro x hx
  rw [lows_map] at hx
  obtain ⟨y, hy, rfl⟩ := List.mem_map.1 hx
  rw [V.low_size]; exact h y hy
/-- How a callee reads its arguments. -/
def argS (S : Nat → Prop) : Env := ⟨S, fun _ => False, []⟩
def argE (w : World) : Env := argS fun b => b < w.heap.size
section
variable {E : Env} {w : World}
mutual
theorem low_rd (hB : ∀ b, E.B b → b < w.heap.size) : ∀ {x : V} {cs : List Value}, x.pure = true → RdV E w x cs → RdV (argE w) w x.low cs
  | .int k n, cs, _, h => by simp only [RdV, V.low] at h ⊢; exact h
  | .bool b, cs, _, h => by simp only [RdV, V.low] at h ⊢; exact h
  | .str b, cs, _, h => by simp only [RdV, V.low] at h ⊢; exact h
  | .nilS, cs, _, h => by simp only [RdV, V.low] at h ⊢; exact h
  | .agg l, cs, hp, h => by simp only [V.pure] at hp; simp only [RdV, V.low] at h ⊢; exact lows_rd hB hp h
  | .arr s l, cs, hp, h => by simp only [V.pure] at hp; simp only [RdV, V.low] at h ⊢; exact ⟨lows_rd hB hp h.1, unif_lows h.2⟩
  | .sl t s l, cs, hp, h => by
    simp only [RdV, V.low] at h ⊢
    obtain ⟨h1, h2, A, c, h3, h4, h5, h6⟩ := h
    have hl : (V.lows l).length = l.length := by simp [lows_map]
    refine ⟨by rw [V.lows_pures]; exact h1, unif_lows h2, A, c, by rw [hl]; exact h3, by omega, by omega, fun h0 => ?_⟩
    obtain ⟨b, o, xs, hA, hb, hf, hr, ha⟩ := h6 (by omega)
    exact ⟨b, o, xs, hA, hB b hb, by simp, lows_rd hB h1 hr, ha⟩
  | .own r g, cs, hp, h => by simp [V.pure] at hp
  | .ptr r g p o, cs, hp, h => by simp [V.pure] at hp
  | .rp x, cs, hp, h => by simp [V.pure] at hp
  | .fn f, cs, hp, h => by simp [V.pure] at hp
  | .tup l, cs, hp, h => by simp [V.pure] at hp
  | .clo f l, cs, hp, h => by simp [V.pure] at hp
  | .junk, cs, hp, h => by simp [V.pure] at hp
theorem lows_rd (hB : ∀ b, E.B b → b < w.heap.size) : ∀ {l : List V} {cs : List Value}, V.pures l = true → RdL E w l cs → RdL (argE w) w (V.lows l) cs
  | [], xs, _, h => by simp only [RdL, V.lows] at h ⊢; exact h
  | a :: l, xs, hp, h => by
    simp only [V.pures, Bool.and_eq_true] at hp
    simp only [RdL, V.lows] at h ⊢
    obtain ⟨c, ys, h1, h2, h3⟩ := h
    exact ⟨c, ys, h1, low_rd hB hp.1 h2, lows_rd hB hp.2 h3⟩
end
end
section
variable {cx : Cx} {E : Env} {σ : AS} {a : Act} {w : World}
theorem own_res (R : Rel cx E σ a w) {r g : Nat} {v : Value} (h : RdT E w (.own r g) v) (hg : (rowV σ r g).2.2) : RdV (argE w) w (V.low (.sl true (rowV σ r g).1 (rowV σ r g).2.1)) [v] := by
  obtain ⟨e', lv, s', l, xs, q1, q2, q3, q4, q5, q6, q7, q8, q9, q10, q11⟩ := rd_own R h hg
  rw [q2, q3]
  simp only [V.low, RdV]
  have hl : (V.lows l).length = l.length := by simp [lows_map]
  refine ⟨by rw [V.lows_pures]; exact q5, unif_lows q6, ?_⟩
  rcases q9.2 with ⟨rfl, hn⟩ | ⟨b, cap, cur, rfl, m1, m2, m3, m4, m5, m6⟩
  · exact ⟨none, 0, by rw [hl, hn], by omega, by omega, fun h0 => by omega⟩
  · refine ⟨_, cap, by rw [hl], by omega, by omega, fun h0 => ⟨b, 0, xs, rfl, heap_lt m2, by simp, lows_rd R.lt q5 q10, fun j v hv => ?_⟩⟩
    rw [← m6, List.getElem?_take] at hv
    split at hv
    · simpa [World.cell?, m2] using hv
    · cases hv
mutual
theorem arg_rd (R : Rel cx E σ a w) : ∀ {x : V} {cs : List Value}, V.resOk σ x → RdV E w x cs → RdV (argE w) w (x.res σ []).low cs
  | .int k n, cs, _, h => by simp only [RdV, V.low, V.res] at h ⊢; exact h
  | .bool b, cs, _, h => by simp only [RdV, V.low, V.res] at h ⊢; exact h
  | .str b, cs, _, h => by simp only [RdV, V.low, V.res] at h ⊢; exact h
  | .nilS, cs, _, h => by simp only [RdV, V.low, V.res] at h ⊢; exact h
  | .agg l, cs, hp, h => by simp only [V.resOk] at hp; simp only [RdV, V.low, V.res] at h ⊢; exact args_rd R hp h
  | .arr s l, cs, hp, h => by simp only [V.res]; exact low_rd R.lt (by simpa [V.resOk, V.pure] using hp) h
  | .sl t s l, cs, hp, h => by simp only [V.res]; exact low_rd R.lt rfl h
  | .own r g, cs, hp, h => by
    have h' := h
    simp only [RdV] at h'
    obtain ⟨v, rfl, _⟩ := h'
    simp only [V.resOk] at hp
    simp only [V.res, List.idxOf?_nil]
    exact own_res R (by simpa [RdT] using h) hp
  | .ptr r g p o, cs, hp, h => by simp [V.resOk] at hp
  | .rp x, cs, hp, h => by
    simp only [RdV, V.low, V.res] at h ⊢
    obtain ⟨h1, b, o, xs, h2, h3, h4, h5⟩ := h
    exact ⟨by rw [V.low_pure]; exact h1, b, o, xs, h2, R.lt b h3, low_rd R.lt h1 h4, h5⟩
  | .fn f, cs, hp, h => by simp only [RdV, V.low, V.res] at h ⊢; exact h
  | .tup l, cs, hp, h => by simp only [RdV] at h
  | .clo f l, cs, hp, h => by simp only [RdV] at h
  | .junk, cs, hp, h => by simp only [RdV] at h
theorem args_rd (R : Rel cx E σ a w) : ∀ {l : List V} {cs : List Value}, V.ressOk σ l → RdL E w l cs → RdL (argE w) w (V.lows (V.ress σ [] l)) cs
  | [], xs, _, h => by simp only [RdL, V.lows, V.ress] at h ⊢; exact h
  | a :: l, xs, hp, h => by
    simp only [V.ressOk] at hp
    simp only [RdL, V.lows, V.ress] at h ⊢
    obtain ⟨c, ys, h1, h2, h3⟩ := h
    exact ⟨c, ys, h1, arg_rd R hp.1 h2, args_rd R hp.2 h3⟩
end
mutual
theorem argT (R : Rel cx E σ a w) : ∀ {x : V} {v : Value}, V.resOk σ x → (∀ l, x ≠ .tup l) → RdT E w x v → RdT (argE w) w (x.res σ []).low v
  | .int k n, v, hp, _, h => by have := arg_rd R hp (by simpa only [RdT] using h); simpa only [RdT, V.res, V.low] using this
  | .bool b, v, hp, _, h => by have := arg_rd R hp (by simpa only [RdT] using h); simpa only [RdT, V.res, V.low] using this
  | .str b, v, hp, _, h => by have := arg_rd R hp (by simpa only [RdT] using h); simpa only [RdT, V.res, V.low] using this
  | .nilS, v, hp, _, h => by have := arg_rd R hp (by simpa only [RdT] using h); simpa only [RdT, V.res, V.low] using this
  | .agg l, v, hp, _, h => by
    simp only [RdT] at h
    obtain ⟨cs, rfl, h⟩ := h
    have := arg_rd R hp h
    simp only [V.res, V.low] at this ⊢
    simp only [RdT]
    exact ⟨cs, rfl, this⟩
  | .arr s l, v, hp, _, h => by
    simp only [RdT] at h
    obtain ⟨cs, rfl, h⟩ := h
    have := arg_rd R hp h
    simp only [V.res, V.low] at this ⊢
    simp only [RdT]
    exact ⟨cs, rfl, this⟩
  | .sl t s l, v, hp, _, h => by have := arg_rd R hp (by simpa only [RdT] using h); simpa only [RdT, V.res, V.low] using this
  | .own r g, v, hp, _, h => by
    have := arg_rd R hp (by simpa only [RdT] using h)
    simp only [V.res, List.idxOf?_nil, V.low] at this ⊢
    simpa only [RdT] using this
  | .ptr r g p o, v, hp, _, h => by simp [V.resOk] at hp
  | .rp x, v, hp, _, h => by have := arg_rd R hp (by simpa only [RdT] using h); simpa only [RdT, V.res, V.low] using this
  | .fn f, v, hp, _, h => by have := arg_rd R hp (by simpa only [RdT] using h); simpa only [RdT, V.res, V.low] using this
  | .tup l, v, hp, ht, h => absurd rfl (ht l)
  | .clo f l, v, hp, ht, h => by
    simp only [V.resOk] at hp
    simp only [RdT, V.res, V.low] at h ⊢
    obtain ⟨vs, h1, h2⟩ := h
    exact ⟨vs, h1, argTs R hp.1 hp.2 h2⟩
  | .junk, v, hp, _, h => by simp [V.resOk] at hp
theorem argTs (R : Rel cx E σ a w) : ∀ {l : List V} {vs : List Value}, V.ressOk σ l → V.noTups l = true → RdTs E w l vs → RdTs (argE w) w (V.lows (V.ress σ [] l)) vs
  | [], xs, _, _, h => by simp only [RdTs, V.lows, V.ress] at h ⊢; exact h
  | a :: l, xs, hp, ht, h => by
    simp only [V.ressOk] at hp
    have ht' : (∀ m, a ≠ .tup m) ∧ V.noTups l = true := by
      cases a <;> simp_all [V.noTups]
    simp only [RdTs, V.lows, V.ress] at h ⊢
    obtain ⟨c, ys, h1, h2, h3⟩ := h
    exact ⟨c, ys, h1, argT R hp.1 ht'.1 h2, argTs R hp.2 ht'.2 h3⟩
end
end

section
variable {E E0 : Env} {w : World}
mutual
theorem low_rdS (hB : ∀ b, E.B b → E0.B b) : ∀ {x : V} {cs : List Value}, x.pure = true → RdV E w x cs → RdV E0 w x.low cs
  | .int k n, cs, _, h => by simp only [RdV, V.low] at h ⊢; exact h
  | .bool b, cs, _, h => by simp only [RdV, V.low] at h ⊢; exact h
  | .str b, cs, _, h => by simp only [RdV, V.low] at h ⊢; exact h
  | .nilS, cs, _, h => by simp only [RdV, V.low] at h ⊢; exact h
  | .agg l, cs, hp, h => by simp only [V.pure] at hp; simp only [RdV, V.low] at h ⊢; exact lows_rdS hB hp h
  | .arr s l, cs, hp, h => by simp only [V.pure] at hp; simp only [RdV, V.low] at h ⊢; exact ⟨lows_rdS hB hp h.1, unif_lows h.2⟩
  | .sl t s l, cs, hp, h => by
    simp only [RdV, V.low] at h ⊢
    obtain ⟨h1, h2, A, c, h3, h4, h5, h6⟩ := h
    have hl : (V.lows l).length = l.length := by simp [lows_map]
    refine ⟨by rw [V.lows_pures]; exact h1, unif_lows h2, A, c, by rw [hl]; exact h3, by omega, by omega, fun h0 => ?_⟩
    obtain ⟨b, o, xs, hA, hb, hf, hr, ha⟩ := h6 (by omega)
    exact ⟨b, o, xs, hA, hB b hb, by simp, lows_rdS hB h1 hr, ha⟩
  | .own r g, cs, hp, h => by simp [V.pure] at hp
  | .ptr r g p o, cs, hp, h => by simp [V.pure] at hp
  | .rp x, cs, hp, h => by simp [V.pure] at hp
  | .fn f, cs, hp, h => by simp [V.pure] at hp
  | .tup l, cs, hp, h => by simp [V.pure] at hp
  | .clo f l, cs, hp, h => by simp [V.pure] at hp
  | .junk, cs, hp, h => by simp [V.pure] at hp
theorem lows_rdS (hB : ∀ b, E.B b → E0.B b) : ∀ {l : List V} {cs : List Value}, V.pures l = true → RdL E w l cs → RdL E0 w (V.lows l) cs
  | [], xs, _, h => by simp only [RdL, V.lows] at h ⊢; exact h
  | a :: l, xs, hp, h => by
    simp only [V.pures, Bool.and_eq_true] at hp
    simp only [RdL, V.lows] at h ⊢
    obtain ⟨c, ys, h1, h2, h3⟩ := h
    exact ⟨c, ys, h1, low_rdS hB hp.1 h2, lows_rdS hB hp.2 h3⟩
end
end
section
variable {E : Env} {w : World}
theorem lowT_rdS {E0 : Env} (hB : ∀ b, E.B b → E0.B b) : ∀ {x : V} {v : Value}, x.pure = true → RdT E w x v → RdT E0 w x.low v
  | .agg l, v, hp, h => by
    simp only [RdT, V.low] at h ⊢
    obtain ⟨cs, rfl, h⟩ := h
    exact ⟨cs, rfl, low_rdS hB hp h⟩
  | .arr s l, v, hp, h => by
    simp only [RdT, V.low] at h ⊢
    obtain ⟨cs, rfl, h⟩ := h
    exact ⟨cs, rfl, low_rdS hB hp h⟩
  | .int k n, v, hp, h => by simp only [RdT, V.low] at h ⊢; exact low_rdS hB hp h
  | .bool b, v, hp, h => by simp only [RdT, V.low] at h ⊢; exact low_rdS hB hp h
  | .str b, v, hp, h => by simp only [RdT, V.low] at h ⊢; exact low_rdS hB hp h
  | .nilS, v, hp, h => by simp only [RdT, V.low] at h ⊢; exact low_rdS hB hp h
  | .sl t s l, v, hp, h => by simp only [RdT, V.low] at h ⊢; exact low_rdS hB hp h
  | .own r g, cs, hp, h => by simp [V.pure] at hp
  | .ptr r g p o, cs, hp, h => by simp [V.pure] at hp
  | .rp x, cs, hp, h => by simp [V.pure] at hp
  | .fn f, cs, hp, h => by simp [V.pure] at hp
  | .tup l, cs, hp, h => by simp [V.pure] at hp
  | .clo f l, cs, hp, h => by simp [V.pure] at hp
  | .junk, cs, hp, h => by simp [V.pure] at hp
theorem lowTs_rdS {E0 : Env} (hB : ∀ b, E.B b → E0.B b) : ∀ {l : List V} {vs : List Value}, V.pures l = true → RdTs E w l vs → RdTs E0 w (V.lows l) vs
  | [], vs, _, h => by simp only [RdTs, V.lows] at h ⊢; exact h
  | x :: l, vs, hp, h => by
    simp only [V.pures, Bool.and_eq_true] at hp
    simp only [RdTs, V.lows] at h ⊢
    obtain ⟨c, ys, h1, h2, h3⟩ := h
    exact ⟨c, ys, h1, lowT_rdS hB hp.1 h2, lowTs_rdS hB hp.2 h3⟩
end
mutual
theorem V.res_pure (σ : AS) (ids : List Nat) : ∀ x : V, x.pure = true → x.res σ ids = x
  | .agg l, h => by simp only [V.pure] at h; simp only [V.res, V.ress_pure σ ids l h]
  | .arr s l, _ => rfl
  | .int _ _, _ => rfl
  | .bool _, _ => rfl
  | .str _, _ => rfl
  | .nilS, _ => rfl
  | .sl _ _ _, _ => rfl
  | .own r g, h => by simp [V.pure] at h
  | .ptr r g p o, h => by simp [V.pure] at h
  | .rp x, h => by simp [V.pure] at h
  | .fn f, h => by simp [V.pure] at h
  | .tup l, h => by simp [V.pure] at h
  | .clo f l, h => by simp [V.pure] at h
  | .junk, h => by simp [V.pure] at h
theorem V.ress_pure (σ : AS) (ids : List Nat) : ∀ l : List V, V.pures l = true → V.ress σ ids l = l
  | [], _ => rfl
  | x :: l, h => by
    simp only [V.pures, Bool.and_eq_true] at h
    simp only [V.ress, V.res_pure σ ids x h.1, V.ress_pure σ ids l h.2]
end
/-- What a call leaves: its result, with rows of its own; S: the older blocks that it is read through. -/
def ResOk (w w' : World) (S : Nat → Prop) (x : V) (obs : List Ob) (v : Value) : Prop :=
  ∃ E', (∀ b, E'.B b → S b ∨ w.heap.size ≤ b) ∧ (∀ o ∈ obs, o.live = true ∧ o.g = 0) ∧ Rel ⟨w, fun _ => False, S⟩ E' ⟨1, [(0, x)], obs⟩ ⟨#[v], []⟩ w'
/-- A function's contract: at arguments that read as xs (through blocks S) it returns what R tells, read through S and what is new, and leaves what existed as it was. -/
def Fnc (P : Program) (f : FuncId) (xs : List V) (R : V → List Ob → Prop) : Prop :=
  ∀ (w : World) (S : Nat → Prop) (vs : List Value), (∀ b, S b → b < w.heap.size) → RdTs (argS S) w xs vs → Calls P f vs.toArray w fun e w' => ∃ x obs v, R x obs ∧ e = .returned v ∧ ResOk w w' S x obs v

section
variable {E E' : Env} {w : World}
mutual
/-- What is fresh is read through new blocks alone. -/
theorem freshE_rd (hr : E'.ref = E.ref) (hB : ∀ b, E.B b → E.F b → E'.B b) (hF : ∀ b, E.F b → E'.F b) : ∀ {x : V} {cs : List Value}, x.fresh = true → RdV E w x cs → RdV E' w x cs
  | .int k n, cs, _, h => by simp only [RdV] at h ⊢; exact h
  | .bool b, cs, _, h => by simp only [RdV] at h ⊢; exact h
  | .str b, cs, _, h => by simp only [RdV] at h ⊢; exact h
  | .nilS, cs, _, h => by simp only [RdV] at h ⊢; exact h
  | .agg l, cs, hf, h => by simp only [V.fresh] at hf; simp only [RdV] at h ⊢; exact freshsE_rd hr hB hF hf h
  | .arr s l, cs, hf, h => by simp only [V.fresh] at hf; simp only [RdV] at h ⊢; exact ⟨freshsE_rd hr hB hF hf h.1, h.2⟩
  | .sl t s l, cs, hf, h => by
    simp only [V.fresh, Bool.and_eq_true] at hf
    simp only [RdV] at h ⊢
    obtain ⟨h1, h2, A, c, h3, h4, h5, h6⟩ := h
    refine ⟨h1, h2, A, c, h3, h4, h5, fun h0 => ?_⟩
    obtain ⟨b, o, xs, hA, hb, hff, hr', ha⟩ := h6 h0
    exact ⟨b, o, xs, hA, hB b hb (hff hf.1), fun _ => hF b (hff hf.1), freshsE_rd hr hB hF hf.2 hr', ha⟩
  | .own r g, cs, hf, h => by simp only [RdV] at h ⊢; rw [hr]; exact h
  | .ptr r g p o, cs, hf, h => by simp only [RdV] at h ⊢; rw [hr]; exact h
  | .rp x, cs, hf, h => by simp [V.fresh] at hf
  | .fn f, cs, _, h => by simp only [RdV] at h ⊢; exact h
  | .tup l, cs, _, h => by simp only [RdV] at h
  | .clo f l, cs, _, h => by simp only [RdV] at h
  | .junk, cs, _, h => by simp only [RdV] at h
theorem freshsE_rd (hr : E'.ref = E.ref) (hB : ∀ b, E.B b → E.F b → E'.B b) (hF : ∀ b, E.F b → E'.F b) : ∀ {l : List V} {cs : List Value}, V.freshs l = true → RdL E w l cs → RdL E' w l cs
  | [], xs, _, h => by simp only [RdL] at h ⊢; exact h
  | a :: l, xs, hf, h => by
    simp only [V.freshs, Bool.and_eq_true] at hf
    simp only [RdL] at h ⊢
    obtain ⟨c, ys, h1, h2, h3⟩ := h
    exact ⟨c, ys, h1, freshE_rd hr hB hF hf.1 h2, freshsE_rd hr hB hF hf.2 h3⟩
end
mutual
theorem freshET_rd (hr : E'.ref = E.ref) (hB : ∀ b, E.B b → E.F b → E'.B b) (hF : ∀ b, E.F b → E'.F b) : ∀ {x : V} {v : Value}, x.fresh = true → RdT E w x v → RdT E' w x v
  | .int k n, v, hf, h => by simp only [RdT] at h ⊢; exact freshE_rd hr hB hF hf h
  | .bool b, v, hf, h => by simp only [RdT] at h ⊢; exact freshE_rd hr hB hF hf h
  | .str b, v, hf, h => by simp only [RdT] at h ⊢; exact freshE_rd hr hB hF hf h
  | .nilS, v, hf, h => by simp only [RdT] at h ⊢; exact freshE_rd hr hB hF hf h
  | .agg l, v, hf, h => by simp only [RdT] at h ⊢; obtain ⟨cs, h1, h2⟩ := h; exact ⟨cs, h1, freshE_rd hr hB hF hf h2⟩
  | .arr s l, v, hf, h => by simp only [RdT] at h ⊢; obtain ⟨cs, h1, h2⟩ := h; exact ⟨cs, h1, freshE_rd hr hB hF hf h2⟩
  | .sl t s l, v, hf, h => by simp only [RdT] at h ⊢; exact freshE_rd hr hB hF hf h
  | .own r g, v, hf, h => by simp only [RdT] at h ⊢; exact freshE_rd hr hB hF hf h
  | .ptr r g p o, v, hf, h => by simp only [RdT] at h ⊢; exact freshE_rd hr hB hF hf h
  | .rp x, v, hf, h => by simp only [RdT] at h ⊢; exact freshE_rd hr hB hF hf h
  | .fn f, v, hf, h => by simp only [RdT] at h ⊢; exact freshE_rd hr hB hF hf h
  | .tup l, v, hf, h => by
    simp only [V.fresh] at hf
    simp only [RdT] at h ⊢
    obtain ⟨vs, h1, h2⟩ := h
    exact ⟨vs, h1, freshsET_rd hr hB hF hf h2⟩
  | .clo f l, v, hf, h => by
    simp only [V.fresh] at hf
    simp only [RdT] at h ⊢
    obtain ⟨vs, h1, h2⟩ := h
    exact ⟨vs, h1, freshsET_rd hr hB hF hf h2⟩
  | .junk, v, hf, h => by simp only [RdT]
theorem freshsET_rd (hr : E'.ref = E.ref) (hB : ∀ b, E.B b → E.F b → E'.B b) (hF : ∀ b, E.F b → E'.F b) : ∀ {l : List V} {vs : List Value}, V.freshs l = true → RdTs E w l vs → RdTs E' w l vs
  | [], xs, _, h => by simp only [RdTs] at h ⊢; exact h
  | a :: l, xs, hf, h => by
    simp only [V.freshs, Bool.and_eq_true] at hf
    simp only [RdTs] at h ⊢
    obtain ⟨c, ys, h1, h2, h3⟩ := h
    exact ⟨c, ys, h1, freshET_rd hr hB hF hf.1 h2, freshsET_rd hr hB hF hf.2 h3⟩
end
mutual
/-- Less is told. -/
theorem lowE_rd : ∀ {x : V} {cs : List Value}, RdV E w x cs → RdV E w x.low cs
  | .int k n, cs, h => by simp only [RdV, V.low] at h ⊢; exact h
  | .bool b, cs, h => by simp only [RdV, V.low] at h ⊢; exact h
  | .str b, cs, h => by simp only [RdV, V.low] at h ⊢; exact h
  | .nilS, cs, h => by simp only [RdV, V.low] at h ⊢; exact h
  | .agg l, cs, h => by simp only [RdV, V.low] at h ⊢; exact lowsE_rd h
  | .arr s l, cs, h => by simp only [RdV, V.low] at h ⊢; exact ⟨lowsE_rd h.1, unif_lows h.2⟩
  | .sl t s l, cs, h => by
    simp only [RdV, V.low] at h ⊢
    obtain ⟨h1, h2, A, c, h3, h4, h5, h6⟩ := h
    have hl : (V.lows l).length = l.length := by simp [lows_map]
    refine ⟨by rw [V.lows_pures]; exact h1, unif_lows h2, A, c, by rw [hl]; exact h3, by omega, by omega, fun h0 => ?_⟩
    obtain ⟨b, o, xs, hA, hb, hff, hr', ha⟩ := h6 (by omega)
    exact ⟨b, o, xs, hA, hb, by simp, lowsE_rd hr', ha⟩
  | .own r g, cs, h => by simp only [V.low]; exact h
  | .ptr r g p o, cs, h => by simp only [V.low]; exact h
  | .rp x, cs, h => by
    simp only [RdV, V.low] at h ⊢
    obtain ⟨h1, b, o, xs, h2, h3, h4, h5⟩ := h
    exact ⟨by rw [V.low_pure]; exact h1, b, o, xs, h2, h3, lowE_rd h4, h5⟩
  | .fn f, cs, h => by simp only [V.low]; exact h
  | .tup l, cs, h => by simp only [RdV] at h
  | .clo f l, cs, h => by simp only [RdV] at h
  | .junk, cs, h => by simp only [RdV] at h
theorem lowsE_rd : ∀ {l : List V} {cs : List Value}, RdL E w l cs → RdL E w (V.lows l) cs
  | [], xs, h => by simp only [RdL, V.lows] at h ⊢; exact h
  | a :: l, xs, h => by
    simp only [RdL, V.lows] at h ⊢
    obtain ⟨c, ys, h1, h2, h3⟩ := h
    exact ⟨c, ys, h1, lowE_rd h2, lowsE_rd h3⟩
end
mutual
theorem lowET_rd : ∀ {x : V} {v : Value}, RdT E w x v → RdT E w x.low v
  | .int k n, v, h => by simp only [RdT, V.low] at h ⊢; exact h
  | .bool b, v, h => by simp only [RdT, V.low] at h ⊢; exact h
  | .str b, v, h => by simp only [RdT, V.low] at h ⊢; exact h
  | .nilS, v, h => by simp only [RdT, V.low] at h ⊢; exact h
  | .agg l, v, h => by simp only [RdT, V.low] at h ⊢; obtain ⟨cs, h1, h2⟩ := h; exact ⟨cs, h1, lowE_rd h2⟩
  | .arr s l, v, h => by simp only [RdT, V.low] at h ⊢; obtain ⟨cs, h1, h2⟩ := h; exact ⟨cs, h1, lowE_rd h2⟩
  | .sl t s l, v, h => by simp only [RdT, V.low] at h ⊢; exact lowE_rd h
  | .own r g, v, h => by simp only [V.low]; exact h
  | .ptr r g p o, v, h => by simp only [V.low]; exact h
  | .rp x, v, h => by have := lowE_rd (by simpa only [RdT] using h); simpa only [RdT, V.low] using this
  | .fn f, v, h => by simp only [V.low]; exact h
  | .tup l, v, h => by
    simp only [RdT, V.low] at h ⊢
    obtain ⟨vs, h1, h2⟩ := h
    exact ⟨vs, h1, lowsET_rd h2⟩
  | .clo f l, v, h => by
    simp only [RdT, V.low] at h ⊢
    obtain ⟨vs, h1, h2⟩ := h
    exact ⟨vs, h1, lowsET_rd h2⟩
  | .junk, v, h => by simp only [RdT, V.low]
theorem lowsET_rd : ∀ {l : List V} {vs : List Value}, RdTs E w l vs → RdTs E w (V.lows l) vs
  | [], xs, h => by simp only [RdTs, V.lows] at h ⊢; exact h
  | a :: l, xs, h => by
    simp only [RdTs, V.lows] at h ⊢
    obtain ⟨c, ys, h1, h2, h3⟩ := h
    exact ⟨c, ys, h1, lowET_rd h2, lowsET_rd h3⟩
end
end
/-- A result that is new is read through new blocks alone. -/
theorem ResOk.fresh {w w' : World} {S : Nat → Prop} {x : V} {obs : List Ob} {v : Value} (h : ResOk w w' S x obs v) (hx : x.fresh = true) (ho : ∀ o ∈ obs, o.v.fresh = true) : ResOk w w' (fun _ => False) x obs v := by
  obtain ⟨E1, h1, h2, R⟩ := h
  have hB : ∀ b, E1.B b → E1.F b → (E1.B b ∧ w.heap.size ≤ b) := fun b hb hf => ⟨hb, (R.fr b).1 hf⟩
  refine ⟨{ E1 with B := fun b => E1.B b ∧ w.heap.size ≤ b }, fun b hb => .inr hb.2, h2, R.df, R.n, fun i => ?_, R.len, fun r o hr => ?_, R.sep, fun b hb => R.lt b hb.1, R.fr, fun b hb hlt => ?_, ⟨R.keep.os, R.keep.tape, R.keep.output, R.keep.size, R.keep.block⟩⟩
  · have := R.tm i
    cases i with
    | zero =>
      simp only [slotV, if_true] at this ⊢
      exact freshET_rd (E := E1) (E' := { E1 with B := fun b => E1.B b ∧ w.heap.size ≤ b }) rfl hB (fun _ h => h) hx this
    | succ i =>
      have e : slotV [(0, x)] (i + 1) = .junk := by simp [slotV]
      show RdT _ _ (slotV [(0, x)] (i + 1)) _
      rw [e]
      simp only [RdT]
  · obtain ⟨u, k1, k2⟩ := R.ob r o hr
    have hl := (h2 o (List.mem_of_getElem? hr)).1
    have hf := ho o (List.mem_of_getElem? hr)
    refine ⟨u, k1, ?_⟩
    unfold OkO at k2 ⊢
    split at k2
    · obtain ⟨b, cs, m1, m2, m3, m4, m5⟩ := k2
      rw [if_pos hl] at m5
      exact ⟨b, cs, m1, m2, freshE_rd (E := E1) (E' := { E1 with B := fun b => E1.B b ∧ w.heap.size ≤ b }) rfl hB (fun _ h => h) hf m3, m4, by rw [if_pos hl]; exact fun hb => m5 hb.1⟩
    · obtain ⟨s, l, xs, m1, m2, m3, m4, m5, m6, m7, m8⟩ := k2
      rw [m1] at hf
      simp only [V.fresh] at hf
      refine ⟨s, l, xs, m1, m2, m3, m4, m5, m6, freshsE_rd (E := E1) (E' := { E1 with B := fun b => E1.B b ∧ w.heap.size ≤ b }) rfl hB (fun _ h => h) hf m7, fun b hb => ?_⟩
      have := m8 b hb
      rw [if_pos hl] at this ⊢
      exact fun hb => this hb.1
    · obtain ⟨m0, s, l, xs, m1, m3, m4, m5, m6, m7, m8⟩ := k2
      rw [m1] at hf
      simp only [V.fresh] at hf
      exact ⟨m0, s, l, xs, m1, m3, m4, m5, m6, freshsE_rd (E := E1) (E' := { E1 with B := fun b => E1.B b ∧ w.heap.size ≤ b }) rfl hB (fun _ h => h) hf m7, fun b hb hb' => m8 b hb hb'.1⟩
  · exact absurd hlt (Nat.not_lt.2 hb.2)
def Ob.low (o : Ob) : Ob := { o with v := o.v.low }
/-- Less is told of a result. -/
theorem ResOk.low {w w' : World} {S : Nat → Prop} {x : V} {obs : List Ob} {v : Value} (h : ResOk w w' S x obs v) : ResOk w w' S x.low (obs.map Ob.low) v := by
  obtain ⟨E1, h1, h2, R⟩ := h
  have ol : ∀ (r : Nat) (o' : Ob), (obs.map Ob.low)[r]? = some o' → ∃ o : Ob, obs[r]? = some o ∧ o' = o.low := by
    intro r o' h
    rw [List.getElem?_map, Option.map_eq_some_iff] at h
    obtain ⟨o, h, rfl⟩ := h
    exact ⟨o, h, rfl⟩
  refine ⟨E1, h1, fun o ho => ?_, R.df, R.n, fun i => ?_, by simp [R.len], fun r o hr => ?_, fun r r' o o' g g' u u' b k1 k2 k3 k4 k5 k6 k7 k8 k9 => ?_, R.lt, R.fr, R.old, R.keep⟩
  · obtain ⟨o1, ho1, rfl⟩ := List.mem_map.1 ho
    exact h2 o1 ho1
  · have := R.tm i
    cases i with
    | zero =>
      simp only [slotV, if_true] at this ⊢
      exact lowET_rd this
    | succ i =>
      have e : slotV [(0, x.low)] (i + 1) = .junk := by simp [slotV]
      show RdT _ _ (slotV [(0, x.low)] (i + 1)) _
      rw [e]
      simp only [RdT]
  · obtain ⟨o1, h, rfl⟩ := ol r o hr
    obtain ⟨u, k1, k2⟩ := R.ob r o1 h
    refine ⟨u, k1, ?_⟩
    unfold OkO at k2 ⊢
    simp only [Ob.low]
    split at k2
    · obtain ⟨b, cs, m1, m2, m3, m4, m5⟩ := k2
      exact ⟨b, cs, m1, m2, lowE_rd m3, m4, by rw [V.low_pure]; exact m5⟩
    · obtain ⟨s, l, xs, m1, m2, m3, m4, m5, m6, m7, m8⟩ := k2
      have hl : (V.lows l).length = l.length := by simp [lows_map]
      exact ⟨s, V.lows l, xs, by rw [m1]; rfl, by rw [V.lows_pures]; exact m2, unif_lows m3, m4, by omega, by rw [hl]; exact m6, lowsE_rd m7, m8⟩
    · obtain ⟨m0, s, l, xs, m1, m3, m4, m5, m6, m7, m8⟩ := k2
      have hl : (V.lows l).length = l.length := by simp [lows_map]
      exact ⟨m0, s, V.lows l, xs, by rw [m1]; rfl, unif_lows m3, m4, by omega, by rw [hl]; exact m6, lowsE_rd m7, m8⟩
  · obtain ⟨o1, q1, rfl⟩ := ol r o k2
    obtain ⟨o2, q2, rfl⟩ := ol r' o' k3
    exact R.sep r r' o1 o2 g g' u u' b k1 q1 q2 k4 k5 k6 k7 k8 k9

section
variable {P : Program} {cx : Cx} {E : Env} {σ : AS} {a : Act} {w w' : World}
/-- What is pure is read through the blocks alone. -/
theorem pure_rd {E0 E1 : Env} (hB : ∀ b, E1.B b → E0.B b) (hF : ∀ b, E1.F b → E0.F b) {x : V} {cs : List Value} (hp : x.pure = true) (h : RdV E1 w x cs) : RdV E0 w x cs :=
  RdV.mono (E := { E1 with ref := E0.ref }) ⟨fun b hb => ⟨hB b hb, rfl⟩, hF, Nat.le_refl _, fun r g u _ h => ⟨g, u, h, Nat.le_refl _, fun _ => rfl⟩⟩ (h.cutp hp)
theorem pures_rd {E0 E1 : Env} (hB : ∀ b, E1.B b → E0.B b) (hF : ∀ b, E1.F b → E0.F b) {l : List V} {cs : List Value} (hp : V.pures l = true) (h : RdL E1 w l cs) : RdL E0 w l cs :=
  RdL.mono (E := { E1 with ref := E0.ref }) ⟨fun b hb => ⟨hB b hb, rfl⟩, hF, Nat.le_refl _, fun r g u _ h => ⟨g, u, h, Nat.le_refl _, fun _ => rfl⟩⟩ (h.cutp hp)
mutual
theorem shift_rd {E0 E1 : Env} {m : Nat} (hB : ∀ b, E1.B b → E0.B b) (hF : ∀ b, E1.F b → E0.F b) (hl : m + E1.ref.length ≤ E0.ref.length) (hr : ∀ r, r < E1.ref.length → E0.ref[m + r]? = E1.ref[r]?) : ∀ {x : V} {cs : List Value}, RdV E1 w x cs → RdV E0 w (x.shift m) cs
  | .int k n, cs, h => by simp only [RdV, V.shift] at h ⊢; exact h
  | .bool b, cs, h => by simp only [RdV, V.shift] at h ⊢; exact h
  | .str b, cs, h => by simp only [RdV, V.shift] at h ⊢; exact h
  | .nilS, cs, h => by simp only [RdV, V.shift] at h ⊢; exact h
  | .agg l, cs, h => by simp only [RdV, V.shift] at h ⊢; exact shifts_rd hB hF hl hr h
  | .arr s l, cs, h => by
    simp only [RdV, V.shift] at h ⊢
    refine ⟨shifts_rd hB hF hl hr h.1, fun x hx => ?_⟩
    rw [V.shifts_map] at hx
    obtain ⟨y, hy, rfl⟩ := List.mem_map.1 hx
    rw [V.shift_size]
    exact h.2 y hy
  | .sl t s l, cs, h => by simp only [V.shift]; exact pure_rd hB hF rfl h
  | .own r g, cs, h => by
    simp only [RdV, V.shift] at h ⊢
    obtain ⟨v, h1, h2, h3, h4⟩ := h
    exact ⟨v, h1, h2, by omega, fun gc u hu => h4 gc u (by rw [hr r h3] at hu; exact hu)⟩
  | .ptr r g p o, cs, h => by
    simp only [RdV, V.shift] at h ⊢
    obtain ⟨v, h1, h2, h3, h4⟩ := h
    exact ⟨v, h1, h2, by omega, fun gc u hu => h4 gc u (by rw [hr r h3] at hu; exact hu)⟩
  | .rp x, cs, h => by
    simp only [RdV, V.shift] at h ⊢
    obtain ⟨h1, b, o, xs, h2, h3, h4, h5⟩ := h
    exact ⟨h1, b, o, xs, h2, hB b h3, pure_rd hB hF h1 h4, h5⟩
  | .fn f, cs, h => by simp only [RdV, V.shift] at h ⊢; exact h
  | .tup l, cs, h => by simp only [RdV] at h
  | .clo f l, cs, h => by simp only [RdV] at h
  | .junk, cs, h => by simp only [RdV] at h
theorem shifts_rd {E0 E1 : Env} {m : Nat} (hB : ∀ b, E1.B b → E0.B b) (hF : ∀ b, E1.F b → E0.F b) (hl : m + E1.ref.length ≤ E0.ref.length) (hr : ∀ r, r < E1.ref.length → E0.ref[m + r]? = E1.ref[r]?) : ∀ {l : List V} {cs : List Value}, RdL E1 w l cs → RdL E0 w (V.shifts m l) cs
  | [], xs, h => by simp only [RdL, V.shifts] at h ⊢; exact h
  | a :: l, xs, h => by
    simp only [RdL, V.shifts] at h ⊢
    obtain ⟨c, ys, h1, h2, h3⟩ := h
    exact ⟨c, ys, h1, shift_rd hB hF hl hr h2, shifts_rd hB hF hl hr h3⟩
end
mutual
theorem shiftT_rd {E0 E1 : Env} {m : Nat} (hB : ∀ b, E1.B b → E0.B b) (hF : ∀ b, E1.F b → E0.F b) (hl : m + E1.ref.length ≤ E0.ref.length) (hr : ∀ r, r < E1.ref.length → E0.ref[m + r]? = E1.ref[r]?) : ∀ {x : V} {v : Value}, RdT E1 w x v → RdT E0 w (x.shift m) v
  | .int k n, v, h => by have := shift_rd hB hF hl hr (by simpa only [RdT] using h); simpa only [RdT, V.shift] using this
  | .bool b, v, h => by have := shift_rd hB hF hl hr (by simpa only [RdT] using h); simpa only [RdT, V.shift] using this
  | .str b, v, h => by have := shift_rd hB hF hl hr (by simpa only [RdT] using h); simpa only [RdT, V.shift] using this
  | .nilS, v, h => by have := shift_rd hB hF hl hr (by simpa only [RdT] using h); simpa only [RdT, V.shift] using this
  | .agg l, v, h => by
    simp only [RdT] at h
    obtain ⟨cs, rfl, h⟩ := h
    have := shift_rd hB hF hl hr h
    simp only [V.shift] at this ⊢
    simp only [RdT]
    exact ⟨cs, rfl, this⟩
  | .arr s l, v, h => by
    simp only [RdT] at h
    obtain ⟨cs, rfl, h⟩ := h
    have := shift_rd hB hF hl hr h
    simp only [V.shift] at this ⊢
    simp only [RdT]
    exact ⟨cs, rfl, this⟩
  | .sl t s l, v, h => by have := shift_rd hB hF hl hr (by simpa only [RdT] using h); simpa only [RdT, V.shift] using this
  | .own r g, v, h => by have := shift_rd hB hF hl hr (by simpa only [RdT] using h); simpa only [RdT, V.shift] using this
  | .ptr r g p o, v, h => by have := shift_rd hB hF hl hr (by simpa only [RdT] using h); simpa only [RdT, V.shift] using this
  | .rp x, v, h => by have := shift_rd hB hF hl hr (by simpa only [RdT] using h); simpa only [RdT, V.shift] using this
  | .fn f, v, h => by have := shift_rd hB hF hl hr (by simpa only [RdT] using h); simpa only [RdT, V.shift] using this
  | .tup l, v, h => by
    simp only [RdT, V.shift] at h ⊢
    obtain ⟨vs, h1, h2⟩ := h
    exact ⟨vs, h1, shiftsT_rd hB hF hl hr h2⟩
  | .clo f l, v, h => by
    simp only [RdT, V.shift] at h ⊢
    obtain ⟨vs, h1, h2⟩ := h
    exact ⟨vs, h1, shiftsT_rd hB hF hl hr h2⟩
  | .junk, v, h => by simp only [RdT, V.shift]
theorem shiftsT_rd {E0 E1 : Env} {m : Nat} (hB : ∀ b, E1.B b → E0.B b) (hF : ∀ b, E1.F b → E0.F b) (hl : m + E1.ref.length ≤ E0.ref.length) (hr : ∀ r, r < E1.ref.length → E0.ref[m + r]? = E1.ref[r]?) : ∀ {l : List V} {vs : List Value}, RdTs E1 w l vs → RdTs E0 w (V.shifts m l) vs
  | [], xs, h => by simp only [RdTs, V.shifts] at h ⊢; exact h
  | a :: l, xs, h => by
    simp only [RdTs, V.shifts] at h ⊢
    obtain ⟨c, ys, h1, h2, h3⟩ := h
    exact ⟨c, ys, h1, shiftT_rd hB hF hl hr h2, shiftsT_rd hB hF hl hr h3⟩
end
def Ob.shift (m : Nat) (o : Ob) : Ob := { o with v := o.v.shift m }
/-- A call comes back. -/
theorem Rel.back (R : Rel cx E σ a w) {S : Nat → Prop} (hS : ∀ b, S b → E.B b) {x : V} {obs : List Ob} {v : Value} (h : ResOk w w' S x obs v) :
    ∃ E', Leads E w E' w' ∧ RdT E' w' (x.shift σ.ob.length) v ∧ Rel cx E' { σ with ob := σ.ob ++ obs.map (Ob.shift σ.ob.length) } a w' := by
  obtain ⟨E1, hE1, hobs, R1⟩ := h
  have hlen1 : E1.ref.length = obs.length := R1.len
  have hBl : Below w.heap.size w w' := ⟨R1.keep.os, R1.keep.tape, R1.keep.output, R1.keep.size, fun k hk => R1.keep.block k hk (fun h => h)⟩
  have L : Leads E w ⟨fun b => E.B b ∨ E1.B b, E.F, E.ref ++ E1.ref⟩ w' := by
    refine ⟨fun b hb => ⟨.inl hb, hBl.block b (R.lt b hb)⟩, fun _ h => h, by simp, fun r g u hr h => ⟨g, u, ?_, Nat.le_refl _, fun _ => rfl⟩⟩
    have h : (E.ref ++ E1.ref)[r]? = some (g, u) := h
    rw [List.getElem?_append_left hr] at h
    exact h
  have hwW : cx.W.heap.size ≤ w.heap.size := R.keep.size
  have hF : ∀ b, E1.F b → E.F b := fun b hb => by
    have := (R1.fr b).1 hb
    exact (R.fr b).2 (Nat.le_trans hwW this)
  have hrr : ∀ r, r < E1.ref.length → (E.ref ++ E1.ref)[σ.ob.length + r]? = E1.ref[r]? := fun r hr => by
    rw [List.getElem?_append_right (by rw [R.len]; omega), R.len, Nat.add_sub_cancel_left]
  have sh : ∀ {x : V} {cs : List Value}, RdV E1 w' x cs → RdV ⟨fun b => E.B b ∨ E1.B b, E.F, E.ref ++ E1.ref⟩ w' (x.shift σ.ob.length) cs := fun h =>
    shift_rd (E0 := ⟨fun b => E.B b ∨ E1.B b, E.F, E.ref ++ E1.ref⟩) (fun b hb => .inr hb) hF (by simp [R.len]) hrr h
  refine ⟨⟨fun b => E.B b ∨ E1.B b, E.F, E.ref ++ E1.ref⟩, L, ?_, R.df, R.n, fun i => (R.tm i).mono L, by simp [R.len, hlen1], fun r o hr => ?_, fun r r' o o' g g' u u' b h1 h2 h3 h4 h5 h6 h7 h8 h9 => ?_, fun b hb => ?_, R.fr, fun b hb hlt => ?_, R.keep.trans (Keep.of_below (S := cx.lent) hBl)⟩
  · have := R1.tm 0
    simp only [slotV, if_true] at this
    exact shiftT_rd (E0 := ⟨fun b => E.B b ∨ E1.B b, E.F, E.ref ++ E1.ref⟩) (fun b hb => .inr hb) hF (by simp [R.len]) hrr (by simpa using this)
  · by_cases hlt : r < σ.ob.length
    · rw [List.getElem?_append_left hlt] at hr
      obtain ⟨u, k1, k2⟩ := R.ob r o hr
      refine ⟨u, by rw [List.getElem?_append_left (by rw [R.len]; exact hlt)]; exact k1, k2.keep L (fun b hb => hBl.block b (k2.blk_lt hb)) (fun hl b hb hn hB => ?_)⟩
      rcases hB with hB | hB
      · exact hn hB
      · rcases hE1 b hB with h | h
        · exact hn (hS b h)
        · have := k2.blk_lt hb
          omega
    · rw [List.getElem?_append_right (by omega), List.getElem?_map, Option.map_eq_some_iff] at hr
      obtain ⟨o1, hr, rfl⟩ := hr
      obtain ⟨u, k1, k2⟩ := R1.ob _ o1 hr
      refine ⟨u, by rw [List.getElem?_append_right (by rw [R.len]; omega), R.len]; exact k1, ?_⟩
      obtain ⟨hl1, hg1⟩ := hobs o1 (List.mem_of_getElem? hr)
      have hnB : ∀ b, blk u = some b → ¬ E1.B b → ¬ (E.B b ∨ E1.B b) := by
        intro b hb hn hB
        rcases hB with hB | hB
        · rcases k2.wr hb with h | h
          · have := R.lt b hB
            have h : w.heap.size ≤ b := h
            omega
          · exact h
        · exact hn hB
      unfold OkO at k2 ⊢
      simp only [Ob.shift]
      split at k2
      · rename_i q T hk
        obtain ⟨b, cs, rfl, m1, m2, m3, m4⟩ := k2
        rw [hl1] at m4
        refine ⟨b, cs, rfl, m1, sh m2, ?_, ?_⟩
        · cases q with
          | true => simp only [if_true] at m3
          | false =>
            simp only [Bool.false_eq_true, if_false] at m3 ⊢
            exact Nat.le_trans hwW m3
        · simp only [if_true] at m4
          show (if o1.live = true then ¬ (E.B b ∨ E1.B b) else (E.B b ∨ E1.B b) ∧ E.F b ∧ (V.shift σ.ob.length o1.v).pure = true)
          rw [if_pos hl1]
          exact hnB b rfl m4
      · obtain ⟨s, l, xs, m1, m2, m3, m4, m5, m6, m7, m8⟩ := k2
        refine ⟨s, l, xs, by rw [m1]; simp only [V.shift, V.shifts_pure _ l m2], m2, m3, m4, m5, ⟨m6.1, ?_⟩, pures_rd (E0 := ⟨fun b => E.B b ∨ E1.B b, E.F, E.ref ++ E1.ref⟩) (fun b hb => .inr hb) hF m2 m7, fun b hb => ?_⟩
        · rcases m6.2 with h | ⟨g, cap, cur, e1, e2, e3⟩
          · exact .inl h
          · exact .inr ⟨g, cap, cur, e1, Nat.le_trans hwW e2, e3⟩
        · have := m8 b hb
          rw [hl1] at this
          simp only [if_true] at this
          show (if o1.live = true then ¬ (E.B b ∨ E1.B b) else (E.B b ∨ E1.B b))
          rw [if_pos hl1]
          exact hnB b hb this
      · obtain ⟨m0, s, l, xs, m1, m3, m4, m5, m6, m7, m8⟩ := k2
        have hl : (V.shifts σ.ob.length l).length = l.length := by rw [V.shifts_map, List.length_map]
        refine ⟨m0, s, V.shifts σ.ob.length l, xs, by rw [m1]; rfl, fun x hx => ?_, m4, by omega, ⟨by rw [hl]; exact m6.1, ?_⟩, shifts_rd (E0 := ⟨fun b => E.B b ∨ E1.B b, E.F, E.ref ++ E1.ref⟩) (fun b hb => .inr hb) hF (by simp [R.len]) hrr m7, fun b hb => hnB b hb (m8 b hb)⟩
        · rw [V.shifts_map] at hx
          obtain ⟨y, hy, rfl⟩ := List.mem_map.1 hx
          rw [V.shift_size]
          exact m3 y hy
        · rw [hl]
          rcases m6.2 with h | ⟨g, cap, cur, e1, e2, e3⟩
          · exact .inl h
          · exact .inr ⟨g, cap, cur, e1, Nat.le_trans hwW e2, e3⟩
  · have old : ∀ (r : Nat) (o : Ob) (g : Nat) (u : Value), r < σ.ob.length → (σ.ob ++ obs.map (Ob.shift σ.ob.length))[r]? = some o → (E.ref ++ E1.ref)[r]? = some (g, u) → σ.ob[r]? = some o ∧ E.ref[r]? = some (g, u) := by
      intro r o g u hlt q1 q2
      rw [List.getElem?_append_left hlt] at q1
      rw [List.getElem?_append_left (by rw [R.len]; exact hlt)] at q2
      exact ⟨q1, q2⟩
    have new : ∀ (r : Nat) (o : Ob) (g : Nat) (u : Value), ¬ r < σ.ob.length → (σ.ob ++ obs.map (Ob.shift σ.ob.length))[r]? = some o → (E.ref ++ E1.ref)[r]? = some (g, u) → ∃ o1, obs[r - σ.ob.length]? = some o1 ∧ o1.live = o.live ∧ E1.ref[r - σ.ob.length]? = some (g, u) := by
      intro r o g u hlt q1 q2
      rw [List.getElem?_append_right (by omega), List.getElem?_map, Option.map_eq_some_iff] at q1
      obtain ⟨o1, q1, rfl⟩ := q1
      rw [List.getElem?_append_right (by rw [R.len]; omega), R.len] at q2
      exact ⟨o1, q1, rfl, q2⟩
    have cross : ∀ (r r' : Nat) (o o' : Ob) (g g' : Nat) (u u' : Value), r < σ.ob.length → ¬ r' < σ.ob.length → (σ.ob ++ obs.map (Ob.shift σ.ob.length))[r]? = some o → (σ.ob ++ obs.map (Ob.shift σ.ob.length))[r']? = some o' → (E.ref ++ E1.ref)[r]? = some (g, u) → (E.ref ++ E1.ref)[r']? = some (g', u') → blk u = some b → blk u' = some b → False := by
      intro r r' o o' g g' u u' c1 c2 c3 c4 c5 c6 c7 c8
      obtain ⟨d1, d2⟩ := old r o g u c1 c3 c5
      obtain ⟨u2, e1, e2⟩ := R.ob r o d1
      rw [d2] at e1
      injection e1 with e1
      injection e1 with _ e1
      subst e1
      have := e2.blk_lt c7
      obtain ⟨o1, f1, f2, f3⟩ := new r' o' g' u' c2 c4 c6
      obtain ⟨u3, i1, i2⟩ := R1.ob _ o1 f1
      rw [f3] at i1
      injection i1 with i1
      injection i1 with _ i1
      subst i1
      rcases i2.wr c8 with h | h
      · have h : w.heap.size ≤ b := h
        omega
      · exact h
    by_cases hr : r < σ.ob.length
    · by_cases hr' : r' < σ.ob.length
      · obtain ⟨d1, d2⟩ := old r o g u hr h2 h6
        obtain ⟨d3, d4⟩ := old r' o' g' u' hr' h3 h7
        exact R.sep r r' o o' g g' u u' b h1 d1 d3 h4 h5 d2 d4 h8 h9
      · exact cross r r' o o' g g' u u' hr hr' h2 h3 h6 h7 h8 h9
    · by_cases hr' : r' < σ.ob.length
      · exact cross r' r o' o g' g u' u hr' hr h3 h2 h7 h6 h9 h8
      · obtain ⟨o1, f1, f2, f3⟩ := new r o g u hr h2 h6
        obtain ⟨o2, i1, i2, i3⟩ := new r' o' g' u' hr' h3 h7
        exact R1.sep _ _ o1 o2 g g' u u' b (by omega) f1 i1 (by rw [f2]; exact h4) (by rw [i2]; exact h5) f3 i3 h8 h9
  · rcases hb with hb | hb
    · exact Nat.lt_of_lt_of_le (R.lt b hb) hBl.size
    · exact R1.lt b hb
  · rcases hb with hb | hb
    · exact R.old b hb hlt
    · rcases hE1 b hb with h | h
      · exact R.old b (hS b h) hlt
      · have := R.keep.size
        omega
end
end Rdn.Dp
