/- The deck of numbers: whatever its list is, Next yields a number below its bound, and turns nothing but the deck's own cell. -/
import Derived.Test.YtpdpiihnafkgjaaWordA
import Derived.Test.YtpdpiihnafkgjaaMem
import Derived.Test.YtpdpiihnafkgjaaShapes
import Derived.Lib.ItoaWalk
namespace Go.Proofs.Ytpdpiihnafkgjaa
open Go Go.RowKit Rdn
set_option linter.unusedVariables false

/-- Block g holds a deck: its list lies in other blocks, below N. -/
def Deck (N : Nat) (w : World) (g : Nat) : Prop :=
  ∃ (l : List Int) (A : Option Addr) (c n : Nat), w.heap[g]? = some (.cells #[.slice A l.length c, .int .i64 n] 72 (0, 0)) ∧ n ≤ l.length ∧ N ≤ w.heap.size ∧
    SlV (Sh.int .i64) (fun b => b < N ∧ b ≠ g) w l (.slice A l.length c)

/-- Only block g has turned. -/
abbrev Only (g : Nat) (w w' : World) : Prop := w.grownBy w' (some g)

theorem Only.refl (g : Nat) (w : World) : Only g w w := World.grownBy.refl _ _
theorem Only.trans {g : Nat} {a b c : World} (h : Only g a b) (k : Only g b c) : Only g a c := World.grownBy.trans h k
theorem Only.below {g B : Nat} {w w' : World} (h : Only g w w') (hg : B ≤ g) (hB : B ≤ w.heap.size) : Below B w w' :=
  (Below.refl B w).grown h hB (fun k hk => by injection hk with hk; omega)
theorem Only.drewN {g : Nat} {a w : World} (h : Only g a w) (n : Nat) : Only g a (w.drewN n) := ⟨h.os, h.tape, h.output, h.size, h.block⟩
theorem Only.setCell {g o : Nat} {a w : World} (h : Only g a w) (u : Value) : Only g a (w.setCell ⟨g, o, none⟩ u) :=
  ⟨h.os, h.tape, h.output, by simpa [World.setCell] using h.size, fun i hi hne => (Below.heap_setCell w ⟨g, o, none⟩ u i (fun e => hne (by rw [e]))).trans (h.block i hi hne)⟩
theorem Deck.lt {N : Nat} {w : World} {g : Nat} (h : Deck N w g) : g < w.heap.size := by
  obtain ⟨l, A, c, n, hg, _⟩ := h
  exact (Array.getElem?_eq_some_iff.1 hg).1
theorem Deck.le {N : Nat} {w : World} {g : Nat} (h : Deck N w g) : N ≤ w.heap.size := by
  obtain ⟨l, A, c, n, _, _, hN, _⟩ := h
  exact hN
/-- What leaves the deck's blocks alone leaves the deck. -/
theorem Deck.keep {N : Nat} {w w' : World} {g : Nat} (h : Deck N w g) (hk : ∀ b, b < w.heap.size → (b < N ∨ b = g) → w'.heap[b]? = w.heap[b]?) (hs : w.heap.size ≤ w'.heap.size) : Deck N w' g := by
  have hlt := h.lt
  obtain ⟨l, A, c, n, hg, hn, hN, hs'⟩ := h
  exact ⟨l, A, c, n, (hk g hlt (.inr rfl)).trans hg, hn, Nat.le_trans hN hs, SlV.mono (fun b hb => hb) (fun b hb => hk b (Nat.lt_of_lt_of_le hb.1 hN) (.inl hb.1)) hs'⟩
theorem Deck.setCell {N : Nat} {w : World} {g : Nat} {p : Addr} (h : Deck N w g) (hp : N ≤ p.block) (hg : p.block ≠ g) (u : Value) : Deck N (w.setCell p u) g :=
  h.keep (fun b _ hb => Below.heap_setCell w p u b (by omega)) (by simp [World.setCell])
theorem Deck.drewN {N : Nat} {w : World} {g : Nat} (h : Deck N w g) (n : Nat) : Deck N (w.drewN n) g := h.keep (fun _ _ _ => rfl) (Nat.le_refl _)
theorem Deck.drew {N : Nat} {w : World} {g : Nat} (h : Deck N w g) : Deck N w.drew g := h.keep (fun _ _ _ => rfl) (Nat.le_refl _)
theorem Deck.alloc {N : Nat} {w : World} {g : Nat} {o : Obj} (h : Deck N w g) : Deck N (w.alloc o) g := h.keep (fun b hb _ => Below.heap_alloc w o b hb) (by simp)
theorem Only.drew {g : Nat} {a w : World} (h : Only g a w) : Only g a w.drew := ⟨h.os, h.tape, h.output, h.size, h.block⟩
theorem Only.alloc {g : Nat} {a w : World} {o : Obj} (h : Only g a w) : Only g a (w.alloc o) :=
  ⟨h.os, h.tape, h.output, Nat.le_trans h.size (by simp), fun i hi hne => (Below.heap_alloc w o i (Nat.lt_of_lt_of_le hi h.size)).trans (h.block i hi hne)⟩
theorem Only.setNew {g : Nat} {a w : World} (h : Only g a w) {p : Addr} (hp : a.heap.size ≤ p.block) (u : Value) : Only g a (w.setCell p u) :=
  ⟨h.os, h.tape, h.output, by simpa [World.setCell] using h.size, fun i hi hne => (Below.heap_setCell w p u i (fun e => by omega)).trans (h.block i hi hne)⟩
theorem Only.cell {g : Nat} {a w : World} (h : Only g a w) {p : Addr} {v : Value} (hc : a.cell? p = some v) (hne : p.block ≠ g) : w.cell? p = some v :=
  (World.cell?_of_block (w := a) (h.block p.block (World.block_lt_of_cell? a p hc) (fun e => hne (by injection e)))).trans hc
theorem Only.keep {g : Nat} {w w' : World} {S : Nat → Prop} (h : Only g w w') (hs : S g) : Keep S w w' :=
  ⟨h.os, h.tape, h.output, h.size, fun i hi hn => h.block i hi (fun e => hn (by injection e with e; rw [e]; exact hs))⟩

theorem keep_only {g : Nat} {w w' : World} {S : Nat → Prop} (h : Keep S w w') (hs : ∀ b, b < w.heap.size → S b → b = g) : Only g w w' :=
  ⟨h.os, h.tape, h.output, h.size, fun i hi hn => h.block i hi (fun e => hn (by rw [hs i hi e]))⟩
theorem Deck.keepK {N : Nat} {w w' : World} {g : Nat} {K : Nat → Prop} (h : Deck N w g) (k : Keep K w w') (hn : ∀ b, b < N → ¬ K b) (hg : ¬ K g) : Deck N w' g :=
  h.keep (fun b hb e => k.block b hb (e.elim (hn b) (fun e => e ▸ hg))) k.size
/-- The deck stays, and all but its block, where a slice of the call's own is written. -/
theorem deck_own {N g B : Nat} {w w4 w' : World} {v : Value} (hD : Deck N w4 g) (hO : Only g w w4) (hN : N ≤ B) (hB : w.heap.size ≤ B) (hg : g < B) (ho : ∀ b, v.ownBlock = some b → B ≤ b) (hk : Keep (fun b => v.ownBlock = some b) w4 w') : Deck N w' g ∧ Only g w w' := by
  refine ⟨hD.keepK hk (fun b hb e => by have := ho b e; omega) (fun e => by have := ho g e; omega), ?_⟩
  have h1 : Keep (fun b => b = g ∨ v.ownBlock = some b) w w' := (hO.keep (.inl rfl)).trans (hk.mono (fun b _ e => .inr e))
  exact keep_only h1 (fun b hb e => e.elim id (fun e => by have := ho b e; omega))
theorem next_any (N g : Nat) (m : Int) (w : World) (hm : 1 ≤ m) (hm2 : m ≤ 1000000000) (hd : Deck N w g) :
    Calls Try.prog 34 #[.pointer (some ⟨g, 0, none⟩), .int .i64 m] w fun e w' =>
      ∃ r : Nat, (r : Int) < m ∧ e = .returned (.int .i64 r) ∧ Deck N w' g ∧ Only g w w' := by
  have hD := Lib.hid hd
  obtain ⟨l, A, c, n, hg, hn, hN, hs⟩ := hd
  have c0 : w.cell? ⟨g, 0, none⟩ = some (.slice A l.length c) := by simp [World.cell?, hg]
  have c1 : w.cell? ⟨g, 1, none⟩ = some (.int .i64 n) := by simp [World.cell?, hg]
  have f1 : w.frozen? ⟨g, 1, none⟩ = false := by simp [World.frozen?, hg]
  obtain ⟨_, _, _, _, hlm⟩ := hs.shape
  have HG := Lib.hid hg
  clear hg
  by_cases hlt : n < l.length
  · obtain ⟨b, o, rfl, hS, hb, hc, h1, h2⟩ := ints_at hs hlt
    have h1' : -9223372036854775808 ≤ l[n] := h1
    have h2' : l[n] ≤ 9223372036854775807 := h2
    clear h1 h2
    have hne : g ≠ b := fun e => hS.2 e.symm
    go_enter Try.func34, Try.ntmps34
    go_wp2_with fail
    go_quiet (fail)
    go_wp2_with fail
    go_name_world W1 hW1
    have hO : Only g w W1 := by rw [← hW1]; exact ((Only.refl g w).drewN _).setCell _
    have hG1 : W1.heap[g]? = some (.cells #[.slice (some ⟨b, o, none⟩) l.length c, .int .i64 (n + 1)] 72 (0, 0)) := by
      rw [← hW1]
      have := HG.out
      simp [World.setCell, Array.getElem?_modify, this]
    have hb1 : W1.heap[b]? = w.heap[b]? := hO.block b hb (fun e => hne (by injection e with e; exact e.symm))
    have k0 : W1.cell? ⟨g, 0, none⟩ = some (.slice (some ⟨b, o, none⟩) l.length c) := by simp [World.cell?, hG1]
    have k1 : W1.cell? ⟨g, 1, none⟩ = some (.int .i64 (n + 1)) := by simp [World.cell?, hG1]
    have kb : W1.cell? ⟨b, o + n, none⟩ = some (.int .i64 l[n]) := (World.cell?_of_block (w := w) (a := ⟨b, o + n, none⟩) hb1).trans hc
    have hDk : Deck N W1 g := ⟨l, some ⟨b, o, none⟩, c, n + 1, hG1, hlt, Nat.le_trans hN hO.size, SlV.mono (fun q hq => hq) (fun q hq => hO.block q (Nat.lt_of_lt_of_le hq.1 hN) (fun e => hq.2 (by injection e))) hs⟩
    have HDk := Lib.hid hDk
    have HO := Lib.hid hO
    clear hDk hO hW1 hG1 hb1 c0 c1 f1 hc hs
    have hr0 : 0 ≤ l[n] % m := Int.emod_nonneg _ (by omega)
    have hr1 : l[n] % m < m := Int.emod_lt_of_pos _ (by omega)
    obtain ⟨r, hr⟩ := Int.eq_ofNat_of_zero_le hr0
    rw [hr] at hr1
    have HR := Lib.hid hr
    clear hr hr0
    go_quiet ((go_at_call 13; exact quiet_same (mkmod_any _ _ _ hm (by omega) h1' h2')))
    go_wp2_with fail
    go_ret
    exact ⟨r, hr1, ret_int HR.out, HDk.out.drewN _, HO.out.drewN _⟩
  · go_enter Try.func34, Try.ntmps34
    go_wp2_with fail
    go_quiet (fail)
    go_wp2_with fail
    go_ret
    exact ⟨0, by omega, rfl, hD.out.drewN _, (Only.refl _ _).drewN _⟩
end Go.Proofs.Ytpdpiihnafkgjaa
