/- Gateways and mailboxes of one list of outputs. -/
import Derived.Test.YtdjjhajkpfiagaaH6
namespace Go.Proofs.Ytdjjhajkpfiagaa
open Go Go.RowKit Rdn Rdn.Dp
set_option linter.unusedVariables false
set_option linter.unusedSimpArgs false
/-- A gateway that keeps a part of the list back. -/
def gw (W : List Output) (a f k : Nat) : Gateway := ⟨k, f, a, (W.take k).drop a⟩
def WOk (W : List Output) : Prop := W.length ≤ 64 ∧ ∀ j, j < W.length → okO 0 j W[j]!
def mb (W : List Output) (M : Nat) (e : Int) : Mailbox := ⟨M, e, W.take M⟩
theorem gw_len {W : List Output} {a f k : Nat} (h : k ≤ W.length) : (gw W a f k).held.length = k - a := by
  show ((W.take k).drop a).length = k - a
  rw [List.length_drop, List.length_take]; omega
theorem gw_at {W : List Output} {a f k j : Nat} (h : k ≤ W.length) (hj : j < k - a) : (gw W a f k).held[j]! = W[a + j]! := by
  show ((W.take k).drop a)[j]! = W[a + j]!
  rw [getElem!_pos _ j (by rw [List.length_drop, List.length_take]; omega), getElem!_pos W (a + j) (by omega), List.getElem_drop, List.getElem_take]
theorem gw_ok {W : List Output} {a f k : Nat} (hW : WOk W) (h1 : a ≤ f) (h2 : f ≤ k) (h3 : k ≤ W.length) : okG (gw W a f k) := by
  have h4 := hW.1
  have hl := gw_len (a := a) (f := f) h3
  refine ⟨⟨by show (0 : Int) ≤ a; omega, by show (a : Int) ≤ f; omega, by show (f : Int) ≤ k; omega, by show (k : Int) ≤ 200; omega, by omega, by rw [hl]; show ((k - a : Nat) : Int) = k - a; omega⟩, fun j hj => ?_⟩
  rw [hl] at hj
  rw [gw_at h3 hj]
  obtain ⟨e1, e2, e3, e4⟩ := hW.2 (a + j) (by omega)
  exact ⟨by rw [e1]; show (0 : Int) + ((a + j : Nat) : Int) = (a : Int) + j; omega, e2, e3, e4⟩
theorem WOk.snoc {W : List Output} (h : WOk W) (hl : W.length < 64) {s : Int} {d : List Canon} (h0 : 0 ≤ s) (h1 : s < 2) (hd : d.length ≤ 16) : WOk (W ++ [⟨W.length, s, d⟩]) := by
  refine ⟨by rw [List.length_append]; simp; omega, fun j hj => ?_⟩
  rw [List.length_append] at hj
  simp only [List.length_cons, List.length_nil] at hj
  by_cases e : j < W.length
  · rw [getElem!_pos _ j (by rw [List.length_append]; simp; omega), List.getElem_append_left e, ← getElem!_pos W j e]
    exact h.2 j e
  · obtain rfl : j = W.length := by omega
    rw [getElem!_pos _ _ (by rw [List.length_append]; simp), List.getElem_append_right (Nat.le_refl _)]
    simp only [Nat.sub_self, List.getElem_cons_zero]
    exact ⟨by show (W.length : Int) = 0 + W.length; omega, h0, h1, hd⟩
theorem gw_snoc {W : List Output} {o : Output} {a f k : Nat} (h : k ≤ W.length) : gw (W ++ [o]) a f k = gw W a f k := by
  unfold gw
  rw [List.take_append_of_le_length h]
/-- An elder copy. -/
def OldG (W : List Output) (F M : Nat) (g : Gateway) : Prop := ∃ a f k : Nat, g = gw W a f k ∧ a ≤ f ∧ f ≤ F ∧ f ≤ k ∧ k ≤ W.length ∧ a ≤ M
/-- The newest copy. -/
def NewG (W : List Output) (F M : Nat) (g : Gateway) : Prop := ∃ a : Nat, g = gw W a F W.length ∧ a ≤ F ∧ a ≤ M
theorem OldG.mono {W : List Output} {F M F' M' : Nat} {g : Gateway} (h : OldG W F M g) (hF : F ≤ F') (hM : M ≤ M') : OldG W F' M' g := by
  obtain ⟨a, f, k, h1, h2, h3, h4, h5, h6⟩ := h
  exact ⟨a, f, k, h1, h2, by omega, h4, h5, by omega⟩
theorem OldG.snoc {W : List Output} {F M : Nat} {g : Gateway} {o : Output} (h : OldG W F M g) : OldG (W ++ [o]) F M g := by
  obtain ⟨a, f, k, rfl, h2, h3, h4, h5, h6⟩ := h
  exact ⟨a, f, k, (gw_snoc h5).symm, h2, h3, h4, by rw [List.length_append]; omega, h6⟩
theorem NewG.old {W : List Output} {F M : Nat} {g : Gateway} (h : NewG W F M g) (hF : F ≤ W.length) : OldG W F M g := by
  obtain ⟨a, rfl, h1, h2⟩ := h
  exact ⟨a, F, W.length, rfl, h1, Nat.le_refl _, hF, Nat.le_refl _, h2⟩
theorem OldG.ok {W : List Output} {F M : Nat} {g : Gateway} (h : OldG W F M g) (hW : WOk W) : okG g := by
  obtain ⟨a, f, k, rfl, h2, h3, h4, h5, h6⟩ := h
  exact gw_ok hW h2 h4 h5
theorem new_off {W : List Output} {F M : Nat} {g : Gateway} {s : Int} {d : List Canon} (h : NewG W F M g) (hW : WOk W) (hF : F ≤ W.length) (hl : W.length < 64) (h0 : 0 ≤ s) (h1 : s < 2) (hd : d.length ≤ 16) : ∃ g', sOff g s d = (g', (W.length : Int), 0) ∧ NewG (W ++ [⟨W.length, s, d⟩]) F M g' := by
  obtain ⟨a, rfl, a1, a2⟩ := h
  have hok := gw_ok hW a1 hF (Nat.le_refl _)
  have hlen := gw_len (W := W) (a := a) (f := F) (Nat.le_refl _)
  unfold sOff
  rw [chk_T hok, if_neg (by omega), if_neg (by omega), if_neg (by rw [hlen]; show ¬ ((W.length : Int) = 200 ∨ W.length - a = 64); omega)]
  refine ⟨_, rfl, a, ?_, a1, a2⟩
  unfold gw
  dsimp only
  rw [List.length_append, List.take_of_length_le (Nat.le_refl W.length), List.take_of_length_le (Nat.le_of_eq List.length_append), List.drop_append_of_le_length (by omega)]
  congr 1
theorem new_free {W : List Output} {F M n : Nat} {g : Gateway} (h : NewG W F M g) (hW : WOk W) (h1 : F ≤ n) (h2 : n ≤ W.length) : ∃ g', sFree g n = (g', 0) ∧ NewG W n M g' := by
  obtain ⟨a, rfl, a1, a2⟩ := h
  have hok := gw_ok hW a1 (by omega : F ≤ W.length) (Nat.le_refl _)
  unfold sFree
  rw [chk_T hok, if_neg (by omega), if_neg (by show ¬ ((n : Int) < F ∨ (n : Int) > W.length); omega)]
  exact ⟨_, rfl, a, rfl, by omega, a2⟩
theorem new_ack {W : List Output} {F M : Nat} {g : Gateway} (h : NewG W F M g) (hW : WOk W) (h1 : M ≤ F) (h2 : F ≤ W.length) : ∃ g', sAck g M = (g', 0) ∧ NewG W F M g' := by
  obtain ⟨a, rfl, a1, a2⟩ := h
  have hok := gw_ok hW a1 h2 (Nat.le_refl _)
  unfold sAck
  rw [chk_T hok, if_neg (by omega), if_neg (by show ¬ ((M : Int) < a ∨ (M : Int) > F); omega)]
  refine ⟨_, rfl, M, ?_, h1, Nat.le_refl _⟩
  unfold gw
  dsimp only
  rw [List.drop_drop, show a + ((M : Int) - a).toNat = M by omega]
theorem old_send {W : List Output} {F M : Nat} {g : Gateway} (h : OldG W F M g) (hW : WOk W) : ∃ a f : Nat, sSend g = ((W.take f).drop a, 0) ∧ a ≤ f ∧ f ≤ F ∧ a ≤ M ∧ f ≤ W.length := by
  obtain ⟨a, f, k, rfl, h2, h3, h4, h5, h6⟩ := h
  have hok := gw_ok hW h2 h4 h5
  unfold sSend
  rw [chk_T hok, if_neg (by omega)]
  refine ⟨a, f, ?_, h2, h3, h6, by omega⟩
  have e : ((gw W a f k).free - (gw W a f k).acked).toNat = f - a := by show ((f : Int) - a).toNat = f - a; omega
  rw [e]
  show (((W.take k).drop a).take (f - a), (0 : Int)) = _
  rw [List.take_drop, List.take_take, show min (a + (f - a)) k = f by omega]
theorem mb_take {W : List Output} {M j : Nat} {e : Int} (hW : WOk W) (he : e ≤ 1) (hj : j ≤ M) (hl : j < W.length) (hM : M ≤ W.length) : (sTake (mb W M e) 1 W[j]!).1 = mb W (max M (j + 1)) 1 := by
  have h64 := hW.1
  obtain ⟨s1, -, -, -⟩ := hW.2 j hl
  unfold sTake
  have e1 : (mb W M e).next = M := rfl
  have e2 : (mb W M e).epoch = e := rfl
  rw [e1, e2, if_neg (by omega), if_neg (by omega)]
  by_cases h : j < M
  · rw [if_pos (by omega)]
    show (⟨(M : Int), 1, W.take M⟩ : Mailbox) = mb W (max M (j + 1)) 1
    rw [show max M (j + 1) = M by omega]; rfl
  · obtain rfl : j = M := by omega
    rw [if_neg (by omega), if_neg (by omega)]
    show (⟨(j : Int) + 1, 1, W.take j ++ [W[j]!]⟩ : Mailbox) = mb W (max j (j + 1)) 1
    rw [show max j (j + 1) = j + 1 by omega, ← take_snoc hl]; rfl
theorem mb_snoc {W : List Output} {M : Nat} {e : Int} {o : Output} (h : M ≤ W.length) : mb (W ++ [o]) M e = mb W M e := by
  unfold mb
  rw [List.take_append_of_le_length h]
theorem mb_fit {W : List Output} {M : Nat} {e : Int} (hW : WOk W) : fitO (mb W M e).taken := by
  have h := hW.1
  refine ⟨by show (W.take M).length ≤ _; rw [List.length_take]; omega, fun o ho => ?_⟩
  have ho : o ∈ W.take M := ho
  obtain ⟨j, hj, rfl⟩ := List.mem_iff_getElem.1 (List.mem_of_mem_take ho)
  have := (hW.2 j hj).2.2.2
  rw [getElem!_pos W j hj] at this
  omega
theorem WOk.data {W : List Output} (h : WOk W) {j : Nat} (hj : j < W.length) : W[j]!.data.length ≤ 16 := (h.2 j hj).2.2.2
end Go.Proofs.Ytdjjhajkpfiagaa
