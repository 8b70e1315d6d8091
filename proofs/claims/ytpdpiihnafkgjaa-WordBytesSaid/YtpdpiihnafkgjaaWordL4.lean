/- The law WordPairs. -/
import Derived.Test.YtpdpiihnafkgjaaWordL1
import Derived.Test.YtpdpiihnafkgjaaWordW
import Derived.Test.YtpdpiihnafkgjaaStr
import Derived.Lib.ItoaWalk
namespace Go.Proofs.Ytpdpiihnafkgjaa
open Go Go.RowKit Rdn
set_option linter.unusedVariables false

theorem wbytes_bwords : ∀ (k : Nat) (b : List Int), b.length = 2 * k → (∀ n ∈ b, 0 ≤ n ∧ n ≤ 255) → wbytes (bwords b) = b
  | 0, [], _, _ => rfl
  | k + 1, x :: y :: b, h, hb => by
    have ih := wbytes_bwords k b (by simp at h; omega) (fun n hn => hb n (by simp [hn]))
    obtain ⟨x0, x1⟩ := hb x (by simp)
    obtain ⟨y0, y1⟩ := hb y (by simp)
    simp only [bwords, wbytes, List.flatMap_cons] at ih ⊢
    rw [ih, show (x * 256 + y) / 256 = x by omega, show (x * 256 + y) % 256 = y by omega]
    rfl
theorem bytes_in {S : Nat → Prop} {w : World} {l : List Int} {v : Value} (h : SlV (Sh.int .u8) S w l v) : ∀ n ∈ l, 0 ≤ n ∧ n ≤ 255 := by
  intro n hn
  obtain ⟨A, c, rfl, _, _⟩ := h.shape
  obtain ⟨i, hi, rfl⟩ := List.getElem_of_mem hn
  obtain ⟨_, _, _, _, _, _, hx⟩ := ints_at h hi
  have h1 := hx.1
  have h2 := hx.2
  simp [IntKind.min, IntKind.max, IntKind.signed, IntKind.bits] at h1 h2
  omega

structure pairsC (l : List Int) (W : World) (g : Nat → Option Value) (y : World) : Prop where
  keep : Below W.heap.size W y
  s : ∀ v, g 12 = some v → SlV (Sh.int .u8) (fun _ => True) y l v
theorem pairsC.mono {l : List Int} {W y y' : World} {g : Nat → Option Value} (h : pairsC l W g y) (i : Nat) (u : Value) (hi : i ≠ 12) (hb : Below y.heap.size y y') : pairsC l W (Gho.upo g i u) y' :=
  ⟨h.keep.trans (hb.mono h.keep.size), fun v hv => (h.s v ((Gho.upo_ne g u (Ne.symm hi)) ▸ hv)).grow hb⟩
def pairsSh (l : List Int) (i : Nat) (u : Value) : Prop := match i with
  | 13 => u = .string (strOfNums l)
  | 15 => u = .string (strOfNums l)
  | 19 => u = .bool true
  | _ => True

set_option maxHeartbeats 2000000 in
theorem pairs_any (b : List Int) (vb : Value) (w : World) (hb : SlV (Sh.int .u8) (old w) w b vb) :
    Calls Try.prog 8 #[vb] w fun e w' => e = .returned (.bool true) ∧ Below w.heap.size w w' := by
  have hin := bytes_in hb
  obtain ⟨A, c, rfl, hc, hm⟩ := hb.shape
  by_cases hlen : 400 < b.length
  · go_enter Try.func8, Try.ntmps8
    go_wp2_with fail
    with_reducible refine (awake01_any _).mono ?_
    rintro e w1 ⟨rfl, hB⟩
    go_wp2_with fail
    go_ret
    exact ⟨rfl, hB⟩
  have hlen' : b.length ≤ 400 := by omega
  go_enter Try.func8, Try.ntmps8
  go_wp2_with fail
  with_reducible refine (wordwords_any _ _ _ (by omega) hb).mono ?_
  rintro e w1 ⟨v1, rfl, hv1, hB1⟩
  by_cases hodd : b.length % 2 = 0
  · have h2 : ((b.length : Int) % 2 == 1) = false := by simp; omega
    have e1 : wordsOf b = bwords b := by rw [wordsOf, if_pos hodd]
    have e2 : errOf b = 0 := by rw [errOf, if_pos hodd]
    have hl1 := bwords_len (b.length / 2) b (by omega)
    have hw := wbytes_bwords (b.length / 2) b (by omega) hin
    rw [e1] at hv1
    rw [e2]
    obtain ⟨L, hL⟩ : ∃ L, L = bwords b := ⟨_, rfl⟩
    rw [← hL] at hv1 hl1 hw
    obtain ⟨A1, c1, rfl, hc1, hm1⟩ := hv1.shape
    have h3 : ((2 : Int) * (L.length : Int) == (b.length : Int)) = true := by simp; omega
    have hLl : L.length ≤ 200 := by omega
    have hwr : IntKind.i64.wrap ((2 : Int) * (L.length : Int)) = (b.length : Int) := by simp only [IntKind.wrap, IntKind.signed, IntKind.bits]; simp; omega
    have hb1 := hb.grow hB1
    have HL := Lib.hid hl1
    have HB := Lib.hid hB1
    have HW := Lib.hid hw
    clear hL hB1 hw e1 e2 hl1
    go_wp2_with fail
    refine Gho.region (pairsC b w1) [12, 13, 15, 19] (pairsSh b) (by kernel_rfl) (by kernel_rfl) ⟨⟨rfl, rfl, rfl, Nat.le_refl _, fun _ _ => rfl⟩, fun v h => by (cases h)⟩ ?_
    intro C hCe hne
    iterate 12
      refine Gho.step (fun K hK => ?_)
      go_simp
      refine hK _ _ ?_; clear hK K
    refine Gho.rel (by rfl) (by rfl) ⟨undef, trivial⟩ ?_ ?_
    · intro g y hC hn hF
      obtain rfl := hCe.out
      have hv := hv1.grow hC.keep
      go_simp
      refine (wordbytes_any L _ y (by omega) (hv.sub (fun b hb _ => hb))).mono ?_
      rintro e y' ⟨v', rfl, hs', hB'⟩
      refine ⟨v', rfl, ⟨hC.keep.trans (hB'.mono hC.keep.size), fun v hv => ?_⟩, trivial⟩
      rw [Gho.upo_same] at hv
      obtain rfl := Option.some.inj hv
      rw [← HW.out]
      exact hs'.sub (fun _ _ _ => trivial)
    rintro u12 _
    refine Gho.rel (by rfl) (by rfl) ⟨_, rfl⟩ ?_ ?_
    · intro g y hC hn hF
      obtain rfl := hCe.out
      have g12 := hF.get 0 rfl (by kernel_rfl)
      exact relAt_str (.tmp 40) 32 5 9 rfl Try.underlying32 Try.underlying5 Try.underlying9 rfl (hC.s _ g12) ⟨hC.mono _ _ (by decide) (Below.refl _ _), rfl⟩
    rintro u rfl
    refine Gho.step (fun K hK => ?_)
    go_simp
    refine hK _ _ ?_; clear hK K
    refine Gho.rel (by rfl) (by rfl) ⟨_, rfl⟩ ?_ ?_
    · intro g y hC hn hF
      obtain rfl := hCe.out
      exact relAt_str (.tmp 42) 32 5 9 rfl Try.underlying32 Try.underlying5 Try.underlying9 rfl (hb1.grow hC.keep) ⟨hC.mono _ _ (by decide) (Below.refl _ _), rfl⟩
    rintro u rfl
    iterate 3
      refine Gho.step (fun K hK => ?_)
      go_simp
      refine hK _ _ ?_; clear hK K
    refine Gho.rel (by rfl) (by rfl) ⟨_, rfl⟩ ?_ ?_
    · intro g y hC hn hF
      obtain rfl := hCe.out
      go_simp
      refine (awake01_any y).mono ?_
      rintro e y' ⟨rfl, hB'⟩
      exact ⟨_, rfl, hC.mono _ _ (by decide) hB', rfl⟩
    rintro u rfl
    iterate 2
      refine Gho.step (fun K hK => ?_)
      go_simp
      refine hK _ _ ?_; clear hK K
    refine Gho.done ?_
    intro g y hC hF
    obtain rfl := hCe.out
    have hB' : Below w.heap.size w y := HB.out.trans (hC.keep.mono HB.out.size)
    go_wp2_with fail
    go_ret
    exact ⟨rfl, hB'⟩
  · have h2 : ((b.length : Int) % 2 == 1) = true := by simp; omega
    have e1 : wordsOf b = [] := by rw [wordsOf, if_neg hodd]
    have e2 : errOf b = 5 := by rw [errOf, if_neg hodd]
    rw [e1] at hv1
    rw [e2]
    obtain ⟨A1, c1, rfl, hc1, hm1⟩ := hv1.shape
    have HB := Lib.hid hB1
    clear hB1
    go_wp2_with fail
    with_reducible refine (awake01_any _).mono ?_
    rintro e w2 ⟨rfl, hB2⟩
    go_wp2_with fail
    go_ret
    exact ⟨rfl, HB.out.trans (hB2.mono HB.out.size)⟩

theorem pairs_law {a0 : List Int} {v0 : Value} (W : World) (e0 : (Sh.slice (Sh.int .u8)).rd (old W) W a0 [v0]) :
    Calls Try.prog 8 #[v0] W fun e w' => e = .returned (.bool true) ∧ Below W.heap.size W w' := by
  obtain ⟨_, h0, b0⟩ := e0
  simp only [List.cons.injEq, and_true] at h0
  subst h0
  exact pairs_any _ _ W b0
end Go.Proofs.Ytpdpiihnafkgjaa
