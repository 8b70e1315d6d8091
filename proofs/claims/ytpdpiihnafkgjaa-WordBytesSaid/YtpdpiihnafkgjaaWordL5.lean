/- The law WordBytes. -/
import Derived.Test.YtpdpiihnafkgjaaWordL4
import Derived.Test.YtpdpiihnafkgjaaSame01
import Derived.Test.YtpdpiihnafkgjaaFresh
namespace Go.Proofs.Ytpdpiihnafkgjaa
open Go Go.RowKit Rdn
set_option linter.unusedVariables false

theorem bwords_wbytes : ∀ (l : List Int), (∀ n ∈ l, 0 ≤ n ∧ n ≤ 65535) → bwords (wbytes l) = l
  | [], _ => rfl
  | x :: l, h => by
    have ih := bwords_wbytes l (fun n hn => h n (by simp [hn]))
    obtain ⟨x0, x1⟩ := h x (by simp)
    simp only [wbytes, List.flatMap_cons] at ih ⊢
    simp only [List.cons_append, List.nil_append, bwords]
    rw [ih, show x / 256 * 256 + x % 256 = x by omega]
theorem words_in {S : Nat → Prop} {w : World} {l : List Int} {v : Value} (h : SlV (Sh.int .u16) S w l v) : ∀ n ∈ l, 0 ≤ n ∧ n ≤ 65535 := by
  intro n hn
  obtain ⟨A, c, rfl, _, _⟩ := h.shape
  obtain ⟨i, hi, rfl⟩ := List.getElem_of_mem hn
  obtain ⟨_, _, _, _, _, _, hx⟩ := ints_at h hi
  have h1 := hx.1
  have h2 := hx.2
  simp [IntKind.min, IntKind.max, IntKind.signed, IntKind.bits] at h1 h2
  omega
def wbR (l : List Int) (i : Nat) (y : World) (v : Value) : Prop := match i with
  | 1 => SlV (Sh.int .u8) (fun _ => True) y (wbytes l) v
  | 4 => SlV (Sh.int .u8) (fun _ => True) y (wbytes l) v
  | 28 => SlV Cell.sh (fun _ => True) y (wcells l) v
  | 30 => SlV Cell.sh (fun _ => True) y (wcells l) v
  | _ => True
theorem wbR_mono {l : List Int} {y y' : World} (i : Nat) (v : Value) (h : wbR l i y v) (hb : Below y.heap.size y y') : wbR l i y' v := by
  unfold wbR at h ⊢
  split at h
  · exact h.grow hb
  · exact h.grow hb
  · exact h.grow hb
  · exact h.grow hb
  · trivial
def wbSh (l : List Int) (i : Nat) (u : Value) : Prop := match i with
  | 2 => u = .string (strOfNums (wbytes l))
  | 5 => u = .string (strOfNums (wbytes l))
  | 15 => u = .bool true
  | 24 => u = .bool true
  | 31 => u = .bool true
  | 34 => u = .bool true
  | _ => True

set_option maxHeartbeats 2000000 in
theorem wbytes_any (l b : List Int) (vl vb : Value) (w : World) (hl : SlV (Sh.int .u16) (old w) w l vl) (hb : SlV (Sh.int .u8) (old w) w b vb) :
    Calls Try.prog 9 #[vl, vb] w fun e w' => e = .returned (.bool true) ∧ Below w.heap.size w w' := by
  have hin := words_in hl
  obtain ⟨A, c, rfl, hc, hm⟩ := hl.shape
  obtain ⟨A', c', rfl, hc', hm'⟩ := hb.shape
  by_cases hlen : 200 < l.length ∨ 400 < b.length
  · by_cases h1 : 200 < l.length
    · go_enter Try.func9, Try.ntmps9
      go_wp2_with fail
      with_reducible refine (awake01_any _).mono ?_
      rintro e w1 ⟨rfl, hB⟩
      go_wp2_with fail
      go_ret
      exact ⟨rfl, hB⟩
    · have h2 : 400 < b.length := by omega
      go_enter Try.func9, Try.ntmps9
      go_wp2_with fail
      with_reducible refine (awake01_any _).mono ?_
      rintro e w1 ⟨rfl, hB⟩
      go_wp2_with fail
      go_ret
      exact ⟨rfl, hB⟩
  have hl200 : l.length ≤ 200 := by omega
  have hb400 : b.length ≤ 400 := by omega
  go_enter Try.func9, Try.ntmps9
  go_wp2_with fail
  with_reducible refine (wordwords_any _ _ _ (by omega) hb).mono ?_
  rintro e w1 ⟨v5, rfl, h5, hB1⟩
  go_wp2_with fail
  with_reducible refine (refwords_any _ _ _ (by omega) (hb.grow hB1).toOld).mono ?_
  rintro e w2 ⟨v7, rfl, h7, hB2⟩
  go_wp2_with fail
  have hl2 := (hl.grow hB1).grow (hB2.mono (Nat.le_refl _))
  with_reducible refine (wordbytes_any l _ _ (by omega) hl2.toOld).mono ?_
  rintro e w3 ⟨v32, rfl, h32, hB3⟩
  have hle : (wbytes l).length ≤ 400 := by rw [wbytes_len]; omega
  have e1 : wordsOf (wbytes l) = l := by rw [wordsOf, if_pos (by rw [wbytes_len]; omega), bwords_wbytes l hin]
  have e2 : errOf (wbytes l) = 0 := by rw [errOf, if_pos (by rw [wbytes_len]; omega)]
  go_wp2_with fail
  with_reducible refine (wordwords_any _ _ _ (by omega) h32.toOld).mono ?_
  rintro e w4 ⟨v9, rfl, h9, hB4⟩
  rw [e1] at h9
  rw [e2]
  clear e1 e2
  have h5 := (((h5.grow hB2).grow hB3).grow hB4).sub (S' := fun _ => True) (fun _ _ _ => trivial)
  have h7 := ((h7.grow hB3).grow hB4).sub (S' := fun _ => True) (fun _ _ _ => trivial)
  have h9 := h9.sub (S' := fun _ => True) (fun _ _ _ => trivial)
  have hl4 := ((hl2.grow hB3).grow hB4).sub (S' := fun _ => True) (fun _ _ _ => trivial)
  have hB12 := hB1.trans (hB2.mono hB1.size)
  have hB13 := hB12.trans (hB3.mono hB12.size)
  have hB14 := hB13.trans (hB4.mono hB13.size)
  have HB := Lib.hid hB14
  obtain ⟨E, hE⟩ : ∃ E, E = errOf b := ⟨_, rfl⟩
  rw [← hE]
  clear hE hB14 hB13 hB12 hB1 hB2 hB3 hB4 h32 hl2 hl hb
  go_wp2_with fail
  refine Gho.region (FreshC (wbR l) w4) [1, 2, 4, 5, 15, 24, 28, 30, 31, 34] (wbSh l) (by kernel_rfl) (by kernel_rfl) FreshC.init ?_
  intro C hCe hne
  refine Gho.step (fun K hK => ?_)
  go_simp
  refine hK _ _ ?_; clear hK K
  refine Gho.rel (by rfl) (by rfl) ⟨undef, trivial⟩ ?_ ?_
  · intro g y hC hn hF
    obtain rfl := hCe.out
    go_simp
    refine (wordbytes_any l _ y (by omega) (hl4.grow hC.keep).toOld).mono ?_
    rintro e y' ⟨v', rfl, hs', hB'⟩
    exact ⟨v', rfl, hC.next (fun i v h hb => wbR_mono i v h hb) _ _ hB' (hs'.sub (fun _ _ _ => trivial)), trivial⟩
  rintro u1 _
  refine Gho.rel (by rfl) (by rfl) ⟨_, rfl⟩ ?_ ?_
  · intro g y hC hn hF
    obtain rfl := hCe.out
    have g1 := hF.get 0 rfl (by kernel_rfl)
    exact relAt_str (.tmp 37) 32 5 9 rfl Try.underlying32 Try.underlying5 Try.underlying9 rfl (hC.s _ _ g1) ⟨hC.next (fun i v h hb => wbR_mono i v h hb) _ _ (Below.refl _ _) trivial, rfl⟩
  rintro u rfl
  refine Gho.step (fun K hK => ?_)
  go_simp
  refine hK _ _ ?_; clear hK K
  refine Gho.rel (by rfl) (by rfl) ⟨undef, trivial⟩ ?_ ?_
  · intro g y hC hn hF
    obtain rfl := hCe.out
    go_simp
    refine (refbytes_any l _ y (by omega) (hl4.grow hC.keep).toOld).mono ?_
    rintro e y' ⟨v', rfl, hs', hB'⟩
    exact ⟨v', rfl, hC.next (fun i v h hb => wbR_mono i v h hb) _ _ hB' (hs'.sub (fun _ _ _ => trivial)), trivial⟩
  rintro u4 _
  refine Gho.rel (by rfl) (by rfl) ⟨_, rfl⟩ ?_ ?_
  · intro g y hC hn hF
    obtain rfl := hCe.out
    have g1 := hF.get 0 rfl (by kernel_rfl)
    exact relAt_str (.tmp 40) 32 5 9 rfl Try.underlying32 Try.underlying5 Try.underlying9 rfl (hC.s _ _ g1) ⟨hC.next (fun i v h hb => wbR_mono i v h hb) _ _ (Below.refl _ _) trivial, rfl⟩
  rintro u rfl
  iterate 9
    refine Gho.step (fun K hK => ?_)
    go_simp
    refine hK _ _ ?_; clear hK K
  refine Gho.rel (by rfl) (by rfl) ⟨_, rfl⟩ ?_ ?_
  · intro g y hC hn hF
    obtain rfl := hCe.out
    go_simp
    refine (samewords_any _ _ _ _ _ _ y (h5.grow hC.keep) (h7.grow hC.keep)).mono ?_
    rintro e y' ⟨rfl, n, rfl⟩
    exact ⟨_, rfl, hC.next (fun i v h hb => wbR_mono i v h hb) _ _ (Below.drewN' (Below.refl _ _) n) trivial, by show Value.bool _ = .bool true; simp⟩
  rintro u rfl
  iterate 8
    refine Gho.step (fun K hK => ?_)
    go_simp
    refine hK _ _ ?_; clear hK K
  refine Gho.rel (by rfl) (by rfl) ⟨_, rfl⟩ ?_ ?_
  · intro g y hC hn hF
    obtain rfl := hCe.out
    go_simp
    refine (samewords_any _ _ _ _ _ _ y (h9.grow hC.keep) (hl4.grow hC.keep)).mono ?_
    rintro e y' ⟨rfl, n, rfl⟩
    exact ⟨_, rfl, hC.next (fun i v h hb => wbR_mono i v h hb) _ _ (Below.drewN' (Below.refl _ _) n) trivial, by show Value.bool _ = .bool true; simp⟩
  rintro u rfl
  iterate 3
    refine Gho.step (fun K hK => ?_)
    go_simp
    refine hK _ _ ?_; clear hK K
  refine Gho.rel (by rfl) (by rfl) ⟨undef, trivial⟩ ?_ ?_
  · intro g y hC hn hF
    obtain rfl := hCe.out
    go_simp
    refine (numbers_any l _ y (by omega) (hl4.grow hC.keep).toOld).mono ?_
    rintro e y' ⟨v', rfl, hs', hB'⟩
    exact ⟨v', rfl, hC.next (fun i v h hb => wbR_mono i v h hb) _ _ hB' (hs'.sub (fun _ _ _ => trivial)), trivial⟩
  rintro u28 _
  refine Gho.step (fun K hK => ?_)
  go_simp
  refine hK _ _ ?_; clear hK K
  refine Gho.rel (by rfl) (by rfl) ⟨undef, trivial⟩ ?_ ?_
  · intro g y hC hn hF
    obtain rfl := hCe.out
    go_simp
    refine (refnumbers_any l _ y (by omega) (hl4.grow hC.keep).toOld).mono ?_
    rintro e y' ⟨v', rfl, hs', hB'⟩
    exact ⟨v', rfl, hC.next (fun i v h hb => wbR_mono i v h hb) _ _ hB' (hs'.sub (fun _ _ _ => trivial)), trivial⟩
  rintro u30 _
  refine Gho.rel (by rfl) (by rfl) ⟨_, rfl⟩ ?_ ?_
  · intro g y hC hn hF
    obtain rfl := hCe.out
    have g30 := hF.get 0 rfl (by kernel_rfl)
    have g28 := hF.get 1 rfl (by kernel_rfl)
    go_simp
    refine (refsame_any _ _ _ _ _ _ y (hC.s _ _ g28) (hC.s _ _ g30)).mono ?_
    rintro e y' ⟨rfl, n, rfl⟩
    exact ⟨_, rfl, hC.next (fun i v h hb => wbR_mono i v h hb) _ _ (Below.drewN' (Below.refl _ _) n) trivial, by show Value.bool _ = .bool true; simp⟩
  rintro u rfl
  iterate 2
    refine Gho.step (fun K hK => ?_)
    go_simp
    refine hK _ _ ?_; clear hK K
  refine Gho.rel (by rfl) (by rfl) ⟨_, rfl⟩ ?_ ?_
  · intro g y hC hn hF
    obtain rfl := hCe.out
    go_simp
    refine (awake01_any y).mono ?_
    rintro e y' ⟨rfl, hB'⟩
    exact ⟨_, rfl, hC.next (fun i v h hb => wbR_mono i v h hb) _ _ hB' trivial, rfl⟩
  rintro u rfl
  iterate 2
    refine Gho.step (fun K hK => ?_)
    go_simp
    refine hK _ _ ?_; clear hK K
  refine Gho.done ?_
  intro g y hC hF
  obtain rfl := hCe.out
  have hB' : Below w.heap.size w y := HB.out.trans (hC.keep.mono HB.out.size)
  go_wp2_with fail
  go_ret
  exact ⟨rfl, hB'⟩

theorem wbytes_law {a0 a1 : List Int} {v0 v1 : Value} (W : World) (e0 : (Sh.slice (Sh.int .u16)).rd (old W) W a0 [v0]) (e1 : (Sh.slice (Sh.int .u8)).rd (old W) W a1 [v1]) :
    Calls Try.prog 9 #[v0, v1] W fun e w' => e = .returned (.bool true) ∧ Below W.heap.size W w' := by
  obtain ⟨_, h0, b0⟩ := e0
  obtain ⟨_, h1, b1⟩ := e1
  simp only [List.cons.injEq, and_true] at h0 h1
  subst h0 h1
  exact wbytes_any _ _ _ _ W b0 b1
end Go.Proofs.Ytpdpiihnafkgjaa
