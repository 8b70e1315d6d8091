/- Contracts: word.Words and its reference. -/
import Derived.Test.YtpdpiihnafkgjaaWordB
import Derived.Test.YtpdpiihnafkgjaaPush
namespace Go.Proofs.Ytpdpiihnafkgjaa
open Go Go.RowKit Rdn
set_option linter.unusedVariables false

/-- The words of bytes. -/
def bwords : List Int → List Int
  | x :: y :: l => (x * 256 + y) :: bwords l
  | _ => []
theorem bwords_snoc (x y : Int) : ∀ (k : Nat) (a : List Int), a.length = 2 * k → bwords (a ++ [x, y]) = bwords a ++ [x * 256 + y]
  | 0, [], _ => rfl
  | k + 1, u :: v :: a, h => by
    have := bwords_snoc x y k a (by simp at h; omega)
    simp only [List.cons_append, bwords, this]
theorem bwords_take {l : List Int} {J : Nat} (h : J + 1 < l.length) (hJ : J % 2 = 0) : bwords (l.take (J + 2)) = bwords (l.take J) ++ [l[J] * 256 + l[J + 1]] := by
  rw [← bwords_snoc _ _ (J / 2) _ (by rw [List.length_take]; omega)]
  congr 1
  have e1 : l.take (J + 1) = l.take J ++ [l[J]] := by rw [List.take_add_one, List.getElem?_eq_getElem (by omega)]; rfl
  have e2 : l.take (J + 1 + 1) = l.take (J + 1) ++ [l[J + 1]] := by rw [List.take_add_one, List.getElem?_eq_getElem h]; rfl
  rw [show J + 2 = J + 1 + 1 by omega, e2, e1, List.append_assoc]
  rfl
theorem or16 {X Y : Int} (h0 : 0 ≤ X) (h1 : X ≤ 255) (h2 : 0 ≤ Y) (h3 : Y ≤ 255) : bits .or .u16 (X * 256) Y = X * 256 + Y := by
  rw [u16_or _ _ (by omega) (by omega) h2 (by omega)]
  have e : (X * 256).toNat = X.toNat <<< 8 := by rw [Nat.shiftLeft_eq]; omega
  rw [e, ← Nat.shiftLeft_add_eq_or_of_lt (by omega), Nat.shiftLeft_eq]
  omega
theorem bwords_len : ∀ (k : Nat) (l : List Int), l.length = 2 * k → (bwords l).length = k
  | 0, [], _ => rfl
  | k + 1, u :: v :: a, h => by
    have := bwords_len k a (by simp at h; omega)
    simp only [bwords, List.length_cons, this]
theorem info_u16b : (Try.prog.info? 22).map (fun i => (i.zero, i.size, i.bytes)) = some (some (.int .u16 0), 1, 2) := by kernel_rfl
def wordsOf (l : List Int) : List Int := if l.length % 2 = 0 then bwords l else []
def errOf (l : List Int) : Int := if l.length % 2 = 0 then 0 else 5
def wsSh (X Y : Int) (i : Nat) (u : Value) : Prop := match i with
  | 4 => u = .int .u8 X
  | 11 => u = .int .u8 Y
  | 14 => ∃ B, u = .slice (some ⟨B, 0, none⟩) 1 1
  | _ => True
set_option maxHeartbeats 1000000 in
theorem wordwords_any (l : List Int) (v : Value) (w : World) (hl : l.length ≤ 1000000) (h : SlV (Sh.int .u8) (old w) w l v) :
    Calls Try.prog 27 #[v] w fun e w' => ∃ v', e = .returned (.tuple #[v', .int .i64 (errOf l)]) ∧ SlV (Sh.int .u16) (fun b => w.heap.size ≤ b) w' (wordsOf l) v' ∧ Below w.heap.size w w' := by
  obtain ⟨A, c, rfl, hc, hm⟩ := h.shape
  obtain ⟨i0, hi, hz0, hz1, hz2⟩ := info_parts info_u16b
  by_cases hodd : l.length % 2 = 0
  · have h1 : ((l.length : Int) % 2 != 0) = false := by simp; omega
    have h2 : ((l.length : Int) % 2 == 1) = false := by simp; omega
    go_enter Try.func27, Try.ntmps27
    go_wp2_with fail
    go_loopw [4, 5] (fun v i wr => ∃ J : Nat, J ≤ l.length ∧ J % 2 = 0 ∧ i = .int .i64 J ∧ Own (Sh.int .u16) (fun _ => False) w.heap.size 22 wr v (bwords (l.take J)) ∧ Below w.heap.size w wr) (fun _ i _ => l.length - (intOf i).toNat)
    case atStart => exact ⟨0, by omega, by omega, rfl, Own.nil _ _ _ _ _, Below.refl _ _⟩
    case round =>
      obtain ⟨J, hk, hJ, rfl, hown, hB⟩ := hrel
      by_cases hlt : J + 1 < l.length
      · have h' : SlV (Sh.int .u8) (old w) wr l (.slice A l.length c) := h.mono (fun _ h => h) (fun b hb => hB.block b hb)
        obtain ⟨gb, o, rfl, hgw, hgl, x0, hx⟩ := ints_at h' (show J < l.length by omega)
        obtain ⟨gb', o', e, _, _, y0, hy⟩ := ints_at h' hlt
        injection e with e
        injection e with e1 e2
        subst e1 e2
        have hx0 : 0 ≤ l[J] := by have := hx.1; simpa [IntKind.min, IntKind.signed] using this
        have hx1 : l[J] ≤ 255 := by have := hx.2; simpa [IntKind.max, IntKind.signed, IntKind.bits] using this
        have hy0 : 0 ≤ l[J + 1] := by have := hy.1; simpa [IntKind.min, IntKind.signed] using this
        have hy1 : l[J + 1] ≤ 255 := by have := hy.2; simpa [IntKind.max, IntKind.signed, IntKind.bits] using this
        have hT := Lib.hid (bwords_take hlt hJ)
        have hor := or16 hx0 hx1 hy0 hy1
        obtain ⟨X, hX⟩ : ∃ X, X = l[J] := ⟨_, rfl⟩
        obtain ⟨Y, hY⟩ : ∃ Y, Y = l[J + 1] := ⟨_, rfl⟩
        rw [← hX] at x0 hx0 hx1 hT hor
        rw [← hY] at y0 hy0 hy1 hT hor
        clear hX hY h' hx hy
        have HX0 := Lib.hid x0
        have HY0 := Lib.hid y0
        have HB := Lib.hid hB
        have HO := Lib.hid hown
        have hwr := hB.size
        clear hown hB x0 y0
        go_wp2_with fail
        refine Gho.region (PushC (Sh.int .u16) (fun _ => False) w.heap.size 22 14 15 u4 (bwords (l.take J)) (X * 256 + Y) #[.int .u16 (X * 256 + Y)] wr) [4, 11, 14, 15] (wsSh X Y) (by kernel_rfl) (by kernel_rfl) (PushC.init HO.out) ?_
        intro C hCe hne
        have w1 : IntKind.i64.wrap ((J : Int) + 1) = (J : Int) + 1 := by simp only [IntKind.wrap, IntKind.signed, IntKind.bits]; simp; omega
        have w2 : IntKind.u16.wrap X = X := by rw [IntKind.wrap_u16]; omega
        have w3 : IntKind.u16.wrap (X * 256) = X * 256 := by rw [IntKind.wrap_u16]; omega
        have w4 : IntKind.u16.wrap Y = Y := by rw [IntKind.wrap_u16]; omega
        have w5 : ((J : Int) + 1).toNat = J + 1 := by omega
        have w6 : (J : Int) + 1 < (l.length : Int) := by omega
        have w7 : (0 : Int) ≤ (J : Int) + 1 := by omega
        iterate 4
          refine Gho.step (fun K hK => ?_)
          go_simp
          refine hK _ _ ?_; clear hK K
        refine Gho.rel (by rfl) (by rfl) ⟨_, rfl⟩ ?_ ?_
        · intro g y hC hn hF
          obtain rfl := hCe.out
          have c0 := (World.cell?_of_block (w := wr) (a := ⟨gb, o + J, none⟩) (hC.keep.block gb hgw)).trans HX0.out
          go_simp
          exact ⟨hC.read _ _ (by decide) (by decide), rfl⟩
        rintro u rfl
        iterate 6
          refine Gho.step (fun K hK => ?_)
          go_simp
          refine hK _ _ ?_; clear hK K
        refine Gho.rel (by rfl) (by rfl) ⟨_, rfl⟩ ?_ ?_
        · intro g y hC hn hF
          obtain rfl := hCe.out
          have c0 := (World.cell?_of_block (w := wr) (a := ⟨gb, o + (J + 1), none⟩) (hC.keep.block gb hgw)).trans HY0.out
          go_simp
          exact ⟨hC.read _ _ (by decide) (by decide), rfl⟩
        rintro u rfl
        iterate 2
          refine Gho.step (fun K hK => ?_)
          go_simp
          refine hK _ _ ?_; clear hK K
        refine Gho.rel (by rfl) (by rfl) ⟨_, 0, rfl⟩ ?_ ?_
        · intro g y hC hn hF
          obtain rfl := hCe.out
          go_simp
          exact ⟨hC.block (by decide) hwr (fun _ h => h.elim), y.heap.size, rfl⟩
        rintro u ⟨B, rfl⟩
        refine Gho.rel (by rfl) (by rfl) ⟨undef, trivial⟩ ?_ ?_
        · intro g y hC hn hF
          obtain rfl := hCe.out
          have gp := hF.get 0 rfl (by kernel_rfl)
          have hsrc : SlV (Sh.int .u16) (fun _ => True) y [X * 256 + Y] (.slice (some ⟨B, 0, none⟩) 1 1) :=
            SlV.of_block (l := [X * 256 + Y]) (c := 1) (hC.s1 B gp hn) (Rows.single ⟨rfl, inK_u16 (by omega) (by omega)⟩) trivial (by simp) (by simp)
          have hll : (bwords (l.take J)).length ≤ 1000000 := by rw [bwords_len (J / 2) _ (by rw [List.length_take]; omega)]; omega
          have hyl := hC.keep.size
          refine relAt_appends (S := fun _ => True) (Z := fun _ => False) (m := [X * 256 + Y]) (.tmp 16) (.tmp 30) 45 22 i0 (.int .u16 0) 2 rfl Try.underlying45 hi hz0 hz1 hz2 rfl (by decide) rfl rfl (hC.s0 hn) hsrc flat_int (fun _ h => h.elim) (by simp [maxLen]; omega) (by simp; omega) (by omega) ?_
          intro v' y' ho' hk' hor'
          exact ⟨hC.push (by decide) gp hn hwr ho' hk', trivial⟩
        rintro u _
        refine Gho.step (fun K hK => ?_)
        go_simp
        refine hK _ _ ?_; clear hK K
        refine Gho.done ?_
        intro g y hC hF
        obtain rfl := hCe.out
        have gq := hF 0 _ _ rfl
        have hB' : Below w.heap.size w y := HB.out.trans hC.keep
        have HBB := Lib.hid hB'
        have HN := Lib.hid (hC.s2 _ gq)
        clear hC hF gq hB' hCe hne
        go_wp2_with fail
        go_roundw
        case rel => exact ⟨J + 2, by omega, by omega, by go_num, by rw [hT.out]; exact HN.out, HBB.out⟩
        case measure => simp [intOf]; omega
      · obtain rfl : J = l.length := by omega
        go_wp2_with fail
        go_ret2
        rw [List.take_length] at hown
        have e1 : wordsOf l = bwords l := by rw [wordsOf, if_pos hodd]
        have e2 : errOf l = 0 := by rw [errOf, if_pos hodd]
        rw [e1, e2]
        exact ⟨_, rfl, hown.sl (by rw [bwords_len (l.length / 2) _ (by omega)]; omega) (fun _ h => h.elim) (fun b hb => (hown.lt b hb).1), hB⟩
  · have h1 : ((l.length : Int) % 2 != 0) = true := by simp; omega
    have h2 : ((l.length : Int) % 2 == 1) = true := by simp; omega
    have e1 : wordsOf l = [] := by rw [wordsOf, if_neg hodd]
    have e2 : errOf l = 5 := by rw [errOf, if_neg hodd]
    rw [e1, e2]
    go_enter Try.func27, Try.ntmps27
    go_wp2_with fail
    go_ret2
    exact ⟨_, rfl, SlV.nil _ _ _, Below.refl _ _⟩
set_option maxHeartbeats 1000000 in
theorem refwords_any (l : List Int) (v : Value) (w : World) (hl : l.length ≤ 1000000) (h : SlV (Sh.int .u8) (old w) w l v) :
    Calls Try.prog 29 #[v] w fun e w' => ∃ v', e = .returned (.tuple #[v', .int .i64 (errOf l)]) ∧ SlV (Sh.int .u16) (fun b => w.heap.size ≤ b) w' (wordsOf l) v' ∧ Below w.heap.size w w' := by
  obtain ⟨A, c, rfl, hc, hm⟩ := h.shape
  obtain ⟨i0, hi, hz0, hz1, hz2⟩ := info_parts info_u16b
  by_cases hodd : l.length % 2 = 0
  · have h1 : ((l.length : Int) % 2 != 0) = false := by simp; omega
    have h2 : ((l.length : Int) % 2 == 1) = false := by simp; omega
    go_enter Try.func29, Try.ntmps29
    go_wp2_with fail
    go_loopw [4, 5] (fun v i wr => ∃ J : Nat, J ≤ l.length ∧ J % 2 = 0 ∧ i = .int .i64 J ∧ Own (Sh.int .u16) (fun _ => False) w.heap.size 22 wr v (bwords (l.take J)) ∧ Below w.heap.size w wr) (fun _ i _ => l.length - (intOf i).toNat)
    case atStart => exact ⟨0, by omega, by omega, rfl, Own.nil _ _ _ _ _, Below.refl _ _⟩
    case round =>
      obtain ⟨J, hk, hJ, rfl, hown, hB⟩ := hrel
      by_cases hlt : J + 1 < l.length
      · have h' : SlV (Sh.int .u8) (old w) wr l (.slice A l.length c) := h.mono (fun _ h => h) (fun b hb => hB.block b hb)
        obtain ⟨gb, o, rfl, hgw, hgl, x0, hx⟩ := ints_at h' (show J < l.length by omega)
        obtain ⟨gb', o', e, _, _, y0, hy⟩ := ints_at h' hlt
        injection e with e
        injection e with e1 e2
        subst e1 e2
        have hx0 : 0 ≤ l[J] := by have := hx.1; simpa [IntKind.min, IntKind.signed] using this
        have hx1 : l[J] ≤ 255 := by have := hx.2; simpa [IntKind.max, IntKind.signed, IntKind.bits] using this
        have hy0 : 0 ≤ l[J + 1] := by have := hy.1; simpa [IntKind.min, IntKind.signed] using this
        have hy1 : l[J + 1] ≤ 255 := by have := hy.2; simpa [IntKind.max, IntKind.signed, IntKind.bits] using this
        have hT := Lib.hid (bwords_take hlt hJ)
        have hor := or16 hx0 hx1 hy0 hy1
        obtain ⟨X, hX⟩ : ∃ X, X = l[J] := ⟨_, rfl⟩
        obtain ⟨Y, hY⟩ : ∃ Y, Y = l[J + 1] := ⟨_, rfl⟩
        rw [← hX] at x0 hx0 hx1 hT hor
        rw [← hY] at y0 hy0 hy1 hT hor
        clear hX hY h' hx hy
        have HX0 := Lib.hid x0
        have HY0 := Lib.hid y0
        have HB := Lib.hid hB
        have HO := Lib.hid hown
        have hwr := hB.size
        clear hown hB x0 y0
        go_wp2_with fail
        refine Gho.region (PushC (Sh.int .u16) (fun _ => False) w.heap.size 22 14 15 u4 (bwords (l.take J)) (X * 256 + Y) #[.int .u16 (X * 256 + Y)] wr) [4, 11, 14, 15] (wsSh X Y) (by kernel_rfl) (by kernel_rfl) (PushC.init HO.out) ?_
        intro C hCe hne
        have w1 : IntKind.i64.wrap ((J : Int) + 1) = (J : Int) + 1 := by simp only [IntKind.wrap, IntKind.signed, IntKind.bits]; simp; omega
        have w2 : IntKind.u16.wrap X = X := by rw [IntKind.wrap_u16]; omega
        have w3 : IntKind.u16.wrap (X * 256) = X * 256 := by rw [IntKind.wrap_u16]; omega
        have w4 : IntKind.u16.wrap Y = Y := by rw [IntKind.wrap_u16]; omega
        have w5 : ((J : Int) + 1).toNat = J + 1 := by omega
        have w6 : (J : Int) + 1 < (l.length : Int) := by omega
        have w7 : (0 : Int) ≤ (J : Int) + 1 := by omega
        iterate 4
          refine Gho.step (fun K hK => ?_)
          go_simp
          refine hK _ _ ?_; clear hK K
        refine Gho.rel (by rfl) (by rfl) ⟨_, rfl⟩ ?_ ?_
        · intro g y hC hn hF
          obtain rfl := hCe.out
          have c0 := (World.cell?_of_block (w := wr) (a := ⟨gb, o + J, none⟩) (hC.keep.block gb hgw)).trans HX0.out
          go_simp
          exact ⟨hC.read _ _ (by decide) (by decide), rfl⟩
        rintro u rfl
        iterate 6
          refine Gho.step (fun K hK => ?_)
          go_simp
          refine hK _ _ ?_; clear hK K
        refine Gho.rel (by rfl) (by rfl) ⟨_, rfl⟩ ?_ ?_
        · intro g y hC hn hF
          obtain rfl := hCe.out
          have c0 := (World.cell?_of_block (w := wr) (a := ⟨gb, o + (J + 1), none⟩) (hC.keep.block gb hgw)).trans HY0.out
          go_simp
          exact ⟨hC.read _ _ (by decide) (by decide), rfl⟩
        rintro u rfl
        iterate 2
          refine Gho.step (fun K hK => ?_)
          go_simp
          refine hK _ _ ?_; clear hK K
        refine Gho.rel (by rfl) (by rfl) ⟨_, 0, rfl⟩ ?_ ?_
        · intro g y hC hn hF
          obtain rfl := hCe.out
          go_simp
          exact ⟨hC.block (by decide) hwr (fun _ h => h.elim), y.heap.size, rfl⟩
        rintro u ⟨B, rfl⟩
        refine Gho.rel (by rfl) (by rfl) ⟨undef, trivial⟩ ?_ ?_
        · intro g y hC hn hF
          obtain rfl := hCe.out
          have gp := hF.get 0 rfl (by kernel_rfl)
          have hsrc : SlV (Sh.int .u16) (fun _ => True) y [X * 256 + Y] (.slice (some ⟨B, 0, none⟩) 1 1) :=
            SlV.of_block (l := [X * 256 + Y]) (c := 1) (hC.s1 B gp hn) (Rows.single ⟨rfl, inK_u16 (by omega) (by omega)⟩) trivial (by simp) (by simp)
          have hll : (bwords (l.take J)).length ≤ 1000000 := by rw [bwords_len (J / 2) _ (by rw [List.length_take]; omega)]; omega
          have hyl := hC.keep.size
          refine relAt_appends (S := fun _ => True) (Z := fun _ => False) (m := [X * 256 + Y]) (.tmp 16) (.tmp 30) 45 22 i0 (.int .u16 0) 2 rfl Try.underlying45 hi hz0 hz1 hz2 rfl (by decide) rfl rfl (hC.s0 hn) hsrc flat_int (fun _ h => h.elim) (by simp [maxLen]; omega) (by simp; omega) (by omega) ?_
          intro v' y' ho' hk' hor'
          exact ⟨hC.push (by decide) gp hn hwr ho' hk', trivial⟩
        rintro u _
        refine Gho.step (fun K hK => ?_)
        go_simp
        refine hK _ _ ?_; clear hK K
        refine Gho.done ?_
        intro g y hC hF
        obtain rfl := hCe.out
        have gq := hF 0 _ _ rfl
        have hB' : Below w.heap.size w y := HB.out.trans hC.keep
        have HBB := Lib.hid hB'
        have HN := Lib.hid (hC.s2 _ gq)
        clear hC hF gq hB' hCe hne
        go_wp2_with fail
        go_roundw
        case rel => exact ⟨J + 2, by omega, by omega, by go_num, by rw [hT.out]; exact HN.out, HBB.out⟩
        case measure => simp [intOf]; omega
      · obtain rfl : J = l.length := by omega
        go_wp2_with fail
        go_ret2
        rw [List.take_length] at hown
        have e1 : wordsOf l = bwords l := by rw [wordsOf, if_pos hodd]
        have e2 : errOf l = 0 := by rw [errOf, if_pos hodd]
        rw [e1, e2]
        exact ⟨_, rfl, hown.sl (by rw [bwords_len (l.length / 2) _ (by omega)]; omega) (fun _ h => h.elim) (fun b hb => (hown.lt b hb).1), hB⟩
  · have h1 : ((l.length : Int) % 2 != 0) = true := by simp; omega
    have h2 : ((l.length : Int) % 2 == 1) = true := by simp; omega
    have e1 : wordsOf l = [] := by rw [wordsOf, if_neg hodd]
    have e2 : errOf l = 5 := by rw [errOf, if_neg hodd]
    rw [e1, e2]
    go_enter Try.func29, Try.ntmps29
    go_wp2_with fail
    go_ret2
    exact ⟨_, rfl, SlV.nil _ _ _, Below.refl _ _⟩
end Go.Proofs.Ytpdpiihnafkgjaa
