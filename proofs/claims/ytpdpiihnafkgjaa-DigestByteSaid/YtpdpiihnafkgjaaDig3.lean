/- Contracts: digest.Bytes. -/
import Derived.Test.YtpdpiihnafkgjaaDig2
import Derived.Test.YtpdpiihnafkgjaaGho
namespace Go.Proofs.Ytpdpiihnafkgjaa
open Go Go.RowKit Rdn
set_option linter.unusedVariables false

theorem set8 {w : World} {b : Nat} {n : Int} (m : Int) {t : TypeId} (h : w.heap[b]? = some (.cells (arr8 n 0) t (0, 0))) :
    ((((((((w.setCell ⟨b, 0, none⟩ (.int .u8 (byteAt m 0))).setCell ⟨b, 1, none⟩ (.int .u8 (byteAt m 1))).setCell ⟨b, 2, none⟩ (.int .u8 (byteAt m 2))).setCell ⟨b, 3, none⟩ (.int .u8 (byteAt m 3))).setCell
      ⟨b, 4, none⟩ (.int .u8 (byteAt m 4))).setCell ⟨b, 5, none⟩ (.int .u8 (byteAt m 5))).setCell ⟨b, 6, none⟩ (.int .u8 (byteAt m 6))).setCell ⟨b, 7, none⟩ (.int .u8 (byteAt m 7))).heap[b]? = some (.cells (arr8 m 8) t (0, 0)) := by
  have e := cells_set (cells_set (cells_set (cells_set (cells_set (cells_set (cells_set (cells_set h 0 (.int .u8 (byteAt m 0))) 1 (.int .u8 (byteAt m 1))) 2 (.int .u8 (byteAt m 2))) 3 (.int .u8 (byteAt m 3))) 4 (.int .u8 (byteAt m 4))) 5 (.int .u8 (byteAt m 5))) 6 (.int .u8 (byteAt m 6))) 7 (.int .u8 (byteAt m 7))
  simp [arr8, le8] at e ⊢
  exact e
theorem keep8 {w : World} {b : Nat} (m : Int) : Keep (fun k => k = b) w
    ((((((((w.setCell ⟨b, 0, none⟩ (.int .u8 (byteAt m 0))).setCell ⟨b, 1, none⟩ (.int .u8 (byteAt m 1))).setCell ⟨b, 2, none⟩ (.int .u8 (byteAt m 2))).setCell ⟨b, 3, none⟩ (.int .u8 (byteAt m 3))).setCell
      ⟨b, 4, none⟩ (.int .u8 (byteAt m 4))).setCell ⟨b, 5, none⟩ (.int .u8 (byteAt m 5))).setCell ⟨b, 6, none⟩ (.int .u8 (byteAt m 6))).setCell ⟨b, 7, none⟩ (.int .u8 (byteAt m 7))) := by
  have K : ∀ (a : World) (j : Nat) (u : Value), Keep (fun k => k = b) a (a.setCell ⟨b, j, none⟩ u) := fun a j u => Keep.setCell _ _ _ rfl
  exact (((((((K _ _ _).trans (K _ _ _)).trans (K _ _ _)).trans (K _ _ _)).trans (K _ _ _)).trans (K _ _ _)).trans (K _ _ _)).trans (K _ _ _)

abbrev le8v (n : Int) : Value := .agg #[.int .u8 (byteAt n 0), .int .u8 (byteAt n 1), .int .u8 (byteAt n 2), .int .u8 (byteAt n 3), .int .u8 (byteAt n 4), .int .u8 (byteAt n 5), .int .u8 (byteAt n 6), .int .u8 (byteAt n 7)]
def bytesSh (c : Canon) (i : Nat) (u : Value) : Prop := match i with
  | 1 => u = .int .i64 c.region
  | 2 => u = le8v c.region
  | 4 => u = .int .i64 c.offset
  | 5 => u = le8v c.offset
  | 6 => ∃ B, u = .pointer (some ⟨B, 0, none⟩)
  | 7 => ∃ B, u = .pointer (some ⟨B, 0, none⟩)
  | _ => True
abbrev ptr (B : Nat) : Value := .pointer (some ⟨B, 0, none⟩)
structure bytesC (c : Canon) (W : World) (g : Nat → Option Value) (x : World) : Prop where
  keep : Below W.heap.size W x
  p : ∀ B, g 6 = some (ptr B) → W.heap.size ≤ B ∧ x.heap[B]? = some (.cells (if g 8 = none then arr8 0 0 else arr8 c.region 8) 77 (0, 0))
  q : ∀ B, g 7 = some (ptr B) → W.heap.size ≤ B ∧ x.heap[B]? = some (.cells (if g 9 = none then arr8 0 0 else arr8 c.offset 8) 77 (0, 0))
  ne : ∀ B B', g 6 = some (ptr B) → g 7 = some (ptr B') → B ≠ B'
  n6 : g 6 = none → g 8 = none
  n7 : g 7 = none → g 9 = none
theorem bytesC.mono {c : Canon} {W x x' : World} {g : Nat → Option Value} (h : bytesC c W g x) (i : Nat) (u : Value) (hi : i < 6) (hb : Below x.heap.size x x') : bytesC c W (Gho.upo g i u) x' := by
  have e6 := Gho.upo_ne g u (show 6 ≠ i by omega)
  have e7 := Gho.upo_ne g u (show 7 ≠ i by omega)
  have e8 := Gho.upo_ne g u (show 8 ≠ i by omega)
  have e9 := Gho.upo_ne g u (show 9 ≠ i by omega)
  refine ⟨h.keep.trans (hb.mono h.keep.size), fun B hB => ?_, fun B hB => ?_, fun B B' => ?_, ?_, ?_⟩
  · rw [e6] at hB; rw [e8]; exact ⟨(h.p B hB).1, (hb.block B (heap_lt (h.p B hB).2)).trans (h.p B hB).2⟩
  · rw [e7] at hB; rw [e9]; exact ⟨(h.q B hB).1, (hb.block B (heap_lt (h.q B hB).2)).trans (h.q B hB).2⟩
  · rw [e6, e7]; exact h.ne B B'
  · rw [e6, e8]; exact h.n6
  · rw [e7, e9]; exact h.n7

theorem bytesC.alloc6 {c : Canon} {W x : World} {g : Nat → Option Value} (h : bytesC c W g x) (hn : g 6 = none) : bytesC c W (Gho.upo g 6 (ptr x.heap.size)) (x.alloc (.cells (arr8 0 0) 77)) := by
  have e6 := Gho.upo_same g 6 (ptr x.heap.size)
  have e7 := Gho.upo_ne g (ptr x.heap.size) (show 7 ≠ 6 by decide)
  have e8 := (Gho.upo_ne g (ptr x.heap.size) (show 8 ≠ 6 by decide)).trans (h.n6 hn)
  have e9 := Gho.upo_ne g (ptr x.heap.size) (show 9 ≠ 6 by decide)
  have hs := h.keep.size
  refine ⟨h.keep.trans ((Below.refl _ _).alloc hs _), fun B hB => ?_, fun B hB => ?_, fun B B' hB hB' => ?_, fun hh => ?_, ?_⟩
  · rw [e6] at hB; injection hB with hB; injection hB with hB; injection hB with hB; injection hB with hB; subst hB; rw [e8, if_pos rfl]; exact ⟨hs, heap_new _ _⟩
  · rw [e7] at hB; rw [e9]; exact ⟨(h.q B hB).1, heap_push (h.q B hB).2⟩
  · rw [e6] at hB; injection hB with hB; injection hB with hB; injection hB with hB; injection hB with hB; subst hB
    rw [e7] at hB'
    have := heap_lt (h.q B' hB').2
    omega
  · rw [e6] at hh; cases hh
  · rw [e7, e9]; exact h.n7
theorem bytesC.alloc7 {c : Canon} {W x : World} {g : Nat → Option Value} (h : bytesC c W g x) (hn : g 7 = none) : bytesC c W (Gho.upo g 7 (ptr x.heap.size)) (x.alloc (.cells (arr8 0 0) 77)) := by
  have E7 := Gho.upo_same g 7 (ptr x.heap.size)
  have E6 := Gho.upo_ne g (ptr x.heap.size) (show 6 ≠ 7 by decide)
  have E9 := (Gho.upo_ne g (ptr x.heap.size) (show 9 ≠ 7 by decide)).trans (h.n7 hn)
  have E8 := Gho.upo_ne g (ptr x.heap.size) (show 8 ≠ 7 by decide)
  have hs := h.keep.size
  refine ⟨h.keep.trans ((Below.refl _ _).alloc hs _), fun B hB => ?_, fun B hB => ?_, fun B B' hB hB' => ?_, ?_, fun hh => ?_⟩
  · rw [E6] at hB; rw [E8]; exact ⟨(h.p B hB).1, heap_push (h.p B hB).2⟩
  · rw [E7] at hB; injection hB with hB; injection hB with hB; injection hB with hB; injection hB with hB; subst hB; rw [E9, if_pos rfl]; exact ⟨hs, heap_new _ _⟩
  · rw [E7] at hB'; injection hB' with hB'; injection hB' with hB'; injection hB' with hB'; injection hB' with hB'; subst hB'
    rw [E6] at hB
    have := heap_lt (h.p B hB).2
    omega
  · rw [E6, E8]; exact h.n6
  · rw [E7] at hh; cases hh
theorem bytesC.store8 {c : Canon} {W x x' : World} {g : Nat → Option Value} (h : bytesC c W g x) {B : Nat} (u : Value) (hB : g 6 = some (ptr B)) (hk : Keep (fun k => k = B) x x') (hx : x'.heap[B]? = some (.cells (arr8 c.region 8) 77 (0, 0))) : bytesC c W (Gho.upo g 8 u) x' := by
  have e6 := Gho.upo_ne g u (show 6 ≠ 8 by decide)
  have e7 := Gho.upo_ne g u (show 7 ≠ 8 by decide)
  have e8 := Gho.upo_same g 8 u
  have e9 := Gho.upo_ne g u (show 9 ≠ 8 by decide)
  have hs := h.keep.size
  refine ⟨h.keep.trans (hk.below (fun b _ e => by rw [e]; exact (h.p B hB).1) hs), fun B' hB' => ?_, fun B' hB' => ?_, fun A A' => ?_, fun hh => ?_, ?_⟩
  · rw [e6] at hB'
    obtain rfl : B' = B := by rw [hB] at hB'; injection hB' with hB'; injection hB' with hB'; injection hB' with hB'; injection hB' with hB'; exact hB'.symm
    rw [e8, if_neg (by simp)]
    exact ⟨(h.p _ hB).1, hx⟩
  · rw [e7] at hB'; rw [e9]; exact ⟨(h.q B' hB').1, hk.at_ (h.q B' hB').2 (fun e => h.ne B B' hB hB' e.symm)⟩
  · rw [e6, e7]; exact h.ne A A'
  · rw [e6, hB] at hh; cases hh
  · rw [e7, e9]; exact h.n7
theorem bytesC.store9 {c : Canon} {W x x' : World} {g : Nat → Option Value} (h : bytesC c W g x) {B : Nat} (u : Value) (hB : g 7 = some (ptr B)) (hk : Keep (fun k => k = B) x x') (hx : x'.heap[B]? = some (.cells (arr8 c.offset 8) 77 (0, 0))) : bytesC c W (Gho.upo g 9 u) x' := by
  have e6 := Gho.upo_ne g u (show 6 ≠ 9 by decide)
  have e7 := Gho.upo_ne g u (show 7 ≠ 9 by decide)
  have e9 := Gho.upo_same g 9 u
  have e8 := Gho.upo_ne g u (show 8 ≠ 9 by decide)
  have hs := h.keep.size
  refine ⟨h.keep.trans (hk.below (fun b _ e => by rw [e]; exact (h.q B hB).1) hs), fun B' hB' => ?_, fun B' hB' => ?_, fun A A' => ?_, ?_, fun hh => ?_⟩
  · rw [e6] at hB'; rw [e8]; exact ⟨(h.p B' hB').1, hk.at_ (h.p B' hB').2 (fun e => h.ne B' B hB' hB e)⟩
  · rw [e7] at hB'
    obtain rfl : B' = B := by rw [hB] at hB'; injection hB' with hB'; injection hB' with hB'; injection hB' with hB'; injection hB' with hB'; exact hB'.symm
    rw [e9, if_neg (by simp)]
    exact ⟨(h.q _ hB).1, hx⟩
  · rw [e6, e7]; exact h.ne A A'
  · rw [e6, e8]; exact h.n6
  · rw [e7, hB] at hh; cases hh

theorem info_u8 : (Try.prog.info? 5).map (fun i => (i.zero, i.size, i.bytes)) = some (some (.int .u8 0), 1, 1) := by kernel_rfl
theorem le8_in (n : Int) : ∀ x ∈ le8 n, inK .u8 x := by
  intro x hx
  simp only [le8, List.mem_cons, List.not_mem_nil, or_false] at hx
  rcases hx with rfl | rfl | rfl | rfl | rfl | rfl | rfl | rfl <;> exact inK_u8 (byte_at _ _).1 (byte_at _ _).2
theorem arr8_sl {w : World} {B : Nat} {n : Int} {S : Nat → Prop} (h : w.heap[B]? = some (.cells (arr8 n 8) 77 (0, 0))) (hS : S B) : SlV (Sh.int .u8) S w (le8 n) (.slice (some ⟨B, 0, none⟩) 8 8) :=
  SlV.of_block (l := le8 n) (c := 8) h (Rows.ints (le8_in n)) hS (by simp [le8]) (by simp [le8])
/-- The bytes of a cell. -/
def canonBytes (c : Canon) : List Int := [c.tag, c.val % 256, c.val / 256] ++ le8 c.region ++ le8 c.offset
structure appC (B0 B1 : Nat) (l0 l1 l2 : List Int) (base : Nat) (v0 : Value) (W : World) (g : Nat → Option Value) (y : World) : Prop where
  keep : Keep (fun b => ¬ (b = B0 ∨ b = B1 ∨ b < base)) W y
  s0 : g 2 = none → g 4 = none → Own (Sh.int .u8) (fun _ => False) base 5 y v0 l0 ∧ ∀ b, v0.ownBlock = some b → ¬ (b = B0 ∨ b = B1 ∨ b < base)
  s1 : g 4 = none → ∀ v, g 2 = some v → Own (Sh.int .u8) (fun _ => False) base 5 y v l1 ∧ ∀ b, v.ownBlock = some b → ¬ (b = B0 ∨ b = B1 ∨ b < base)
  s2 : ∀ v, g 4 = some v → Own (Sh.int .u8) (fun _ => False) base 5 y v l2
  n4 : g 2 = none → g 4 = none

theorem bytes_any (c : Canon) (w : World) (h0 : inK .u8 c.tag) (h1 : inK .u16 c.val) (h2 : inK .i64 c.region) (h3 : inK .i64 c.offset) :
    Calls Try.prog 41 #[.agg #[.int .u8 c.tag, .int .u16 c.val, .int .i64 c.region, .int .i64 c.offset]] w fun e w' => ∃ v, e = .returned v ∧ SlV (Sh.int .u8) (fun b => w.heap.size ≤ b) w' (canonBytes c) v ∧ Below w.heap.size w w' := by
  have r0 := h2.1
  have r1 := h2.2
  have o0 := h3.1
  have o1 := h3.2
  simp [IntKind.min, IntKind.max, IntKind.signed, IntKind.bits] at r0 r1 o0 o1
  go_enter Try.func41, Try.ntmps41
  go_wp2_with fail
  go_name_world W hW
  have hB : Below w.heap.size w W := by rw [← hW]; exact (Below.refl _ _).alloc (Nat.le_refl _) _
  have hs : W.heap.size = w.heap.size + 1 := by rw [← hW]; simp
  have bx : W.heap[w.heap.size]? = some (.cells #[.int .u8 c.tag, .int .u16 c.val, .int .i64 c.region, .int .i64 c.offset] 61 (0, 0)) := by rw [← hW]; exact heap_new _ _
  clear hW
  refine Gho.region (bytesC c W) [1, 2, 4, 5, 6, 7, 8, 9] (bytesSh c) (by kernel_rfl) (by kernel_rfl) ?_ ?_
  · exact ⟨⟨rfl, rfl, rfl, Nat.le_refl _, fun _ _ => rfl⟩, fun B h => by (cases h), fun B h => by (cases h), fun B B' h => by (cases h), fun _ => rfl, fun _ => rfl⟩
  · intro C hCe hne
    refine Gho.step (fun K hK => ?_)
    go_simp
    refine hK _ _ ?_; clear hK K
    refine Gho.rel (by rfl) (by rfl) ⟨_, rfl⟩ ?_ ?_
    · intro g x hC hn hF
      obtain rfl := hCe.out
      have hb := (hC.keep.block w.heap.size (by omega)).trans bx
      have c2 := cells_cell hb 2
      simp at c2
      go_simp
      exact ⟨hC.mono _ _ (by omega) (Below.refl _ _), rfl⟩
    rintro u rfl
    refine Gho.rel (by rfl) (by rfl) ⟨_, rfl⟩ ?_ ?_
    · intro g x hC hn hF
      obtain rfl := hCe.out
      go_simp
      refine (long_any _ x r0 r1).mono ?_
      rintro e x' ⟨rfl, hb⟩
      exact ⟨_, rfl, hC.mono _ _ (by omega) hb, rfl⟩
    rintro u rfl
    refine Gho.step (fun K hK => ?_)
    go_simp
    refine hK _ _ ?_; clear hK K
    refine Gho.rel (by rfl) (by rfl) ⟨_, rfl⟩ ?_ ?_
    · intro g x hC hn hF
      obtain rfl := hCe.out
      have hb := (hC.keep.block w.heap.size (by omega)).trans bx
      have c2 := cells_cell hb 3
      simp at c2
      go_simp
      exact ⟨hC.mono _ _ (by omega) (Below.refl _ _), rfl⟩
    rintro u rfl
    refine Gho.rel (by rfl) (by rfl) ⟨_, rfl⟩ ?_ ?_
    · intro g x hC hn hF
      obtain rfl := hCe.out
      go_simp
      refine (long_any _ x o0 o1).mono ?_
      rintro e x' ⟨rfl, hb⟩
      exact ⟨_, rfl, hC.mono _ _ (by omega) hb, rfl⟩
    rintro u rfl
    refine Gho.rel (by rfl) (by rfl) ⟨_, 0, rfl⟩ ?_ ?_
    · intro g x hC hn hF
      obtain rfl := hCe.out
      go_simp
      exact ⟨hC.alloc6 hn, x.heap.size, rfl⟩
    rintro u ⟨B, rfl⟩
    refine Gho.rel (by rfl) (by rfl) ⟨_, 0, rfl⟩ ?_ ?_
    · intro g x hC hn hF
      obtain rfl := hCe.out
      go_simp
      exact ⟨hC.alloc7 hn, x.heap.size, rfl⟩
    rintro u ⟨B', rfl⟩
    refine Gho.rel (by rfl) (by rfl) ⟨undef, trivial⟩ ?_ ?_
    · intro g x hC hn hF
      obtain rfl := hCe.out
      have g6 := hF.get 1 rfl (by kernel_rfl)
      have hb := (hC.p B g6).2
      rw [show g 8 = none from hn, if_pos rfl] at hb
      have c0 := cells_cell hb 0
      have c1 := cells_cell hb 1
      have c2 := cells_cell hb 2
      have c3 := cells_cell hb 3
      have c4 := cells_cell hb 4
      have c5 := cells_cell hb 5
      have c6 := cells_cell hb 6
      have c7 := cells_cell hb 7
      have f0 := cells_free hb 0
      have f1 := cells_free hb 1
      have f2 := cells_free hb 2
      have f3 := cells_free hb 3
      have f4 := cells_free hb 4
      have f5 := cells_free hb 5
      have f6 := cells_free hb 6
      have f7 := cells_free hb 7
      simp [arr8, le8] at c0 c1 c2 c3 c4 c5 c6 c7
      have HB := Lib.hid hb
      clear hb
      go_simp
      exact ⟨hC.store8 _ g6 (keep8 _) (set8 _ HB.out), trivial⟩
    rintro u _
    refine Gho.rel (by rfl) (by rfl) ⟨undef, trivial⟩ ?_ ?_
    · intro g x hC hn hF
      obtain rfl := hCe.out
      have g7 := hF.get 1 rfl (by kernel_rfl)
      have hb := (hC.q B' g7).2
      rw [show g 9 = none from hn, if_pos rfl] at hb
      have c0 := cells_cell hb 0
      have c1 := cells_cell hb 1
      have c2 := cells_cell hb 2
      have c3 := cells_cell hb 3
      have c4 := cells_cell hb 4
      have c5 := cells_cell hb 5
      have c6 := cells_cell hb 6
      have c7 := cells_cell hb 7
      have f0 := cells_free hb 0
      have f1 := cells_free hb 1
      have f2 := cells_free hb 2
      have f3 := cells_free hb 3
      have f4 := cells_free hb 4
      have f5 := cells_free hb 5
      have f6 := cells_free hb 6
      have f7 := cells_free hb 7
      simp [arr8, le8] at c0 c1 c2 c3 c4 c5 c6 c7
      have HB := Lib.hid hb
      clear hb
      go_simp
      exact ⟨hC.store9 _ g7 (keep8 _) (set8 _ HB.out), trivial⟩
    rintro u _
    refine Gho.done ?_
    intro g x hC hF
    obtain rfl := hCe.out
    have g6 := hF 3 _ _ rfl
    have g7 := hF 2 _ _ rfl
    have g8 := hF 1 _ _ rfl
    have g9 := hF 0 _ _ rfl
    have b6 := (hC.p B g6).2
    have b7 := (hC.q B' g7).2
    rw [if_neg (by rw [show g 8 = some _ from g8]; simp)] at b6
    rw [if_neg (by rw [show g 9 = some _ from g9]; simp)] at b7
    have hB6 := (hC.p B g6).1
    have hB7 := (hC.q B' g7).1
    have hx := hC.keep
    clear hC hF g6 g7 g8 g9
    have bb := (hx.block w.heap.size (by omega)).trans bx
    have v0 := h0.1
    have v0' := h0.2
    have v1 := h1.1
    have v1' := h1.2
    simp [IntKind.min, IntKind.max, IntKind.signed, IntKind.bits] at v0 v0' v1 v1'
    have c0 := cells_cell bb 0
    have c1 := cells_cell bb 1
    simp at c0 c1
    have B6 := Lib.hid b6
    have B7 := Lib.hid b7
    have BB := Lib.hid bb
    have HX := Lib.hid hx
    clear b6 b7 bb hx bx
    go_wp2_with fail
    go_name_world Y hY
    have ky : Keep (old x) x Y := by rw [← hY]; exact Keep.alloc _ _ _
    have by_ : Y.heap[x.heap.size]? = some (.cells #[.int .u8 c.tag, .int .u8 (c.val % 256), .int .u8 (c.val / 256)] 5 (0, 0)) := by rw [← hY]; exact heap_new _ _
    have hys : Y.heap.size = x.heap.size + 1 := by rw [← hY]; simp
    have y6 : Y.heap[B]? = some (.cells (arr8 c.region 8) 77 (0, 0)) := by rw [← hY]; exact heap_push B6.out
    have y7 : Y.heap[B']? = some (.cells (arr8 c.offset 8) 77 (0, 0)) := by rw [← hY]; exact heap_push B7.out
    have hBY : Below w.heap.size w Y := by rw [← hY]; exact (hB.trans (HX.out.mono (by omega))).alloc (by have := HX.out.size; omega) _
    have hxs := HX.out.size
    have lt6 := heap_lt B6.out
    have lt7 := heap_lt B7.out
    clear hY HX B6 B7 BB c0 c1 ky
    obtain ⟨i0, hi, hz0, hz1, hz2⟩ := info_parts info_u8
    have hown0 : Own (Sh.int .u8) (fun _ => False) W.heap.size 5 Y (.slice (some ⟨x.heap.size, 0, none⟩) 3 3) [c.tag, c.val % 256, c.val / 256] :=
      Own.of_block by_ (Rows.ints (by
        intro n hn
        simp only [List.mem_cons, List.not_mem_nil, or_false] at hn
        rcases hn with rfl | rfl | rfl <;> exact inK_u8 (by omega) (by omega))) (by omega) (fun h => h) (by simp [maxLen]) 3 rfl
    refine Gho.region (appC B B' [c.tag, c.val % 256, c.val / 256] ([c.tag, c.val % 256, c.val / 256] ++ le8 c.region) (canonBytes c) W.heap.size (.slice (some ⟨x.heap.size, 0, none⟩) 3 3) Y) [2, 4] (fun _ _ => True) (by kernel_rfl) (by kernel_rfl) ?_ ?_
    · refine ⟨⟨rfl, rfl, rfl, Nat.le_refl _, fun _ _ _ => rfl⟩, fun _ _ => ⟨hown0.drew, ?_⟩, fun _ v h => by (cases h), fun v h => by (cases h), fun _ => rfl⟩
      intro b hb
      simp [Value.ownBlock] at hb
      omega
    · intro C2 hCe2 hne2
      refine Gho.step (fun K hK => ?_)
      go_simp
      refine hK _ _ ?_; clear hK K
      refine Gho.step (fun K hK => ?_)
      go_simp
      refine hK _ _ ?_; clear hK K
      have hBs : B < Y.heap.size := by omega
      refine Gho.rel (by rfl) (by rfl) ⟨undef, trivial⟩ ?_ ?_
      · intro g y hC hn hF
        obtain rfl := hCe2.out
        have n4 : g 4 = none := hC.n4 hn
        obtain ⟨ho, hob⟩ := hC.s0 hn n4
        have hsl := arr8_sl (S := fun _ => True) ((hC.keep.at_ y6 (fun h => h (.inl rfl)))) trivial
        refine relAt_appends (.tmp 22) (.tmp 23) 32 5 i0 (.int .u8 0) 1 rfl Try.underlying32 hi hz0 hz1 hz2 rfl (by decide) rfl rfl ho hsl (fun _ _ h => h) (fun _ h => h.elim) (by simp [le8, maxLen]) (by simp [le8]) (by have := hC.keep.size; omega) ?_
        intro v' y' ho' hk' hor'
        have g2 := Gho.upo_same g 2 v'
        have g4 := Gho.upo_ne g v' (show 4 ≠ 2 by decide)
        have hsz := hC.keep.size
        have hkk : Keep (fun b => ¬ (b = B ∨ b = B' ∨ b < W.heap.size)) Y y' := hC.keep.trans (hk'.mono (fun b _ e => hob b e))
        refine ⟨⟨hkk, fun h => ?_, fun _ v hv => ?_, fun v hv => ?_, fun h => ?_⟩, trivial⟩
        · rw [g2] at h; cases h
        · rw [g2] at hv
          obtain rfl := Option.some.inj hv
          refine ⟨ho', fun b hb => ?_⟩
          rcases hor' with e | ⟨b', e, hlt⟩
          · exact hob b (e ▸ hb)
          · rw [e] at hb
            obtain rfl := Option.some.inj hb
            omega
        · rw [g4, n4] at hv; cases hv
        · rw [g2] at h; cases h
      rintro u2 _
      refine Gho.step (fun K hK => ?_)
      go_simp
      refine hK _ _ ?_; clear hK K
      refine Gho.rel (by rfl) (by rfl) ⟨undef, trivial⟩ ?_ ?_
      · intro g y hC hn hF
        obtain rfl := hCe2.out
        have g2 : g 2 = some u2 := hF.get 0 rfl (by kernel_rfl)
        obtain ⟨ho, hob⟩ := hC.s1 hn _ g2
        have hsl := arr8_sl (S := fun _ => True) ((hC.keep.at_ y7 (fun h => h (.inr (.inl rfl))))) trivial
        refine relAt_appends (.tmp 24) (.tmp 25) 32 5 i0 (.int .u8 0) 1 rfl Try.underlying32 hi hz0 hz1 hz2 rfl (by decide) rfl rfl ho hsl (fun _ _ h => h) (fun _ h => h.elim) (by simp [le8, maxLen]) (by simp [le8]) (by have := hC.keep.size; omega) ?_
        intro v' y' ho' hk' hor'
        have e2 := Gho.upo_ne g v' (show 2 ≠ 4 by decide)
        have e4 := Gho.upo_same g 4 v'
        have hkk : Keep (fun b => ¬ (b = B ∨ b = B' ∨ b < W.heap.size)) Y y' := hC.keep.trans (hk'.mono (fun b _ e => hob b e))
        refine ⟨⟨hkk, fun h => ?_, fun h => ?_, fun v hv => ?_, fun h => ?_⟩, trivial⟩
        · rw [e2, g2] at h; cases h
        · rw [e4] at h; cases h
        · rw [e4] at hv
          obtain rfl := Option.some.inj hv
          exact ho'
        · rw [e2, g2] at h; cases h
      rintro u4 _
      refine Gho.step (fun K hK => ?_)
      go_simp
      refine hK _ _ ?_; clear hK K
      refine Gho.done ?_
      intro g y hC hF
      obtain rfl := hCe2.out
      have g4 : g 4 = some u4 := hF 0 _ _ rfl
      have ho := hC.s2 _ g4
      have hk := hC.keep
      have hBelow : Below w.heap.size w y := hBY.trans (hk.below (fun b _ h => by omega) (by omega))
      go_wp2_with fail
      go_ret
      exact ⟨_, rfl, ho.sl (by simp [canonBytes, le8]) (fun _ h => h.elim) (fun b hb => by have := ho.lt b hb; omega), hBelow⟩
end Go.Proofs.Ytpdpiihnafkgjaa
