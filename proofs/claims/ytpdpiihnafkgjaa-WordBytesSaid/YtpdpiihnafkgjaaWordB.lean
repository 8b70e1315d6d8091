/- Contracts: word.Bytes and its reference; word.Numbers and its reference. -/
import Derived.Test.YtpdpiihnafkgjaaWordA
import Derived.Test.YtpdpiihnafkgjaaApp
namespace Go.Proofs.Ytpdpiihnafkgjaa
open Go Go.RowKit Rdn
set_option linter.unusedVariables false

/-- The bytes of words. -/
def wbytes (l : List Int) : List Int := l.flatMap fun v => [v / 256, v % 256]
theorem wbytes_len : ∀ l : List Int, (wbytes l).length = 2 * l.length
  | [] => rfl
  | v :: l => by have := wbytes_len l; simp only [wbytes, List.flatMap_cons, List.length_append, List.length_cons, List.length_nil] at this ⊢; omega
theorem wbytes_snoc (l : List Int) (v : Int) : wbytes (l ++ [v]) = wbytes l ++ [v / 256, v % 256] := by simp [wbytes, List.flatMap_append]
theorem info_u8b : (Try.prog.info? 5).map (fun i => (i.zero, i.size, i.bytes)) = some (some (.int .u8 0), 1, 1) := by kernel_rfl
theorem info_Cellb : (Try.prog.info? 24).map (fun i => (i.zero, i.size, i.bytes)) = some (some (.agg #[.int .u8 0, .int .u16 0]), 2, 4) := by kernel_rfl
--BEGIN wordbytes_any redundancy/word.Bytes
set_option maxHeartbeats 1000000 in
theorem wordbytes_any (l : List Int) (v : Value) (w : World) (hl : l.length ≤ 1000000) (h : SlV (Sh.int .u16) (old w) w l v) :
    Calls Try.prog 28 #[v] w fun e w' => ∃ v', e = .returned v' ∧ SlV (Sh.int .u8) (fun b => w.heap.size ≤ b) w' (wbytes l) v' ∧ Below w.heap.size w w' := by
  obtain ⟨A, c, rfl, hc, hm⟩ := h.shape
  obtain ⟨i0, hi, hz0, hz1, hz2⟩ := info_parts info_u8b
  go_enter Try.func28, Try.ntmps28
  go_wp2_with fail
  go_loopw [3, 8] (fun v i wr => ∃ k : Nat, k ≤ l.length ∧ i = .int .i64 k ∧ Own (Sh.int .u8) (fun _ => False) w.heap.size 5 wr v (wbytes (l.take k)) ∧ Below w.heap.size w wr) (fun _ i _ => l.length - (intOf i).toNat)
  case atStart => exact ⟨0, by omega, rfl, Own.nil _ _ _ _ _, Below.refl _ _⟩
  case round =>
    obtain ⟨k, hk, rfl, hown, hB⟩ := hrel
    by_cases hlt : k < l.length
    · have h' : SlV (Sh.int .u16) (old w) wr l (.slice A l.length c) := h.mono (fun _ h => h) (fun b hb => hB.block b hb)
      obtain ⟨g, o, rfl, _, hgl, x0, hx⟩ := ints_at h' hlt
      have hx0 : 0 ≤ l[k] := by have := hx.1; simpa [IntKind.min, IntKind.signed] using this
      have hx1 : l[k] ≤ 65535 := by have := hx.2; simpa [IntKind.max, IntKind.signed, IntKind.bits] using this
      have hT := Lib.hid (show wbytes (l.take (k + 1)) = wbytes (l.take k) ++ [l[k] / 256, l[k] % 256] by rw [List.take_add_one, List.getElem?_eq_getElem hlt]; exact wbytes_snoc _ _)
      obtain ⟨X, hX⟩ : ∃ X, X = l[k] := ⟨_, rfl⟩
      rw [← hX] at x0 hx0 hx1 hT
      clear hX
      have hown1 : Own (Sh.int .u8) (fun _ => False) w.heap.size 5 (wr.alloc (.cells #[.int .u8 (X / 256), .int .u8 (X % 256)] 5)) u3 (wbytes (l.take k)) := hown.keep (Keep.alloc (fun _ => False) _ _) (fun _ h => h.elim) (fun _ h => h.elim) (fun _ _ h => h)
      have hsrc : SlV (Sh.int .u8) (fun _ => True) (wr.alloc (.cells #[.int .u8 (X / 256), .int .u8 (X % 256)] 5)) [X / 256, X % 256] (.slice (some ⟨wr.heap.size, 0, none⟩) 2 2) :=
        SlV.of_block (l := [X / 256, X % 256]) (c := 2) (heap_new _ _) (Rows.ints (by intro n hn; simp only [List.mem_cons, List.not_mem_nil, or_false] at hn; rcases hn with rfl | rfl <;> exact inK_u8 (by omega) (by omega))) trivial (by simp) (by simp)
      have hlen := wbytes_len (l.take k)
      have hlen' : (wbytes (l.take k)).length ≤ 2000000 := by rw [hlen, List.length_take]; omega
      have hsz := hB.size
      clear hown h' hlen
      have HB := Lib.hid hB
      clear hB
      go_wp2_with (at_builtin; with_reducible refine wpList_appends (S := fun _ => True) (Z := fun _ => False) (vx := .slice (some ⟨wr.heap.size, 0, none⟩) 2 2) (m := [X / 256, X % 256]) (.tmp 12) (.tmp 18) 32 5 i0 (.int .u8 0) 1 rfl rfl Try.underlying32 hi hz0 hz1 hz2 rfl (by decide) rfl rfl hown1 hsrc flat_int (fun _ h => h.elim) ?_ ?_ ?_ ?_)
      · simp [maxLen]; omega
      · simp; omega
      · simp; omega
      intro v' w' hown' hk' hor'
      have hlt1 := hown1.lt
      have hB' : Below w.heap.size w w' := (HB.out.alloc hsz _).trans (hk'.below (fun b _ e => (hlt1 b e).1) (by simp; omega))
      have HN := Lib.hid hown'
      have HBB := Lib.hid hB'
      clear hown' hB' hk' hor' hown1 hsrc hlt1
      go_wp2_with fail
      go_roundw
      case rel => exact ⟨k + 1, by omega, by go_num, by rw [hT.out]; exact HN.out, HBB.out⟩
      case measure => simp [intOf]; omega
    · obtain rfl : k = l.length := by omega
      go_wp2_with fail
      go_ret
      rw [List.take_length] at hown
      exact ⟨_, rfl, hown.sl (by rw [wbytes_len]; omega) (fun _ h => h.elim) (fun b hb => (hown.lt b hb).1), hB⟩
--END
set_option maxHeartbeats 1000000 in
theorem refbytes_any (l : List Int) (v : Value) (w : World) (hl : l.length ≤ 1000000) (h : SlV (Sh.int .u16) (old w) w l v) :
    Calls Try.prog 30 #[v] w fun e w' => ∃ v', e = .returned v' ∧ SlV (Sh.int .u8) (fun b => w.heap.size ≤ b) w' (wbytes l) v' ∧ Below w.heap.size w w' := by
  obtain ⟨A, c, rfl, hc, hm⟩ := h.shape
  obtain ⟨i0, hi, hz0, hz1, hz2⟩ := info_parts info_u8b
  go_enter Try.func30, Try.ntmps30
  go_wp2_with fail
  go_loopw [3, 8] (fun v i wr => ∃ k : Nat, k ≤ l.length ∧ i = .int .i64 k ∧ Own (Sh.int .u8) (fun _ => False) w.heap.size 5 wr v (wbytes (l.take k)) ∧ Below w.heap.size w wr) (fun _ i _ => l.length - (intOf i).toNat)
  case atStart => exact ⟨0, by omega, rfl, Own.nil _ _ _ _ _, Below.refl _ _⟩
  case round =>
    obtain ⟨k, hk, rfl, hown, hB⟩ := hrel
    by_cases hlt : k < l.length
    · have h' : SlV (Sh.int .u16) (old w) wr l (.slice A l.length c) := h.mono (fun _ h => h) (fun b hb => hB.block b hb)
      obtain ⟨g, o, rfl, _, hgl, x0, hx⟩ := ints_at h' hlt
      have hx0 : 0 ≤ l[k] := by have := hx.1; simpa [IntKind.min, IntKind.signed] using this
      have hx1 : l[k] ≤ 65535 := by have := hx.2; simpa [IntKind.max, IntKind.signed, IntKind.bits] using this
      have hT := Lib.hid (show wbytes (l.take (k + 1)) = wbytes (l.take k) ++ [l[k] / 256, l[k] % 256] by rw [List.take_add_one, List.getElem?_eq_getElem hlt]; exact wbytes_snoc _ _)
      obtain ⟨X, hX⟩ : ∃ X, X = l[k] := ⟨_, rfl⟩
      rw [← hX] at x0 hx0 hx1 hT
      clear hX
      have hown1 : Own (Sh.int .u8) (fun _ => False) w.heap.size 5 (wr.alloc (.cells #[.int .u8 (X / 256), .int .u8 (X % 256)] 5)) u3 (wbytes (l.take k)) := hown.keep (Keep.alloc (fun _ => False) _ _) (fun _ h => h.elim) (fun _ h => h.elim) (fun _ _ h => h)
      have hsrc : SlV (Sh.int .u8) (fun _ => True) (wr.alloc (.cells #[.int .u8 (X / 256), .int .u8 (X % 256)] 5)) [X / 256, X % 256] (.slice (some ⟨wr.heap.size, 0, none⟩) 2 2) :=
        SlV.of_block (l := [X / 256, X % 256]) (c := 2) (heap_new _ _) (Rows.ints (by intro n hn; simp only [List.mem_cons, List.not_mem_nil, or_false] at hn; rcases hn with rfl | rfl <;> exact inK_u8 (by omega) (by omega))) trivial (by simp) (by simp)
      have hlen := wbytes_len (l.take k)
      have hlen' : (wbytes (l.take k)).length ≤ 2000000 := by rw [hlen, List.length_take]; omega
      have hsz := hB.size
      clear hown h' hlen
      have HB := Lib.hid hB
      clear hB
      go_wp2_with (at_builtin; with_reducible refine wpList_appends (S := fun _ => True) (Z := fun _ => False) (vx := .slice (some ⟨wr.heap.size, 0, none⟩) 2 2) (m := [X / 256, X % 256]) (.tmp 12) (.tmp 18) 32 5 i0 (.int .u8 0) 1 rfl rfl Try.underlying32 hi hz0 hz1 hz2 rfl (by decide) rfl rfl hown1 hsrc flat_int (fun _ h => h.elim) ?_ ?_ ?_ ?_)
      · simp [maxLen]; omega
      · simp; omega
      · simp; omega
      intro v' w' hown' hk' hor'
      have hlt1 := hown1.lt
      have hB' : Below w.heap.size w w' := (HB.out.alloc hsz _).trans (hk'.below (fun b _ e => (hlt1 b e).1) (by simp; omega))
      have HN := Lib.hid hown'
      have HBB := Lib.hid hB'
      clear hown' hB' hk' hor' hown1 hsrc hlt1
      go_wp2_with fail
      go_roundw
      case rel => exact ⟨k + 1, by omega, by go_num, by rw [hT.out]; exact HN.out, HBB.out⟩
      case measure => simp [intOf]; omega
    · obtain rfl : k = l.length := by omega
      go_wp2_with fail
      go_ret
      rw [List.take_length] at hown
      exact ⟨_, rfl, hown.sl (by rw [wbytes_len]; omega) (fun _ h => h.elim) (fun b hb => (hown.lt b hb).1), hB⟩
/-- The cells of words. -/
def wcells (l : List Int) : List Cell := l.map fun v => ⟨0, v⟩
theorem wcells_len (l : List Int) : (wcells l).length = l.length := by simp [wcells]
theorem wcells_snoc (l : List Int) (v : Int) : wcells (l ++ [v]) = wcells l ++ [⟨0, v⟩] := by simp [wcells]
theorem flat_cell {S Z : Nat → Prop} {w w' : World} (a : Cell) (cs : List Value) (h : Cell.sh.rd S w a cs) : Cell.sh.rd Z w' a cs := Cell.rd_iff.2 (Cell.rd_iff.1 h)
set_option maxHeartbeats 1000000 in
theorem numbers_any (l : List Int) (v : Value) (w : World) (hl : l.length ≤ 1000000) (h : SlV (Sh.int .u16) (old w) w l v) :
    Calls Try.prog 32 #[v] w fun e w' => ∃ v', e = .returned v' ∧ SlV Cell.sh (fun b => w.heap.size ≤ b) w' (wcells l) v' ∧ Below w.heap.size w w' := by
  obtain ⟨A, c, rfl, hc, hm⟩ := h.shape
  obtain ⟨i0, hi, hz0, hz1, hz2⟩ := info_parts info_Cellb
  go_enter Try.func32, Try.ntmps32
  go_wp2_with fail
  go_loopw [3, 8] (fun v i wr => ∃ k : Nat, k ≤ l.length ∧ i = .int .i64 k ∧ Own Cell.sh (fun _ => False) w.heap.size 24 wr v (wcells (l.take k)) ∧ Below w.heap.size w wr) (fun _ i _ => l.length - (intOf i).toNat)
  case atStart => exact ⟨0, by omega, rfl, Own.nil _ _ _ _ _, Below.refl _ _⟩
  case round =>
    obtain ⟨k, hk, rfl, hown, hB⟩ := hrel
    by_cases hlt : k < l.length
    · have h' : SlV (Sh.int .u16) (old w) wr l (.slice A l.length c) := h.mono (fun _ h => h) (fun b hb => hB.block b hb)
      obtain ⟨g, o, rfl, _, hgl, x0, hx⟩ := ints_at h' hlt
      have hx0 : 0 ≤ l[k] := by have := hx.1; simpa [IntKind.min, IntKind.signed] using this
      have hx1 : l[k] ≤ 65535 := by have := hx.2; simpa [IntKind.max, IntKind.signed, IntKind.bits] using this
      have hT := Lib.hid (show wcells (l.take (k + 1)) = wcells (l.take k) ++ [⟨0, l[k]⟩] by rw [List.take_add_one, List.getElem?_eq_getElem hlt]; exact wcells_snoc _ _)
      obtain ⟨X, hX⟩ : ∃ X, X = l[k] := ⟨_, rfl⟩
      rw [← hX] at x0 hx0 hx1 hT
      clear hX
      have hown1 : Own Cell.sh (fun _ => False) w.heap.size 24 (wr.alloc (.cells #[.int .u8 0, .int .u16 X] 24)) u3 (wcells (l.take k)) := hown.keep (Keep.alloc (fun _ => False) _ _) (fun _ h => h.elim) (fun _ h => h.elim) (fun _ _ h => h)
      have hsrc : SlV Cell.sh (fun _ => True) (wr.alloc (.cells #[.int .u8 0, .int .u16 X] 24)) [(⟨0, X⟩ : Cell)] (.slice (some ⟨wr.heap.size, 0, none⟩) 1 1) :=
        SlV.of_block (l := [(⟨0, X⟩ : Cell)]) (c := 1) (heap_new _ _) (Rows.single (Cell.rd_iff.2 ⟨rfl, inK_u8 (n := 0) (by omega) (by omega), inK_u16 hx0 hx1⟩)) trivial (by simp) (by simp)
      have hlen := wcells_len (l.take k)
      have hlen' : (wcells (l.take k)).length ≤ 2000000 := by rw [hlen, List.length_take]; omega
      have hsz := hB.size
      clear hown h' hlen
      have HB := Lib.hid hB
      clear hB
      go_wp2_with (at_builtin; with_reducible refine wpList_appends (S := fun _ => True) (Z := fun _ => False) (vx := .slice (some ⟨wr.heap.size, 0, none⟩) 1 1) (m := [(⟨0, X⟩ : Cell)]) (.tmp 12) (.tmp 15) 37 24 i0 (.agg #[.int .u8 0, .int .u16 0]) 4 rfl rfl Try.underlying37 hi hz0 hz1 hz2 rfl (by decide) rfl rfl hown1 hsrc flat_cell (fun _ h => h.elim) ?_ ?_ ?_ ?_)
      · simp [maxLen]; omega
      · simp; omega
      · simp; omega
      intro v' w' hown' hk' hor'
      have hlt1 := hown1.lt
      have hB' : Below w.heap.size w w' := (HB.out.alloc hsz _).trans (hk'.below (fun b _ e => (hlt1 b e).1) (by simp; omega))
      have HN := Lib.hid hown'
      have HBB := Lib.hid hB'
      clear hown' hB' hk' hor' hown1 hsrc hlt1
      go_wp2_with fail
      go_roundw
      case rel => exact ⟨k + 1, by omega, by go_num, by rw [hT.out]; exact HN.out, HBB.out⟩
      case measure => simp [intOf]; omega
    · obtain rfl : k = l.length := by omega
      go_wp2_with fail
      go_ret
      rw [List.take_length] at hown
      exact ⟨_, rfl, hown.sl (by rw [wcells_len]; omega) (fun _ h => h.elim) (fun b hb => (hown.lt b hb).1), hB⟩
set_option maxHeartbeats 1000000 in
theorem refnumbers_any (l : List Int) (v : Value) (w : World) (hl : l.length ≤ 1000000) (h : SlV (Sh.int .u16) (old w) w l v) :
    Calls Try.prog 33 #[v] w fun e w' => ∃ v', e = .returned v' ∧ SlV Cell.sh (fun b => w.heap.size ≤ b) w' (wcells l) v' ∧ Below w.heap.size w w' := by
  obtain ⟨A, c, rfl, hc, hm⟩ := h.shape
  obtain ⟨i0, hi, hz0, hz1, hz2⟩ := info_parts info_Cellb
  go_enter Try.func33, Try.ntmps33
  go_wp2_with fail
  go_loopw [3, 8] (fun v i wr => ∃ k : Nat, k ≤ l.length ∧ i = .int .i64 k ∧ Own Cell.sh (fun _ => False) w.heap.size 24 wr v (wcells (l.take k)) ∧ Below w.heap.size w wr) (fun _ i _ => l.length - (intOf i).toNat)
  case atStart => exact ⟨0, by omega, rfl, Own.nil _ _ _ _ _, Below.refl _ _⟩
  case round =>
    obtain ⟨k, hk, rfl, hown, hB⟩ := hrel
    by_cases hlt : k < l.length
    · have h' : SlV (Sh.int .u16) (old w) wr l (.slice A l.length c) := h.mono (fun _ h => h) (fun b hb => hB.block b hb)
      obtain ⟨g, o, rfl, _, hgl, x0, hx⟩ := ints_at h' hlt
      have hx0 : 0 ≤ l[k] := by have := hx.1; simpa [IntKind.min, IntKind.signed] using this
      have hx1 : l[k] ≤ 65535 := by have := hx.2; simpa [IntKind.max, IntKind.signed, IntKind.bits] using this
      have hT := Lib.hid (show wcells (l.take (k + 1)) = wcells (l.take k) ++ [⟨0, l[k]⟩] by rw [List.take_add_one, List.getElem?_eq_getElem hlt]; exact wcells_snoc _ _)
      obtain ⟨X, hX⟩ : ∃ X, X = l[k] := ⟨_, rfl⟩
      rw [← hX] at x0 hx0 hx1 hT
      clear hX
      have hown1 : Own Cell.sh (fun _ => False) w.heap.size 24 (wr.alloc (.cells #[.int .u8 0, .int .u16 X] 24)) u3 (wcells (l.take k)) := hown.keep (Keep.alloc (fun _ => False) _ _) (fun _ h => h.elim) (fun _ h => h.elim) (fun _ _ h => h)
      have hsrc : SlV Cell.sh (fun _ => True) (wr.alloc (.cells #[.int .u8 0, .int .u16 X] 24)) [(⟨0, X⟩ : Cell)] (.slice (some ⟨wr.heap.size, 0, none⟩) 1 1) :=
        SlV.of_block (l := [(⟨0, X⟩ : Cell)]) (c := 1) (heap_new _ _) (Rows.single (Cell.rd_iff.2 ⟨rfl, inK_u8 (n := 0) (by omega) (by omega), inK_u16 hx0 hx1⟩)) trivial (by simp) (by simp)
      have hlen := wcells_len (l.take k)
      have hlen' : (wcells (l.take k)).length ≤ 2000000 := by rw [hlen, List.length_take]; omega
      have hsz := hB.size
      clear hown h' hlen
      have HB := Lib.hid hB
      clear hB
      go_wp2_with (at_builtin; with_reducible refine wpList_appends (S := fun _ => True) (Z := fun _ => False) (vx := .slice (some ⟨wr.heap.size, 0, none⟩) 1 1) (m := [(⟨0, X⟩ : Cell)]) (.tmp 12) (.tmp 15) 37 24 i0 (.agg #[.int .u8 0, .int .u16 0]) 4 rfl rfl Try.underlying37 hi hz0 hz1 hz2 rfl (by decide) rfl rfl hown1 hsrc flat_cell (fun _ h => h.elim) ?_ ?_ ?_ ?_)
      · simp [maxLen]; omega
      · simp; omega
      · simp; omega
      intro v' w' hown' hk' hor'
      have hlt1 := hown1.lt
      have hB' : Below w.heap.size w w' := (HB.out.alloc hsz _).trans (hk'.below (fun b _ e => (hlt1 b e).1) (by simp; omega))
      have HN := Lib.hid hown'
      have HBB := Lib.hid hB'
      clear hown' hB' hk' hor' hown1 hsrc hlt1
      go_wp2_with fail
      go_roundw
      case rel => exact ⟨k + 1, by omega, by go_num, by rw [hT.out]; exact HN.out, HBB.out⟩
      case measure => simp [intOf]; omega
    · obtain rfl : k = l.length := by omega
      go_wp2_with fail
      go_ret
      rw [List.take_length] at hown
      exact ⟨_, rfl, hown.sl (by rw [wcells_len]; omega) (fun _ h => h.elim) (fun b hb => (hown.lt b hb).1), hB⟩
end Go.Proofs.Ytpdpiihnafkgjaa
