/- W1, W2, W3, W4, W5, in one text. -/
import Derived.Test.YtkfpcgkmemfdaaaDz
import Derived.Test.YtkfpcgkmemfdaaaNr
import Derived.Test.YtkfpcgkmemfdaaaZt
import Derived.Test.YtkfpcgkmemfdaaaFnd
/- Files: what functions do, told plainly. -/
namespace Go.Proofs.Ytkfpcgkmemfdaaa
open Go Go.RowKit Rdn Rdn.Dp
set_option linter.unusedVariables false
set_option linter.unusedSimpArgs false
instance : Inhabited Opn := ⟨⟨0, 0, false⟩⟩
instance : Inhabited Files := ⟨⟨[], []⟩⟩
/-! ### Trees -/
abbrev opnV (o : Opn) : V := .agg [.int .i64 o.file, .int .i64 o.offset, .bool o.write]
instance : Lo opnV opnV := ⟨fun _ => rfl, fun _ => rfl⟩
abbrev cnV (t : Bool) : List Canon → V := slV' t 4 canonV
abbrev filV (f : Files) : V := .agg [.sl false 1 (f.data.map (slV' false 4 canonV)), .sl false 3 (f.opens.map opnV)]
theorem freshs_opns (l : List Opn) : V.freshs (l.map opnV) = true := freshs_map _ _ (fun _ => rfl)
theorem freshs_cns (l : List (List Canon)) : V.freshs (l.map (slV' true 4 canonV)) = true := freshs_map _ _ (fun x => by simp [slV', V.fresh, freshs_canons])
theorem set_opn (l : List Opn) (i : Nat) (a b : Int) (c : Bool) : (l.map opnV).set i (.agg [.int .i64 a, .int .i64 b, .bool c]) = (l.set i ⟨a, b, c⟩).map opnV := by rw [List.map_set]
theorem snoc_opn (l : List Opn) (a b : Int) (c : Bool) (r : List V) : l.map opnV ++ (V.agg [.int .i64 a, .int .i64 b, .bool c] :: r) = (l ++ [(⟨a, b, c⟩ : Opn)]).map opnV ++ r := by simp
theorem set_slV {α : Type} (t : Bool) (s : Nat) (f : α → V) (l : List (List α)) (i : Nat) (d : List α) : (l.map (slV' t s f)).set i (V.sl t s (d.map f)) = (l.set i d).map (slV' t s f) := by rw [List.map_set]
theorem take_mapC (l : List Canon) (n : Nat) : (l.map canonV).take n = (l.take n).map canonV := by rw [List.map_take]
theorem drop_mapC (l : List Canon) (n : Nat) : (l.map canonV).drop n = (l.drop n).map canonV := by rw [List.map_drop]
attribute [go_sem] take_mapC drop_mapC List.take_length freshs_opns freshs_cns set_opn snoc_opn set_slV
/-! ### Cells -/
def okC (c : Canon) : Prop := ((c.tag = 0 ∨ c.tag = 2) ∧ c.region = 0 ∧ c.offset = 0) ∨ (c.tag = 1 ∧ c.val = 0 ∧ ((c.region = -1 ∧ 0 ≤ c.offset ∧ c.offset ≤ 65535) ∨ (0 ≤ c.region ∧ c.region < 4 ∧ 0 ≤ c.offset ∧ c.offset < 32)))
instance (c : Canon) : Decidable (okC c) := by unfold okC; exact inferInstance
def cellB (c : Canon) : Bool := decide (okC c)
def cellsB (l : List Canon) (n : Int) : Bool := l.all cellB && decide ((l.length : Int) ≤ n)
/-! ### What functions do -/
def shut : Opn := ⟨-1, 0, false⟩
def okO (f : Files) (o : Opn) : Prop := (o.file = -1 ∧ o.offset = 0 ∧ o.write = false) ∨ (0 ≤ o.file ∧ o.file < f.data.length ∧ 0 ≤ o.offset ∧ o.offset ≤ f.data[o.file.toNat]!.length)
/-- Files that functions leave. -/
structure FitF (f : Files) : Prop where
  d : f.data.length ≤ 4
  o : f.opens.length = 8
  len : ∀ x ∈ f.data, x.length ≤ 64
  cell : ∀ x ∈ f.data, x.all cellB = true
  ok : ∀ o ∈ f.opens, okO f o
/-- The least closed handle. -/
def hdl (f : Files) : Nat := f.opens.findIdx fun o => decide (o.file = -1)
/-- A handle of a file that was emptied. -/
def zr (k : Int) (o : Opn) : Opn := if o.file = k then ⟨o.file, 0, o.write⟩ else o
def sOpen (f : Files) (k m : Int) : Files × Int :=
  if k < 0 ∨ (f.data.length : Int) ≤ k ∨ m < 0 ∨ 2 < m ∨ hdl f = f.opens.length then (f, -1)
  else if m = 0 then (⟨f.data, f.opens.set (hdl f) ⟨k, 0, false⟩⟩, hdl f)
  else if m = 1 then (⟨f.data.set k.toNat [], (f.opens.map (zr k)).set (hdl f) ⟨k, 0, true⟩⟩, hdl f)
  else (⟨f.data, f.opens.set (hdl f) ⟨k, f.data[k.toNat]!.length, true⟩⟩, hdl f)
/-- Whether a handle is open. -/
def opd (f : Files) (h : Int) : Prop := 0 ≤ h ∧ h < f.opens.length ∧ f.opens[h.toNat]!.file ≠ -1
instance (f : Files) (h : Int) : Decidable (opd f h) := by unfold opd; exact inferInstance
def dat (f : Files) (h : Int) : List Canon := f.data[f.opens[h.toNat]!.file.toNat]!
def sClose (f : Files) (h : Int) : Files × Bool := if opd f h then (⟨f.data, f.opens.set h.toNat shut⟩, true) else (f, false)
def setOff (f : Files) (h x : Int) : List Opn := f.opens.set h.toNat ⟨f.opens[h.toNat]!.file, x, f.opens[h.toNat]!.write⟩
def sSeek (f : Files) (h x : Int) : Files × Bool := if opd f h ∧ 0 ≤ x ∧ x ≤ (dat f h).length then (⟨f.data, setOff f h x⟩, true) else (f, false)
/-- How many cells are read. -/
def rdn (f : Files) (h n : Int) : Int := min n ((dat f h).length - f.opens[h.toNat]!.offset)
def sRead (f : Files) (h n : Int) : Files × List Canon × Bool :=
  if opd f h ∧ 0 ≤ n ∧ f.opens[h.toNat]!.write = false then (⟨f.data, setOff f h (f.opens[h.toNat]!.offset + rdn f h n)⟩, ((dat f h).drop f.opens[h.toNat]!.offset.toNat).take (rdn f h n).toNat, true) else (f, [], false)
/-- How many cells are written. -/
def wrn (f : Files) (h : Int) (c : List Canon) : Int := min c.length (64 - f.opens[h.toNat]!.offset)
/-- A file with cells written into it. -/
def over (d : List Canon) (a : Nat) (c : List Canon) : List Canon := d.take a ++ c ++ d.drop (a + c.length)
def sWrite (f : Files) (h : Int) (c : List Canon) : Files × Int × Bool :=
  if opd f h ∧ f.opens[h.toNat]!.write = true ∧ c.all cellB = true then (⟨f.data.set f.opens[h.toNat]!.file.toNat (over (dat f h) f.opens[h.toNat]!.offset.toNat (c.take (wrn f h c).toNat)), setOff f h (f.opens[h.toNat]!.offset + wrn f h c)⟩, wrn f h c, true) else (f, 0, false)
/-! ### Files stay valid -/
theorem at_mem {α : Type} [Inhabited α] {l : List α} {x : α} (h : x ∈ l) : ∃ k, k < l.length ∧ l[k]! = x := by
  obtain ⟨k, hk, rfl⟩ := List.getElem_of_mem h
  exact ⟨k, hk, getElem!_pos l k hk⟩
theorem set_at {α : Type} [Inhabited α] {l : List α} {i j : Nat} {x : α} (h : j < l.length) : (l.set i x)[j]! = if i = j then x else l[j]! := by
  rw [getElem!_pos _ j (by simpa using h), getElem!_pos l j h, List.getElem_set]
theorem FitF.at {f : Files} (F : FitF f) {h : Int} (c : opd f h) : 0 ≤ f.opens[h.toNat]!.file ∧ f.opens[h.toNat]!.file < f.data.length ∧ 0 ≤ f.opens[h.toNat]!.offset ∧ f.opens[h.toNat]!.offset ≤ (dat f h).length ∧ (dat f h).length ≤ 64 := by
  obtain ⟨c1, c2, c3⟩ := c
  have hl : h.toNat < f.opens.length := by omega
  rcases F.ok _ (mem_at hl) with h1 | h1
  · exact absurd h1.1 c3
  · exact ⟨h1.1, h1.2.1, h1.2.2.1, h1.2.2.2, F.len _ (mem_at (by omega))⟩
theorem okO_len {f g : Files} (hl : g.data.length = f.data.length) {o : Opn} (hd : ∀ k : Nat, (k : Int) = o.file → k < f.data.length → f.data[k]!.length ≤ g.data[k]!.length) (h : okO f o) : okO g o := by
  rcases h with h | ⟨h1, h2, h3, h4⟩
  · exact .inl h
  · have := hd o.file.toNat (by omega) (by omega)
    exact .inr ⟨h1, by omega, h3, by omega⟩
theorem okO_same {f g : Files} (hd : g.data = f.data) {o : Opn} (h : okO f o) : okO g o := okO_len (by rw [hd]) (fun k _ _ => by rw [hd]; exact Nat.le_refl _) h
theorem FitF.opens {f : Files} (F : FitF f) {l : List Opn} (hl : l.length = 8) (ho : ∀ o ∈ l, okO f o) : FitF ⟨f.data, l⟩ := ⟨F.d, hl, F.len, F.cell, fun o h => okO_same rfl (ho o h)⟩
theorem FitF.close {f : Files} (F : FitF f) (h : Int) : FitF (sClose f h).1 := by
  unfold sClose
  split
  · refine F.opens (by rw [List.length_set]; exact F.o) fun o ho => ?_
    rcases List.mem_or_eq_of_mem_set ho with ho | rfl
    · exact F.ok o ho
    · exact .inl ⟨rfl, rfl, rfl⟩
  · exact F
theorem FitF.off {f : Files} (F : FitF f) {h x : Int} (c : opd f h) (h0 : 0 ≤ x) (h1 : x ≤ (dat f h).length) : FitF ⟨f.data, setOff f h x⟩ := by
  have ha := F.at c
  refine F.opens (by unfold setOff; rw [List.length_set]; exact F.o) fun o ho => ?_
  rcases List.mem_or_eq_of_mem_set ho with ho | rfl
  · exact F.ok o ho
  · exact .inr ⟨ha.1, ha.2.1, h0, h1⟩
theorem FitF.seek {f : Files} (F : FitF f) (h x : Int) : FitF (sSeek f h x).1 := by
  unfold sSeek
  split
  · rename_i c
    exact F.off c.1 c.2.1 c.2.2
  · exact F
theorem FitF.read {f : Files} (F : FitF f) (h n : Int) : FitF (sRead f h n).1 := by
  unfold sRead
  split
  · rename_i c
    have ha := F.at c.1
    exact F.off c.1 (by unfold rdn; omega) (by unfold rdn; omega)
  · exact F
theorem over_len {d c : List Canon} {a : Nat} (h : a ≤ d.length) : (over d a c).length = max d.length (a + c.length) := by
  unfold over
  simp only [List.length_append, List.length_take, List.length_drop]
  omega
theorem FitF.data {f : Files} (F : FitF f) {k : Nat} {d : List Canon} {l : List Opn} (hk : k < f.data.length) (hd : d.length ≤ 64) (hc : d.all cellB = true) (hl : l.length = 8) (ho : ∀ o ∈ l, okO ⟨f.data.set k d, l⟩ o) : FitF ⟨f.data.set k d, l⟩ := by
  refine ⟨by show (f.data.set k d).length ≤ 4; rw [List.length_set]; exact F.d, hl, fun x hx => ?_, fun x hx => ?_, ho⟩
  · rcases List.mem_or_eq_of_mem_set hx with hx | rfl
    · exact F.len x hx
    · exact hd
  · rcases List.mem_or_eq_of_mem_set hx with hx | rfl
    · exact F.cell x hx
    · exact hc
theorem FitF.write {f : Files} (F : FitF f) (h : Int) (c : List Canon) : FitF (sWrite f h c).1 := by
  unfold sWrite
  split
  · rename_i hc
    have ha := F.at hc.1
    have hk : f.opens[h.toNat]!.file.toNat < f.data.length := by omega
    have hw : (c.take (wrn f h c).toNat).length = (wrn f h c).toNat := by rw [List.length_take]; unfold wrn; omega
    have hl := over_len (d := dat f h) (c := c.take (wrn f h c).toNat) (a := f.opens[h.toNat]!.offset.toNat) (by omega)
    rw [hw] at hl
    have hwr : wrn f h c ≤ 64 - f.opens[h.toNat]!.offset ∧ 0 ≤ wrn f h c := by unfold wrn; omega
    refine F.data hk (by omega) ?_ (by unfold setOff; rw [List.length_set]; exact F.o) fun o ho => ?_
    · have hdc := F.cell _ (mem_at hk)
      simp only [List.all_eq_true] at hdc hc ⊢
      intro x hx
      unfold over at hx
      rcases List.mem_append.1 hx with hx | hx
      · rcases List.mem_append.1 hx with hx | hx
        · exact hdc x (List.mem_of_mem_take hx)
        · exact hc.2.2 x (List.mem_of_mem_take hx)
      · exact hdc x (List.mem_of_mem_drop hx)
    · have grow : ∀ k : Nat, k < f.data.length → f.data[k]!.length ≤ (f.data.set f.opens[h.toNat]!.file.toNat (over (dat f h) f.opens[h.toNat]!.offset.toNat (c.take (wrn f h c).toNat)))[k]!.length := by
        intro k hk'
        rw [set_at hk']
        split
        · rename_i e
          rw [hl, ← e]
          exact Nat.le_max_left _ _
        · exact Nat.le_refl _
      rcases List.mem_or_eq_of_mem_set ho with ho | rfl
      · exact okO_len (by simp) (fun k _ hk' => grow k hk') (F.ok o ho)
      · refine .inr ⟨ha.1, by simpa using ha.2.1, by show 0 ≤ f.opens[h.toNat]!.offset + _; omega, ?_⟩
        show f.opens[h.toNat]!.offset + _ ≤ _
        rw [set_at hk, if_pos rfl, hl]
        omega
  · exact F
theorem hdl_le (f : Files) : hdl f ≤ f.opens.length := List.findIdx_le_length
theorem FitF.open {f : Files} (F : FitF f) (k m : Int) : FitF (sOpen f k m).1 := by
  unfold sOpen
  split
  · exact F
  rename_i c
  simp only [not_or, Int.not_lt, Int.not_le] at c
  obtain ⟨c1, c2, c3, c4, c5⟩ := c
  have hk : k.toNat < f.data.length := by omega
  split
  · refine F.opens (by rw [List.length_set]; exact F.o) fun o ho => ?_
    rcases List.mem_or_eq_of_mem_set ho with ho | rfl
    · exact F.ok o ho
    · exact .inr ⟨c1, c2, Int.le_refl _, Int.natCast_nonneg _⟩
  split
  · refine F.data hk (by simp) rfl (by simp [F.o]) fun o ho => ?_
    rcases List.mem_or_eq_of_mem_set ho with ho | rfl
    · obtain ⟨o', ho', rfl⟩ := List.mem_map.1 ho
      have h1 := F.ok o' ho'
      unfold zr
      split
      · rename_i e
        rcases h1 with h1 | h1
        · omega
        · exact .inr ⟨h1.1, by simpa using h1.2.1, Int.le_refl _, Int.natCast_nonneg _⟩
      · rename_i e
        refine okO_len (f := f) (by simp) (fun j hj hj' => ?_) h1
        show _ ≤ (f.data.set k.toNat [])[j]!.length
        rw [set_at hj']
        split
        · omega
        · exact Nat.le_refl _
    · refine .inr ⟨c1, by simpa using c2, Int.le_refl _, Int.natCast_nonneg _⟩
  · refine F.opens (by rw [List.length_set]; exact F.o) fun o ho => ?_
    rcases List.mem_or_eq_of_mem_set ho with ho | rfl
    · exact F.ok o ho
    · exact .inr ⟨c1, c2, Int.natCast_nonneg _, Int.le_refl _⟩
end Go.Proofs.Ytkfpcgkmemfdaaa
/- Files: copies. -/
namespace Go.Proofs.Ytkfpcgkmemfdaaa
open Go Go.RowKit Rdn Rdn.Dp
set_option linter.unusedVariables false
set_option linter.unusedSimpArgs false
def m_ocl : MC := .seq (.reg [⟨(some 2), none, (.p (.mov (.c (.nilS))))⟩])
 (.seq (.seq (.reg [⟨(some 3), none, (.p (.mov (.t 0)))⟩, ⟨(some 4), none, (.p (.bin 2 .eql (.t 3) (.c (.nilS))))⟩])
 (.cond (.t 4) (.seq (.reg [⟨(some 2), none, (.p (.mov (.c (.nilS))))⟩])
 (.ret)) (.skip)))
 (.seq (.reg [⟨(some 5), none, (.m (.buildS 102 3 (.agg [.int .i64 0, .int .i64 0, .bool false]) 0 []))⟩, ⟨(some 6), none, (.p (.mov (.t 0)))⟩, ⟨(some 7), none, (.m (.app 102 3 24 (.t 5) (.t 6)))⟩, ⟨(some 2), none, (.p (.mov (.t 7)))⟩])
 (.ret)))
theorem m_ocl_ok : compF Try.prog 99 = some (8, m_ocl, [.mov (.t 2)]) := by kernel_rfl
def m_ccl : MC := .seq (.reg [⟨(some 2), none, (.p (.mov (.c (.nilS))))⟩])
 (.seq (.seq (.reg [⟨(some 3), none, (.p (.mov (.t 0)))⟩, ⟨(some 4), none, (.p (.bin 2 .eql (.t 3) (.c (.nilS))))⟩])
 (.cond (.t 4) (.seq (.reg [⟨(some 2), none, (.p (.mov (.c (.nilS))))⟩])
 (.ret)) (.skip)))
 (.seq (.reg [⟨(some 5), none, (.m (.buildS 47 4 (.agg [.int .u8 0, .int .u16 0, .int .i64 0, .int .i64 0]) 0 []))⟩, ⟨(some 6), none, (.p (.mov (.t 0)))⟩, ⟨(some 7), none, (.m (.app 47 4 24 (.t 5) (.t 6)))⟩, ⟨(some 2), none, (.p (.mov (.t 7)))⟩])
 (.ret)))
theorem m_ccl_ok : compF Try.prog 87 = some (8, m_ccl, [.mov (.t 2)]) := by kernel_rfl
def m_wcopy : MC := .seq (.reg [⟨(some 1), none, (.m (.box 28 (.t 0)))⟩, ⟨(some 2), none, (.m (.alloc 28 (.agg [.nilS, .nilS])))⟩])
 (.seq (.reg [⟨(some 6), none, (.p (.fieldA 1 1 (.t 1)))⟩, ⟨(some 7), none, (.p (.load false 1 (.t 6)))⟩, ⟨(some 8), none, (.call 99 [(.t 7)])⟩, ⟨(some 9), none, (.m (.build none [.nilS, .nilS] [(1, (.t 8))]))⟩, ⟨(some 3), none, (.m (.alloc 28 (.agg [.nilS, .nilS])))⟩, ⟨none, none, (.m (.store 2 (.t 3) (.t 9)))⟩])
 (.seq (.seq (.reg [⟨(some 10), none, (.p (.fieldA 0 0 (.t 1)))⟩, ⟨(some 11), none, (.p (.load false 1 (.t 10)))⟩, ⟨(some 12), none, (.p (.len (.t 11)))⟩, ⟨(some 13), none, (.p (.mov (.c (.int .i64 0))))⟩])
 (.block 0 (.loop (.seq (.reg [⟨(some 14), none, (.p (.bin 0 .lss (.t 13) (.t 12)))⟩])
 (.seq (.cond (.t 14) (.skip) (.exit 0))
 (.seq (.block 1 (.seq (.reg [⟨(some 15), none, (.p (.idxA 1 (.t 11) (.t 13)))⟩, ⟨(some 16), none, (.p (.load false 1 (.t 15)))⟩, ⟨(some 5), none, (.p (.mov (.t 16)))⟩])
 (.dreg [⟨(some 17), none, (.p (.fieldA 0 0 (.t 3)))⟩, ⟨(some 18), none, (.p (.load false 1 (.t 17)))⟩, ⟨(some 19), none, (.p (.mov (.t 5)))⟩, ⟨(some 20), none, (.call 87 [(.t 19)])⟩, ⟨(some 21), none, (.m (.buildS 41 1 (.nilS) 1 [(0, (.t 20))]))⟩, ⟨(some 22), none, (.m (.app 41 1 24 (.t 18) (.t 21)))⟩, ⟨(some 23), none, (.p (.fieldA 0 0 (.t 3)))⟩, ⟨none, none, (.m (.store 1 (.t 23) (.t 22)))⟩] [[], [0], [], [2], [2, 3], [0, 1, 2, 3, 4], [0, 1, 2, 3, 4, 5], [0, 1, 2, 3, 4, 5, 6]])))
 (.reg [⟨(some 24), none, (.p (.bin 0 .add (.t 13) (.c (.int .i64 1))))⟩, ⟨(some 13), none, (.p (.mov (.t 24)))⟩])))))))
 (.seq (.reg [⟨(some 25), none, (.p (.load true 2 (.t 3)))⟩, ⟨none, none, (.m (.store 2 (.t 2) (.t 25)))⟩])
 (.ret))))
theorem m_wcopy_ok : compF Try.prog 65 = some (26, m_wcopy, [.load true 2 (.t 2)]) := by kernel_rfl
def m_rcopy : MC := .seq (.reg [⟨(some 1), none, (.m (.box 28 (.t 0)))⟩, ⟨(some 2), none, (.m (.alloc 28 (.agg [.nilS, .nilS])))⟩])
 (.seq (.reg [⟨(some 6), none, (.p (.fieldA 1 1 (.t 1)))⟩, ⟨(some 7), none, (.p (.load false 1 (.t 6)))⟩, ⟨(some 8), none, (.m (.app 102 3 24 (.c (.nilS)) (.t 7)))⟩, ⟨(some 9), none, (.m (.build none [.nilS, .nilS] [(1, (.t 8))]))⟩, ⟨(some 3), none, (.m (.alloc 28 (.agg [.nilS, .nilS])))⟩, ⟨none, none, (.m (.store 2 (.t 3) (.t 9)))⟩])
 (.seq (.seq (.reg [⟨(some 10), none, (.p (.fieldA 0 0 (.t 1)))⟩, ⟨(some 11), none, (.p (.load false 1 (.t 10)))⟩, ⟨(some 12), none, (.p (.len (.t 11)))⟩, ⟨(some 13), none, (.p (.mov (.c (.int .i64 0))))⟩])
 (.block 0 (.loop (.seq (.reg [⟨(some 14), none, (.p (.bin 0 .lss (.t 13) (.t 12)))⟩])
 (.seq (.cond (.t 14) (.skip) (.exit 0))
 (.seq (.block 1 (.seq (.reg [⟨(some 15), none, (.p (.idxA 1 (.t 11) (.t 13)))⟩, ⟨(some 16), none, (.p (.load false 1 (.t 15)))⟩, ⟨(some 5), none, (.p (.mov (.t 16)))⟩])
 (.dreg [⟨(some 17), none, (.p (.fieldA 0 0 (.t 3)))⟩, ⟨(some 18), none, (.p (.load false 1 (.t 17)))⟩, ⟨(some 19), none, (.p (.mov (.t 5)))⟩, ⟨(some 20), none, (.m (.app 47 4 24 (.c (.nilS)) (.t 19)))⟩, ⟨(some 21), none, (.m (.buildS 41 1 (.nilS) 1 [(0, (.t 20))]))⟩, ⟨(some 22), none, (.m (.app 41 1 24 (.t 18) (.t 21)))⟩, ⟨(some 23), none, (.p (.fieldA 0 0 (.t 3)))⟩, ⟨none, none, (.m (.store 1 (.t 23) (.t 22)))⟩] [[], [0], [], [2], [2, 3], [0, 1, 2, 3, 4], [0, 1, 2, 3, 4, 5], [0, 1, 2, 3, 4, 5, 6]])))
 (.reg [⟨(some 24), none, (.p (.bin 0 .add (.t 13) (.c (.int .i64 1))))⟩, ⟨(some 13), none, (.p (.mov (.t 24)))⟩])))))))
 (.seq (.reg [⟨(some 25), none, (.p (.load true 2 (.t 3)))⟩, ⟨none, none, (.m (.store 2 (.t 2) (.t 25)))⟩])
 (.ret))))
theorem m_rcopy_ok : compF Try.prog 100 = some (26, m_rcopy, [.load true 2 (.t 2)]) := by kernel_rfl
set_option maxHeartbeats 4000000 in
theorem ocl_fn (l : List Opn) (hb : l.length ≤ 1000000) : Fnc Try.prog 99 [.sl false 3 (l.map opnV)] (fun x obs => x = .sl true 3 (l.map opnV) ∧ obs = []) := by
  refine Fnc.intro m_ocl_ok (by simp) fun W S => ?_
  unfold m_ocl
  simp only [ents, Nat.zero_add, Nat.reduceAdd]
  repeat (first | refine ev_seq ?_ | refine ev_block ?_ | refine ev_skip ?_ | refine ev_inBlock ?_ | refine evr_nil ?_ | refine evw_nil (by kernel_rfl) ?_ | refine ev_exit rfl ?_ | refine ev_round ?_ | refine ev_condT rfl ?_ | refine ev_condF rfl ?_ | refine ev_condTb rfl (by first | exact decT (by omega) | exact beqT (by omega) | exact bneT (by omega) | exact notT (decF (by omega)) | exact notT (beqF (by omega))) ?_ | refine ev_condFb rfl (by first | exact decF (by omega) | exact beqF (by omega) | exact bneF (by omega) | exact notF (decT (by omega)) | exact notF (beqT (by omega))) ?_)
  (first | refine ev_seq ?_ | refine ev_block ?_ | refine ev_skip ?_ | refine ev_inBlock ?_ | refine evr_nil ?_ | refine evw_nil (by kernel_rfl) ?_ | refine ev_exit rfl ?_ | refine ev_round ?_ | refine ev_condT rfl ?_ | refine ev_condF rfl ?_ | refine ev_condTb rfl (by first | exact decT (by omega) | exact beqT (by omega) | exact bneT (by omega) | exact notT (decF (by omega)) | exact notT (beqF (by omega))) ?_ | refine ev_condFb rfl (by first | exact decF (by omega) | exact beqF (by omega) | exact bneF (by omega) | exact notF (decT (by omega)) | exact notF (beqT (by omega))) ?_ | ((first | refine ev_region ?_ | (refine evr_skip rfl ?_; refine ev_all (fu := [(), (), (), (), (), (), (), ()]) ?_) | (refine evw_skip rfl ?_; refine evw_all (md := []) (fu := [(), (), (), (), (), (), (), ()]) ?_) | refine evr_goP ?_ | refine evr_goM ?_ | refine evw_goP ?_ | refine evw_goM ?_ | refine ev_draw (fu := [(), (), (), (), (), (), (), ()]) mixed [] 0 rfl (by kernel_rfl) ?_ | refine ev_draw (fu := [(), (), (), (), (), (), (), ()]) mixed [] 1 rfl (by kernel_rfl) ?_ | refine ev_draw (fu := [(), (), (), (), (), (), (), ()]) mixed [] 2 rfl (by kernel_rfl) ?_); refine zev ?_))
  repeat (first | refine ev_seq ?_ | refine ev_block ?_ | refine ev_skip ?_ | refine ev_inBlock ?_ | refine evr_nil ?_ | refine evw_nil (by kernel_rfl) ?_ | refine ev_exit rfl ?_ | refine ev_round ?_ | refine ev_condT rfl ?_ | refine ev_condF rfl ?_ | refine ev_condTb rfl (by first | exact decT (by omega) | exact beqT (by omega) | exact bneT (by omega) | exact notT (decF (by omega)) | exact notT (beqF (by omega))) ?_ | refine ev_condFb rfl (by first | exact decF (by omega) | exact beqF (by omega) | exact bneF (by omega) | exact notF (decT (by omega)) | exact notF (beqT (by omega))) ?_)
  refine ev_reg ?_
  refine evr_p rfl trivial ?_
  refine evr_nilq rfl rfl fun b hb0 => ?_
  cases b with
  | false =>
    simp only [aopP, X.ev, slotV, AS.put, if_true]
    refine zst ?_
    refine ret m_ocl_ok [] ?_; exact zfn
  | true =>
    have hl : l = [] := by
      cases l with
      | nil => rfl
      | cons a l => exact absurd (hb0 (by simp)) (by simp)
    subst hl
    simp only [aopP, X.ev, slotV, AS.put, if_true]
    repeat (first | refine ev_seq ?_ | refine ev_block ?_ | refine ev_skip ?_ | refine ev_inBlock ?_ | refine evr_nil ?_ | refine evw_nil (by kernel_rfl) ?_ | refine ev_exit rfl ?_ | refine ev_round ?_ | refine ev_condT rfl ?_ | refine ev_condF rfl ?_ | refine ev_condTb rfl (by first | exact decT (by omega) | exact beqT (by omega) | exact bneT (by omega) | exact notT (decF (by omega)) | exact notT (beqF (by omega))) ?_ | refine ev_condFb rfl (by first | exact decF (by omega) | exact beqF (by omega) | exact bneF (by omega) | exact notF (decT (by omega)) | exact notF (beqT (by omega))) ?_)
    (first | refine ev_seq ?_ | refine ev_block ?_ | refine ev_skip ?_ | refine ev_inBlock ?_ | refine evr_nil ?_ | refine evw_nil (by kernel_rfl) ?_ | refine ev_exit rfl ?_ | refine ev_round ?_ | refine ev_condT rfl ?_ | refine ev_condF rfl ?_ | refine ev_condTb rfl (by first | exact decT (by omega) | exact beqT (by omega) | exact bneT (by omega) | exact notT (decF (by omega)) | exact notT (beqF (by omega))) ?_ | refine ev_condFb rfl (by first | exact decF (by omega) | exact beqF (by omega) | exact bneF (by omega) | exact notF (decT (by omega)) | exact notF (beqT (by omega))) ?_ | ((first | refine ev_region ?_ | (refine evr_skip rfl ?_; refine ev_all (fu := [(), (), (), (), (), (), (), ()]) ?_) | (refine evw_skip rfl ?_; refine evw_all (md := []) (fu := [(), (), (), (), (), (), (), ()]) ?_) | refine evr_goP ?_ | refine evr_goM ?_ | refine evw_goP ?_ | refine evw_goM ?_ | refine ev_draw (fu := [(), (), (), (), (), (), (), ()]) mixed [] 0 rfl (by kernel_rfl) ?_ | refine ev_draw (fu := [(), (), (), (), (), (), (), ()]) mixed [] 1 rfl (by kernel_rfl) ?_ | refine ev_draw (fu := [(), (), (), (), (), (), (), ()]) mixed [] 2 rfl (by kernel_rfl) ?_); refine zev ?_))
    repeat (first | refine ev_seq ?_ | refine ev_block ?_ | refine ev_skip ?_ | refine ev_inBlock ?_ | refine evr_nil ?_ | refine evw_nil (by kernel_rfl) ?_ | refine ev_exit rfl ?_ | refine ev_round ?_ | refine ev_condT rfl ?_ | refine ev_condF rfl ?_ | refine ev_condTb rfl (by first | exact decT (by omega) | exact beqT (by omega) | exact bneT (by omega) | exact notT (decF (by omega)) | exact notT (beqF (by omega))) ?_ | refine ev_condFb rfl (by first | exact decF (by omega) | exact beqF (by omega) | exact bneF (by omega) | exact notF (decT (by omega)) | exact notF (beqT (by omega))) ?_)
    refine ev_nil2 2 true 3 rfl ?_
    refine ret m_ocl_ok [] ?_; exact zfn
set_option maxHeartbeats 4000000 in
theorem ocl_own (l : List Opn) (hb : l.length ≤ 1000000) : Fnc Try.prog 99 [.sl false 3 (l.map opnV)] (fun x obs => x = .own 0 0 ∧ obs = [⟨.row 102, true, 0, .arr 3 (l.map opnV)⟩]) := by
  refine Fnc.intro m_ocl_ok (by simp) fun W S => ?_
  unfold m_ocl
  simp only [ents, Nat.zero_add, Nat.reduceAdd]
  repeat (first | refine ev_seq ?_ | refine ev_block ?_ | refine ev_skip ?_ | refine ev_inBlock ?_ | refine evr_nil ?_ | refine evw_nil (by kernel_rfl) ?_ | refine ev_exit rfl ?_ | refine ev_round ?_ | refine ev_condT rfl ?_ | refine ev_condF rfl ?_ | refine ev_condTb rfl (by first | exact decT (by omega) | exact beqT (by omega) | exact bneT (by omega) | exact notT (decF (by omega)) | exact notT (beqF (by omega))) ?_ | refine ev_condFb rfl (by first | exact decF (by omega) | exact beqF (by omega) | exact bneF (by omega) | exact notF (decT (by omega)) | exact notF (beqT (by omega))) ?_)
  (first | refine ev_seq ?_ | refine ev_block ?_ | refine ev_skip ?_ | refine ev_inBlock ?_ | refine evr_nil ?_ | refine evw_nil (by kernel_rfl) ?_ | refine ev_exit rfl ?_ | refine ev_round ?_ | refine ev_condT rfl ?_ | refine ev_condF rfl ?_ | refine ev_condTb rfl (by first | exact decT (by omega) | exact beqT (by omega) | exact bneT (by omega) | exact notT (decF (by omega)) | exact notT (beqF (by omega))) ?_ | refine ev_condFb rfl (by first | exact decF (by omega) | exact beqF (by omega) | exact bneF (by omega) | exact notF (decT (by omega)) | exact notF (beqT (by omega))) ?_ | ((first | refine ev_region ?_ | (refine evr_skip rfl ?_; refine ev_all (fu := [(), (), (), (), (), (), (), ()]) ?_) | (refine evw_skip rfl ?_; refine evw_all (md := []) (fu := [(), (), (), (), (), (), (), ()]) ?_) | refine evr_goP ?_ | refine evr_goM ?_ | refine evw_goP ?_ | refine evw_goM ?_ | refine ev_draw (fu := [(), (), (), (), (), (), (), ()]) mixed [] 0 rfl (by kernel_rfl) ?_ | refine ev_draw (fu := [(), (), (), (), (), (), (), ()]) mixed [] 1 rfl (by kernel_rfl) ?_ | refine ev_draw (fu := [(), (), (), (), (), (), (), ()]) mixed [] 2 rfl (by kernel_rfl) ?_); refine zev ?_))
  repeat (first | refine ev_seq ?_ | refine ev_block ?_ | refine ev_skip ?_ | refine ev_inBlock ?_ | refine evr_nil ?_ | refine evw_nil (by kernel_rfl) ?_ | refine ev_exit rfl ?_ | refine ev_round ?_ | refine ev_condT rfl ?_ | refine ev_condF rfl ?_ | refine ev_condTb rfl (by first | exact decT (by omega) | exact beqT (by omega) | exact bneT (by omega) | exact notT (decF (by omega)) | exact notT (beqF (by omega))) ?_ | refine ev_condFb rfl (by first | exact decF (by omega) | exact beqF (by omega) | exact bneF (by omega) | exact notF (decT (by omega)) | exact notF (beqT (by omega))) ?_)
  refine ev_reg ?_
  refine evr_p rfl trivial ?_
  refine evr_nilq rfl rfl fun b hb0 => ?_
  cases b with
  | false =>
    simp only [aopP, X.ev, slotV, AS.put, if_true]
    refine zst ?_
    refine ret m_ocl_ok [0] ?_; exact zfn
  | true =>
    have hl : l = [] := by
      cases l with
      | nil => rfl
      | cons a l => exact absurd (hb0 (by simp)) (by simp)
    subst hl
    simp only [aopP, X.ev, slotV, AS.put, if_true]
    repeat (first | refine ev_seq ?_ | refine ev_block ?_ | refine ev_skip ?_ | refine ev_inBlock ?_ | refine evr_nil ?_ | refine evw_nil (by kernel_rfl) ?_ | refine ev_exit rfl ?_ | refine ev_round ?_ | refine ev_condT rfl ?_ | refine ev_condF rfl ?_ | refine ev_condTb rfl (by first | exact decT (by omega) | exact beqT (by omega) | exact bneT (by omega) | exact notT (decF (by omega)) | exact notT (beqF (by omega))) ?_ | refine ev_condFb rfl (by first | exact decF (by omega) | exact beqF (by omega) | exact bneF (by omega) | exact notF (decT (by omega)) | exact notF (beqT (by omega))) ?_)
    (first | refine ev_seq ?_ | refine ev_block ?_ | refine ev_skip ?_ | refine ev_inBlock ?_ | refine evr_nil ?_ | refine evw_nil (by kernel_rfl) ?_ | refine ev_exit rfl ?_ | refine ev_round ?_ | refine ev_condT rfl ?_ | refine ev_condF rfl ?_ | refine ev_condTb rfl (by first | exact decT (by omega) | exact beqT (by omega) | exact bneT (by omega) | exact notT (decF (by omega)) | exact notT (beqF (by omega))) ?_ | refine ev_condFb rfl (by first | exact decF (by omega) | exact beqF (by omega) | exact bneF (by omega) | exact notF (decT (by omega)) | exact notF (beqT (by omega))) ?_ | ((first | refine ev_region ?_ | (refine evr_skip rfl ?_; refine ev_all (fu := [(), (), (), (), (), (), (), ()]) ?_) | (refine evw_skip rfl ?_; refine evw_all (md := []) (fu := [(), (), (), (), (), (), (), ()]) ?_) | refine evr_goP ?_ | refine evr_goM ?_ | refine evw_goP ?_ | refine evw_goM ?_ | refine ev_draw (fu := [(), (), (), (), (), (), (), ()]) mixed [] 0 rfl (by kernel_rfl) ?_ | refine ev_draw (fu := [(), (), (), (), (), (), (), ()]) mixed [] 1 rfl (by kernel_rfl) ?_ | refine ev_draw (fu := [(), (), (), (), (), (), (), ()]) mixed [] 2 rfl (by kernel_rfl) ?_); refine zev ?_))
    repeat (first | refine ev_seq ?_ | refine ev_block ?_ | refine ev_skip ?_ | refine ev_inBlock ?_ | refine evr_nil ?_ | refine evw_nil (by kernel_rfl) ?_ | refine ev_exit rfl ?_ | refine ev_round ?_ | refine ev_condT rfl ?_ | refine ev_condF rfl ?_ | refine ev_condTb rfl (by first | exact decT (by omega) | exact beqT (by omega) | exact bneT (by omega) | exact notT (decF (by omega)) | exact notT (beqF (by omega))) ?_ | refine ev_condFb rfl (by first | exact decF (by omega) | exact beqF (by omega) | exact bneF (by omega) | exact notF (decT (by omega)) | exact notF (beqT (by omega))) ?_)
    refine ev_adopt (i := 2) (e := 102) (s := 3) rfl (by decide) ?_
    refine ret m_ocl_ok [0] ?_; exact zfn
set_option maxHeartbeats 4000000 in
theorem ccl_fn (l : List Canon) (hb : l.length ≤ 1000000) : Fnc Try.prog 87 [.sl false 4 (l.map canonV)] (fun x obs => x = .sl true 4 (l.map canonV) ∧ obs = []) := by
  refine Fnc.intro m_ccl_ok (by simp) fun W S => ?_
  unfold m_ccl
  simp only [ents, Nat.zero_add, Nat.reduceAdd]
  repeat (first | refine ev_seq ?_ | refine ev_block ?_ | refine ev_skip ?_ | refine ev_inBlock ?_ | refine evr_nil ?_ | refine evw_nil (by kernel_rfl) ?_ | refine ev_exit rfl ?_ | refine ev_round ?_ | refine ev_condT rfl ?_ | refine ev_condF rfl ?_ | refine ev_condTb rfl (by first | exact decT (by omega) | exact beqT (by omega) | exact bneT (by omega) | exact notT (decF (by omega)) | exact notT (beqF (by omega))) ?_ | refine ev_condFb rfl (by first | exact decF (by omega) | exact beqF (by omega) | exact bneF (by omega) | exact notF (decT (by omega)) | exact notF (beqT (by omega))) ?_)
  (first | refine ev_seq ?_ | refine ev_block ?_ | refine ev_skip ?_ | refine ev_inBlock ?_ | refine evr_nil ?_ | refine evw_nil (by kernel_rfl) ?_ | refine ev_exit rfl ?_ | refine ev_round ?_ | refine ev_condT rfl ?_ | refine ev_condF rfl ?_ | refine ev_condTb rfl (by first | exact decT (by omega) | exact beqT (by omega) | exact bneT (by omega) | exact notT (decF (by omega)) | exact notT (beqF (by omega))) ?_ | refine ev_condFb rfl (by first | exact decF (by omega) | exact beqF (by omega) | exact bneF (by omega) | exact notF (decT (by omega)) | exact notF (beqT (by omega))) ?_ | ((first | refine ev_region ?_ | (refine evr_skip rfl ?_; refine ev_all (fu := [(), (), (), (), (), (), (), ()]) ?_) | (refine evw_skip rfl ?_; refine evw_all (md := []) (fu := [(), (), (), (), (), (), (), ()]) ?_) | refine evr_goP ?_ | refine evr_goM ?_ | refine evw_goP ?_ | refine evw_goM ?_ | refine ev_draw (fu := [(), (), (), (), (), (), (), ()]) mixed [] 0 rfl (by kernel_rfl) ?_ | refine ev_draw (fu := [(), (), (), (), (), (), (), ()]) mixed [] 1 rfl (by kernel_rfl) ?_ | refine ev_draw (fu := [(), (), (), (), (), (), (), ()]) mixed [] 2 rfl (by kernel_rfl) ?_); refine zev ?_))
  repeat (first | refine ev_seq ?_ | refine ev_block ?_ | refine ev_skip ?_ | refine ev_inBlock ?_ | refine evr_nil ?_ | refine evw_nil (by kernel_rfl) ?_ | refine ev_exit rfl ?_ | refine ev_round ?_ | refine ev_condT rfl ?_ | refine ev_condF rfl ?_ | refine ev_condTb rfl (by first | exact decT (by omega) | exact beqT (by omega) | exact bneT (by omega) | exact notT (decF (by omega)) | exact notT (beqF (by omega))) ?_ | refine ev_condFb rfl (by first | exact decF (by omega) | exact beqF (by omega) | exact bneF (by omega) | exact notF (decT (by omega)) | exact notF (beqT (by omega))) ?_)
  refine ev_reg ?_
  refine evr_p rfl trivial ?_
  refine evr_nilq rfl rfl fun b hb0 => ?_
  cases b with
  | false =>
    simp only [aopP, X.ev, slotV, AS.put, if_true]
    refine zst ?_
    refine ret m_ccl_ok [] ?_; exact zfn
  | true =>
    have hl : l = [] := by
      cases l with
      | nil => rfl
      | cons a l => exact absurd (hb0 (by simp)) (by simp)
    subst hl
    simp only [aopP, X.ev, slotV, AS.put, if_true]
    repeat (first | refine ev_seq ?_ | refine ev_block ?_ | refine ev_skip ?_ | refine ev_inBlock ?_ | refine evr_nil ?_ | refine evw_nil (by kernel_rfl) ?_ | refine ev_exit rfl ?_ | refine ev_round ?_ | refine ev_condT rfl ?_ | refine ev_condF rfl ?_ | refine ev_condTb rfl (by first | exact decT (by omega) | exact beqT (by omega) | exact bneT (by omega) | exact notT (decF (by omega)) | exact notT (beqF (by omega))) ?_ | refine ev_condFb rfl (by first | exact decF (by omega) | exact beqF (by omega) | exact bneF (by omega) | exact notF (decT (by omega)) | exact notF (beqT (by omega))) ?_)
    (first | refine ev_seq ?_ | refine ev_block ?_ | refine ev_skip ?_ | refine ev_inBlock ?_ | refine evr_nil ?_ | refine evw_nil (by kernel_rfl) ?_ | refine ev_exit rfl ?_ | refine ev_round ?_ | refine ev_condT rfl ?_ | refine ev_condF rfl ?_ | refine ev_condTb rfl (by first | exact decT (by omega) | exact beqT (by omega) | exact bneT (by omega) | exact notT (decF (by omega)) | exact notT (beqF (by omega))) ?_ | refine ev_condFb rfl (by first | exact decF (by omega) | exact beqF (by omega) | exact bneF (by omega) | exact notF (decT (by omega)) | exact notF (beqT (by omega))) ?_ | ((first | refine ev_region ?_ | (refine evr_skip rfl ?_; refine ev_all (fu := [(), (), (), (), (), (), (), ()]) ?_) | (refine evw_skip rfl ?_; refine evw_all (md := []) (fu := [(), (), (), (), (), (), (), ()]) ?_) | refine evr_goP ?_ | refine evr_goM ?_ | refine evw_goP ?_ | refine evw_goM ?_ | refine ev_draw (fu := [(), (), (), (), (), (), (), ()]) mixed [] 0 rfl (by kernel_rfl) ?_ | refine ev_draw (fu := [(), (), (), (), (), (), (), ()]) mixed [] 1 rfl (by kernel_rfl) ?_ | refine ev_draw (fu := [(), (), (), (), (), (), (), ()]) mixed [] 2 rfl (by kernel_rfl) ?_); refine zev ?_))
    repeat (first | refine ev_seq ?_ | refine ev_block ?_ | refine ev_skip ?_ | refine ev_inBlock ?_ | refine evr_nil ?_ | refine evw_nil (by kernel_rfl) ?_ | refine ev_exit rfl ?_ | refine ev_round ?_ | refine ev_condT rfl ?_ | refine ev_condF rfl ?_ | refine ev_condTb rfl (by first | exact decT (by omega) | exact beqT (by omega) | exact bneT (by omega) | exact notT (decF (by omega)) | exact notT (beqF (by omega))) ?_ | refine ev_condFb rfl (by first | exact decF (by omega) | exact beqF (by omega) | exact bneF (by omega) | exact notF (decT (by omega)) | exact notF (beqT (by omega))) ?_)
    refine ev_nil2 2 true 4 rfl ?_
    refine ret m_ccl_ok [] ?_; exact zfn
set_option maxHeartbeats 4000000 in
theorem ccl_own (l : List Canon) (hb : l.length ≤ 1000000) : Fnc Try.prog 87 [.sl false 4 (l.map canonV)] (fun x obs => x = .own 0 0 ∧ obs = [⟨.row 47, true, 0, .arr 4 (l.map canonV)⟩]) := by
  refine Fnc.intro m_ccl_ok (by simp) fun W S => ?_
  unfold m_ccl
  simp only [ents, Nat.zero_add, Nat.reduceAdd]
  repeat (first | refine ev_seq ?_ | refine ev_block ?_ | refine ev_skip ?_ | refine ev_inBlock ?_ | refine evr_nil ?_ | refine evw_nil (by kernel_rfl) ?_ | refine ev_exit rfl ?_ | refine ev_round ?_ | refine ev_condT rfl ?_ | refine ev_condF rfl ?_ | refine ev_condTb rfl (by first | exact decT (by omega) | exact beqT (by omega) | exact bneT (by omega) | exact notT (decF (by omega)) | exact notT (beqF (by omega))) ?_ | refine ev_condFb rfl (by first | exact decF (by omega) | exact beqF (by omega) | exact bneF (by omega) | exact notF (decT (by omega)) | exact notF (beqT (by omega))) ?_)
  (first | refine ev_seq ?_ | refine ev_block ?_ | refine ev_skip ?_ | refine ev_inBlock ?_ | refine evr_nil ?_ | refine evw_nil (by kernel_rfl) ?_ | refine ev_exit rfl ?_ | refine ev_round ?_ | refine ev_condT rfl ?_ | refine ev_condF rfl ?_ | refine ev_condTb rfl (by first | exact decT (by omega) | exact beqT (by omega) | exact bneT (by omega) | exact notT (decF (by omega)) | exact notT (beqF (by omega))) ?_ | refine ev_condFb rfl (by first | exact decF (by omega) | exact beqF (by omega) | exact bneF (by omega) | exact notF (decT (by omega)) | exact notF (beqT (by omega))) ?_ | ((first | refine ev_region ?_ | (refine evr_skip rfl ?_; refine ev_all (fu := [(), (), (), (), (), (), (), ()]) ?_) | (refine evw_skip rfl ?_; refine evw_all (md := []) (fu := [(), (), (), (), (), (), (), ()]) ?_) | refine evr_goP ?_ | refine evr_goM ?_ | refine evw_goP ?_ | refine evw_goM ?_ | refine ev_draw (fu := [(), (), (), (), (), (), (), ()]) mixed [] 0 rfl (by kernel_rfl) ?_ | refine ev_draw (fu := [(), (), (), (), (), (), (), ()]) mixed [] 1 rfl (by kernel_rfl) ?_ | refine ev_draw (fu := [(), (), (), (), (), (), (), ()]) mixed [] 2 rfl (by kernel_rfl) ?_); refine zev ?_))
  repeat (first | refine ev_seq ?_ | refine ev_block ?_ | refine ev_skip ?_ | refine ev_inBlock ?_ | refine evr_nil ?_ | refine evw_nil (by kernel_rfl) ?_ | refine ev_exit rfl ?_ | refine ev_round ?_ | refine ev_condT rfl ?_ | refine ev_condF rfl ?_ | refine ev_condTb rfl (by first | exact decT (by omega) | exact beqT (by omega) | exact bneT (by omega) | exact notT (decF (by omega)) | exact notT (beqF (by omega))) ?_ | refine ev_condFb rfl (by first | exact decF (by omega) | exact beqF (by omega) | exact bneF (by omega) | exact notF (decT (by omega)) | exact notF (beqT (by omega))) ?_)
  refine ev_reg ?_
  refine evr_p rfl trivial ?_
  refine evr_nilq rfl rfl fun b hb0 => ?_
  cases b with
  | false =>
    simp only [aopP, X.ev, slotV, AS.put, if_true]
    refine zst ?_
    refine ret m_ccl_ok [0] ?_; exact zfn
  | true =>
    have hl : l = [] := by
      cases l with
      | nil => rfl
      | cons a l => exact absurd (hb0 (by simp)) (by simp)
    subst hl
    simp only [aopP, X.ev, slotV, AS.put, if_true]
    repeat (first | refine ev_seq ?_ | refine ev_block ?_ | refine ev_skip ?_ | refine ev_inBlock ?_ | refine evr_nil ?_ | refine evw_nil (by kernel_rfl) ?_ | refine ev_exit rfl ?_ | refine ev_round ?_ | refine ev_condT rfl ?_ | refine ev_condF rfl ?_ | refine ev_condTb rfl (by first | exact decT (by omega) | exact beqT (by omega) | exact bneT (by omega) | exact notT (decF (by omega)) | exact notT (beqF (by omega))) ?_ | refine ev_condFb rfl (by first | exact decF (by omega) | exact beqF (by omega) | exact bneF (by omega) | exact notF (decT (by omega)) | exact notF (beqT (by omega))) ?_)
    (first | refine ev_seq ?_ | refine ev_block ?_ | refine ev_skip ?_ | refine ev_inBlock ?_ | refine evr_nil ?_ | refine evw_nil (by kernel_rfl) ?_ | refine ev_exit rfl ?_ | refine ev_round ?_ | refine ev_condT rfl ?_ | refine ev_condF rfl ?_ | refine ev_condTb rfl (by first | exact decT (by omega) | exact beqT (by omega) | exact bneT (by omega) | exact notT (decF (by omega)) | exact notT (beqF (by omega))) ?_ | refine ev_condFb rfl (by first | exact decF (by omega) | exact beqF (by omega) | exact bneF (by omega) | exact notF (decT (by omega)) | exact notF (beqT (by omega))) ?_ | ((first | refine ev_region ?_ | (refine evr_skip rfl ?_; refine ev_all (fu := [(), (), (), (), (), (), (), ()]) ?_) | (refine evw_skip rfl ?_; refine evw_all (md := []) (fu := [(), (), (), (), (), (), (), ()]) ?_) | refine evr_goP ?_ | refine evr_goM ?_ | refine evw_goP ?_ | refine evw_goM ?_ | refine ev_draw (fu := [(), (), (), (), (), (), (), ()]) mixed [] 0 rfl (by kernel_rfl) ?_ | refine ev_draw (fu := [(), (), (), (), (), (), (), ()]) mixed [] 1 rfl (by kernel_rfl) ?_ | refine ev_draw (fu := [(), (), (), (), (), (), (), ()]) mixed [] 2 rfl (by kernel_rfl) ?_); refine zev ?_))
    repeat (first | refine ev_seq ?_ | refine ev_block ?_ | refine ev_skip ?_ | refine ev_inBlock ?_ | refine evr_nil ?_ | refine evw_nil (by kernel_rfl) ?_ | refine ev_exit rfl ?_ | refine ev_round ?_ | refine ev_condT rfl ?_ | refine ev_condF rfl ?_ | refine ev_condTb rfl (by first | exact decT (by omega) | exact beqT (by omega) | exact bneT (by omega) | exact notT (decF (by omega)) | exact notT (beqF (by omega))) ?_ | refine ev_condFb rfl (by first | exact decF (by omega) | exact beqF (by omega) | exact bneF (by omega) | exact notF (decT (by omega)) | exact notF (beqT (by omega))) ?_)
    refine ev_adopt (i := 2) (e := 47) (s := 4) rfl (by decide) ?_
    refine ret m_ccl_ok [0] ?_; exact zfn
/-- Small files. -/
structure LowF (f : Files) : Prop where
  d : f.data.length ≤ 1000
  o : f.opens.length ≤ 1000
  len : ∀ x ∈ f.data, x.length ≤ 100000
theorem FitF.low {f : Files} (F : FitF f) : LowF f := ⟨by have := F.d; omega, by have := F.o; omega, fun x hx => by have := F.len x hx; omega⟩
set_option maxHeartbeats 8000000 in
theorem wcopy_fn (f : Files) (F : LowF f) : Fnc Try.prog 65 [filV f] (fun x obs => x = .agg [.own 0 0, .own 1 0] ∧ obs = [⟨.row 41, true, 0, .arr 1 (f.data.map (slV' true 4 canonV))⟩, ⟨.row 102, true, 0, .arr 3 (f.opens.map opnV)⟩]) := by
  have h1 := F.d
  have h2 := F.o
  refine Fnc.intro m_wcopy_ok (by simp) fun W S => ?_
  unfold m_wcopy
  simp only [ents, Nat.zero_add, Nat.reduceAdd]
  refine zst ?_
  (first | refine callX (ocl_own f.opens (by omega)) ?_ | refine callXw (ocl_own f.opens (by omega)) ?_); simp only [go_sem]
  refine zst ?_
  refine ev_adoptB 3 0 41 1 rfl rfl (by decide) rfl ?_
  refine ev_loopK [2, 3, 11, 12] (fun p : {p : Nat // p ≤ f.data.length} => [(13, .int .i64 p.1)]) (fun p => [⟨.box false 28, true, 0, filV f⟩, ⟨.box false 28, true, 0, .agg [.nilS, .nilS]⟩, ⟨.row 102, true, 0, .arr 3 (f.opens.map opnV)⟩, ⟨.box false 28, true, 0, .agg [.own 4 p.1, .own 2 0]⟩, ⟨.row 41, true, p.1, .arr 1 ((f.data.take p.1).map (slV' true 4 canonV))⟩]) (fun p => f.data.length - p.1) (⟨0, by simp⟩) 5 (by simp only [go_sem]; rfl) ?_ (by first | rfl | (simp only [go_sem]; done)) (by simp) (by first | rfl | (simp only [go_sem]; done)) (by first | rfl | (simp only [go_sem]; done)) (by first | rfl | (simp only [go_sem]; done)) ?_
  · (simp only [go_sem]; (try simp []); done)
  intro J hJ
  rintro ⟨k, hk0⟩
  by_cases hlt : k < f.data.length
  · have hs := take_snoc hlt
    have hb := F.len _ (mem_at hlt)
    have hl2 : (f.data.take k).length = k := by rw [List.length_take]; omega
    refine zst ?_
    (first | refine callD (ccl_fn f.data[k]! (by omega)) ?_ | refine callDw (ccl_fn f.data[k]! (by omega)) ?_); simp only [go_sem]
    refine zst ?_
    refine ev_next 5 (hJ _ (⟨k + 1, hlt⟩) (by first | omega | (dsimp only; omega) | (simp; omega))) rfl (by simp) ?_ (by first | rfl | (simp only [go_sem]; done)) (by first | rfl | (simp only [go_sem]; done) | (simp only [hs]; (try simp only [go_sem]); first | done | rfl)) ?_
    · exact zna hs
    · exact znb hs
  · obtain rfl : k = f.data.length := by omega
    refine zst ?_
    refine retN m_wcopy_ok [4, 2] ?_; (first | (simp only [go_sem]; done) | (simp only [go_sem]; ((try dsimp only); (repeat' (refine And.intro ?_ ?_)) <;> first | with_reducible rfl | (simp only [go_sem]; done) | (simp only [go_sem]; rfl) | (simp only [go_sem, List.take_length]; done) | (simp only [List.take_length]; (try simp only [go_sem]); first | done | rfl) | (simp only [go_sem]; simp [List.take_length]; done) | (simp [List.take_length]; done) | rfl)))
set_option maxHeartbeats 8000000 in
theorem rcopy_fn (f : Files) (F : LowF f) : Fnc Try.prog 100 [filV f] (fun x obs => x = .agg [.own 0 0, .own 1 0] ∧ obs = [⟨.row 41, true, 0, .arr 1 (f.data.map (slV' true 4 canonV))⟩, ⟨.row 102, true, 0, .arr 3 (f.opens.map opnV)⟩]) := by
  have h1 := F.d
  have h2 := F.o
  refine Fnc.intro m_rcopy_ok (by simp) fun W S => ?_
  unfold m_rcopy
  simp only [ents, Nat.zero_add, Nat.reduceAdd]
  refine zst ?_
  refine ev_adoptB 3 0 41 1 rfl rfl (by decide) rfl ?_
  refine ev_loopK [2, 3, 11, 12] (fun p : {p : Nat // p ≤ f.data.length} => [(13, .int .i64 p.1)]) (fun p => [⟨.box false 28, true, 0, filV f⟩, ⟨.box false 28, true, 0, .agg [.nilS, .nilS]⟩, ⟨.row 102, true, 0, .arr 3 (f.opens.map opnV)⟩, ⟨.box false 28, true, 0, .agg [.own 4 p.1, .own 2 0]⟩, ⟨.row 41, true, p.1, .arr 1 ((f.data.take p.1).map (slV' true 4 canonV))⟩]) (fun p => f.data.length - p.1) (⟨0, by simp⟩) 5 (by simp only [go_sem]; rfl) ?_ (by first | rfl | (simp only [go_sem]; done)) (by simp) (by first | rfl | (simp only [go_sem]; done)) (by first | rfl | (simp only [go_sem]; done)) (by first | rfl | (simp only [go_sem]; done)) ?_
  · (simp only [go_sem]; (try simp []); done)
  intro J hJ
  rintro ⟨k, hk0⟩
  by_cases hlt : k < f.data.length
  · have hs := take_snoc hlt
    have hb := F.len _ (mem_at hlt)
    have hl2 : (f.data.take k).length = k := by rw [List.length_take]; omega
    refine zst ?_
    refine ev_next 5 (hJ _ (⟨k + 1, hlt⟩) (by first | omega | (dsimp only; omega) | (simp; omega))) rfl (by simp) ?_ (by first | rfl | (simp only [go_sem]; done)) (by first | rfl | (simp only [go_sem]; done) | (simp only [hs]; (try simp only [go_sem]); first | done | rfl)) ?_
    · exact zna hs
    · exact znb hs
  · obtain rfl : k = f.data.length := by omega
    refine zst ?_
    refine retN m_rcopy_ok [4, 2] ?_; (first | (simp only [go_sem]; done) | (simp only [go_sem]; ((try dsimp only); (repeat' (refine And.intro ?_ ?_)) <;> first | with_reducible rfl | (simp only [go_sem]; done) | (simp only [go_sem]; rfl) | (simp only [go_sem, List.take_length]; done) | (simp only [List.take_length]; (try simp only [go_sem]); first | done | rfl) | (simp only [go_sem]; simp [List.take_length]; done) | (simp [List.take_length]; done) | rfl)))
attribute [local go_sem] List.length_set
/-- The same, and one file may be written. -/
def oJ (f : Files) (j : Nat) (a : List Ob) (p : Nat) : List Ob := if j < p then a ++ [⟨.rows 41, true, p, .arr 1 (((f.data.take p).map (slV' true 4 canonV)).set j (.own 5 1))⟩, ⟨.row 47, true, 1, .arr 4 (f.data[j]!.map canonV)⟩] else a ++ [⟨.rows 41, true, p, .arr 1 ((f.data.take p).map (slV' true 4 canonV))⟩]
theorem oJ_ge {f : Files} {j p : Nat} {a : List Ob} (h : ¬ j < p) : oJ f j a p = a ++ [⟨.rows 41, true, p, .arr 1 ((f.data.take p).map (slV' true 4 canonV))⟩] := if_neg h
theorem oJ_lt {f : Files} {j p : Nat} {a : List Ob} (h : j < p) : oJ f j a p = a ++ [⟨.rows 41, true, p, .arr 1 (((f.data.take p).map (slV' true 4 canonV)).set j (.own 5 1))⟩, ⟨.row 47, true, 1, .arr 4 (f.data[j]!.map canonV)⟩] := if_pos h
theorem setJ_lt {α : Type} [Inhabited α] {l : List α} {g : α → V} {j k : Nat} {x : V} (h : k < l.length) (hj : j < k) : ((l.take k).map g).set j x ++ [g l[k]!] = ((l.take (k + 1)).map g).set j x := by
  rw [take_snoc h, List.map_append, List.set_append_left _ _ (by simp; omega)]; rfl
theorem setJ_eq {α : Type} [Inhabited α] {l : List α} {g : α → V} {k : Nat} {x : V} (h : k < l.length) : (l.take k).map g ++ [x] = ((l.take (k + 1)).map g).set k x := by
  rw [take_snoc h, List.map_append, List.set_append_right _ _ (by simp; omega)]
  simp [Nat.min_eq_left (Nat.le_of_lt h)]
set_option maxHeartbeats 8000000 in
theorem rcopyJ_fn (f : Files) (F : LowF f) (j : Nat) (hj : j < f.data.length) : Fnc Try.prog 100 [filV f] (fun x obs => x = .agg [.own 0 0, .own 1 0] ∧ obs = [⟨.rows 41, true, 0, .arr 1 ((f.data.map (slV' true 4 canonV)).set j (.own 2 0))⟩, ⟨.row 102, true, 0, .arr 3 (f.opens.map opnV)⟩, ⟨.row 47, true, 0, .arr 4 (f.data[j]!.map canonV)⟩]) := by
  have h1 := F.d
  have h2 := F.o
  refine Fnc.intro m_rcopy_ok (by simp) fun W S => ?_
  unfold m_rcopy
  simp only [ents, Nat.zero_add, Nat.reduceAdd]
  refine zst ?_
  refine ev_adoptB 3 0 41 1 rfl rfl (by decide) rfl ?_
  refine ev_toRows 4 rfl ?_
  refine ev_loopK [2, 3, 11, 12] (fun p : {p : Nat // p ≤ f.data.length} => [(13, .int .i64 p.1)]) (fun p => oJ f j [⟨.box false 28, true, 0, filV f⟩, ⟨.box false 28, true, 0, .agg [.nilS, .nilS]⟩, ⟨.row 102, true, 0, .arr 3 (f.opens.map opnV)⟩, ⟨.box false 28, true, 0, .agg [.own 4 p.1, .own 2 0]⟩] p.1) (fun p => f.data.length - p.1) (⟨0, by simp⟩) 5 (by simp only [go_sem]; rfl) ?_ (by first | rfl | (simp only [go_sem]; done) | (simp only [go_sem]; simp [oJ_ge (Nat.not_lt_zero j)]; done)) (by simp) (by first | rfl | (simp only [go_sem]; done)) (by first | rfl | (simp only [go_sem]; done)) (by first | rfl | (simp only [go_sem]; done) | (simp only [oJ_ge (Nat.not_lt_zero j)]; (try simp only [go_sem]); first | done | rfl)) ?_
  · (simp only [go_sem]; (try simp [oJ_ge (Nat.not_lt_zero j)]); done)
  intro J hJ
  rintro ⟨k, hk0⟩
  dsimp only
  by_cases hlt : k < f.data.length
  · have hs := take_snoc hlt
    have hb := F.len _ (mem_at hlt)
    have hl2 : (f.data.take k).length = k := by rw [List.length_take]; omega
    rcases Nat.lt_trichotomy k j with c | c | c
    · have z1 := oJ_ge (f := f) (j := j) (p := k + 1) (a := []) (by omega)
      rw [oJ_ge (by omega)]
      refine zst ?_
      refine ev_next 5 (hJ _ (⟨k + 1, hlt⟩) (by first | omega | (dsimp only; omega) | (simp; omega))) rfl (by simp) ?_ (by first | rfl | (simp only [go_sem]; done)) (by first | rfl | (simp only [go_sem]; done) | (simp only [oJ_ge (show ¬ j < k + 1 by omega), hs]; (try simp only [go_sem]); first | done | rfl)) ?_
      · (first | rfl | (simp only [go_sem]; done) | (simp only [go_sem]; simp only [oJ_ge (show ¬ j < k + 1 by omega), hs]; done) | (simp only [oJ_ge (show ¬ j < k + 1 by omega), hs]; done) | (simp only [go_sem]; simp [oJ_ge (show ¬ j < k + 1 by omega), hs]; done) | (simp [oJ_ge (show ¬ j < k + 1 by omega), hs]; done))
      · (simp only [go_sem]; (repeat' (refine And.intro ?_ ?_)) <;> first | exact trivial | with_reducible rfl | (simp only [oJ_ge (show ¬ j < k + 1 by omega), hs]; done) | (simp only [oJ_ge (show ¬ j < k + 1 by omega), hs]; with_reducible rfl) | (simp [oJ_ge (show ¬ j < k + 1 by omega), hs]; done) | (simp [oJ_ge (show ¬ j < k + 1 by omega), hs]; omega) | (simp only [oJ_ge (show ¬ j < k + 1 by omega), hs]; rfl) | skip)
    · subst c
      rw [oJ_ge (by omega)]
      have hs2 : (f.data.take k).map (slV' true 4 canonV) ++ [V.own 5 1] = ((f.data.take (k + 1)).map (slV' true 4 canonV)).set k (.own 5 1) := setJ_eq hlt
      refine zso ?_
      refine ev_draw (fu := fu8) mixed [3, 4] 2 rfl (by kernel_rfl) ?_; simp only [go_sem]
      repeat (first | refine And.intro (by omega) ?_ | refine And.intro rfl ?_ | refine ev_ctl rfl rfl ?_ | refine evr_nil ?_ | refine evw_nil (by kernel_rfl) ?_ | (simp (disch := omega) only [takeAll, Nat.min_eq_left, Nat.min_eq_right, if_pos, if_neg, getD_map, wrapI64, modIn, fdivE, tmodE, tdivE, decT, decF, beqT, beqF, bneT, bneF, Int.toNat_natCast]; try simp only [go_sem]) | (refine ev_condTb rfl ?_ ?_; · (simp <;> omega)) | (refine ev_condFb rfl ?_ ?_; · (simp <;> omega)) | ((first | refine ev_region ?_ | refine evr_go rfl ?_ | refine evw_gom [3, 4] rfl ?_ | refine ev_dr0 mixed rfl (by kernel_rfl) ?_ | refine ev_dr1 mixed rfl (by kernel_rfl) ?_ | refine ev_dr2 mixed rfl (by kernel_rfl) ?_); simp only [go_sem]))
      refine ev_next 6 (hJ _ (⟨k + 1, hlt⟩) (by first | omega | (dsimp only; omega) | (simp; omega))) rfl (by simp) ?_ (by first | rfl | (simp only [go_sem]; done)) (by first | rfl | (simp only [go_sem]; done) | (simp only [oJ_lt (show k < k + 1 by omega), hs2, List.cons_append, List.nil_append]; (try simp only [go_sem]); first | done | rfl)) ?_
      · (first | rfl | (simp only [go_sem]; done) | (simp only [go_sem]; simp only [oJ_lt (show k < k + 1 by omega), hs2, List.cons_append, List.nil_append]; done) | (simp only [oJ_lt (show k < k + 1 by omega), hs2, List.cons_append, List.nil_append]; done) | (simp only [go_sem]; simp [oJ_lt (show k < k + 1 by omega), hs2, List.cons_append, List.nil_append]; done) | (simp [oJ_lt (show k < k + 1 by omega), hs2, List.cons_append, List.nil_append]; done))
      · (simp only [go_sem]; (repeat' (refine And.intro ?_ ?_)) <;> first | exact trivial | with_reducible rfl | (simp only [oJ_lt (show k < k + 1 by omega), hs2, List.cons_append, List.nil_append]; done) | (simp only [oJ_lt (show k < k + 1 by omega), hs2, List.cons_append, List.nil_append]; with_reducible rfl) | (simp [oJ_lt (show k < k + 1 by omega), hs2, List.cons_append, List.nil_append]; done) | (simp [oJ_lt (show k < k + 1 by omega), hs2, List.cons_append, List.nil_append]; omega) | (simp only [oJ_lt (show k < k + 1 by omega), hs2, List.cons_append, List.nil_append]; rfl) | skip)
    · rw [oJ_lt c]
      have hs2 : ((f.data.take k).map (slV' true 4 canonV)).set j (.own 5 1) ++ [V.sl true 4 (f.data[k]!.map canonV)] = ((f.data.take (k + 1)).map (slV' true 4 canonV)).set j (.own 5 1) := setJ_lt hlt c
      refine zst ?_
      refine ev_next 6 (hJ _ (⟨k + 1, hlt⟩) (by first | omega | (dsimp only; omega) | (simp; omega))) rfl (by simp) ?_ (by first | rfl | (simp only [go_sem]; done)) (by first | rfl | (simp only [go_sem]; done) | (simp only [oJ_lt (show j < k + 1 by omega), hs2, List.cons_append, List.nil_append]; (try simp only [go_sem]); first | done | rfl)) ?_
      · (first | rfl | (simp only [go_sem]; done) | (simp only [go_sem]; simp only [oJ_lt (show j < k + 1 by omega), hs2, List.cons_append, List.nil_append]; done) | (simp only [oJ_lt (show j < k + 1 by omega), hs2, List.cons_append, List.nil_append]; done) | (simp only [go_sem]; simp [oJ_lt (show j < k + 1 by omega), hs2, List.cons_append, List.nil_append]; done) | (simp [oJ_lt (show j < k + 1 by omega), hs2, List.cons_append, List.nil_append]; done))
      · (simp only [go_sem]; (repeat' (refine And.intro ?_ ?_)) <;> first | exact trivial | with_reducible rfl | (simp only [oJ_lt (show j < k + 1 by omega), hs2, List.cons_append, List.nil_append]; done) | (simp only [oJ_lt (show j < k + 1 by omega), hs2, List.cons_append, List.nil_append]; with_reducible rfl) | (simp [oJ_lt (show j < k + 1 by omega), hs2, List.cons_append, List.nil_append]; done) | (simp [oJ_lt (show j < k + 1 by omega), hs2, List.cons_append, List.nil_append]; omega) | (simp only [oJ_lt (show j < k + 1 by omega), hs2, List.cons_append, List.nil_append]; rfl) | skip)
  · obtain rfl : k = f.data.length := by omega
    rw [oJ_lt hj]
    refine zst ?_
    refine retN m_rcopy_ok [4, 2, 5] ?_; simp only [go_sem]
    exact V.oksW_set (V.oksW_pure _ _ _ (pures_lo _ _)) _ (by simp only [go_sem])
end Go.Proofs.Ytkfpcgkmemfdaaa
/- Files: handles, Close, Seek. -/
namespace Go.Proofs.Ytkfpcgkmemfdaaa
open Go Go.RowKit Rdn Rdn.Dp
set_option linter.unusedVariables false
set_option linter.unusedSimpArgs false
def m_o1 : MC := .seq (.reg [⟨(some 1), none, (.m (.box 102 (.t 0)))⟩, ⟨(some 2), none, (.p (.mov (.c (.bool false))))⟩])
 (.seq (.reg [⟨(some 3), none, (.p (.fieldA 0 0 (.t 1)))⟩, ⟨(some 4), none, (.p (.load false 1 (.t 3)))⟩, ⟨(some 5), none, (.p (.bin 0 .eql (.t 4) (.c (.int .i64 (-1)))))⟩, ⟨(some 2), none, (.p (.mov (.t 5)))⟩])
 (.ret))
theorem m_o1_ok : compF Try.prog 89 = some (6, m_o1, [.mov (.t 2)]) := by kernel_rfl
def m_idxo : MC := .seq (.reg [⟨(some 4), none, (.p (.mov (.c (.int .i64 0))))⟩])
 (.seq (.seq (.reg [⟨(some 6), none, (.p (.mov (.t 0)))⟩, ⟨(some 7), none, (.p (.len (.t 6)))⟩, ⟨(some 8), none, (.p (.mov (.c (.int .i64 0))))⟩])
 (.block 0 (.loop (.seq (.reg [⟨(some 9), none, (.p (.bin 0 .lss (.t 8) (.t 7)))⟩])
 (.seq (.cond (.t 9) (.skip) (.exit 0))
 (.seq (.block 1 (.seq (.reg [⟨(some 10), none, (.p (.mov (.t 8)))⟩, ⟨(some 5), none, (.p (.mov (.t 10)))⟩])
 (.seq (.reg [⟨(some 11), none, (.p (.mov (.t 1)))⟩, ⟨(some 12), none, (.p (.mov (.t 0)))⟩, ⟨(some 13), none, (.p (.mov (.t 5)))⟩, ⟨(some 14), none, (.p (.idxA 3 (.t 12) (.t 13)))⟩, ⟨(some 15), none, (.p (.load true 3 (.t 14)))⟩, ⟨(some 16), none, (.callv (.t 11) [(.t 15)])⟩])
 (.cond (.t 16) (.seq (.reg [⟨(some 17), none, (.p (.mov (.t 5)))⟩, ⟨(some 4), none, (.p (.mov (.t 17)))⟩])
 (.ret)) (.skip)))))
 (.reg [⟨(some 18), none, (.p (.bin 0 .add (.t 8) (.c (.int .i64 1))))⟩, ⟨(some 8), none, (.p (.mov (.t 18)))⟩])))))))
 (.seq (.reg [⟨(some 4), none, (.p (.mov (.c (.int .i64 (-1)))))⟩])
 (.ret)))
theorem m_idxo_ok : compF Try.prog 88 = some (19, m_idxo, [.mov (.t 4)]) := by kernel_rfl
def m_opened : MC := .seq (.reg [⟨(some 2), none, (.m (.box 28 (.t 0)))⟩, ⟨(some 4), none, (.p (.mov (.c (.bool false))))⟩])
 (.seq (.seq (.reg [⟨(some 6), none, (.p (.mov (.t 1)))⟩, ⟨(some 7), none, (.p (.bin 0 .lss (.t 6) (.c (.int .i64 0))))⟩, ⟨(some 8), none, (.p (.mov (.t 7)))⟩, ⟨(some 9), (some (8, false)), (.p (.mov (.t 1)))⟩, ⟨(some 10), (some (8, false)), (.p (.fieldA 1 1 (.t 2)))⟩, ⟨(some 11), (some (8, false)), (.p (.load false 1 (.t 10)))⟩, ⟨(some 12), (some (8, false)), (.p (.len (.t 11)))⟩, ⟨(some 13), (some (8, false)), (.p (.bin 0 .geq (.t 9) (.t 12)))⟩, ⟨(some 14), none, (.p (.pick (.t 8) (.c (.bool true)) (.t 13)))⟩])
 (.cond (.t 14) (.seq (.reg [⟨(some 4), none, (.p (.mov (.c (.bool false))))⟩])
 (.ret)) (.skip)))
 (.seq (.reg [⟨(some 15), none, (.p (.fieldA 1 1 (.t 2)))⟩, ⟨(some 16), none, (.p (.load false 1 (.t 15)))⟩, ⟨(some 17), none, (.p (.mov (.t 1)))⟩, ⟨(some 18), none, (.p (.idxA 3 (.t 16) (.t 17)))⟩, ⟨(some 19), none, (.p (.load true 3 (.t 18)))⟩, ⟨(some 5), none, (.m (.alloc 102 (.agg [.int .i64 0, .int .i64 0, .bool false])))⟩, ⟨none, none, (.m (.store 3 (.t 5) (.t 19)))⟩])
 (.seq (.dreg [⟨(some 20), none, (.p (.fieldA 0 0 (.t 5)))⟩, ⟨(some 21), none, (.p (.load false 1 (.t 20)))⟩, ⟨(some 22), none, (.p (.bin 0 .geq (.t 21) (.c (.int .i64 0))))⟩, ⟨(some 23), none, (.p (.mov (.t 22)))⟩, ⟨(some 24), (some (23, true)), (.p (.fieldA 0 0 (.t 5)))⟩, ⟨(some 25), (some (23, true)), (.p (.load false 1 (.t 24)))⟩, ⟨(some 26), (some (23, true)), (.p (.fieldA 0 0 (.t 2)))⟩, ⟨(some 27), (some (23, true)), (.p (.load false 1 (.t 26)))⟩, ⟨(some 28), (some (23, true)), (.p (.len (.t 27)))⟩, ⟨(some 29), (some (23, true)), (.p (.bin 0 .lss (.t 25) (.t 28)))⟩, ⟨(some 30), none, (.p (.pick (.t 23) (.t 29) (.c (.bool false))))⟩, ⟨(some 31), none, (.p (.mov (.t 30)))⟩, ⟨(some 32), (some (31, true)), (.p (.fieldA 1 1 (.t 5)))⟩, ⟨(some 33), (some (31, true)), (.p (.load false 1 (.t 32)))⟩, ⟨(some 34), (some (31, true)), (.p (.bin 0 .geq (.t 33) (.c (.int .i64 0))))⟩, ⟨(some 35), none, (.p (.pick (.t 31) (.t 34) (.c (.bool false))))⟩, ⟨(some 36), none, (.p (.mov (.t 35)))⟩, ⟨(some 37), (some (36, true)), (.p (.fieldA 1 1 (.t 5)))⟩, ⟨(some 38), (some (36, true)), (.p (.load false 1 (.t 37)))⟩, ⟨(some 39), (some (36, true)), (.p (.fieldA 0 0 (.t 2)))⟩, ⟨(some 40), (some (36, true)), (.p (.load false 1 (.t 39)))⟩, ⟨(some 41), (some (36, true)), (.p (.fieldA 0 0 (.t 5)))⟩, ⟨(some 42), (some (36, true)), (.p (.load false 1 (.t 41)))⟩, ⟨(some 43), (some (36, true)), (.p (.idxA 1 (.t 40) (.t 42)))⟩, ⟨(some 44), (some (36, true)), (.p (.load false 1 (.t 43)))⟩, ⟨(some 45), (some (36, true)), (.p (.len (.t 44)))⟩, ⟨(some 46), (some (36, true)), (.p (.bin 0 .leq (.t 38) (.t 45)))⟩, ⟨(some 47), none, (.p (.pick (.t 36) (.t 46) (.c (.bool false))))⟩, ⟨(some 4), none, (.p (.mov (.t 47)))⟩] [[], [0], [0, 1], [0, 1, 2], [0, 1, 2, 3], [0, 1, 2, 3, 4], [0, 1, 2, 3], [0, 1, 2, 3, 6], [0, 1, 2, 3, 6, 7], [0, 1, 2, 3, 4, 5, 6, 7, 8], [0, 1, 2, 3, 4, 5, 6, 7, 8, 9], [0, 1, 2, 3, 4, 5, 6, 7, 8, 9, 10], [0, 1, 2, 3, 4, 5, 6, 7, 8, 9, 10, 11], [0, 1, 2, 3, 4, 5, 6, 7, 8, 9, 10, 11, 12], [0, 1, 2, 3, 4, 5, 6, 7, 8, 9, 10, 11, 12, 13], [0, 1, 2, 3, 4, 5, 6, 7, 8, 9, 10, 11, 12, 13, 14], [0, 1, 2, 3, 4, 5, 6, 7, 8, 9, 10, 11, 12, 13, 14, 15], [0, 1, 2, 3, 4, 5, 6, 7, 8, 9, 10, 11, 12, 13, 14, 15, 16], [0, 1, 2, 3, 4, 5, 6, 7, 8, 9, 10, 11, 12, 13, 14, 15, 16, 17], [0, 1, 2, 3, 4, 5, 6, 7, 8, 9, 10, 11, 12, 13, 14, 15, 16], [0, 1, 2, 3, 4, 5, 6, 7, 8, 9, 10, 11, 12, 13, 14, 15, 16, 19], [0, 1, 2, 3, 4, 5, 6, 7, 8, 9, 10, 11, 12, 13, 14, 15, 16], [0, 1, 2, 3, 4, 5, 6, 7, 8, 9, 10, 11, 12, 13, 14, 15, 16, 21], [0, 1, 2, 3, 4, 5, 6, 7, 8, 9, 10, 11, 12, 13, 14, 15, 16, 19, 20, 21, 22], [0, 1, 2, 3, 4, 5, 6, 7, 8, 9, 10, 11, 12, 13, 14, 15, 16, 19, 20, 21, 22, 23], [0, 1, 2, 3, 4, 5, 6, 7, 8, 9, 10, 11, 12, 13, 14, 15, 16, 19, 20, 21, 22, 23, 24], [0, 1, 2, 3, 4, 5, 6, 7, 8, 9, 10, 11, 12, 13, 14, 15, 16, 17, 18, 19, 20, 21, 22, 23, 24, 25], [0, 1, 2, 3, 4, 5, 6, 7, 8, 9, 10, 11, 12, 13, 14, 15, 16, 17, 18, 19, 20, 21, 22, 23, 24, 25, 26], [0, 1, 2, 3, 4, 5, 6, 7, 8, 9, 10, 11, 12, 13, 14, 15, 16, 17, 18, 19, 20, 21, 22, 23, 24, 25, 26, 27]])
 (.ret))))
theorem m_opened_ok : compF Try.prog 85 = some (48, m_opened, [.mov (.t 4)]) := by kernel_rfl
def m_ropen : MC := .seq (.reg [⟨(some 2), none, (.m (.box 28 (.t 0)))⟩, ⟨(some 4), none, (.p (.mov (.c (.bool false))))⟩])
 (.seq (.reg [⟨(some 5), none, (.p (.mov (.t 1)))⟩, ⟨(some 6), none, (.p (.bin 0 .geq (.t 5) (.c (.int .i64 0))))⟩, ⟨(some 7), none, (.p (.mov (.t 6)))⟩, ⟨(some 8), (some (7, true)), (.p (.mov (.t 1)))⟩, ⟨(some 9), (some (7, true)), (.p (.fieldA 1 1 (.t 2)))⟩, ⟨(some 10), (some (7, true)), (.p (.load false 1 (.t 9)))⟩, ⟨(some 11), (some (7, true)), (.p (.len (.t 10)))⟩, ⟨(some 12), (some (7, true)), (.p (.bin 0 .lss (.t 8) (.t 11)))⟩, ⟨(some 13), none, (.p (.pick (.t 7) (.t 12) (.c (.bool false))))⟩, ⟨(some 14), none, (.p (.mov (.t 13)))⟩, ⟨(some 15), (some (14, true)), (.p (.fieldA 1 1 (.t 2)))⟩, ⟨(some 16), (some (14, true)), (.p (.load false 1 (.t 15)))⟩, ⟨(some 17), (some (14, true)), (.p (.mov (.t 1)))⟩, ⟨(some 18), (some (14, true)), (.p (.idxA 3 (.t 16) (.t 17)))⟩, ⟨(some 19), (some (14, true)), (.p (.fieldA 0 0 (.t 18)))⟩, ⟨(some 20), (some (14, true)), (.p (.load false 1 (.t 19)))⟩, ⟨(some 21), (some (14, true)), (.p (.bin 0 .neq (.t 20) (.c (.int .i64 (-1)))))⟩, ⟨(some 22), none, (.p (.pick (.t 14) (.t 21) (.c (.bool false))))⟩, ⟨(some 4), none, (.p (.mov (.t 22)))⟩])
 (.ret))
theorem m_ropen_ok : compF Try.prog 102 = some (23, m_ropen, [.mov (.t 4)]) := by kernel_rfl
def m_wclose : MC := .seq (.reg [⟨(some 2), none, (.m (.box 28 (.t 0)))⟩, ⟨(some 4), none, (.m (.alloc 28 (.agg [.nilS, .nilS])))⟩, ⟨(some 5), none, (.p (.mov (.c (.bool false))))⟩])
 (.seq (.reg [⟨(some 7), none, (.p (.load true 2 (.t 2)))⟩, ⟨(some 8), none, (.call 65 [(.t 7)])⟩, ⟨(some 6), none, (.m (.alloc 28 (.agg [.nilS, .nilS])))⟩, ⟨none, none, (.m (.store 2 (.t 6) (.t 8)))⟩])
 (.seq (.seq (.reg [⟨(some 9), none, (.p (.load true 2 (.t 2)))⟩, ⟨(some 10), none, (.p (.mov (.t 1)))⟩, ⟨(some 11), none, (.call 85 [(.t 9), (.t 10)])⟩, ⟨(some 12), none, (.p (.un .not (.t 11)))⟩])
 (.cond (.t 12) (.seq (.reg [⟨(some 13), none, (.p (.load true 2 (.t 6)))⟩, ⟨none, none, (.m (.store 2 (.t 4) (.t 13)))⟩, ⟨(some 5), none, (.p (.mov (.c (.bool false))))⟩])
 (.ret)) (.skip)))
 (.seq (.reg [⟨(some 14), none, (.p (.fieldA 1 1 (.t 6)))⟩, ⟨(some 15), none, (.p (.load false 1 (.t 14)))⟩, ⟨(some 16), none, (.p (.mov (.t 1)))⟩, ⟨(some 17), none, (.m (.build none [.int .i64 0, .int .i64 0, .bool false] [(0, (.c (.int .i64 (-1))))]))⟩, ⟨(some 18), none, (.p (.idxA 3 (.t 15) (.t 16)))⟩, ⟨none, none, (.m (.store 3 (.t 18) (.t 17)))⟩])
 (.seq (.reg [⟨(some 19), none, (.p (.load true 2 (.t 6)))⟩, ⟨none, none, (.m (.store 2 (.t 4) (.t 19)))⟩, ⟨(some 5), none, (.p (.mov (.c (.bool true))))⟩])
 (.ret)))))
theorem m_wclose_ok : compF Try.prog 43 = some (20, m_wclose, [.load true 2 (.t 4), .mov (.t 5)]) := by kernel_rfl
def m_rclose : MC := .seq (.reg [⟨(some 2), none, (.m (.box 28 (.t 0)))⟩, ⟨(some 4), none, (.m (.alloc 28 (.agg [.nilS, .nilS])))⟩, ⟨(some 5), none, (.p (.mov (.c (.bool false))))⟩])
 (.seq (.reg [⟨(some 7), none, (.p (.load true 2 (.t 2)))⟩, ⟨(some 8), none, (.call 100 [(.t 7)])⟩, ⟨(some 6), none, (.m (.alloc 28 (.agg [.nilS, .nilS])))⟩, ⟨none, none, (.m (.store 2 (.t 6) (.t 8)))⟩])
 (.seq (.seq (.reg [⟨(some 9), none, (.p (.load true 2 (.t 2)))⟩, ⟨(some 10), none, (.p (.mov (.t 1)))⟩, ⟨(some 11), none, (.call 102 [(.t 9), (.t 10)])⟩, ⟨(some 12), none, (.p (.un .not (.t 11)))⟩])
 (.cond (.t 12) (.seq (.reg [⟨(some 13), none, (.p (.load true 2 (.t 6)))⟩, ⟨none, none, (.m (.store 2 (.t 4) (.t 13)))⟩, ⟨(some 5), none, (.p (.mov (.c (.bool false))))⟩])
 (.ret)) (.skip)))
 (.seq (.reg [⟨(some 14), none, (.p (.fieldA 1 1 (.t 6)))⟩, ⟨(some 15), none, (.p (.load false 1 (.t 14)))⟩, ⟨(some 16), none, (.p (.mov (.t 1)))⟩, ⟨(some 17), none, (.m (.build none [.int .i64 0, .int .i64 0, .bool false] [(0, (.c (.int .i64 (-1))))]))⟩, ⟨(some 18), none, (.p (.idxA 3 (.t 15) (.t 16)))⟩, ⟨none, none, (.m (.store 3 (.t 18) (.t 17)))⟩])
 (.seq (.reg [⟨(some 19), none, (.p (.load true 2 (.t 6)))⟩, ⟨none, none, (.m (.store 2 (.t 4) (.t 19)))⟩, ⟨(some 5), none, (.p (.mov (.c (.bool true))))⟩])
 (.ret)))))
theorem m_rclose_ok : compF Try.prog 75 = some (20, m_rclose, [.load true 2 (.t 4), .mov (.t 5)]) := by kernel_rfl
def isShut (o : Opn) : Bool := decide (o.file = -1)
set_option maxHeartbeats 4000000 in
theorem o1_fn (o : Opn) : Fnc Try.prog 89 [opnV o] (fun x obs => x = .bool (isShut o) ∧ obs = []) := by
  by_cases c : o.file = -1
  · have hr : isShut o = true := decT c
    refine Fnc.intro m_o1_ok (by simp) fun W S => ?_
    unfold m_o1
    simp only [ents, Nat.zero_add, Nat.reduceAdd]
    refine zst ?_
    refine ret m_o1_ok [] ?_; exact zfh hr
  · have hr : isShut o = false := decF c
    refine Fnc.intro m_o1_ok (by simp) fun W S => ?_
    unfold m_o1
    simp only [ents, Nat.zero_add, Nat.reduceAdd]
    refine zst ?_
    refine ret m_o1_ok [] ?_; exact zfh hr
set_option maxHeartbeats 4000000 in
theorem idxo_fn (l : List Opn) : Fnc Try.prog 88 [.sl false 3 (l.map opnV), .fn 89] (fun x obs => x = .int .i64 (fnd isShut l) ∧ obs = []) := by
  refine Fnc.wf fun hw => ?_
  have hm : l.length ≤ 140737488355328 := by
    have := hw.1
    simp only [V.wf, List.length_map] at this
    exact this.2
  clear hw
  refine Fnc.intro m_idxo_ok (by simp) fun W S => ?_
  unfold m_idxo
  simp only [ents, Nat.zero_add, Nat.reduceAdd]
  refine zst ?_
  refine ev_loopK [0, 1, 7] (fun p : {p : Nat // p ≤ l.length ∧ ∀ j, j < p → isShut l[j]! = false} => [(8, .int .i64 p.1)]) (fun _ => []) (fun p => l.length - p.1) (⟨0, by simp⟩) 0 (by simp only [go_sem]; rfl) ?_ (by first | rfl | (simp only [go_sem]; done)) (by simp) (by first | rfl | (simp only [go_sem]; done)) (by first | rfl | (simp only [go_sem]; done)) (by first | rfl | (simp only [go_sem]; done)) ?_
  · (simp only [go_sem]; (try simp []); done)
  intro J hJ
  rintro ⟨k, hk0, hk1⟩
  by_cases hlt : k < l.length
  · have hc := o1_fn l[k]!
    cases hb : isShut l[k]! with
    | true =>
      rw [hb] at hc
      have hr := fnd_at (p := isShut) hlt hk1 hb
      refine zst ?_
      refine callDv (hc) (by kernel_rfl) rfl ?_; simp only [go_sem]
      refine zst ?_
      refine ret m_idxo_ok [] ?_; exact zfh hr
    | false =>
      rw [hb] at hc
      have hS : ∀ j, j < k + 1 → isShut l[j]! = false := fun j hj => by
        by_cases e : j = k
        · subst e; exact hb
        · exact hk1 j (by omega)
      refine zst ?_
      refine callDv (hc) (by kernel_rfl) rfl ?_; simp only [go_sem]
      refine zst ?_
      refine ev_next 0 (hJ _ (⟨k + 1, hlt, hS⟩) (by first | omega | (dsimp only; omega) | (simp; omega))) rfl (by simp) ?_ (by first | rfl | (simp only [go_sem]; done)) (by first | rfl | (simp only [go_sem]; done) | (simp only [hlt]; (try simp only [go_sem]); first | done | rfl)) ?_
      · exact zna hlt
      · exact znb hlt
  · obtain rfl : k = l.length := by omega
    have hr := fnd_no (p := isShut) hk1
    refine zst ?_
    refine ret m_idxo_ok [] ?_; exact zfh hr
attribute [local irreducible] sClose sSeek setOff dat
set_option maxHeartbeats 8000000 in
theorem opened_fn (f : Files) (F : FitF f) (h : Int) : Fnc Try.prog 85 [filV f, .int .i64 h] (fun x obs => x = .bool (decide (opd f h)) ∧ obs = []) := by
  have h8 := F.o
  have hd4 := F.d
  by_cases c1 : h < 0
  · have hr : decide (opd f h) = false := decF fun c => by have := c.1; omega
    refine Fnc.intro m_opened_ok (by simp) fun W S => ?_
    unfold m_opened
    simp only [ents, Nat.zero_add, Nat.reduceAdd]
    refine zst ?_
    refine ret m_opened_ok [] ?_; exact zfh hr
  by_cases c2 : (f.opens.length : Int) ≤ h
  · have hr : decide (opd f h) = false := decF fun c => by have := c.2.1; omega
    refine Fnc.intro m_opened_ok (by simp) fun W S => ?_
    unfold m_opened
    simp only [ents, Nat.zero_add, Nat.reduceAdd]
    refine zst ?_
    refine ret m_opened_ok [] ?_; exact zfh hr
  obtain ⟨i, hi⟩ : ∃ i : Nat, h = i := ⟨h.toNat, by omega⟩
  subst hi
  have hil : i < f.opens.length := by omega
  have hok := F.ok _ (mem_at hil)
  have hi' : ((i : Int)).toNat = i := Int.toNat_natCast i
  by_cases c3 : f.opens[i]!.file = -1
  · have hr : decide (opd f i) = false := decF fun c => c.2.2 (by rw [hi']; exact c3)
    refine Fnc.intro m_opened_ok (by simp) fun W S => ?_
    unfold m_opened
    simp only [ents, Nat.zero_add, Nat.reduceAdd]
    refine zst ?_
    refine ret m_opened_ok [] ?_; exact zfh hr
  · have hr : decide (opd f i) = true := decT ⟨by omega, by omega, by rw [hi']; exact c3⟩
    rcases hok with hok | ⟨k1, k2, k3, k4⟩
    · exact absurd hok.1 c3
    refine Fnc.intro m_opened_ok (by simp) fun W S => ?_
    unfold m_opened
    simp only [ents, Nat.zero_add, Nat.reduceAdd]
    refine zst ?_
    refine ret m_opened_ok [] ?_; exact zfh hr
set_option maxHeartbeats 8000000 in
theorem ropen_fn (f : Files) (F : FitF f) (h : Int) : Fnc Try.prog 102 [filV f, .int .i64 h] (fun x obs => x = .bool (decide (opd f h)) ∧ obs = []) := by
  have h8 := F.o
  by_cases c1 : h < 0
  · have hr : decide (opd f h) = false := decF fun c => by have := c.1; omega
    refine Fnc.intro m_ropen_ok (by simp) fun W S => ?_
    unfold m_ropen
    simp only [ents, Nat.zero_add, Nat.reduceAdd]
    refine zst ?_
    refine ret m_ropen_ok [] ?_; exact zfh hr
  by_cases c2 : (f.opens.length : Int) ≤ h
  · have hr : decide (opd f h) = false := decF fun c => by have := c.2.1; omega
    refine Fnc.intro m_ropen_ok (by simp) fun W S => ?_
    unfold m_ropen
    simp only [ents, Nat.zero_add, Nat.reduceAdd]
    refine zst ?_
    refine ret m_ropen_ok [] ?_; exact zfh hr
  obtain ⟨i, hi⟩ : ∃ i : Nat, h = i := ⟨h.toNat, by omega⟩
  subst hi
  have hil : i < f.opens.length := by omega
  have hi' : ((i : Int)).toNat = i := Int.toNat_natCast i
  by_cases c3 : f.opens[i]!.file = -1
  · have hr : decide (opd f i) = false := decF fun c => c.2.2 (by rw [hi']; exact c3)
    refine Fnc.intro m_ropen_ok (by simp) fun W S => ?_
    unfold m_ropen
    simp only [ents, Nat.zero_add, Nat.reduceAdd]
    refine zst ?_
    refine ret m_ropen_ok [] ?_; exact zfh hr
  · have hr : decide (opd f i) = true := decT ⟨by omega, by omega, by rw [hi']; exact c3⟩
    refine Fnc.intro m_ropen_ok (by simp) fun W S => ?_
    unfold m_ropen
    simp only [ents, Nat.zero_add, Nat.reduceAdd]
    refine zst ?_
    refine ret m_ropen_ok [] ?_; exact zfh hr
theorem sClose_T {f : Files} {h : Int} (c : opd f h) : sClose f h = (⟨f.data, f.opens.set h.toNat shut⟩, true) := by unfold sClose; exact if_pos c
theorem sClose_F {f : Files} {h : Int} (c : ¬ opd f h) : sClose f h = (f, false) := by unfold sClose; exact if_neg c
set_option maxHeartbeats 8000000 in
theorem wclose_fn (f : Files) (F : FitF f) (h : Int) : Fnc Try.prog 43 [filV f, .int .i64 h] (fun x obs => x = .tup [filV (sClose f h).1, .bool (sClose f h).2] ∧ obs = []) := by
  refine Fnc.low ?_
  have fO := opened_fn f F h
  by_cases c : opd f h
  · rw [decT c] at fO
    rw [sClose_T c]
    obtain ⟨c1, c2, c3⟩ := c
    refine Fnc.intro m_wclose_ok (by simp) fun W S => ?_
    unfold m_wclose
    simp only [ents, Nat.zero_add, Nat.reduceAdd]
    refine zst ?_
    (first | refine callX (wcopy_fn f F.low) ?_ | refine callXw (wcopy_fn f F.low) ?_); simp only [go_sem]
    refine zst ?_
    (first | refine callD (fO) ?_ | refine callDw (fO) ?_); simp only [go_sem]
    refine zst ?_
    refine ret m_wclose_ok [] ?_; (first | (simp only [go_sem]; done) | (simp only [go_sem]; ((try dsimp only); (repeat' (refine And.intro ?_ ?_)) <;> first | with_reducible rfl | (simp only [go_sem]; done) | (simp only [go_sem]; rfl) | (simp only [go_sem, shut]; done) | (simp only [shut]; (try simp only [go_sem]); first | done | rfl) | (simp only [go_sem]; simp [shut]; done) | (simp [shut]; done) | rfl)))
  · rw [decF c] at fO
    rw [sClose_F c]
    refine Fnc.intro m_wclose_ok (by simp) fun W S => ?_
    unfold m_wclose
    simp only [ents, Nat.zero_add, Nat.reduceAdd]
    refine zst ?_
    (first | refine callX (wcopy_fn f F.low) ?_ | refine callXw (wcopy_fn f F.low) ?_); simp only [go_sem]
    refine zst ?_
    (first | refine callD (fO) ?_ | refine callDw (fO) ?_); simp only [go_sem]
    refine zst ?_
    refine ret m_wclose_ok [] ?_; exact zfn
set_option maxHeartbeats 8000000 in
theorem rclose_fn (f : Files) (F : FitF f) (h : Int) : Fnc Try.prog 75 [filV f, .int .i64 h] (fun x obs => x = .tup [filV (sClose f h).1, .bool (sClose f h).2] ∧ obs = []) := by
  refine Fnc.low ?_
  have fO := ropen_fn f F h
  by_cases c : opd f h
  · rw [decT c] at fO
    rw [sClose_T c]
    obtain ⟨c1, c2, c3⟩ := c
    refine Fnc.intro m_rclose_ok (by simp) fun W S => ?_
    unfold m_rclose
    simp only [ents, Nat.zero_add, Nat.reduceAdd]
    refine zst ?_
    (first | refine callX (rcopy_fn f F.low) ?_ | refine callXw (rcopy_fn f F.low) ?_); simp only [go_sem]
    refine zst ?_
    (first | refine callD (fO) ?_ | refine callDw (fO) ?_); simp only [go_sem]
    refine zst ?_
    refine ret m_rclose_ok [] ?_; (first | (simp only [go_sem]; done) | (simp only [go_sem]; ((try dsimp only); (repeat' (refine And.intro ?_ ?_)) <;> first | with_reducible rfl | (simp only [go_sem]; done) | (simp only [go_sem]; rfl) | (simp only [go_sem, shut]; done) | (simp only [shut]; (try simp only [go_sem]); first | done | rfl) | (simp only [go_sem]; simp [shut]; done) | (simp [shut]; done) | rfl)))
  · rw [decF c] at fO
    rw [sClose_F c]
    refine Fnc.intro m_rclose_ok (by simp) fun W S => ?_
    unfold m_rclose
    simp only [ents, Nat.zero_add, Nat.reduceAdd]
    refine zst ?_
    (first | refine callX (rcopy_fn f F.low) ?_ | refine callXw (rcopy_fn f F.low) ?_); simp only [go_sem]
    refine zst ?_
    (first | refine callD (fO) ?_ | refine callDw (fO) ?_); simp only [go_sem]
    refine zst ?_
    refine ret m_rclose_ok [] ?_; exact zfn
end Go.Proofs.Ytkfpcgkmemfdaaa
/- Files: Seek, Read. -/
namespace Go.Proofs.Ytkfpcgkmemfdaaa
open Go Go.RowKit Rdn Rdn.Dp
set_option linter.unusedVariables false
set_option linter.unusedSimpArgs false
def m_wseek : MC := .seq (.reg [⟨(some 3), none, (.m (.box 28 (.t 0)))⟩, ⟨(some 6), none, (.m (.alloc 28 (.agg [.nilS, .nilS])))⟩, ⟨(some 7), none, (.p (.mov (.c (.bool false))))⟩])
 (.seq (.reg [⟨(some 9), none, (.p (.load true 2 (.t 3)))⟩, ⟨(some 10), none, (.call 65 [(.t 9)])⟩, ⟨(some 8), none, (.m (.alloc 28 (.agg [.nilS, .nilS])))⟩, ⟨none, none, (.m (.store 2 (.t 8) (.t 10)))⟩])
 (.seq (.seq (.dreg [⟨(some 11), none, (.p (.load true 2 (.t 3)))⟩, ⟨(some 12), none, (.p (.mov (.t 1)))⟩, ⟨(some 13), none, (.call 85 [(.t 11), (.t 12)])⟩, ⟨(some 14), none, (.p (.un .not (.t 13)))⟩, ⟨(some 15), none, (.p (.mov (.t 14)))⟩, ⟨(some 16), (some (15, false)), (.p (.mov (.t 2)))⟩, ⟨(some 17), (some (15, false)), (.p (.bin 0 .lss (.t 16) (.c (.int .i64 0))))⟩, ⟨(some 18), none, (.p (.pick (.t 15) (.c (.bool true)) (.t 17)))⟩, ⟨(some 19), none, (.p (.mov (.t 18)))⟩, ⟨(some 20), (some (19, false)), (.p (.mov (.t 2)))⟩, ⟨(some 21), (some (19, false)), (.p (.fieldA 0 0 (.t 3)))⟩, ⟨(some 22), (some (19, false)), (.p (.load false 1 (.t 21)))⟩, ⟨(some 23), (some (19, false)), (.p (.fieldA 1 1 (.t 3)))⟩, ⟨(some 24), (some (19, false)), (.p (.load false 1 (.t 23)))⟩, ⟨(some 25), (some (19, false)), (.p (.mov (.t 1)))⟩, ⟨(some 26), (some (19, false)), (.p (.idxA 3 (.t 24) (.t 25)))⟩, ⟨(some 27), (some (19, false)), (.p (.fieldA 0 0 (.t 26)))⟩, ⟨(some 28), (some (19, false)), (.p (.load false 1 (.t 27)))⟩, ⟨(some 29), (some (19, false)), (.p (.idxA 1 (.t 22) (.t 28)))⟩, ⟨(some 30), (some (19, false)), (.p (.load false 1 (.t 29)))⟩, ⟨(some 31), (some (19, false)), (.p (.len (.t 30)))⟩, ⟨(some 32), (some (19, false)), (.p (.bin 0 .gtr (.t 20) (.t 31)))⟩, ⟨(some 33), none, (.p (.pick (.t 19) (.c (.bool true)) (.t 32)))⟩] [[], [], [0, 1], [0, 1, 2], [0, 1, 2, 3], [0, 1, 2, 3, 4], [0, 1, 2, 3, 4, 5], [0, 1, 2, 3, 4, 5, 6], [0, 1, 2, 3, 4, 5, 6, 7], [0, 1, 2, 3, 4, 5, 6, 7, 8], [0, 1, 2, 3, 4, 5, 6, 7, 8], [0, 1, 2, 3, 4, 5, 6, 7, 8, 10], [0, 1, 2, 3, 4, 5, 6, 7, 8], [0, 1, 2, 3, 4, 5, 6, 7, 8, 12], [0, 1, 2, 3, 4, 5, 6, 7, 8], [0, 1, 2, 3, 4, 5, 6, 7, 8, 12, 13, 14], [0, 1, 2, 3, 4, 5, 6, 7, 8, 12, 13, 14, 15], [0, 1, 2, 3, 4, 5, 6, 7, 8, 12, 13, 14, 15, 16], [0, 1, 2, 3, 4, 5, 6, 7, 8, 10, 11, 12, 13, 14, 15, 16, 17], [0, 1, 2, 3, 4, 5, 6, 7, 8, 10, 11, 12, 13, 14, 15, 16, 17, 18], [0, 1, 2, 3, 4, 5, 6, 7, 8, 10, 11, 12, 13, 14, 15, 16, 17, 18, 19], [0, 1, 2, 3, 4, 5, 6, 7, 8, 9, 10, 11, 12, 13, 14, 15, 16, 17, 18, 19, 20], [0, 1, 2, 3, 4, 5, 6, 7, 8, 9, 10, 11, 12, 13, 14, 15, 16, 17, 18, 19, 20, 21]])
 (.cond (.t 33) (.seq (.reg [⟨(some 34), none, (.p (.load true 2 (.t 8)))⟩, ⟨none, none, (.m (.store 2 (.t 6) (.t 34)))⟩, ⟨(some 7), none, (.p (.mov (.c (.bool false))))⟩])
 (.ret)) (.skip)))
 (.seq (.reg [⟨(some 35), none, (.p (.fieldA 1 1 (.t 8)))⟩, ⟨(some 36), none, (.p (.load false 1 (.t 35)))⟩, ⟨(some 37), none, (.p (.mov (.t 1)))⟩, ⟨(some 38), none, (.p (.mov (.t 2)))⟩, ⟨(some 39), none, (.p (.idxA 3 (.t 36) (.t 37)))⟩, ⟨(some 40), none, (.p (.fieldA 1 1 (.t 39)))⟩, ⟨none, none, (.m (.store 1 (.t 40) (.t 38)))⟩])
 (.seq (.reg [⟨(some 41), none, (.p (.load true 2 (.t 8)))⟩, ⟨none, none, (.m (.store 2 (.t 6) (.t 41)))⟩, ⟨(some 7), none, (.p (.mov (.c (.bool true))))⟩])
 (.ret)))))
theorem m_wseek_ok : compF Try.prog 44 = some (42, m_wseek, [.load true 2 (.t 6), .mov (.t 7)]) := by kernel_rfl
def m_rseek : MC := .seq (.reg [⟨(some 3), none, (.m (.box 28 (.t 0)))⟩, ⟨(some 6), none, (.m (.alloc 28 (.agg [.nilS, .nilS])))⟩, ⟨(some 7), none, (.p (.mov (.c (.bool false))))⟩])
 (.seq (.reg [⟨(some 9), none, (.p (.load true 2 (.t 3)))⟩, ⟨(some 10), none, (.call 100 [(.t 9)])⟩, ⟨(some 8), none, (.m (.alloc 28 (.agg [.nilS, .nilS])))⟩, ⟨none, none, (.m (.store 2 (.t 8) (.t 10)))⟩])
 (.seq (.seq (.dreg [⟨(some 11), none, (.p (.load true 2 (.t 3)))⟩, ⟨(some 12), none, (.p (.mov (.t 1)))⟩, ⟨(some 13), none, (.call 102 [(.t 11), (.t 12)])⟩, ⟨(some 14), none, (.p (.un .not (.t 13)))⟩, ⟨(some 15), none, (.p (.mov (.t 14)))⟩, ⟨(some 16), (some (15, false)), (.p (.mov (.t 2)))⟩, ⟨(some 17), (some (15, false)), (.p (.bin 0 .lss (.t 16) (.c (.int .i64 0))))⟩, ⟨(some 18), none, (.p (.pick (.t 15) (.c (.bool true)) (.t 17)))⟩, ⟨(some 19), none, (.p (.mov (.t 18)))⟩, ⟨(some 20), (some (19, false)), (.p (.mov (.t 2)))⟩, ⟨(some 21), (some (19, false)), (.p (.fieldA 0 0 (.t 3)))⟩, ⟨(some 22), (some (19, false)), (.p (.load false 1 (.t 21)))⟩, ⟨(some 23), (some (19, false)), (.p (.fieldA 1 1 (.t 3)))⟩, ⟨(some 24), (some (19, false)), (.p (.load false 1 (.t 23)))⟩, ⟨(some 25), (some (19, false)), (.p (.mov (.t 1)))⟩, ⟨(some 26), (some (19, false)), (.p (.idxA 3 (.t 24) (.t 25)))⟩, ⟨(some 27), (some (19, false)), (.p (.fieldA 0 0 (.t 26)))⟩, ⟨(some 28), (some (19, false)), (.p (.load false 1 (.t 27)))⟩, ⟨(some 29), (some (19, false)), (.p (.idxA 1 (.t 22) (.t 28)))⟩, ⟨(some 30), (some (19, false)), (.p (.load false 1 (.t 29)))⟩, ⟨(some 31), (some (19, false)), (.p (.len (.t 30)))⟩, ⟨(some 32), (some (19, false)), (.p (.bin 0 .gtr (.t 20) (.t 31)))⟩, ⟨(some 33), none, (.p (.pick (.t 19) (.c (.bool true)) (.t 32)))⟩] [[], [], [0, 1], [0, 1, 2], [0, 1, 2, 3], [0, 1, 2, 3, 4], [0, 1, 2, 3, 4, 5], [0, 1, 2, 3, 4, 5, 6], [0, 1, 2, 3, 4, 5, 6, 7], [0, 1, 2, 3, 4, 5, 6, 7, 8], [0, 1, 2, 3, 4, 5, 6, 7, 8], [0, 1, 2, 3, 4, 5, 6, 7, 8, 10], [0, 1, 2, 3, 4, 5, 6, 7, 8], [0, 1, 2, 3, 4, 5, 6, 7, 8, 12], [0, 1, 2, 3, 4, 5, 6, 7, 8], [0, 1, 2, 3, 4, 5, 6, 7, 8, 12, 13, 14], [0, 1, 2, 3, 4, 5, 6, 7, 8, 12, 13, 14, 15], [0, 1, 2, 3, 4, 5, 6, 7, 8, 12, 13, 14, 15, 16], [0, 1, 2, 3, 4, 5, 6, 7, 8, 10, 11, 12, 13, 14, 15, 16, 17], [0, 1, 2, 3, 4, 5, 6, 7, 8, 10, 11, 12, 13, 14, 15, 16, 17, 18], [0, 1, 2, 3, 4, 5, 6, 7, 8, 10, 11, 12, 13, 14, 15, 16, 17, 18, 19], [0, 1, 2, 3, 4, 5, 6, 7, 8, 9, 10, 11, 12, 13, 14, 15, 16, 17, 18, 19, 20], [0, 1, 2, 3, 4, 5, 6, 7, 8, 9, 10, 11, 12, 13, 14, 15, 16, 17, 18, 19, 20, 21]])
 (.cond (.t 33) (.seq (.reg [⟨(some 34), none, (.p (.load true 2 (.t 8)))⟩, ⟨none, none, (.m (.store 2 (.t 6) (.t 34)))⟩, ⟨(some 7), none, (.p (.mov (.c (.bool false))))⟩])
 (.ret)) (.skip)))
 (.seq (.reg [⟨(some 35), none, (.p (.fieldA 1 1 (.t 8)))⟩, ⟨(some 36), none, (.p (.load false 1 (.t 35)))⟩, ⟨(some 37), none, (.p (.mov (.t 1)))⟩, ⟨(some 38), none, (.p (.mov (.t 2)))⟩, ⟨(some 39), none, (.p (.idxA 3 (.t 36) (.t 37)))⟩, ⟨(some 40), none, (.p (.fieldA 1 1 (.t 39)))⟩, ⟨none, none, (.m (.store 1 (.t 40) (.t 38)))⟩])
 (.seq (.reg [⟨(some 41), none, (.p (.load true 2 (.t 8)))⟩, ⟨none, none, (.m (.store 2 (.t 6) (.t 41)))⟩, ⟨(some 7), none, (.p (.mov (.c (.bool true))))⟩])
 (.ret)))))
theorem m_rseek_ok : compF Try.prog 76 = some (42, m_rseek, [.load true 2 (.t 6), .mov (.t 7)]) := by kernel_rfl
def m_wread : MC := .seq (.reg [⟨(some 3), none, (.m (.box 28 (.t 0)))⟩, ⟨(some 6), none, (.m (.alloc 28 (.agg [.nilS, .nilS])))⟩, ⟨(some 7), none, (.p (.mov (.c (.nilS))))⟩, ⟨(some 8), none, (.p (.mov (.c (.bool false))))⟩])
 (.seq (.reg [⟨(some 13), none, (.p (.load true 2 (.t 3)))⟩, ⟨(some 14), none, (.call 65 [(.t 13)])⟩, ⟨(some 9), none, (.m (.alloc 28 (.agg [.nilS, .nilS])))⟩, ⟨none, none, (.m (.store 2 (.t 9) (.t 14)))⟩])
 (.seq (.seq (.reg [⟨(some 15), none, (.p (.load true 2 (.t 3)))⟩, ⟨(some 16), none, (.p (.mov (.t 1)))⟩, ⟨(some 17), none, (.call 85 [(.t 15), (.t 16)])⟩, ⟨(some 18), none, (.p (.un .not (.t 17)))⟩, ⟨(some 19), none, (.p (.mov (.t 18)))⟩, ⟨(some 20), (some (19, false)), (.p (.mov (.t 2)))⟩, ⟨(some 21), (some (19, false)), (.p (.bin 0 .lss (.t 20) (.c (.int .i64 0))))⟩, ⟨(some 22), none, (.p (.pick (.t 19) (.c (.bool true)) (.t 21)))⟩, ⟨(some 23), none, (.p (.mov (.t 22)))⟩, ⟨(some 24), (some (23, false)), (.p (.fieldA 1 1 (.t 3)))⟩, ⟨(some 25), (some (23, false)), (.p (.load false 1 (.t 24)))⟩, ⟨(some 26), (some (23, false)), (.p (.mov (.t 1)))⟩, ⟨(some 27), (some (23, false)), (.p (.idxA 3 (.t 25) (.t 26)))⟩, ⟨(some 28), (some (23, false)), (.p (.fieldA 2 2 (.t 27)))⟩, ⟨(some 29), (some (23, false)), (.p (.load false 1 (.t 28)))⟩, ⟨(some 30), none, (.p (.pick (.t 23) (.c (.bool true)) (.t 29)))⟩])
 (.cond (.t 30) (.seq (.reg [⟨(some 31), none, (.p (.load true 2 (.t 9)))⟩, ⟨none, none, (.m (.store 2 (.t 6) (.t 31)))⟩, ⟨(some 7), none, (.p (.mov (.c (.nilS))))⟩, ⟨(some 8), none, (.p (.mov (.c (.bool false))))⟩])
 (.ret)) (.skip)))
 (.seq (.reg [⟨(some 32), none, (.p (.fieldA 1 1 (.t 9)))⟩, ⟨(some 33), none, (.p (.load false 1 (.t 32)))⟩, ⟨(some 34), none, (.p (.mov (.t 1)))⟩, ⟨(some 35), none, (.p (.idxA 3 (.t 33) (.t 34)))⟩, ⟨(some 10), none, (.p (.mov (.t 35)))⟩])
 (.seq (.dreg [⟨(some 36), none, (.p (.fieldA 0 0 (.t 3)))⟩, ⟨(some 37), none, (.p (.load false 1 (.t 36)))⟩, ⟨(some 38), none, (.p (.mov (.t 10)))⟩, ⟨(some 39), none, (.p (.nilc (.t 38)))⟩, ⟨(some 40), none, (.p (.fieldA 0 0 (.t 39)))⟩, ⟨(some 41), none, (.p (.load false 1 (.t 40)))⟩, ⟨(some 42), none, (.p (.idxA 1 (.t 37) (.t 41)))⟩, ⟨(some 43), none, (.p (.load false 1 (.t 42)))⟩, ⟨(some 44), none, (.p (.mov (.t 10)))⟩, ⟨(some 45), none, (.p (.nilc (.t 44)))⟩, ⟨(some 46), none, (.p (.fieldA 1 1 (.t 45)))⟩, ⟨(some 47), none, (.p (.load false 1 (.t 46)))⟩, ⟨(some 48), none, (.m (.sl 4 (.t 43) (some (.t 47)) none none))⟩, ⟨(some 11), none, (.p (.mov (.t 48)))⟩] [[], [0], [], [2], [2, 3], [2, 3, 4], [0, 1, 2, 3, 4, 5], [0, 1, 2, 3, 4, 5, 6], [], [8], [8, 9], [8, 9, 10], [0, 1, 2, 3, 4, 5, 6, 7, 8, 9, 10, 11], [0, 1, 2, 3, 4, 5, 6, 7, 8, 9, 10, 11, 12]])
 (.seq (.reg [⟨(some 49), none, (.p (.mov (.t 11)))⟩, ⟨(some 50), none, (.p (.mov (.t 2)))⟩, ⟨(some 51), none, (.p (.mov (.t 11)))⟩, ⟨(some 52), none, (.p (.len (.t 51)))⟩, ⟨(some 53), none, (.p (.mn (.t 50) (.t 52)))⟩, ⟨(some 54), none, (.m (.sl 4 (.t 49) none (some (.t 53)) none))⟩, ⟨(some 55), none, (.call 87 [(.t 54)])⟩, ⟨(some 12), none, (.p (.mov (.t 55)))⟩])
 (.seq (.reg [⟨(some 56), none, (.p (.mov (.t 10)))⟩, ⟨(some 57), none, (.p (.nilc (.t 56)))⟩, ⟨(some 58), none, (.p (.fieldA 1 1 (.t 57)))⟩, ⟨(some 59), none, (.p (.load false 1 (.t 58)))⟩, ⟨(some 60), none, (.p (.mov (.t 12)))⟩, ⟨(some 61), none, (.p (.len (.t 60)))⟩, ⟨(some 62), none, (.p (.bin 0 .add (.t 59) (.t 61)))⟩, ⟨(some 63), none, (.p (.nilc (.t 56)))⟩, ⟨(some 64), none, (.p (.fieldA 1 1 (.t 63)))⟩, ⟨none, none, (.m (.store 1 (.t 64) (.t 62)))⟩])
 (.seq (.reg [⟨(some 65), none, (.p (.load true 2 (.t 9)))⟩, ⟨(some 66), none, (.p (.mov (.t 12)))⟩, ⟨none, none, (.m (.store 2 (.t 6) (.t 65)))⟩, ⟨(some 7), none, (.p (.mov (.t 66)))⟩, ⟨(some 8), none, (.p (.mov (.c (.bool true))))⟩])
 (.ret))))))))
theorem m_wread_ok : compF Try.prog 41 = some (67, m_wread, [.load true 2 (.t 6), .mov (.t 7), .mov (.t 8)]) := by kernel_rfl
def m_rread : MC := .seq (.reg [⟨(some 3), none, (.m (.box 28 (.t 0)))⟩, ⟨(some 6), none, (.m (.alloc 28 (.agg [.nilS, .nilS])))⟩, ⟨(some 7), none, (.p (.mov (.c (.nilS))))⟩, ⟨(some 8), none, (.p (.mov (.c (.bool false))))⟩])
 (.seq (.reg [⟨(some 14), none, (.p (.load true 2 (.t 3)))⟩, ⟨(some 15), none, (.call 100 [(.t 14)])⟩, ⟨(some 9), none, (.m (.alloc 28 (.agg [.nilS, .nilS])))⟩, ⟨none, none, (.m (.store 2 (.t 9) (.t 15)))⟩])
 (.seq (.seq (.reg [⟨(some 16), none, (.p (.load true 2 (.t 3)))⟩, ⟨(some 17), none, (.p (.mov (.t 1)))⟩, ⟨(some 18), none, (.call 102 [(.t 16), (.t 17)])⟩, ⟨(some 19), none, (.p (.un .not (.t 18)))⟩, ⟨(some 20), none, (.p (.mov (.t 19)))⟩, ⟨(some 21), (some (20, false)), (.p (.mov (.t 2)))⟩, ⟨(some 22), (some (20, false)), (.p (.bin 0 .lss (.t 21) (.c (.int .i64 0))))⟩, ⟨(some 23), none, (.p (.pick (.t 20) (.c (.bool true)) (.t 22)))⟩, ⟨(some 24), none, (.p (.mov (.t 23)))⟩, ⟨(some 25), (some (24, false)), (.p (.fieldA 1 1 (.t 3)))⟩, ⟨(some 26), (some (24, false)), (.p (.load false 1 (.t 25)))⟩, ⟨(some 27), (some (24, false)), (.p (.mov (.t 1)))⟩, ⟨(some 28), (some (24, false)), (.p (.idxA 3 (.t 26) (.t 27)))⟩, ⟨(some 29), (some (24, false)), (.p (.fieldA 2 2 (.t 28)))⟩, ⟨(some 30), (some (24, false)), (.p (.load false 1 (.t 29)))⟩, ⟨(some 31), none, (.p (.pick (.t 24) (.c (.bool true)) (.t 30)))⟩])
 (.cond (.t 31) (.seq (.reg [⟨(some 32), none, (.p (.load true 2 (.t 9)))⟩, ⟨none, none, (.m (.store 2 (.t 6) (.t 32)))⟩, ⟨(some 7), none, (.p (.mov (.c (.nilS))))⟩, ⟨(some 8), none, (.p (.mov (.c (.bool false))))⟩])
 (.ret)) (.skip)))
 (.seq (.reg [⟨(some 33), none, (.p (.fieldA 1 1 (.t 9)))⟩, ⟨(some 34), none, (.p (.load false 1 (.t 33)))⟩, ⟨(some 35), none, (.p (.mov (.t 1)))⟩, ⟨(some 36), none, (.p (.idxA 3 (.t 34) (.t 35)))⟩, ⟨(some 10), none, (.p (.mov (.t 36)))⟩])
 (.seq (.dreg [⟨(some 37), none, (.p (.fieldA 0 0 (.t 9)))⟩, ⟨(some 38), none, (.p (.load false 1 (.t 37)))⟩, ⟨(some 39), none, (.p (.mov (.t 10)))⟩, ⟨(some 40), none, (.p (.nilc (.t 39)))⟩, ⟨(some 41), none, (.p (.fieldA 0 0 (.t 40)))⟩, ⟨(some 42), none, (.p (.load false 1 (.t 41)))⟩, ⟨(some 43), none, (.p (.idxA 1 (.t 38) (.t 42)))⟩, ⟨(some 44), none, (.p (.load false 1 (.t 43)))⟩, ⟨(some 11), none, (.p (.mov (.t 44)))⟩] [[], [0], [], [2], [2, 3], [2, 3, 4], [0, 1, 2, 3, 4, 5], [0, 1, 2, 3, 4, 5, 6], [0, 1, 2, 3, 4, 5, 6, 7]])
 (.seq (.reg [⟨(some 45), none, (.p (.mov (.t 2)))⟩, ⟨(some 46), none, (.p (.mov (.t 11)))⟩, ⟨(some 47), none, (.p (.len (.t 46)))⟩, ⟨(some 48), none, (.p (.mov (.t 10)))⟩, ⟨(some 49), none, (.p (.nilc (.t 48)))⟩, ⟨(some 50), none, (.p (.fieldA 1 1 (.t 49)))⟩, ⟨(some 51), none, (.p (.load false 1 (.t 50)))⟩, ⟨(some 52), none, (.p (.bin 0 .sub (.t 47) (.t 51)))⟩, ⟨(some 53), none, (.p (.mn (.t 45) (.t 52)))⟩, ⟨(some 12), none, (.p (.mov (.t 53)))⟩])
 (.seq (.dreg [⟨(some 54), none, (.p (.mov (.t 11)))⟩, ⟨(some 55), none, (.p (.mov (.t 10)))⟩, ⟨(some 56), none, (.p (.nilc (.t 55)))⟩, ⟨(some 57), none, (.p (.fieldA 1 1 (.t 56)))⟩, ⟨(some 58), none, (.p (.load false 1 (.t 57)))⟩, ⟨(some 59), none, (.p (.mov (.t 10)))⟩, ⟨(some 60), none, (.p (.nilc (.t 59)))⟩, ⟨(some 61), none, (.p (.fieldA 1 1 (.t 60)))⟩, ⟨(some 62), none, (.p (.load false 1 (.t 61)))⟩, ⟨(some 63), none, (.p (.mov (.t 12)))⟩, ⟨(some 64), none, (.p (.bin 0 .add (.t 62) (.t 63)))⟩, ⟨(some 65), none, (.m (.sl 4 (.t 54) (some (.t 58)) (some (.t 64)) none))⟩, ⟨(some 66), none, (.m (.app 47 4 24 (.c (.nilS)) (.t 65)))⟩, ⟨(some 13), none, (.p (.mov (.t 66)))⟩] [[], [], [1], [1, 2], [1, 2, 3], [], [5], [5, 6], [5, 6, 7], [], [5, 6, 7, 8, 9], [0, 1, 2, 3, 4, 5, 6, 7, 8, 9, 10], [0, 1, 2, 3, 4, 5, 6, 7, 8, 9, 10, 11], [0, 1, 2, 3, 4, 5, 6, 7, 8, 9, 10, 11, 12]])
 (.seq (.reg [⟨(some 67), none, (.p (.mov (.t 10)))⟩, ⟨(some 68), none, (.p (.nilc (.t 67)))⟩, ⟨(some 69), none, (.p (.fieldA 1 1 (.t 68)))⟩, ⟨(some 70), none, (.p (.load false 1 (.t 69)))⟩, ⟨(some 71), none, (.p (.mov (.t 12)))⟩, ⟨(some 72), none, (.p (.bin 0 .add (.t 70) (.t 71)))⟩, ⟨(some 73), none, (.p (.nilc (.t 67)))⟩, ⟨(some 74), none, (.p (.fieldA 1 1 (.t 73)))⟩, ⟨none, none, (.m (.store 1 (.t 74) (.t 72)))⟩])
 (.seq (.reg [⟨(some 75), none, (.p (.load true 2 (.t 9)))⟩, ⟨(some 76), none, (.p (.mov (.t 13)))⟩, ⟨none, none, (.m (.store 2 (.t 6) (.t 75)))⟩, ⟨(some 7), none, (.p (.mov (.t 76)))⟩, ⟨(some 8), none, (.p (.mov (.c (.bool true))))⟩])
 (.ret)))))))))
theorem m_rread_ok : compF Try.prog 73 = some (77, m_rread, [.load true 2 (.t 6), .mov (.t 7), .mov (.t 8)]) := by kernel_rfl
theorem setOff_nat (f : Files) (i : Nat) (x : Int) : setOff f i x = f.opens.set i ⟨f.opens[i]!.file, x, f.opens[i]!.write⟩ := rfl
theorem dat_nat (f : Files) (i : Nat) : dat f i = f.data[f.opens[i]!.file.toNat]! := rfl
theorem opd_nat {f : Files} {i : Nat} (c : opd f i) : i < f.opens.length ∧ f.opens[i]!.file ≠ -1 := ⟨by have := c.2.1; omega, c.2.2⟩
theorem sSeek_T {f : Files} {h x : Int} (c : opd f h) (c1 : 0 ≤ x) (c2 : x ≤ (dat f h).length) : sSeek f h x = (⟨f.data, setOff f h x⟩, true) := by unfold sSeek; exact if_pos ⟨c, c1, c2⟩
theorem sSeek_F {f : Files} {h x : Int} (c : ¬ (opd f h ∧ 0 ≤ x ∧ x ≤ (dat f h).length)) : sSeek f h x = (f, false) := by unfold sSeek; exact if_neg c
theorem sRead_T {f : Files} {h n : Int} (c : opd f h) (c1 : 0 ≤ n) (c2 : f.opens[h.toNat]!.write = false) : sRead f h n = (⟨f.data, setOff f h (f.opens[h.toNat]!.offset + rdn f h n)⟩, ((dat f h).drop f.opens[h.toNat]!.offset.toNat).take (rdn f h n).toNat, true) := by unfold sRead; exact if_pos ⟨c, c1, c2⟩
theorem sRead_F {f : Files} {h n : Int} (c : ¬ (opd f h ∧ 0 ≤ n ∧ f.opens[h.toNat]!.write = false)) : sRead f h n = (f, [], false) := by unfold sRead; exact if_neg c
attribute [local irreducible] sSeek sRead setOff dat rdn
set_option maxHeartbeats 8000000 in
theorem wseek_fn (f : Files) (F : FitF f) (h x : Int) : Fnc Try.prog 44 [filV f, .int .i64 h, .int .i64 x] (fun y obs => y = .tup [filV (sSeek f h x).1, .bool (sSeek f h x).2] ∧ obs = []) := by
  refine Fnc.low ?_
  have fO := opened_fn f F h
  by_cases c : opd f h
  · have ha := F.at c
    rw [decT c] at fO
    obtain ⟨i, hi⟩ : ∃ i : Nat, h = i := ⟨h.toNat, by have := c.1; omega⟩
    subst hi
    rw [Int.toNat_natCast] at ha
    have hd := dat_nat f i
    have ho := setOff_nat f i x
    obtain ⟨c2, c3⟩ := opd_nat c
    have hdl : (dat f i).length = f.data[f.opens[i]!.file.toNat]!.length := by rw [hd]
    by_cases c4 : x < 0
    · rw [sSeek_F (fun k => by have := k.2.1; omega)]
      refine Fnc.intro m_wseek_ok (by simp) fun W S => ?_
      unfold m_wseek
      simp only [ents, Nat.zero_add, Nat.reduceAdd]
      refine zst ?_
      (first | refine callX (wcopy_fn f F.low) ?_ | refine callXw (wcopy_fn f F.low) ?_); simp only [go_sem]
      refine zst ?_
      (first | refine callD (fO) ?_ | refine callDw (fO) ?_); simp only [go_sem]
      refine zst ?_
      refine ret m_wseek_ok [] ?_; exact zfn
    by_cases c5 : ((dat f i).length : Int) < x
    · rw [sSeek_F (fun k => by have := k.2.2; omega)]
      refine Fnc.intro m_wseek_ok (by simp) fun W S => ?_
      unfold m_wseek
      simp only [ents, Nat.zero_add, Nat.reduceAdd]
      refine zst ?_
      (first | refine callX (wcopy_fn f F.low) ?_ | refine callXw (wcopy_fn f F.low) ?_); simp only [go_sem]
      refine zst ?_
      (first | refine callD (fO) ?_ | refine callDw (fO) ?_); simp only [go_sem]
      refine zst ?_
      refine ret m_wseek_ok [] ?_; exact zfn
    · rw [sSeek_T c (by omega) (by omega)]
      refine Fnc.intro m_wseek_ok (by simp) fun W S => ?_
      unfold m_wseek
      simp only [ents, Nat.zero_add, Nat.reduceAdd]
      refine zst ?_
      (first | refine callX (wcopy_fn f F.low) ?_ | refine callXw (wcopy_fn f F.low) ?_); simp only [go_sem]
      refine zst ?_
      (first | refine callD (fO) ?_ | refine callDw (fO) ?_); simp only [go_sem]
      refine zst ?_
      refine ret m_wseek_ok [] ?_; exact zfh ho
  · rw [decF c] at fO
    rw [sSeek_F (fun k => c k.1)]
    refine Fnc.intro m_wseek_ok (by simp) fun W S => ?_
    unfold m_wseek
    simp only [ents, Nat.zero_add, Nat.reduceAdd]
    refine zst ?_
    (first | refine callX (wcopy_fn f F.low) ?_ | refine callXw (wcopy_fn f F.low) ?_); simp only [go_sem]
    refine zst ?_
    (first | refine callD (fO) ?_ | refine callDw (fO) ?_); simp only [go_sem]
    refine zst ?_
    refine ret m_wseek_ok [] ?_; exact zfn
set_option maxHeartbeats 8000000 in
theorem rseek_fn (f : Files) (F : FitF f) (h x : Int) : Fnc Try.prog 76 [filV f, .int .i64 h, .int .i64 x] (fun y obs => y = .tup [filV (sSeek f h x).1, .bool (sSeek f h x).2] ∧ obs = []) := by
  refine Fnc.low ?_
  have fO := ropen_fn f F h
  by_cases c : opd f h
  · have ha := F.at c
    rw [decT c] at fO
    obtain ⟨i, hi⟩ : ∃ i : Nat, h = i := ⟨h.toNat, by have := c.1; omega⟩
    subst hi
    rw [Int.toNat_natCast] at ha
    have hd := dat_nat f i
    have ho := setOff_nat f i x
    obtain ⟨c2, c3⟩ := opd_nat c
    have hdl : (dat f i).length = f.data[f.opens[i]!.file.toNat]!.length := by rw [hd]
    by_cases c4 : x < 0
    · rw [sSeek_F (fun k => by have := k.2.1; omega)]
      refine Fnc.intro m_rseek_ok (by simp) fun W S => ?_
      unfold m_rseek
      simp only [ents, Nat.zero_add, Nat.reduceAdd]
      refine zst ?_
      (first | refine callX (rcopy_fn f F.low) ?_ | refine callXw (rcopy_fn f F.low) ?_); simp only [go_sem]
      refine zst ?_
      (first | refine callD (fO) ?_ | refine callDw (fO) ?_); simp only [go_sem]
      refine zst ?_
      refine ret m_rseek_ok [] ?_; exact zfn
    by_cases c5 : ((dat f i).length : Int) < x
    · rw [sSeek_F (fun k => by have := k.2.2; omega)]
      refine Fnc.intro m_rseek_ok (by simp) fun W S => ?_
      unfold m_rseek
      simp only [ents, Nat.zero_add, Nat.reduceAdd]
      refine zst ?_
      (first | refine callX (rcopy_fn f F.low) ?_ | refine callXw (rcopy_fn f F.low) ?_); simp only [go_sem]
      refine zst ?_
      (first | refine callD (fO) ?_ | refine callDw (fO) ?_); simp only [go_sem]
      refine zst ?_
      refine ret m_rseek_ok [] ?_; exact zfn
    · rw [sSeek_T c (by omega) (by omega)]
      refine Fnc.intro m_rseek_ok (by simp) fun W S => ?_
      unfold m_rseek
      simp only [ents, Nat.zero_add, Nat.reduceAdd]
      refine zst ?_
      (first | refine callX (rcopy_fn f F.low) ?_ | refine callXw (rcopy_fn f F.low) ?_); simp only [go_sem]
      refine zst ?_
      (first | refine callD (fO) ?_ | refine callDw (fO) ?_); simp only [go_sem]
      refine zst ?_
      refine ret m_rseek_ok [] ?_; exact zfh ho
  · rw [decF c] at fO
    rw [sSeek_F (fun k => c k.1)]
    refine Fnc.intro m_rseek_ok (by simp) fun W S => ?_
    unfold m_rseek
    simp only [ents, Nat.zero_add, Nat.reduceAdd]
    refine zst ?_
    (first | refine callX (rcopy_fn f F.low) ?_ | refine callXw (rcopy_fn f F.low) ?_); simp only [go_sem]
    refine zst ?_
    (first | refine callD (fO) ?_ | refine callDw (fO) ?_); simp only [go_sem]
    refine zst ?_
    refine ret m_rseek_ok [] ?_; exact zfn
set_option maxHeartbeats 8000000 in
theorem wread_fn (f : Files) (F : FitF f) (h n : Int) : Fnc Try.prog 41 [filV f, .int .i64 h, .int .i64 n] (fun y obs => y = .tup [filV (sRead f h n).1, cnV false (sRead f h n).2.1, .bool (sRead f h n).2.2] ∧ obs = []) := by
  refine Fnc.low ?_
  have fO := opened_fn f F h
  by_cases c : opd f h
  · have ha := F.at c
    rw [decT c] at fO
    obtain ⟨i, hi⟩ : ∃ i : Nat, h = i := ⟨h.toNat, by have := c.1; omega⟩
    subst hi
    have hR := @sRead_T f i n c
    rw [Int.toNat_natCast] at ha hR
    have hd := dat_nat f i
    obtain ⟨c2, c3⟩ := opd_nat c
    by_cases c4 : n < 0
    · rw [sRead_F (fun k => by have := k.2.1; omega)]
      refine Fnc.intro m_wread_ok (by simp) fun W S => ?_
      unfold m_wread
      simp only [ents, Nat.zero_add, Nat.reduceAdd]
      refine zst ?_
      (first | refine callX (wcopy_fn f F.low) ?_ | refine callXw (wcopy_fn f F.low) ?_); simp only [go_sem]
      refine zst ?_
      (first | refine callD (fO) ?_ | refine callDw (fO) ?_); simp only [go_sem]
      refine zst ?_
      refine ev_nil2 7 true 4 rfl ?_
      refine ret m_wread_ok [] ?_; exact zfn
    by_cases c5 : f.opens[i]!.write = true
    · rw [sRead_F (fun k => by rw [Int.toNat_natCast] at k; rw [c5] at k; cases k.2.2)]
      refine Fnc.intro m_wread_ok (by simp) fun W S => ?_
      unfold m_wread
      simp only [ents, Nat.zero_add, Nat.reduceAdd]
      refine zst ?_
      (first | refine callX (wcopy_fn f F.low) ?_ | refine callXw (wcopy_fn f F.low) ?_); simp only [go_sem]
      refine zst ?_
      (first | refine callD (fO) ?_ | refine callDw (fO) ?_); refine zev ?_
      refine zsx c5 ?_
      refine ev_nil2 7 true 4 rfl ?_
      refine ret m_wread_ok [] ?_; exact zfn
    · have c6 : f.opens[i]!.write = false := by simpa using c5
      rw [hR (by omega) c6]
      refine Fnc.intro m_wread_ok (by simp) fun W S => ?_
      unfold m_wread
      simp only [ents, Nat.zero_add, Nat.reduceAdd]
      refine zst ?_
      (first | refine callX (wcopy_fn f F.low) ?_ | refine callXw (wcopy_fn f F.low) ?_); simp only [go_sem]
      refine zst ?_
      (first | refine callD (fO) ?_ | refine callDw (fO) ?_); refine zev ?_
      obtain ⟨D, hD⟩ : ∃ D, f.data[f.opens[i]!.file.toNat]! = D := ⟨_, rfl⟩
      rw [hD] at hd
      rw [hd] at ha ⊢
      have hm : (if ((D.length - f.opens[i]!.offset.toNat : Nat) : Int) < n then ((D.length - f.opens[i]!.offset.toNat : Nat) : Int) else n) = rdn f i n := by
        unfold rdn
        rw [Int.toNat_natCast, hd]
        split <;> omega
      obtain ⟨K, hK⟩ : ∃ K : Nat, rdn f i n = K := ⟨(rdn f i n).toNat, by rw [← hm]; split <;> omega⟩
      have hKD : f.opens[i]!.offset.toNat + K ≤ D.length := by rw [hK] at hm; split at hm <;> omega
      have hlen : (((D.drop f.opens[i]!.offset.toNat).take K).length : Int) = K := by rw [List.length_take, List.length_drop]; omega
      have hTl : ((D.drop f.opens[i]!.offset.toNat).take K).length ≤ 64 := by omega
      have ho := setOff_nat f i (f.opens[i]!.offset + K)
      rw [hK] at hm ⊢
      repeat (first | (simp only [c6, hD, hm]; try simp only [go_sem]) | refine And.intro (by omega) ?_ | refine And.intro rfl ?_ | refine ev_ctl rfl rfl ?_ | refine evr_nil ?_ | refine evw_nil (by kernel_rfl) ?_ | (simp (disch := omega) only [takeAll, Nat.min_eq_left, Nat.min_eq_right, if_pos, if_neg, getD_map, wrapI64, modIn, fdivE, tmodE, tdivE, decT, decF, beqT, beqF, bneT, bneF, Int.toNat_natCast]; try simp only [go_sem]) | (refine ev_condTb rfl ?_ ?_; · (simp <;> omega)) | (refine ev_condFb rfl ?_ ?_; · (simp <;> omega)) | ((first | refine ev_region ?_ | refine evr_go rfl ?_ | refine evw_go rfl ?_ | refine ev_dr0 mixed rfl (by kernel_rfl) ?_ | refine ev_dr1 mixed rfl (by kernel_rfl) ?_ | refine ev_dr2 mixed rfl (by kernel_rfl) ?_); simp only [go_sem]))
      (first | refine callD (ccl_fn ((D.drop f.opens[i]!.offset.toNat).take K) (by omega)) ?_ | refine callDw (ccl_fn ((D.drop f.opens[i]!.offset.toNat).take K) (by omega)) ?_); refine zev ?_
      refine zsx hlen ?_
      refine ret m_wread_ok [] ?_; exact zfh ho
  · rw [decF c] at fO
    rw [sRead_F (fun k => c k.1)]
    refine Fnc.intro m_wread_ok (by simp) fun W S => ?_
    unfold m_wread
    simp only [ents, Nat.zero_add, Nat.reduceAdd]
    refine zst ?_
    (first | refine callX (wcopy_fn f F.low) ?_ | refine callXw (wcopy_fn f F.low) ?_); simp only [go_sem]
    refine zst ?_
    (first | refine callD (fO) ?_ | refine callDw (fO) ?_); simp only [go_sem]
    refine zst ?_
    refine ev_nil2 7 true 4 rfl ?_
    refine ret m_wread_ok [] ?_; exact zfn
set_option maxHeartbeats 8000000 in
theorem rread_fn (f : Files) (F : FitF f) (h n : Int) : Fnc Try.prog 73 [filV f, .int .i64 h, .int .i64 n] (fun y obs => y = .tup [filV (sRead f h n).1, cnV false (sRead f h n).2.1, .bool (sRead f h n).2.2] ∧ obs = []) := by
  refine Fnc.low ?_
  have fO := ropen_fn f F h
  by_cases c : opd f h
  · have ha := F.at c
    rw [decT c] at fO
    obtain ⟨i, hi⟩ : ∃ i : Nat, h = i := ⟨h.toNat, by have := c.1; omega⟩
    subst hi
    have hR := @sRead_T f i n c
    rw [Int.toNat_natCast] at ha hR
    have hd := dat_nat f i
    obtain ⟨c2, c3⟩ := opd_nat c
    by_cases c4 : n < 0
    · rw [sRead_F (fun k => by have := k.2.1; omega)]
      refine Fnc.intro m_rread_ok (by simp) fun W S => ?_
      unfold m_rread
      simp only [ents, Nat.zero_add, Nat.reduceAdd]
      refine zst ?_
      (first | refine callX (rcopy_fn f F.low) ?_ | refine callXw (rcopy_fn f F.low) ?_); simp only [go_sem]
      refine zst ?_
      (first | refine callD (fO) ?_ | refine callDw (fO) ?_); simp only [go_sem]
      refine zst ?_
      refine ev_nil2 7 true 4 rfl ?_
      refine ret m_rread_ok [] ?_; exact zfn
    by_cases c5 : f.opens[i]!.write = true
    · rw [sRead_F (fun k => by rw [Int.toNat_natCast] at k; rw [c5] at k; cases k.2.2)]
      refine Fnc.intro m_rread_ok (by simp) fun W S => ?_
      unfold m_rread
      simp only [ents, Nat.zero_add, Nat.reduceAdd]
      refine zst ?_
      (first | refine callX (rcopy_fn f F.low) ?_ | refine callXw (rcopy_fn f F.low) ?_); simp only [go_sem]
      refine zst ?_
      (first | refine callD (fO) ?_ | refine callDw (fO) ?_); refine zev ?_
      refine zsx c5 ?_
      refine ev_nil2 7 true 4 rfl ?_
      refine ret m_rread_ok [] ?_; exact zfn
    · have c6 : f.opens[i]!.write = false := by simpa using c5
      rw [hR (by omega) c6]
      refine Fnc.intro m_rread_ok (by simp) fun W S => ?_
      unfold m_rread
      simp only [ents, Nat.zero_add, Nat.reduceAdd]
      refine zst ?_
      (first | refine callX (rcopy_fn f F.low) ?_ | refine callXw (rcopy_fn f F.low) ?_); simp only [go_sem]
      refine zst ?_
      (first | refine callD (fO) ?_ | refine callDw (fO) ?_); refine zev ?_
      obtain ⟨D, hD⟩ : ∃ D, f.data[f.opens[i]!.file.toNat]! = D := ⟨_, rfl⟩
      rw [hD] at hd
      rw [hd] at ha ⊢
      have hm : (if (D.length : Int) - f.opens[i]!.offset < n then (D.length : Int) - f.opens[i]!.offset else n) = rdn f i n := by
        unfold rdn
        rw [Int.toNat_natCast, hd]
        split <;> omega
      obtain ⟨K, hK⟩ : ∃ K : Nat, rdn f i n = K := ⟨(rdn f i n).toNat, by rw [← hm]; split <;> omega⟩
      have hKD : f.opens[i]!.offset.toNat + K ≤ D.length := by rw [hK] at hm; split at hm <;> omega
      have hlen : (((D.drop f.opens[i]!.offset.toNat).take K).length : Int) = K := by rw [List.length_take, List.length_drop]; omega
      have hTl : ((D.drop f.opens[i]!.offset.toNat).take K).length ≤ 64 := by omega
      have hTd : (D.take (f.opens[i]!.offset + (K : Int)).toNat).drop f.opens[i]!.offset.toNat = (D.drop f.opens[i]!.offset.toNat).take K := by
        rw [List.drop_take]
        congr 1
        omega
      have ho := setOff_nat f i (f.opens[i]!.offset + K)
      rw [c6] at ho
      rw [hK] at hm ⊢
      repeat (first | (simp only [c6, hD, hm, hTd]; try simp only [go_sem]) | refine And.intro (by omega) ?_ | refine And.intro rfl ?_ | refine ev_ctl rfl rfl ?_ | refine evr_nil ?_ | refine evw_nil (by kernel_rfl) ?_ | (simp (disch := omega) only [takeAll, Nat.min_eq_left, Nat.min_eq_right, if_pos, if_neg, getD_map, wrapI64, modIn, fdivE, tmodE, tdivE, decT, decF, beqT, beqF, bneT, bneF, Int.toNat_natCast]; try simp only [go_sem]) | (refine ev_condTb rfl ?_ ?_; · (simp <;> omega)) | (refine ev_condFb rfl ?_ ?_; · (simp <;> omega)) | ((first | refine ev_region ?_ | refine evr_go rfl ?_ | refine evw_go rfl ?_ | refine ev_dr0 mixed rfl (by kernel_rfl) ?_ | refine ev_dr1 mixed rfl (by kernel_rfl) ?_ | refine ev_dr2 mixed rfl (by kernel_rfl) ?_); simp only [go_sem]))
      refine ret m_rread_ok [] ?_; exact zfh ho
  · rw [decF c] at fO
    rw [sRead_F (fun k => c k.1)]
    refine Fnc.intro m_rread_ok (by simp) fun W S => ?_
    unfold m_rread
    simp only [ents, Nat.zero_add, Nat.reduceAdd]
    refine zst ?_
    (first | refine callX (rcopy_fn f F.low) ?_ | refine callXw (rcopy_fn f F.low) ?_); simp only [go_sem]
    refine zst ?_
    (first | refine callD (fO) ?_ | refine callDw (fO) ?_); simp only [go_sem]
    refine zst ?_
    refine ev_nil2 7 true 4 rfl ?_
    refine ret m_rread_ok [] ?_; exact zfn
end Go.Proofs.Ytkfpcgkmemfdaaa
/- Files: Open. -/
namespace Go.Proofs.Ytkfpcgkmemfdaaa
open Go Go.RowKit Rdn Rdn.Dp
set_option linter.unusedVariables false
set_option linter.unusedSimpArgs false
def m_wopen : MC := .seq (.reg [⟨(some 3), none, (.m (.box 28 (.t 0)))⟩, ⟨(some 6), none, (.m (.alloc 28 (.agg [.nilS, .nilS])))⟩, ⟨(some 7), none, (.p (.mov (.c (.int .i64 0))))⟩])
 (.seq (.reg [⟨(some 12), none, (.p (.load true 2 (.t 3)))⟩, ⟨(some 13), none, (.call 65 [(.t 12)])⟩, ⟨(some 8), none, (.m (.alloc 28 (.agg [.nilS, .nilS])))⟩, ⟨none, none, (.m (.store 2 (.t 8) (.t 13)))⟩])
 (.seq (.reg [⟨(some 14), none, (.p (.fieldA 1 1 (.t 8)))⟩, ⟨(some 15), none, (.p (.load false 1 (.t 14)))⟩, ⟨(some 16), none, (.call 88 [(.t 15), (.c (.fn 89))])⟩, ⟨(some 9), none, (.p (.mov (.t 16)))⟩])
 (.seq (.seq (.reg [⟨(some 17), none, (.p (.mov (.t 1)))⟩, ⟨(some 18), none, (.p (.bin 0 .lss (.t 17) (.c (.int .i64 0))))⟩, ⟨(some 19), none, (.p (.mov (.t 18)))⟩, ⟨(some 20), (some (19, false)), (.p (.mov (.t 1)))⟩, ⟨(some 21), (some (19, false)), (.p (.fieldA 0 0 (.t 3)))⟩, ⟨(some 22), (some (19, false)), (.p (.load false 1 (.t 21)))⟩, ⟨(some 23), (some (19, false)), (.p (.len (.t 22)))⟩, ⟨(some 24), (some (19, false)), (.p (.bin 0 .geq (.t 20) (.t 23)))⟩, ⟨(some 25), none, (.p (.pick (.t 19) (.c (.bool true)) (.t 24)))⟩, ⟨(some 26), none, (.p (.mov (.t 25)))⟩, ⟨(some 27), (some (26, false)), (.p (.mov (.t 2)))⟩, ⟨(some 28), (some (26, false)), (.p (.bin 0 .lss (.t 27) (.c (.int .i64 0))))⟩, ⟨(some 29), none, (.p (.pick (.t 26) (.c (.bool true)) (.t 28)))⟩, ⟨(some 30), none, (.p (.mov (.t 29)))⟩, ⟨(some 31), (some (30, false)), (.p (.mov (.t 2)))⟩, ⟨(some 32), (some (30, false)), (.p (.bin 0 .gtr (.t 31) (.c (.int .i64 2))))⟩, ⟨(some 33), none, (.p (.pick (.t 30) (.c (.bool true)) (.t 32)))⟩, ⟨(some 34), none, (.p (.mov (.t 33)))⟩, ⟨(some 35), (some (34, false)), (.p (.mov (.t 9)))⟩, ⟨(some 36), (some (34, false)), (.p (.bin 0 .lss (.t 35) (.c (.int .i64 0))))⟩, ⟨(some 37), none, (.p (.pick (.t 34) (.c (.bool true)) (.t 36)))⟩])
 (.cond (.t 37) (.seq (.reg [⟨(some 38), none, (.p (.load true 2 (.t 8)))⟩, ⟨none, none, (.m (.store 2 (.t 6) (.t 38)))⟩, ⟨(some 7), none, (.p (.mov (.c (.int .i64 (-1)))))⟩])
 (.ret)) (.skip)))
 (.seq (.seq (.reg [⟨(some 39), none, (.p (.mov (.t 2)))⟩])
 (.block 0 (.seq (.reg [⟨(some 41), none, (.p (.bin 0 .eql (.t 39) (.c (.int .i64 0))))⟩, ⟨(some 40), none, (.p (.mov (.t 41)))⟩])
 (.cond (.t 40) (.reg [⟨(some 42), none, (.p (.fieldA 1 1 (.t 8)))⟩, ⟨(some 43), none, (.p (.load false 1 (.t 42)))⟩, ⟨(some 44), none, (.p (.mov (.t 9)))⟩, ⟨(some 45), none, (.p (.mov (.t 1)))⟩, ⟨(some 46), none, (.m (.build none [.int .i64 0, .int .i64 0, .bool false] [(0, (.t 45))]))⟩, ⟨(some 47), none, (.p (.idxA 3 (.t 43) (.t 44)))⟩, ⟨none, none, (.m (.store 3 (.t 47) (.t 46)))⟩]) (.seq (.reg [⟨(some 49), none, (.p (.bin 0 .eql (.t 39) (.c (.int .i64 1))))⟩, ⟨(some 48), none, (.p (.mov (.t 49)))⟩])
 (.cond (.t 48) (.seq (.reg [⟨(some 50), none, (.p (.fieldA 0 0 (.t 8)))⟩, ⟨(some 51), none, (.p (.load false 1 (.t 50)))⟩, ⟨(some 52), none, (.p (.mov (.t 1)))⟩, ⟨(some 53), none, (.p (.idxA 1 (.t 51) (.t 52)))⟩, ⟨none, none, (.m (.store 1 (.t 53) (.c (.nilS))))⟩])
 (.seq (.seq (.reg [⟨(some 54), none, (.p (.fieldA 1 1 (.t 8)))⟩, ⟨(some 55), none, (.p (.load false 1 (.t 54)))⟩, ⟨(some 56), none, (.p (.len (.t 55)))⟩, ⟨(some 57), none, (.p (.mov (.c (.int .i64 0))))⟩])
 (.block 1 (.loop (.seq (.reg [⟨(some 58), none, (.p (.bin 0 .lss (.t 57) (.t 56)))⟩])
 (.seq (.cond (.t 58) (.skip) (.exit 1))
 (.seq (.block 2 (.seq (.reg [⟨(some 59), none, (.p (.mov (.t 57)))⟩, ⟨(some 60), none, (.p (.idxA 3 (.t 55) (.t 57)))⟩, ⟨(some 61), none, (.p (.load true 3 (.t 60)))⟩, ⟨(some 11), none, (.m (.alloc 102 (.agg [.int .i64 0, .int .i64 0, .bool false])))⟩, ⟨(some 10), none, (.p (.mov (.t 59)))⟩, ⟨none, none, (.m (.store 3 (.t 11) (.t 61)))⟩])
 (.seq (.reg [⟨(some 62), none, (.p (.fieldA 0 0 (.t 11)))⟩, ⟨(some 63), none, (.p (.load false 1 (.t 62)))⟩, ⟨(some 64), none, (.p (.mov (.t 1)))⟩, ⟨(some 65), none, (.p (.bin 0 .eql (.t 63) (.t 64)))⟩])
 (.cond (.t 65) (.reg [⟨(some 66), none, (.p (.fieldA 1 1 (.t 8)))⟩, ⟨(some 67), none, (.p (.load false 1 (.t 66)))⟩, ⟨(some 68), none, (.p (.mov (.t 10)))⟩, ⟨(some 69), none, (.p (.idxA 3 (.t 67) (.t 68)))⟩, ⟨(some 70), none, (.p (.fieldA 1 1 (.t 69)))⟩, ⟨none, none, (.m (.store 1 (.t 70) (.c (.int .i64 0))))⟩]) (.skip)))))
 (.reg [⟨(some 71), none, (.p (.bin 0 .add (.t 57) (.c (.int .i64 1))))⟩, ⟨(some 57), none, (.p (.mov (.t 71)))⟩])))))))
 (.reg [⟨(some 72), none, (.p (.fieldA 1 1 (.t 8)))⟩, ⟨(some 73), none, (.p (.load false 1 (.t 72)))⟩, ⟨(some 74), none, (.p (.mov (.t 9)))⟩, ⟨(some 75), none, (.p (.mov (.t 1)))⟩, ⟨(some 76), none, (.m (.build none [.int .i64 0, .int .i64 0, .bool false] [(0, (.t 75)), (2, (.c (.bool true)))]))⟩, ⟨(some 77), none, (.p (.idxA 3 (.t 73) (.t 74)))⟩, ⟨none, none, (.m (.store 3 (.t 77) (.t 76)))⟩]))) (.seq (.reg [⟨(some 79), none, (.p (.bin 0 .eql (.t 39) (.c (.int .i64 2))))⟩, ⟨(some 78), none, (.p (.mov (.t 79)))⟩])
 (.cond (.t 78) (.dreg [⟨(some 80), none, (.p (.fieldA 1 1 (.t 8)))⟩, ⟨(some 81), none, (.p (.load false 1 (.t 80)))⟩, ⟨(some 82), none, (.p (.mov (.t 9)))⟩, ⟨(some 83), none, (.p (.mov (.t 1)))⟩, ⟨(some 84), none, (.p (.fieldA 0 0 (.t 8)))⟩, ⟨(some 85), none, (.p (.load false 1 (.t 84)))⟩, ⟨(some 86), none, (.p (.mov (.t 1)))⟩, ⟨(some 87), none, (.p (.idxA 1 (.t 85) (.t 86)))⟩, ⟨(some 88), none, (.p (.load false 1 (.t 87)))⟩, ⟨(some 89), none, (.p (.len (.t 88)))⟩, ⟨(some 90), none, (.m (.build none [.int .i64 0, .int .i64 0, .bool false] [(0, (.t 83)), (1, (.t 89)), (2, (.c (.bool true)))]))⟩, ⟨(some 91), none, (.p (.idxA 3 (.t 81) (.t 82)))⟩, ⟨none, none, (.m (.store 3 (.t 91) (.t 90)))⟩] [[], [0], [], [], [], [4], [], [4, 5, 6], [4, 5, 6, 7], [4, 5, 6, 7, 8], [3, 4, 5, 6, 7, 8, 9], [0, 1, 2, 3, 4, 5, 6, 7, 8, 9, 10], [0, 1, 2, 3, 4, 5, 6, 7, 8, 9, 10, 11]]) (.skip)))))))))
 (.seq (.reg [⟨(some 92), none, (.p (.load true 2 (.t 8)))⟩, ⟨(some 93), none, (.p (.mov (.t 9)))⟩, ⟨none, none, (.m (.store 2 (.t 6) (.t 92)))⟩, ⟨(some 7), none, (.p (.mov (.t 93)))⟩])
 (.ret))))))
theorem m_wopen_ok : compF Try.prog 42 = some (94, m_wopen, [.load true 2 (.t 6), .mov (.t 7)]) := by kernel_rfl
def m_rropen : MC := .seq (.reg [⟨(some 3), none, (.m (.box 28 (.t 0)))⟩, ⟨(some 6), none, (.m (.alloc 28 (.agg [.nilS, .nilS])))⟩, ⟨(some 7), none, (.p (.mov (.c (.int .i64 0))))⟩])
 (.seq (.reg [⟨(some 11), none, (.p (.load true 2 (.t 3)))⟩, ⟨(some 12), none, (.call 100 [(.t 11)])⟩, ⟨(some 8), none, (.m (.alloc 28 (.agg [.nilS, .nilS])))⟩, ⟨none, none, (.m (.store 2 (.t 8) (.t 12)))⟩])
 (.seq (.reg [⟨(some 9), none, (.p (.mov (.c (.int .i64 0))))⟩])
 (.seq (.block 0 (.loop (.seq (.seq (.reg [⟨(some 13), none, (.p (.mov (.t 9)))⟩, ⟨(some 14), none, (.p (.fieldA 1 1 (.t 3)))⟩, ⟨(some 15), none, (.p (.load false 1 (.t 14)))⟩, ⟨(some 16), none, (.p (.len (.t 15)))⟩, ⟨(some 17), none, (.p (.bin 0 .lss (.t 13) (.t 16)))⟩, ⟨(some 18), none, (.p (.mov (.t 17)))⟩, ⟨(some 19), (some (18, true)), (.p (.fieldA 1 1 (.t 3)))⟩, ⟨(some 20), (some (18, true)), (.p (.load false 1 (.t 19)))⟩, ⟨(some 21), (some (18, true)), (.p (.mov (.t 9)))⟩, ⟨(some 22), (some (18, true)), (.p (.idxA 3 (.t 20) (.t 21)))⟩, ⟨(some 23), (some (18, true)), (.p (.fieldA 0 0 (.t 22)))⟩, ⟨(some 24), (some (18, true)), (.p (.load false 1 (.t 23)))⟩, ⟨(some 25), (some (18, true)), (.p (.bin 0 .neq (.t 24) (.c (.int .i64 (-1)))))⟩, ⟨(some 26), none, (.p (.pick (.t 18) (.t 25) (.c (.bool false))))⟩])
 (.cond (.t 26) (.skip) (.exit 0)))
 (.block 1 (.reg [⟨(some 27), none, (.p (.mov (.t 9)))⟩, ⟨(some 28), none, (.p (.bin 0 .add (.t 27) (.c (.int .i64 1))))⟩, ⟨(some 9), none, (.p (.mov (.t 28)))⟩])))))
 (.seq (.seq (.reg [⟨(some 29), none, (.p (.mov (.t 1)))⟩, ⟨(some 30), none, (.p (.bin 0 .lss (.t 29) (.c (.int .i64 0))))⟩, ⟨(some 31), none, (.p (.mov (.t 30)))⟩, ⟨(some 32), (some (31, false)), (.p (.mov (.t 1)))⟩, ⟨(some 33), (some (31, false)), (.p (.fieldA 0 0 (.t 3)))⟩, ⟨(some 34), (some (31, false)), (.p (.load false 1 (.t 33)))⟩, ⟨(some 35), (some (31, false)), (.p (.len (.t 34)))⟩, ⟨(some 36), (some (31, false)), (.p (.bin 0 .geq (.t 32) (.t 35)))⟩, ⟨(some 37), none, (.p (.pick (.t 31) (.c (.bool true)) (.t 36)))⟩, ⟨(some 38), none, (.p (.mov (.t 37)))⟩, ⟨(some 39), (some (38, false)), (.p (.mov (.t 2)))⟩, ⟨(some 40), (some (38, false)), (.p (.bin 0 .lss (.t 39) (.c (.int .i64 0))))⟩, ⟨(some 41), none, (.p (.pick (.t 38) (.c (.bool true)) (.t 40)))⟩, ⟨(some 42), none, (.p (.mov (.t 41)))⟩, ⟨(some 43), (some (42, false)), (.p (.mov (.t 2)))⟩, ⟨(some 44), (some (42, false)), (.p (.bin 0 .gtr (.t 43) (.c (.int .i64 2))))⟩, ⟨(some 45), none, (.p (.pick (.t 42) (.c (.bool true)) (.t 44)))⟩, ⟨(some 46), none, (.p (.mov (.t 45)))⟩, ⟨(some 47), (some (46, false)), (.p (.mov (.t 9)))⟩, ⟨(some 48), (some (46, false)), (.p (.fieldA 1 1 (.t 3)))⟩, ⟨(some 49), (some (46, false)), (.p (.load false 1 (.t 48)))⟩, ⟨(some 50), (some (46, false)), (.p (.len (.t 49)))⟩, ⟨(some 51), (some (46, false)), (.p (.bin 0 .eql (.t 47) (.t 50)))⟩, ⟨(some 52), none, (.p (.pick (.t 46) (.c (.bool true)) (.t 51)))⟩])
 (.cond (.t 52) (.seq (.reg [⟨(some 53), none, (.p (.load true 2 (.t 8)))⟩, ⟨none, none, (.m (.store 2 (.t 6) (.t 53)))⟩, ⟨(some 7), none, (.p (.mov (.c (.int .i64 (-1)))))⟩])
 (.ret)) (.skip)))
 (.seq (.seq (.reg [⟨(some 54), none, (.p (.mov (.t 2)))⟩, ⟨(some 55), none, (.p (.bin 0 .eql (.t 54) (.c (.int .i64 1))))⟩])
 (.cond (.t 55) (.seq (.reg [⟨(some 56), none, (.p (.fieldA 0 0 (.t 8)))⟩, ⟨(some 57), none, (.p (.load false 1 (.t 56)))⟩, ⟨(some 58), none, (.p (.mov (.t 1)))⟩, ⟨(some 59), none, (.p (.idxA 1 (.t 57) (.t 58)))⟩, ⟨none, none, (.m (.store 1 (.t 59) (.c (.nilS))))⟩])
 (.seq (.reg [⟨(some 60), none, (.p (.fieldA 1 1 (.t 8)))⟩, ⟨(some 61), none, (.p (.load false 1 (.t 60)))⟩, ⟨(some 62), none, (.p (.len (.t 61)))⟩, ⟨(some 63), none, (.p (.mov (.c (.int .i64 0))))⟩])
 (.block 2 (.loop (.seq (.reg [⟨(some 64), none, (.p (.bin 0 .lss (.t 63) (.t 62)))⟩])
 (.seq (.cond (.t 64) (.skip) (.exit 2))
 (.seq (.block 3 (.seq (.reg [⟨(some 65), none, (.p (.mov (.t 63)))⟩, ⟨(some 10), none, (.p (.mov (.t 65)))⟩])
 (.seq (.reg [⟨(some 66), none, (.p (.fieldA 1 1 (.t 8)))⟩, ⟨(some 67), none, (.p (.load false 1 (.t 66)))⟩, ⟨(some 68), none, (.p (.mov (.t 10)))⟩, ⟨(some 69), none, (.p (.idxA 3 (.t 67) (.t 68)))⟩, ⟨(some 70), none, (.p (.fieldA 0 0 (.t 69)))⟩, ⟨(some 71), none, (.p (.load false 1 (.t 70)))⟩, ⟨(some 72), none, (.p (.mov (.t 1)))⟩, ⟨(some 73), none, (.p (.bin 0 .eql (.t 71) (.t 72)))⟩])
 (.cond (.t 73) (.reg [⟨(some 74), none, (.p (.fieldA 1 1 (.t 8)))⟩, ⟨(some 75), none, (.p (.load false 1 (.t 74)))⟩, ⟨(some 76), none, (.p (.mov (.t 10)))⟩, ⟨(some 77), none, (.p (.idxA 3 (.t 75) (.t 76)))⟩, ⟨(some 78), none, (.p (.fieldA 1 1 (.t 77)))⟩, ⟨none, none, (.m (.store 1 (.t 78) (.c (.int .i64 0))))⟩]) (.skip)))))
 (.reg [⟨(some 79), none, (.p (.bin 0 .add (.t 63) (.c (.int .i64 1))))⟩, ⟨(some 63), none, (.p (.mov (.t 79)))⟩])))))))) (.skip)))
 (.seq (.reg [⟨(some 80), none, (.p (.fieldA 1 1 (.t 8)))⟩, ⟨(some 81), none, (.p (.load false 1 (.t 80)))⟩, ⟨(some 82), none, (.p (.mov (.t 9)))⟩, ⟨(some 83), none, (.p (.mov (.t 1)))⟩, ⟨(some 84), none, (.p (.mov (.t 2)))⟩, ⟨(some 85), none, (.p (.bin 0 .gtr (.t 84) (.c (.int .i64 0))))⟩, ⟨(some 86), none, (.m (.build none [.int .i64 0, .int .i64 0, .bool false] [(0, (.t 83)), (2, (.t 85))]))⟩, ⟨(some 87), none, (.p (.idxA 3 (.t 81) (.t 82)))⟩, ⟨none, none, (.m (.store 3 (.t 87) (.t 86)))⟩])
 (.seq (.seq (.reg [⟨(some 88), none, (.p (.mov (.t 2)))⟩, ⟨(some 89), none, (.p (.bin 0 .eql (.t 88) (.c (.int .i64 2))))⟩])
 (.cond (.t 89) (.dreg [⟨(some 90), none, (.p (.fieldA 1 1 (.t 8)))⟩, ⟨(some 91), none, (.p (.load false 1 (.t 90)))⟩, ⟨(some 92), none, (.p (.mov (.t 9)))⟩, ⟨(some 93), none, (.p (.fieldA 0 0 (.t 8)))⟩, ⟨(some 94), none, (.p (.load false 1 (.t 93)))⟩, ⟨(some 95), none, (.p (.mov (.t 1)))⟩, ⟨(some 96), none, (.p (.idxA 1 (.t 94) (.t 95)))⟩, ⟨(some 97), none, (.p (.load false 1 (.t 96)))⟩, ⟨(some 98), none, (.p (.len (.t 97)))⟩, ⟨(some 99), none, (.p (.idxA 3 (.t 91) (.t 92)))⟩, ⟨(some 100), none, (.p (.fieldA 1 1 (.t 99)))⟩, ⟨none, none, (.m (.store 1 (.t 100) (.t 98)))⟩] [[], [0], [], [], [3], [], [3, 4, 5], [3, 4, 5, 6], [3, 4, 5, 6, 7], [0, 1, 2, 3, 4, 5, 6, 7, 8], [0, 1, 2, 3, 4, 5, 6, 7, 8, 9], [0, 1, 2, 3, 4, 5, 6, 7, 8, 9, 10]]) (.skip)))
 (.seq (.reg [⟨(some 101), none, (.p (.load true 2 (.t 8)))⟩, ⟨(some 102), none, (.p (.mov (.t 9)))⟩, ⟨none, none, (.m (.store 2 (.t 6) (.t 101)))⟩, ⟨(some 7), none, (.p (.mov (.t 102)))⟩])
 (.ret)))))))))
theorem m_rropen_ok : compF Try.prog 74 = some (103, m_rropen, [.load true 2 (.t 6), .mov (.t 7)]) := by kernel_rfl
theorem hdl_at {f : Files} {j : Nat} (h : j < hdl f) : f.opens[j]!.file ≠ -1 := by
  have hl := hdl_le f
  have := List.not_of_lt_findIdx (p := fun o : Opn => decide (o.file = -1)) (xs := f.opens) h
  rw [getElem!_pos f.opens j (by omega)]
  simpa using this
theorem hdl_is {f : Files} (h : hdl f < f.opens.length) : f.opens[hdl f]!.file = -1 := by
  have := List.findIdx_getElem (p := fun o : Opn => decide (o.file = -1)) (xs := f.opens) (w := h)
  rw [getElem!_pos f.opens (hdl f) h]
  exact of_decide_eq_true this
theorem fnd_hdl (f : Files) : fnd isShut f.opens = if hdl f = f.opens.length then -1 else (hdl f : Int) := by
  have hl := hdl_le f
  split
  · rename_i e
    exact fnd_no fun j hj => decF (hdl_at (by omega))
  · exact fnd_at (by omega) (fun j hj => decF (hdl_at hj)) (decT (hdl_is (by omega)))
def clr (k : Int) (l : List Opn) (p : Nat) : List Opn := (l.take p).map (zr k) ++ l.drop p
theorem clr_len (k : Int) (l : List Opn) (p : Nat) : (clr k l p).length = l.length := by simp [clr]; omega
theorem clr_zero (k : Int) (l : List Opn) : clr k l 0 = l := rfl
theorem clr_end (k : Int) (l : List Opn) : clr k l l.length = l.map (zr k) := by simp [clr]
theorem clr_at {k : Int} {l : List Opn} {p : Nat} (h : p < l.length) : (clr k l p)[p]! = l[p]! := by
  rw [getElem!_pos _ p (by rw [clr_len]; exact h), getElem!_pos l p h]
  simp [clr, List.getElem_append, Nat.min_eq_left (Nat.le_of_lt h)]
theorem clr_set {k : Int} {l : List Opn} {p : Nat} (h : p < l.length) : (clr k l p).set p (zr k l[p]!) = clr k l (p + 1) := by
  unfold clr
  rw [List.set_append_right _ _ (by simp; omega), take_snoc h, List.map_append, List.append_assoc]
  congr 1
  have e : l.drop p = l[p]! :: l.drop (p + 1) := by rw [getElem!_pos l p h]; exact (List.getElem_cons_drop h).symm
  rw [e]
  simp [Nat.min_eq_left (Nat.le_of_lt h)]
theorem clr_no {k : Int} {l : List Opn} {p : Nat} (h : p < l.length) (c : l[p]!.file ≠ k) : clr k l (p + 1) = clr k l p := by
  rw [← clr_set h]
  have e : zr k l[p]! = (clr k l p)[p]! := by rw [clr_at h]; exact if_neg c
  rw [e, getElem!_pos _ p (by rw [clr_len]; exact h), List.set_getElem_self]
theorem clr_yes {k : Int} {l : List Opn} {p : Nat} (h : p < l.length) (c : l[p]!.file = k) : (clr k l p).set p ⟨l[p]!.file, 0, l[p]!.write⟩ = clr k l (p + 1) := by
  rw [← clr_set h]
  exact congrArg _ (if_pos c).symm
theorem sOpen_F {f : Files} {k m : Int} (c : k < 0 ∨ (f.data.length : Int) ≤ k ∨ m < 0 ∨ 2 < m ∨ hdl f = f.opens.length) : sOpen f k m = (f, -1) := by unfold sOpen; exact if_pos c
theorem sOpen_0 {f : Files} {k : Int} (c : ¬ (k < 0 ∨ (f.data.length : Int) ≤ k ∨ hdl f = f.opens.length)) : sOpen f k 0 = ((⟨f.data, f.opens.set (hdl f) ⟨k, 0, false⟩⟩ : Files), (hdl f : Int)) := by
  unfold sOpen
  rw [if_neg (by omega), if_pos rfl]
theorem sOpen_1 {f : Files} {k : Int} (c : ¬ (k < 0 ∨ (f.data.length : Int) ≤ k ∨ hdl f = f.opens.length)) : sOpen f k 1 = ((⟨f.data.set k.toNat [], (f.opens.map (zr k)).set (hdl f) ⟨k, 0, true⟩⟩ : Files), (hdl f : Int)) := by
  unfold sOpen
  rw [if_neg (by omega), if_neg (by omega), if_pos rfl]
theorem sOpen_2 {f : Files} {k : Int} (c : ¬ (k < 0 ∨ (f.data.length : Int) ≤ k ∨ hdl f = f.opens.length)) : sOpen f k 2 = ((⟨f.data, f.opens.set (hdl f) ⟨k, f.data[k.toNat]!.length, true⟩⟩ : Files), (hdl f : Int)) := by
  unfold sOpen
  rw [if_neg (by omega), if_neg (by omega), if_neg (by omega)]
attribute [local irreducible] sOpen hdl clr
set_option maxHeartbeats 8000000 in
theorem wopen_fn (f : Files) (F : FitF f) (k m : Int) : Fnc Try.prog 42 [filV f, .int .i64 k, .int .i64 m] (fun y obs => y = .tup [filV (sOpen f k m).1, .int .i64 (sOpen f k m).2] ∧ obs = []) := by
  refine Fnc.low ?_
  have fI := idxo_fn f.opens
  rw [fnd_hdl] at fI
  have hle := hdl_le f
  have h8 := F.o
  have h4 := F.d
  by_cases c5 : hdl f = f.opens.length
  · rw [if_pos c5] at fI
    rw [sOpen_F (.inr (.inr (.inr (.inr c5))))]
    by_cases c1 : k < 0
    · skip
      refine Fnc.intro m_wopen_ok (by simp) fun W S => ?_
      unfold m_wopen
      simp only [ents, Nat.zero_add, Nat.reduceAdd]
      refine zst ?_
      (first | refine callX (wcopy_fn f F.low) ?_ | refine callXw (wcopy_fn f F.low) ?_); simp only [go_sem]
      refine zst ?_
      (first | refine callD (fI) ?_ | refine callDw (fI) ?_); simp only [go_sem]
      refine zst ?_
      refine ret m_wopen_ok [] ?_; exact zfn
    by_cases c2 : (f.data.length : Int) ≤ k
    · skip
      refine Fnc.intro m_wopen_ok (by simp) fun W S => ?_
      unfold m_wopen
      simp only [ents, Nat.zero_add, Nat.reduceAdd]
      refine zst ?_
      (first | refine callX (wcopy_fn f F.low) ?_ | refine callXw (wcopy_fn f F.low) ?_); simp only [go_sem]
      refine zst ?_
      (first | refine callD (fI) ?_ | refine callDw (fI) ?_); simp only [go_sem]
      refine zst ?_
      refine ret m_wopen_ok [] ?_; exact zfn
    by_cases c3 : m < 0
    · skip
      refine Fnc.intro m_wopen_ok (by simp) fun W S => ?_
      unfold m_wopen
      simp only [ents, Nat.zero_add, Nat.reduceAdd]
      refine zst ?_
      (first | refine callX (wcopy_fn f F.low) ?_ | refine callXw (wcopy_fn f F.low) ?_); simp only [go_sem]
      refine zst ?_
      (first | refine callD (fI) ?_ | refine callDw (fI) ?_); simp only [go_sem]
      refine zst ?_
      refine ret m_wopen_ok [] ?_; exact zfn
    by_cases c4 : 2 < m
    · skip
      refine Fnc.intro m_wopen_ok (by simp) fun W S => ?_
      unfold m_wopen
      simp only [ents, Nat.zero_add, Nat.reduceAdd]
      refine zst ?_
      (first | refine callX (wcopy_fn f F.low) ?_ | refine callXw (wcopy_fn f F.low) ?_); simp only [go_sem]
      refine zst ?_
      (first | refine callD (fI) ?_ | refine callDw (fI) ?_); simp only [go_sem]
      refine zst ?_
      refine ret m_wopen_ok [] ?_; exact zfn
    · skip
      refine Fnc.intro m_wopen_ok (by simp) fun W S => ?_
      unfold m_wopen
      simp only [ents, Nat.zero_add, Nat.reduceAdd]
      refine zst ?_
      (first | refine callX (wcopy_fn f F.low) ?_ | refine callXw (wcopy_fn f F.low) ?_); simp only [go_sem]
      refine zst ?_
      (first | refine callD (fI) ?_ | refine callDw (fI) ?_); simp only [go_sem]
      refine zst ?_
      refine ret m_wopen_ok [] ?_; exact zfn
  rw [if_neg c5] at fI
  by_cases c1 : k < 0
  · rw [sOpen_F (.inl c1)]
    refine Fnc.intro m_wopen_ok (by simp) fun W S => ?_
    unfold m_wopen
    simp only [ents, Nat.zero_add, Nat.reduceAdd]
    refine zst ?_
    (first | refine callX (wcopy_fn f F.low) ?_ | refine callXw (wcopy_fn f F.low) ?_); simp only [go_sem]
    refine zst ?_
    (first | refine callD (fI) ?_ | refine callDw (fI) ?_); simp only [go_sem]
    refine zst ?_
    refine ret m_wopen_ok [] ?_; exact zfn
  by_cases c2 : (f.data.length : Int) ≤ k
  · rw [sOpen_F (.inr (.inl c2))]
    refine Fnc.intro m_wopen_ok (by simp) fun W S => ?_
    unfold m_wopen
    simp only [ents, Nat.zero_add, Nat.reduceAdd]
    refine zst ?_
    (first | refine callX (wcopy_fn f F.low) ?_ | refine callXw (wcopy_fn f F.low) ?_); simp only [go_sem]
    refine zst ?_
    (first | refine callD (fI) ?_ | refine callDw (fI) ?_); simp only [go_sem]
    refine zst ?_
    refine ret m_wopen_ok [] ?_; exact zfn
  by_cases c3 : m < 0
  · rw [sOpen_F (.inr (.inr (.inl c3)))]
    refine Fnc.intro m_wopen_ok (by simp) fun W S => ?_
    unfold m_wopen
    simp only [ents, Nat.zero_add, Nat.reduceAdd]
    refine zst ?_
    (first | refine callX (wcopy_fn f F.low) ?_ | refine callXw (wcopy_fn f F.low) ?_); simp only [go_sem]
    refine zst ?_
    (first | refine callD (fI) ?_ | refine callDw (fI) ?_); simp only [go_sem]
    refine zst ?_
    refine ret m_wopen_ok [] ?_; exact zfn
  by_cases c4 : 2 < m
  · rw [sOpen_F (.inr (.inr (.inr (.inl c4))))]
    refine Fnc.intro m_wopen_ok (by simp) fun W S => ?_
    unfold m_wopen
    simp only [ents, Nat.zero_add, Nat.reduceAdd]
    refine zst ?_
    (first | refine callX (wcopy_fn f F.low) ?_ | refine callXw (wcopy_fn f F.low) ?_); simp only [go_sem]
    refine zst ?_
    (first | refine callD (fI) ?_ | refine callDw (fI) ?_); simp only [go_sem]
    refine zst ?_
    refine ret m_wopen_ok [] ?_; exact zfn
  have hc : ¬ (k < 0 ∨ (f.data.length : Int) ≤ k ∨ hdl f = f.opens.length) := by omega
  have c5' : hdl f < f.opens.length := by omega
  have hm : m = 0 ∨ m = 1 ∨ m = 2 := by omega
  rcases hm with rfl | rfl | rfl
  · rw [sOpen_0 hc]
    refine Fnc.intro m_wopen_ok (by simp) fun W S => ?_
    unfold m_wopen
    simp only [ents, Nat.zero_add, Nat.reduceAdd]
    refine zst ?_
    (first | refine callX (wcopy_fn f F.low) ?_ | refine callXw (wcopy_fn f F.low) ?_); simp only [go_sem]
    refine zst ?_
    (first | refine callD (fI) ?_ | refine callDw (fI) ?_); simp only [go_sem]
    refine zst ?_
    refine ret m_wopen_ok [] ?_; exact zfn
  · rw [sOpen_1 hc]
    refine Fnc.intro m_wopen_ok (by simp) fun W S => ?_
    unfold m_wopen
    simp only [ents, Nat.zero_add, Nat.reduceAdd]
    refine zst ?_
    (first | refine callX (wcopy_fn f F.low) ?_ | refine callXw (wcopy_fn f F.low) ?_); simp only [go_sem]
    refine zst ?_
    (first | refine callD (fI) ?_ | refine callDw (fI) ?_); simp only [go_sem]
    refine zst ?_
    refine ev_loopK [1, 6, 8, 9, 55, 56] (fun p : {p : Nat // p ≤ f.opens.length} => [(57, .int .i64 p.1)]) (fun p => [⟨.box false 28, true, 0, filV f⟩, ⟨.box false 28, true, 0, .agg [.nilS, .nilS]⟩, ⟨.row 41, true, 0, .arr 1 ((f.data.map (slV' true 4 canonV)).set k.toNat .nilS)⟩, ⟨.row 102, true, 0, .arr 3 ((clr k f.opens p.1).map opnV)⟩, ⟨.box false 28, true, 0, .agg [.own 2 0, .own 3 0]⟩]) (fun p => f.opens.length - p.1) (⟨0, by simp⟩) 5 (by simp only [go_sem]; rfl) ?_ (by first | rfl | (simp only [go_sem]; done) | (simp only [go_sem]; simp [clr_zero]; done)) (by simp) (by first | rfl | (simp only [go_sem]; done)) (by first | rfl | (simp only [go_sem]; done)) (by first | rfl | (simp only [go_sem]; done) | (simp only [clr_zero]; (try simp only [go_sem]); first | done | rfl)) ?_
    · (simp only [go_sem]; (try simp [clr_zero]); done)
    intro J hJ
    rintro ⟨p, hp⟩
    have hcl := clr_len k f.opens p
    by_cases hlt : p < f.opens.length
    · have ha := clr_at (k := k) hlt
      by_cases ck : f.opens[p]!.file = k
      · have hs := clr_yes hlt ck
        rw [ck] at hs
        refine zsx (And.intro ha (ck)) ?_
        refine ev_next 5 (hJ _ (⟨p + 1, hlt⟩) (by first | omega | (dsimp only; omega) | (simp; omega))) rfl (by simp) ?_ (by first | rfl | (simp only [go_sem]; done)) (by first | rfl | (simp only [go_sem]; done) | (simp only [hs]; (try simp only [go_sem]); first | done | rfl)) ?_
        · exact zna hs
        · exact znb hs
      · have hs := clr_no hlt ck
        refine zsx ha ?_
        refine ev_next 5 (hJ _ (⟨p + 1, hlt⟩) (by first | omega | (dsimp only; omega) | (simp; omega))) rfl (by simp) ?_ (by first | rfl | (simp only [go_sem]; done)) (by first | rfl | (simp only [go_sem]; done) | (simp only [hs]; (try simp only [go_sem]); first | done | rfl)) ?_
        · exact zna hs
        · exact znb hs
    · obtain rfl : p = f.opens.length := by omega
      have he := clr_end k f.opens
      have hml : (f.opens.map (zr k)).length = f.opens.length := by simp
      dsimp only
      rw [he]
      refine zst ?_
      refine ev_rowSub 2 ((f.data.set k.toNat []).map (slV' true 4 canonV)) rfl (subVs_setnil _ _ _ _ _) (pures_lo _ _) (unif_map (f := slV' true 4 canonV) (s := 1) (fun _ => rfl) _) ?_
      refine ret m_wopen_ok [] ?_; exact zfn
  · rw [sOpen_2 hc]
    refine Fnc.intro m_wopen_ok (by simp) fun W S => ?_
    unfold m_wopen
    simp only [ents, Nat.zero_add, Nat.reduceAdd]
    refine zst ?_
    (first | refine callX (wcopy_fn f F.low) ?_ | refine callXw (wcopy_fn f F.low) ?_); simp only [go_sem]
    refine zst ?_
    (first | refine callD (fI) ?_ | refine callDw (fI) ?_); simp only [go_sem]
    refine zst ?_
    refine ret m_wopen_ok [] ?_; exact zfn
set_option maxHeartbeats 8000000 in
theorem rropen_fn (f : Files) (F : FitF f) (k m : Int) : Fnc Try.prog 74 [filV f, .int .i64 k, .int .i64 m] (fun y obs => y = .tup [filV (sOpen f k m).1, .int .i64 (sOpen f k m).2] ∧ obs = []) := by
  refine Fnc.low ?_
  have hle := hdl_le f
  have h8 := F.o
  have h4 := F.d
  refine Fnc.intro m_rropen_ok (by simp) fun W S => ?_
  unfold m_rropen
  simp only [ents, Nat.zero_add, Nat.reduceAdd]
  refine zst ?_
  (first | refine callX (rcopy_fn f F.low) ?_ | refine callXw (rcopy_fn f F.low) ?_); simp only [go_sem]
  refine zst ?_
  refine ev_loopK [1, 2, 3, 6, 8] (fun p : {p : Nat // p ≤ hdl f} => [(9, .int .i64 p.1)]) (fun _ => [⟨.box false 28, true, 0, filV f⟩, ⟨.box false 28, true, 0, .agg [.nilS, .nilS]⟩, ⟨.row 41, true, 0, .arr 1 (f.data.map (slV' true 4 canonV))⟩, ⟨.row 102, true, 0, .arr 3 (f.opens.map opnV)⟩, ⟨.box false 28, true, 0, .agg [.own 2 0, .own 3 0]⟩]) (fun p => hdl f - p.1) (⟨0, by simp⟩) 5 (by simp only [go_sem]; rfl) ?_ (by first | rfl | (simp only [go_sem]; done)) (by simp) (by first | rfl | (simp only [go_sem]; done)) (by first | rfl | (simp only [go_sem]; done)) (by first | rfl | (simp only [go_sem]; done)) ?_
  · (simp only [go_sem]; (try simp []); done)
  intro J hJ
  rintro ⟨h, hh⟩
  by_cases hlt : h < hdl f
  · have hn := hdl_at hlt
    refine zst ?_
    refine ev_next 5 (hJ _ (⟨h + 1, hlt⟩) (by first | omega | (dsimp only; omega) | (simp; omega))) rfl (by simp) ?_ (by first | rfl | (simp only [go_sem]; done)) (by first | rfl | (simp only [go_sem]; done)) ?_
    · (first | rfl | (simp only [go_sem]; done) | (simp only [go_sem]; simp only []; done) | (simp only []; done) | (simp only [go_sem]; simp []; done) | (simp []; done))
    · (simp only [go_sem]; (repeat' (refine And.intro ?_ ?_)) <;> first | exact trivial | with_reducible rfl | (simp only []; done) | (simp only []; with_reducible rfl) | (simp []; done) | (simp []; omega) | (simp only []; rfl) | skip)
  obtain rfl : h = hdl f := by omega
  by_cases c5 : hdl f = f.opens.length
  · rw [sOpen_F (.inr (.inr (.inr (.inr c5))))]
    by_cases c1 : k < 0
    · skip
      refine zst ?_
      refine ret m_rropen_ok [] ?_; exact zfn
    by_cases c2 : (f.data.length : Int) ≤ k
    · skip
      refine zst ?_
      refine ret m_rropen_ok [] ?_; exact zfn
    by_cases c3 : m < 0
    · skip
      refine zst ?_
      refine ret m_rropen_ok [] ?_; exact zfn
    by_cases c4 : 2 < m
    · skip
      refine zst ?_
      refine ret m_rropen_ok [] ?_; exact zfn
    · skip
      refine zst ?_
      refine ret m_rropen_ok [] ?_; exact zfn
  have his := hdl_is (f := f) (by omega)
  by_cases c1 : k < 0
  · rw [sOpen_F (.inl c1)]
    refine zst ?_
    refine ret m_rropen_ok [] ?_; exact zfn
  by_cases c2 : (f.data.length : Int) ≤ k
  · rw [sOpen_F (.inr (.inl c2))]
    refine zst ?_
    refine ret m_rropen_ok [] ?_; exact zfn
  by_cases c3 : m < 0
  · rw [sOpen_F (.inr (.inr (.inl c3)))]
    refine zst ?_
    refine ret m_rropen_ok [] ?_; exact zfn
  by_cases c4 : 2 < m
  · rw [sOpen_F (.inr (.inr (.inr (.inl c4))))]
    refine zst ?_
    refine ret m_rropen_ok [] ?_; exact zfn
  have hc : ¬ (k < 0 ∨ (f.data.length : Int) ≤ k ∨ hdl f = f.opens.length) := by omega
  have c5' : hdl f < f.opens.length := by omega
  have hm : m = 0 ∨ m = 1 ∨ m = 2 := by omega
  rcases hm with rfl | rfl | rfl
  · rw [sOpen_0 hc]
    refine zst ?_
    refine ret m_rropen_ok [] ?_; exact zfn
  · rw [sOpen_1 hc]
    refine zst ?_
    refine ev_loopK [1, 2, 6, 8, 9, 62] (fun p : {p : Nat // p ≤ f.opens.length} => [(63, .int .i64 p.1)]) (fun p => [⟨.box false 28, true, 0, filV f⟩, ⟨.box false 28, true, 0, .agg [.nilS, .nilS]⟩, ⟨.row 41, true, 0, .arr 1 ((f.data.map (slV' true 4 canonV)).set k.toNat .nilS)⟩, ⟨.row 102, true, 0, .arr 3 ((clr k f.opens p.1).map opnV)⟩, ⟨.box false 28, true, 0, .agg [.own 2 0, .own 3 0]⟩]) (fun p => f.opens.length - p.1) (⟨0, by simp⟩) 5 (by simp only [go_sem]; rfl) ?_ (by first | rfl | (simp only [go_sem]; done) | (simp only [go_sem]; simp [clr_zero]; done)) (by simp) (by first | rfl | (simp only [go_sem]; done)) (by first | rfl | (simp only [go_sem]; done)) (by first | rfl | (simp only [go_sem]; done) | (simp only [clr_zero]; (try simp only [go_sem]); first | done | rfl)) ?_
    · (simp only [go_sem]; (try simp [clr_zero]); done)
    intro J hJ
    rintro ⟨p, hp⟩
    have hcl := clr_len k f.opens p
    by_cases hlt : p < f.opens.length
    · have ha := clr_at (k := k) hlt
      by_cases ck : f.opens[p]!.file = k
      · have hs := clr_yes hlt ck
        rw [ck] at hs
        refine zsx (And.intro ha (ck)) ?_
        refine ev_next 5 (hJ _ (⟨p + 1, hlt⟩) (by first | omega | (dsimp only; omega) | (simp; omega))) rfl (by simp) ?_ (by first | rfl | (simp only [go_sem]; done)) (by first | rfl | (simp only [go_sem]; done) | (simp only [hs]; (try simp only [go_sem]); first | done | rfl)) ?_
        · exact zna hs
        · exact znb hs
      · have hs := clr_no hlt ck
        refine zsx ha ?_
        refine ev_next 5 (hJ _ (⟨p + 1, hlt⟩) (by first | omega | (dsimp only; omega) | (simp; omega))) rfl (by simp) ?_ (by first | rfl | (simp only [go_sem]; done)) (by first | rfl | (simp only [go_sem]; done) | (simp only [hs]; (try simp only [go_sem]); first | done | rfl)) ?_
        · exact zna hs
        · exact znb hs
    · obtain rfl : p = f.opens.length := by omega
      have he := clr_end k f.opens
      have hml : (f.opens.map (zr k)).length = f.opens.length := by simp
      dsimp only
      rw [he]
      refine zst ?_
      refine ev_rowSub 2 ((f.data.set k.toNat []).map (slV' true 4 canonV)) rfl (subVs_setnil _ _ _ _ _) (pures_lo _ _) (unif_map (f := slV' true 4 canonV) (s := 1) (fun _ => rfl) _) ?_
      refine ret m_rropen_ok [] ?_; exact zfn
  · rw [sOpen_2 hc]
    have hsa : (f.opens.set (hdl f) ⟨k, 0, true⟩)[hdl f]! = ⟨k, 0, true⟩ := by rw [set_at c5', if_pos rfl]
    have hsl : (f.opens.set (hdl f) ⟨k, 0, true⟩).length = f.opens.length := List.length_set
    refine zsx hsa ?_
    refine ret m_rropen_ok [] ?_; (first | (simp only [go_sem]; done) | (simp only [go_sem]; ((try dsimp only); (repeat' (refine And.intro ?_ ?_)) <;> first | with_reducible rfl | (simp only [go_sem]; done) | (simp only [go_sem]; rfl) | (simp only [go_sem, List.set_set]; done) | (simp only [List.set_set]; (try simp only [go_sem]); first | done | rfl) | (simp only [go_sem]; simp [List.set_set]; done) | (simp [List.set_set]; done) | rfl)))
end Go.Proofs.Ytkfpcgkmemfdaaa
