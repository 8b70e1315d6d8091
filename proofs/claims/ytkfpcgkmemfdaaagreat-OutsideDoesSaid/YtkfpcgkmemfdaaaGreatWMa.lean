/- W1, W2, W3, W4, W5, in one text. -/
import Derived.Test.YtkfpcgkmemfdaaaGreatC4
import Derived.Test.YtkfpcgkmemfdaaaGreatC5
/- Files: what functions do, told plainly. -/
namespace Go.Proofs.YtkfpcgkmemfdaaaGreat
open Go Go.RowKit Rdn Rdn.Dp
set_option linter.unusedVariables false
set_option linter.unusedSimpArgs false
instance : Inhabited Opn := ⟨⟨0, 0, false⟩⟩
instance : Inhabited Files := ⟨⟨[], []⟩⟩
/-! ### Trees -/
abbrev opnV (o : Opn) : V := .agg [.int .i64 o.file, .int .i64 o.offset, .bool o.write]
instance : Lo opnV opnV := ⟨fun _ => rfl, fun _ => rfl⟩
abbrev cnV (t : Bool) : List Canon → V := slV' t 4 canonV
abbrev filV (f : Files) : V := .agg [.sl false 1 (f.data.map (slV' false 4 canonV)), .sl false 3 (f.opens.map opnV)]
theorem freshs_opns (l : List Opn) : V.freshs (l.map opnV) = true := freshs_map _ _ (fun _ => rfl)
theorem freshs_cns (l : List (List Canon)) : V.freshs (l.map (slV' true 4 canonV)) = true := freshs_map _ _ (fun x => by simp [slV', V.fresh, freshs_canons])
theorem set_opn (l : List Opn) (i : Nat) (a b : Int) (c : Bool) : (l.map opnV).set i (.agg [.int .i64 a, .int .i64 b, .bool c]) = (l.set i ⟨a, b, c⟩).map opnV := by rw [List.map_set]
theorem snoc_opn (l : List Opn) (a b : Int) (c : Bool) (r : List V) : l.map opnV ++ (V.agg [.int .i64 a, .int .i64 b, .bool c] :: r) = (l ++ [(⟨a, b, c⟩ : Opn)]).map opnV ++ r := by simp
theorem set_slV {α : Type} (t : Bool) (s : Nat) (f : α → V) (l : List (List α)) (i : Nat) (d : List α) : (l.map (slV' t s f)).set i (V.sl t s (d.map f)) = (l.set i d).map (slV' t s f) := by rw [List.map_set]
theorem take_mapC (l : List Canon) (n : Nat) : (l.map canonV).take n = (l.take n).map canonV := by rw [List.map_take]
theorem drop_mapC (l : List Canon) (n : Nat) : (l.map canonV).drop n = (l.drop n).map canonV := by rw [List.map_drop]
attribute [go_sem] take_mapC drop_mapC List.take_length freshs_opns freshs_cns set_opn snoc_opn set_slV
/-! ### Cells -/
def okC (c : Canon) : Prop := ((c.tag = 0 ∨ c.tag = 2) ∧ c.region = 0 ∧ c.offset = 0) ∨ (c.tag = 1 ∧ c.val = 0 ∧ ((c.region = -1 ∧ 0 ≤ c.offset ∧ c.offset ≤ 65535) ∨ (0 ≤ c.region ∧ c.region < 4 ∧ 0 ≤ c.offset ∧ c.offset < 32)))
instance (c : Canon) : Decidable (okC c) := by unfold okC; exact inferInstance
def cellB (c : Canon) : Bool := decide (okC c)
def cellsB (l : List Canon) (n : Int) : Bool := l.all cellB && decide ((l.length : Int) ≤ n)
/-! ### What functions do -/
def shut : Opn := ⟨-1, 0, false⟩
def okO (f : Files) (o : Opn) : Prop := (o.file = -1 ∧ o.offset = 0 ∧ o.write = false) ∨ (0 ≤ o.file ∧ o.file < f.data.length ∧ 0 ≤ o.offset ∧ o.offset ≤ f.data[o.file.toNat]!.length)
/-- Files that functions leave. -/
structure FitF (f : Files) : Prop where
  d : f.data.length ≤ 4
  o : f.opens.length = 8
  len : ∀ x ∈ f.data, x.length ≤ 64
  cell : ∀ x ∈ f.data, x.all cellB = true
  ok : ∀ o ∈ f.opens, okO f o
/-- The least closed handle. -/
def hdl (f : Files) : Nat := f.opens.findIdx fun o => decide (o.file = -1)
/-- A handle of a file that was emptied. -/
def zr (k : Int) (o : Opn) : Opn := if o.file = k then ⟨o.file, 0, o.write⟩ else o
def sOpen (f : Files) (k m : Int) : Files × Int :=
  if k < 0 ∨ (f.data.length : Int) ≤ k ∨ m < 0 ∨ 2 < m ∨ hdl f = f.opens.length then (f, -1)
  else if m = 0 then (⟨f.data, f.opens.set (hdl f) ⟨k, 0, false⟩⟩, hdl f)
  else if m = 1 then (⟨f.data.set k.toNat [], (f.opens.map (zr k)).set (hdl f) ⟨k, 0, true⟩⟩, hdl f)
  else (⟨f.data, f.opens.set (hdl f) ⟨k, f.data[k.toNat]!.length, true⟩⟩, hdl f)
/-- Whether a handle is open. -/
def opd (f : Files) (h : Int) : Prop := 0 ≤ h ∧ h < f.opens.length ∧ f.opens[h.toNat]!.file ≠ -1
instance (f : Files) (h : Int) : Decidable (opd f h) := by unfold opd; exact inferInstance
def dat (f : Files) (h : Int) : List Canon := f.data[f.opens[h.toNat]!.file.toNat]!
def sClose (f : Files) (h : Int) : Files × Bool := if opd f h then (⟨f.data, f.opens.set h.toNat shut⟩, true) else (f, false)
def setOff (f : Files) (h x : Int) : List Opn := f.opens.set h.toNat ⟨f.opens[h.toNat]!.file, x, f.opens[h.toNat]!.write⟩
def sSeek (f : Files) (h x : Int) : Files × Bool := if opd f h ∧ 0 ≤ x ∧ x ≤ (dat f h).length then (⟨f.data, setOff f h x⟩, true) else (f, false)
/-- How many cells are read. -/
def rdn (f : Files) (h n : Int) : Int := min n ((dat f h).length - f.opens[h.toNat]!.offset)
def sRead (f : Files) (h n : Int) : Files × List Canon × Bool :=
  if opd f h ∧ 0 ≤ n ∧ f.opens[h.toNat]!.write = false then (⟨f.data, setOff f h (f.opens[h.toNat]!.offset + rdn f h n)⟩, ((dat f h).drop f.opens[h.toNat]!.offset.toNat).take (rdn f h n).toNat, true) else (f, [], false)
/-- How many cells are written. -/
def wrn (f : Files) (h : Int) (c : List Canon) : Int := min c.length (64 - f.opens[h.toNat]!.offset)
/-- A file with cells written into it. -/
def over (d : List Canon) (a : Nat) (c : List Canon) : List Canon := d.take a ++ c ++ d.drop (a + c.length)
def sWrite (f : Files) (h : Int) (c : List Canon) : Files × Int × Bool :=
  if opd f h ∧ f.opens[h.toNat]!.write = true ∧ c.all cellB = true then (⟨f.data.set f.opens[h.toNat]!.file.toNat (over (dat f h) f.opens[h.toNat]!.offset.toNat (c.take (wrn f h c).toNat)), setOff f h (f.opens[h.toNat]!.offset + wrn f h c)⟩, wrn f h c, true) else (f, 0, false)
/-! ### Files stay valid -/
theorem at_mem {α : Type} [Inhabited α] {l : List α} {x : α} (h : x ∈ l) : ∃ k, k < l.length ∧ l[k]! = x := by
  obtain ⟨k, hk, rfl⟩ := List.getElem_of_mem h
  exact ⟨k, hk, getElem!_pos l k hk⟩
theorem set_at {α : Type} [Inhabited α] {l : List α} {i j : Nat} {x : α} (h : j < l.length) : (l.set i x)[j]! = if i = j then x else l[j]! := by
  rw [getElem!_pos _ j (by simpa using h), getElem!_pos l j h, List.getElem_set]
theorem FitF.at {f : Files} (F : FitF f) {h : Int} (c : opd f h) : 0 ≤ f.opens[h.toNat]!.file ∧ f.opens[h.toNat]!.file < f.data.length ∧ 0 ≤ f.opens[h.toNat]!.offset ∧ f.opens[h.toNat]!.offset ≤ (dat f h).length ∧ (dat f h).length ≤ 64 := by
  obtain ⟨c1, c2, c3⟩ := c
  have hl : h.toNat < f.opens.length := by omega
  rcases F.ok _ (mem_at hl) with h1 | h1
  · exact absurd h1.1 c3
  · exact ⟨h1.1, h1.2.1, h1.2.2.1, h1.2.2.2, F.len _ (mem_at (by omega))⟩
theorem okO_len {f g : Files} (hl : g.data.length = f.data.length) {o : Opn} (hd : ∀ k : Nat, (k : Int) = o.file → k < f.data.length → f.data[k]!.length ≤ g.data[k]!.length) (h : okO f o) : okO g o := by
  rcases h with h | ⟨h1, h2, h3, h4⟩
  · exact .inl h
  · have := hd o.file.toNat (by omega) (by omega)
    exact .inr ⟨h1, by omega, h3, by omega⟩
theorem okO_same {f g : Files} (hd : g.data = f.data) {o : Opn} (h : okO f o) : okO g o := okO_len (by rw [hd]) (fun k _ _ => by rw [hd]; exact Nat.le_refl _) h
theorem FitF.opens {f : Files} (F : FitF f) {l : List Opn} (hl : l.length = 8) (ho : ∀ o ∈ l, okO f o) : FitF ⟨f.data, l⟩ := ⟨F.d, hl, F.len, F.cell, fun o h => okO_same rfl (ho o h)⟩
theorem FitF.close {f : Files} (F : FitF f) (h : Int) : FitF (sClose f h).1 := by
  unfold sClose
  split
  · refine F.opens (by rw [List.length_set]; exact F.o) fun o ho => ?_
    rcases List.mem_or_eq_of_mem_set ho with ho | rfl
    · exact F.ok o ho
    · exact .inl ⟨rfl, rfl, rfl⟩
  · exact F
theorem FitF.off {f : Files} (F : FitF f) {h x : Int} (c : opd f h) (h0 : 0 ≤ x) (h1 : x ≤ (dat f h).length) : FitF ⟨f.data, setOff f h x⟩ := by
  have ha := F.at c
  refine F.opens (by unfold setOff; rw [List.length_set]; exact F.o) fun o ho => ?_
  rcases List.mem_or_eq_of_mem_set ho with ho | rfl
  · exact F.ok o ho
  · exact .inr ⟨ha.1, ha.2.1, h0, h1⟩
theorem FitF.seek {f : Files} (F : FitF f) (h x : Int) : FitF (sSeek f h x).1 := by
  unfold sSeek
  split
  · rename_i c
    exact F.off c.1 c.2.1 c.2.2
  · exact F
theorem FitF.read {f : Files} (F : FitF f) (h n : Int) : FitF (sRead f h n).1 := by
  unfold sRead
  split
  · rename_i c
    have ha := F.at c.1
    exact F.off c.1 (by unfold rdn; omega) (by unfold rdn; omega)
  · exact F
theorem over_len {d c : List Canon} {a : Nat} (h : a ≤ d.length) : (over d a c).length = max d.length (a + c.length) := by
  unfold over
  simp only [List.length_append, List.length_take, List.length_drop]
  omega
theorem FitF.data {f : Files} (F : FitF f) {k : Nat} {d : List Canon} {l : List Opn} (hk : k < f.data.length) (hd : d.length ≤ 64) (hc : d.all cellB = true) (hl : l.length = 8) (ho : ∀ o ∈ l, okO ⟨f.data.set k d, l⟩ o) : FitF ⟨f.data.set k d, l⟩ := by
  refine ⟨by show (f.data.set k d).length ≤ 4; rw [List.length_set]; exact F.d, hl, fun x hx => ?_, fun x hx => ?_, ho⟩
  · rcases List.mem_or_eq_of_mem_set hx with hx | rfl
    · exact F.len x hx
    · exact hd
  · rcases List.mem_or_eq_of_mem_set hx with hx | rfl
    · exact F.cell x hx
    · exact hc
theorem FitF.write {f : Files} (F : FitF f) (h : Int) (c : List Canon) : FitF (sWrite f h c).1 := by
  unfold sWrite
  split
  · rename_i hc
    have ha := F.at hc.1
    have hk : f.opens[h.toNat]!.file.toNat < f.data.length := by omega
    have hw : (c.take (wrn f h c).toNat).length = (wrn f h c).toNat := by rw [List.length_take]; unfold wrn; omega
    have hl := over_len (d := dat f h) (c := c.take (wrn f h c).toNat) (a := f.opens[h.toNat]!.offset.toNat) (by omega)
    rw [hw] at hl
    have hwr : wrn f h c ≤ 64 - f.opens[h.toNat]!.offset ∧ 0 ≤ wrn f h c := by unfold wrn; omega
    refine F.data hk (by omega) ?_ (by unfold setOff; rw [List.length_set]; exact F.o) fun o ho => ?_
    · have hdc := F.cell _ (mem_at hk)
      simp only [List.all_eq_true] at hdc hc ⊢
      intro x hx
      unfold over at hx
      rcases List.mem_append.1 hx with hx | hx
      · rcases List.mem_append.1 hx with hx | hx
        · exact hdc x (List.mem_of_mem_take hx)
        · exact hc.2.2 x (List.mem_of_mem_take hx)
      · exact hdc x (List.mem_of_mem_drop hx)
    · have grow : ∀ k : Nat, k < f.data.length → f.data[k]!.length ≤ (f.data.set f.opens[h.toNat]!.file.toNat (over (dat f h) f.opens[h.toNat]!.offset.toNat (c.take (wrn f h c).toNat)))[k]!.length := by
        intro k hk'
        rw [set_at hk']
        split
        · rename_i e
          rw [hl, ← e]
          exact Nat.le_max_left _ _
        · exact Nat.le_refl _
      rcases List.mem_or_eq_of_mem_set ho with ho | rfl
      · exact okO_len (by simp) (fun k _ hk' => grow k hk') (F.ok o ho)
      · refine .inr ⟨ha.1, by simpa using ha.2.1, by show 0 ≤ f.opens[h.toNat]!.offset + _; omega, ?_⟩
        show f.opens[h.toNat]!.offset + _ ≤ _
        rw [set_at hk, if_pos rfl, hl]
        omega
  · exact F
theorem hdl_le (f : Files) : hdl f ≤ f.opens.length := List.findIdx_le_length
theorem FitF.open {f : Files} (F : FitF f) (k m : Int) : FitF (sOpen f k m).1 := by
  unfold sOpen
  split
  · exact F
  rename_i c
  simp only [not_or, Int.not_lt, Int.not_le] at c
  obtain ⟨c1, c2, c3, c4, c5⟩ := c
  have hk : k.toNat < f.data.length := by omega
  split
  · refine F.opens (by rw [List.length_set]; exact F.o) fun o ho => ?_
    rcases List.mem_or_eq_of_mem_set ho with ho | rfl
    · exact F.ok o ho
    · exact .inr ⟨c1, c2, Int.le_refl _, Int.natCast_nonneg _⟩
  split
  · refine F.data hk (by simp) rfl (by simp [F.o]) fun o ho => ?_
    rcases List.mem_or_eq_of_mem_set ho with ho | rfl
    · obtain ⟨o', ho', rfl⟩ := List.mem_map.1 ho
      have h1 := F.ok o' ho'
      unfold zr
      split
      · rename_i e
        rcases h1 with h1 | h1
        · omega
        · exact .inr ⟨h1.1, by simpa using h1.2.1, Int.le_refl _, Int.natCast_nonneg _⟩
      · rename_i e
        refine okO_len (f := f) (by simp) (fun j hj hj' => ?_) h1
        show _ ≤ (f.data.set k.toNat [])[j]!.length
        rw [set_at hj']
        split
        · omega
        · exact Nat.le_refl _
    · refine .inr ⟨c1, by simpa using c2, Int.le_refl _, Int.natCast_nonneg _⟩
  · refine F.opens (by rw [List.length_set]; exact F.o) fun o ho => ?_
    rcases List.mem_or_eq_of_mem_set ho with ho | rfl
    · exact F.ok o ho
    · exact .inr ⟨c1, c2, Int.natCast_nonneg _, Int.le_refl _⟩
end Go.Proofs.YtkfpcgkmemfdaaaGreat
/- Files: copies. -/
namespace Go.Proofs.YtkfpcgkmemfdaaaGreat
open Go Go.RowKit Rdn Rdn.Dp
set_option linter.unusedVariables false
set_option linter.unusedSimpArgs false
theorem m_ocl_ok : compF Tryz.prog 109 = some (8, Qr ([Qp 2 (.mov (.c (.nilS)))])
 (.seq (Qr ([Qm 3 0, Qp 4 (.bin 2 .eql (.t 3) (.c (.nilS)))])
 (.cond (.t 4) (Qr ([Qp 2 (.mov (.c (.nilS)))])
 (.ret)) (.skip)))
 (Qr ([Qw 5 (.buildS 47 3 (.agg [.int .i64 0, .int .i64 0, .bool false]) 0 []), Qm 6 0, Qw 7 (.app 47 3 24 (.t 5) (.t 6)), Qm 2 7])
 (.ret))), [.mov (.t 2)]) := by kernel_rfl
theorem m_ccl_ok : compF Tryz.prog 98 = some (8, Qr ([Qp 2 (.mov (.c (.nilS)))])
 (.seq (Qr ([Qm 3 0, Qp 4 (.bin 2 .eql (.t 3) (.c (.nilS)))])
 (.cond (.t 4) (Qr ([Qp 2 (.mov (.c (.nilS)))])
 (.ret)) (.skip)))
 (Qr ([Qw 5 (.buildS 43 4 (.agg [.int .u8 0, .int .u16 0, .int .i64 0, .int .i64 0]) 0 []), Qm 6 0, Qw 7 (.app 43 4 24 (.t 5) (.t 6)), Qm 2 7])
 (.ret))), [.mov (.t 2)]) := by kernel_rfl
theorem m_wcopy_ok : compF Tryz.prog 94 = some (26, Qr ([Qw 1 (.box 34 (.t 0)), Qw 2 (.alloc 34 (.agg [.nilS, .nilS]))])
 (Qr ([Qf 6 1 1 1, Ql 7 1 6, Qq 8 109 [(.t 7)], Qw 9 (.build none [.nilS, .nilS] [(1, (.t 8))]), Qw 3 (.alloc 34 (.agg [.nilS, .nilS])), Qs 2 3 9])
 (.seq (Qr ([Qf 10 0 0 1, Ql 11 1 10, Qn 12 11, Qp 13 (.mov (Qi 0))])
 (.block 0 (.loop (Qr ([Qb 14 .lss 13 12])
 (.seq (.cond (.t 14) (.skip) (.exit 0))
 (.seq (.block 1 (Qr ([Qx 15 1 11 13, Ql 16 1 15, Qm 5 16])
 (.dreg [Qf 17 0 0 3, Ql 18 1 17, Qm 19 5, Qq 20 98 [(.t 19)], Qw 21 (.buildS 22 1 (.nilS) 1 [(0, (.t 20))]), Qw 22 (.app 22 1 24 (.t 18) (.t 21)), Qf 23 0 0 3, Qs 1 23 22] [[], [0], [], [2], [2, 3], [0, 1, 2, 3, 4], [0, 1, 2, 3, 4, 5], [0, 1, 2, 3, 4, 5, 6]])))
 (.reg [Qk 24 .add 13 1, Qm 13 24])))))))
 (Qr ([QL 25 2 3, Qs 2 2 25])
 (.ret)))), [.load true 2 (.t 2)]) := by kernel_rfl
theorem m_rcopy_ok : compF Tryz.prog 23 = some (26, Qr ([Qw 1 (.box 34 (.t 0)), Qw 2 (.alloc 34 (.agg [.nilS, .nilS]))])
 (Qr ([Qf 6 1 1 1, Ql 7 1 6, Qw 8 (.app 47 3 24 (.c (.nilS)) (.t 7)), Qw 9 (.build none [.nilS, .nilS] [(1, (.t 8))]), Qw 3 (.alloc 34 (.agg [.nilS, .nilS])), Qs 2 3 9])
 (.seq (Qr ([Qf 10 0 0 1, Ql 11 1 10, Qn 12 11, Qp 13 (.mov (Qi 0))])
 (.block 0 (.loop (Qr ([Qb 14 .lss 13 12])
 (.seq (.cond (.t 14) (.skip) (.exit 0))
 (.seq (.block 1 (Qr ([Qx 15 1 11 13, Ql 16 1 15, Qm 5 16])
 (.dreg [Qf 17 0 0 3, Ql 18 1 17, Qm 19 5, Qw 20 (.app 43 4 24 (.c (.nilS)) (.t 19)), Qw 21 (.buildS 22 1 (.nilS) 1 [(0, (.t 20))]), Qw 22 (.app 22 1 24 (.t 18) (.t 21)), Qf 23 0 0 3, Qs 1 23 22] [[], [0], [], [2], [2, 3], [0, 1, 2, 3, 4], [0, 1, 2, 3, 4, 5], [0, 1, 2, 3, 4, 5, 6]])))
 (.reg [Qk 24 .add 13 1, Qm 13 24])))))))
 (Qr ([QL 25 2 3, Qs 2 2 25])
 (.ret)))), [.load true 2 (.t 2)]) := by kernel_rfl
set_option maxHeartbeats 4000000 in
theorem ocl_fn (l : List Opn) (hb : l.length ≤ 1000000) : Fnc Tryz.prog 109 [.sl false 3 (l.map opnV)] (fun x obs => x = .sl true 3 (l.map opnV) ∧ obs = []) := by
  refine Fnc.intro m_ocl_ok (by simp) fun W S => ?_
  simp only [ents, Nat.zero_add, Nat.reduceAdd, Qm, Qc, Ql, QL, Qf, Qs, Qb, Qk, QB, Qn, Qe, Qx, Qt, Qu, Q0, Q1, Qp, Qw, Qq, Qr, Qi]
  refine zsu ?_
  refine zs1 ?_
  refine zsu ?_
  refine ev_reg ?_
  refine evr_p rfl trivial ?_
  refine evr_nilq rfl rfl fun b hb0 => ?_
  cases b with
  | false =>
    simp only [aopP, X.ev, slotV, AS.put, if_true]
    refine zst ?_
    exact zrt m_ocl_ok
  | true =>
    have hl : l = [] := by
      cases l with
      | nil => rfl
      | cons a l => exact absurd (hb0 (by simp)) (by simp)
    subst hl
    simp only [aopP, X.ev, slotV, AS.put, if_true]
    refine zsu ?_
    refine zs1 ?_
    refine zsu ?_
    refine ev_nil2 2 true 3 rfl ?_
    exact zrt m_ocl_ok
set_option maxHeartbeats 4000000 in
theorem ocl_own (l : List Opn) (hb : l.length ≤ 1000000) : Fnc Tryz.prog 109 [.sl false 3 (l.map opnV)] (fun x obs => x = .own 0 0 ∧ obs = [⟨.row 47, true, 0, .arr 3 (l.map opnV)⟩]) := by
  refine Fnc.intro m_ocl_ok (by simp) fun W S => ?_
  simp only [ents, Nat.zero_add, Nat.reduceAdd, Qm, Qc, Ql, QL, Qf, Qs, Qb, Qk, QB, Qn, Qe, Qx, Qt, Qu, Q0, Q1, Qp, Qw, Qq, Qr, Qi]
  refine zsu ?_
  refine zs1 ?_
  refine zsu ?_
  refine ev_reg ?_
  refine evr_p rfl trivial ?_
  refine evr_nilq rfl rfl fun b hb0 => ?_
  cases b with
  | false =>
    simp only [aopP, X.ev, slotV, AS.put, if_true]
    refine zst ?_
    refine ret m_ocl_ok [0] ?_; exact zfn
  | true =>
    have hl : l = [] := by
      cases l with
      | nil => rfl
      | cons a l => exact absurd (hb0 (by simp)) (by simp)
    subst hl
    simp only [aopP, X.ev, slotV, AS.put, if_true]
    refine zsu ?_
    refine zs1 ?_
    refine zsu ?_
    refine ev_adopt (i := 2) (e := 47) (s := 3) rfl (by decide) ?_
    refine ret m_ocl_ok [0] ?_; exact zfn
set_option maxHeartbeats 4000000 in
theorem ccl_fn (l : List Canon) (hb : l.length ≤ 1000000) : Fnc Tryz.prog 98 [.sl false 4 (l.map canonV)] (fun x obs => x = .sl true 4 (l.map canonV) ∧ obs = []) := by
  refine Fnc.intro m_ccl_ok (by simp) fun W S => ?_
  simp only [ents, Nat.zero_add, Nat.reduceAdd, Qm, Qc, Ql, QL, Qf, Qs, Qb, Qk, QB, Qn, Qe, Qx, Qt, Qu, Q0, Q1, Qp, Qw, Qq, Qr, Qi]
  refine zsu ?_
  refine zs1 ?_
  refine zsu ?_
  refine ev_reg ?_
  refine evr_p rfl trivial ?_
  refine evr_nilq rfl rfl fun b hb0 => ?_
  cases b with
  | false =>
    simp only [aopP, X.ev, slotV, AS.put, if_true]
    refine zst ?_
    exact zrt m_ccl_ok
  | true =>
    have hl : l = [] := by
      cases l with
      | nil => rfl
      | cons a l => exact absurd (hb0 (by simp)) (by simp)
    subst hl
    simp only [aopP, X.ev, slotV, AS.put, if_true]
    refine zsu ?_
    refine zs1 ?_
    refine zsu ?_
    refine ev_nil2 2 true 4 rfl ?_
    exact zrt m_ccl_ok
set_option maxHeartbeats 4000000 in
theorem ccl_own (l : List Canon) (hb : l.length ≤ 1000000) : Fnc Tryz.prog 98 [.sl false 4 (l.map canonV)] (fun x obs => x = .own 0 0 ∧ obs = [⟨.row 43, true, 0, .arr 4 (l.map canonV)⟩]) := by
  refine Fnc.intro m_ccl_ok (by simp) fun W S => ?_
  simp only [ents, Nat.zero_add, Nat.reduceAdd, Qm, Qc, Ql, QL, Qf, Qs, Qb, Qk, QB, Qn, Qe, Qx, Qt, Qu, Q0, Q1, Qp, Qw, Qq, Qr, Qi]
  refine zsu ?_
  refine zs1 ?_
  refine zsu ?_
  refine ev_reg ?_
  refine evr_p rfl trivial ?_
  refine evr_nilq rfl rfl fun b hb0 => ?_
  cases b with
  | false =>
    simp only [aopP, X.ev, slotV, AS.put, if_true]
    refine zst ?_
    refine ret m_ccl_ok [0] ?_; exact zfn
  | true =>
    have hl : l = [] := by
      cases l with
      | nil => rfl
      | cons a l => exact absurd (hb0 (by simp)) (by simp)
    subst hl
    simp only [aopP, X.ev, slotV, AS.put, if_true]
    refine zsu ?_
    refine zs1 ?_
    refine zsu ?_
    refine ev_adopt (i := 2) (e := 43) (s := 4) rfl (by decide) ?_
    refine ret m_ccl_ok [0] ?_; exact zfn
/-- Small files. -/
structure LowF (f : Files) : Prop where
  d : f.data.length ≤ 1000
  o : f.opens.length ≤ 1000
  len : ∀ x ∈ f.data, x.length ≤ 100000
theorem FitF.low {f : Files} (F : FitF f) : LowF f := ⟨by have := F.d; omega, by have := F.o; omega, fun x hx => by have := F.len x hx; omega⟩
set_option maxHeartbeats 8000000 in
theorem wcopy_fn (f : Files) (F : LowF f) : Fnc Tryz.prog 94 [filV f] (fun x obs => x = .agg [.own 0 0, .own 1 0] ∧ obs = [⟨.row 22, true, 0, .arr 1 (f.data.map (slV' true 4 canonV))⟩, ⟨.row 47, true, 0, .arr 3 (f.opens.map opnV)⟩]) := by
  have h1 := F.d
  have h2 := F.o
  refine zgo m_wcopy_ok fun W S => ?_
  refine zcx (ocl_own f.opens (by omega)) ?_
  refine ev_adoptB 3 0 22 1 rfl rfl (by decide) rfl ?_
  refine ev_loopK [2, 3, 11, 12] (fun p : {p : Nat // p ≤ f.data.length} => [(13, .int .i64 p.1)]) (fun p => [⟨.box false 34, true, 0, filV f⟩, ⟨.box false 34, true, 0, .agg [.nilS, .nilS]⟩, ⟨.row 47, true, 0, .arr 3 (f.opens.map opnV)⟩, ⟨.box false 34, true, 0, .agg [.own 4 p.1, .own 2 0]⟩, ⟨.row 22, true, p.1, .arr 1 ((f.data.take p.1).map (slV' true 4 canonV))⟩]) (fun p => f.data.length - p.1) (⟨0, by simp⟩) 5 (by simp only [go_sem]; rfl) ?_ (by first | rfl | (simp only [go_sem]; done)) (by simp) (by first | rfl | (simp only [go_sem]; done)) (by first | rfl | (simp only [go_sem]; done)) (by first | rfl | (simp only [go_sem]; done)) ?_
  · (simp only [go_sem]; (try simp []); done)
  intro J hJ
  rintro ⟨k, hk0⟩
  by_cases hlt : k < f.data.length
  · have hs := take_snoc hlt
    have hb := F.len _ (mem_at hlt)
    have hl2 : (f.data.take k).length = k := by rw [List.length_take]; omega
    refine zst ?_
    refine zcd (ccl_fn f.data[k]! (by omega)) ?_
    exact zn5 (hJ _ (⟨k + 1, hlt⟩) (by first | omega | (dsimp only; omega) | (simp; omega))) hs
  · obtain rfl : k = f.data.length := by omega
    refine zst ?_
    refine retN m_wcopy_ok [4, 2] ?_; (first | (simp only [go_sem]; done) | (simp only [go_sem]; ((try dsimp only); (repeat' (refine And.intro ?_ ?_)) <;> first | with_reducible rfl | (simp only [go_sem]; done) | (simp only [go_sem]; rfl) | (simp only [go_sem, List.take_length]; done) | (simp only [List.take_length]; (try simp only [go_sem]); first | done | rfl) | (simp only [go_sem]; simp [List.take_length]; done) | (simp [List.take_length]; done) | rfl)))
set_option maxHeartbeats 8000000 in
theorem rcopy_fn (f : Files) (F : LowF f) : Fnc Tryz.prog 23 [filV f] (fun x obs => x = .agg [.own 0 0, .own 1 0] ∧ obs = [⟨.row 22, true, 0, .arr 1 (f.data.map (slV' true 4 canonV))⟩, ⟨.row 47, true, 0, .arr 3 (f.opens.map opnV)⟩]) := by
  have h1 := F.d
  have h2 := F.o
  refine zgo m_rcopy_ok fun W S => ?_
  refine ev_adoptB 3 0 22 1 rfl rfl (by decide) rfl ?_
  refine ev_loopK [2, 3, 11, 12] (fun p : {p : Nat // p ≤ f.data.length} => [(13, .int .i64 p.1)]) (fun p => [⟨.box false 34, true, 0, filV f⟩, ⟨.box false 34, true, 0, .agg [.nilS, .nilS]⟩, ⟨.row 47, true, 0, .arr 3 (f.opens.map opnV)⟩, ⟨.box false 34, true, 0, .agg [.own 4 p.1, .own 2 0]⟩, ⟨.row 22, true, p.1, .arr 1 ((f.data.take p.1).map (slV' true 4 canonV))⟩]) (fun p => f.data.length - p.1) (⟨0, by simp⟩) 5 (by simp only [go_sem]; rfl) ?_ (by first | rfl | (simp only [go_sem]; done)) (by simp) (by first | rfl | (simp only [go_sem]; done)) (by first | rfl | (simp only [go_sem]; done)) (by first | rfl | (simp only [go_sem]; done)) ?_
  · (simp only [go_sem]; (try simp []); done)
  intro J hJ
  rintro ⟨k, hk0⟩
  by_cases hlt : k < f.data.length
  · have hs := take_snoc hlt
    have hb := F.len _ (mem_at hlt)
    have hl2 : (f.data.take k).length = k := by rw [List.length_take]; omega
    refine zst ?_
    exact zn5 (hJ _ (⟨k + 1, hlt⟩) (by first | omega | (dsimp only; omega) | (simp; omega))) hs
  · obtain rfl : k = f.data.length := by omega
    refine zst ?_
    refine retN m_rcopy_ok [4, 2] ?_; (first | (simp only [go_sem]; done) | (simp only [go_sem]; ((try dsimp only); (repeat' (refine And.intro ?_ ?_)) <;> first | with_reducible rfl | (simp only [go_sem]; done) | (simp only [go_sem]; rfl) | (simp only [go_sem, List.take_length]; done) | (simp only [List.take_length]; (try simp only [go_sem]); first | done | rfl) | (simp only [go_sem]; simp [List.take_length]; done) | (simp [List.take_length]; done) | rfl)))
attribute [local go_sem] List.length_set
/-- The same, and one file may be written. -/
def oJ (f : Files) (j : Nat) (a : List Ob) (p : Nat) : List Ob := if j < p then a ++ [⟨.rows 22, true, p, .arr 1 (((f.data.take p).map (slV' true 4 canonV)).set j (.own 5 1))⟩, ⟨.row 43, true, 1, .arr 4 (f.data[j]!.map canonV)⟩] else a ++ [⟨.rows 22, true, p, .arr 1 ((f.data.take p).map (slV' true 4 canonV))⟩]
theorem oJ_ge {f : Files} {j p : Nat} {a : List Ob} (h : ¬ j < p) : oJ f j a p = a ++ [⟨.rows 22, true, p, .arr 1 ((f.data.take p).map (slV' true 4 canonV))⟩] := if_neg h
theorem oJ_lt {f : Files} {j p : Nat} {a : List Ob} (h : j < p) : oJ f j a p = a ++ [⟨.rows 22, true, p, .arr 1 (((f.data.take p).map (slV' true 4 canonV)).set j (.own 5 1))⟩, ⟨.row 43, true, 1, .arr 4 (f.data[j]!.map canonV)⟩] := if_pos h
theorem setJ_lt {α : Type} [Inhabited α] {l : List α} {g : α → V} {j k : Nat} {x : V} (h : k < l.length) (hj : j < k) : ((l.take k).map g).set j x ++ [g l[k]!] = ((l.take (k + 1)).map g).set j x := by
  rw [take_snoc h, List.map_append, List.set_append_left _ _ (by simp; omega)]; rfl
theorem setJ_eq {α : Type} [Inhabited α] {l : List α} {g : α → V} {k : Nat} {x : V} (h : k < l.length) : (l.take k).map g ++ [x] = ((l.take (k + 1)).map g).set k x := by
  rw [take_snoc h, List.map_append, List.set_append_right _ _ (by simp; omega)]
  simp [Nat.min_eq_left (Nat.le_of_lt h)]
set_option maxHeartbeats 8000000 in
theorem rcopyJ_fn (f : Files) (F : LowF f) (j : Nat) (hj : j < f.data.length) : Fnc Tryz.prog 23 [filV f] (fun x obs => x = .agg [.own 0 0, .own 1 0] ∧ obs = [⟨.rows 22, true, 0, .arr 1 ((f.data.map (slV' true 4 canonV)).set j (.own 2 0))⟩, ⟨.row 47, true, 0, .arr 3 (f.opens.map opnV)⟩, ⟨.row 43, true, 0, .arr 4 (f.data[j]!.map canonV)⟩]) := by
  have h1 := F.d
  have h2 := F.o
  refine zgo m_rcopy_ok fun W S => ?_
  refine ev_adoptB 3 0 22 1 rfl rfl (by decide) rfl ?_
  refine ev_toRows 4 rfl ?_
  refine ev_loopK [2, 3, 11, 12] (fun p : {p : Nat // p ≤ f.data.length} => [(13, .int .i64 p.1)]) (fun p => oJ f j [⟨.box false 34, true, 0, filV f⟩, ⟨.box false 34, true, 0, .agg [.nilS, .nilS]⟩, ⟨.row 47, true, 0, .arr 3 (f.opens.map opnV)⟩, ⟨.box false 34, true, 0, .agg [.own 4 p.1, .own 2 0]⟩] p.1) (fun p => f.data.length - p.1) (⟨0, by simp⟩) 5 (by simp only [go_sem]; rfl) ?_ (by first | rfl | (simp only [go_sem]; done) | (simp only [go_sem]; simp [oJ_ge (Nat.not_lt_zero j)]; done)) (by simp) (by first | rfl | (simp only [go_sem]; done)) (by first | rfl | (simp only [go_sem]; done)) (by first | rfl | (simp only [go_sem]; done) | (simp only [oJ_ge (Nat.not_lt_zero j)]; (try simp only [go_sem]); first | done | rfl)) ?_
  · (simp only [go_sem]; (try simp [oJ_ge (Nat.not_lt_zero j)]); done)
  intro J hJ
  rintro ⟨k, hk0⟩
  dsimp only
  by_cases hlt : k < f.data.length
  · have hs := take_snoc hlt
    have hb := F.len _ (mem_at hlt)
    have hl2 : (f.data.take k).length = k := by rw [List.length_take]; omega
    rcases Nat.lt_trichotomy k j with c | c | c
    · have z1 := oJ_ge (f := f) (j := j) (p := k + 1) (a := []) (by omega)
      rw [oJ_ge (by omega)]
      refine zst ?_
      refine ev_next 5 (hJ _ (⟨k + 1, hlt⟩) (by first | omega | (dsimp only; omega) | (simp; omega))) rfl (by simp) ?_ (by first | rfl | (simp only [go_sem]; done)) (by first | rfl | (simp only [go_sem]; done) | (simp only [oJ_ge (show ¬ j < k + 1 by omega), hs]; (try simp only [go_sem]); first | done | rfl)) ?_
      · (first | rfl | (simp only [go_sem]; done) | (simp only [go_sem]; simp only [oJ_ge (show ¬ j < k + 1 by omega), hs]; done) | (simp only [oJ_ge (show ¬ j < k + 1 by omega), hs]; done) | (simp only [go_sem]; simp [oJ_ge (show ¬ j < k + 1 by omega), hs]; done) | (simp [oJ_ge (show ¬ j < k + 1 by omega), hs]; done))
      · (simp only [go_sem]; (repeat' (refine And.intro ?_ ?_)) <;> first | exact trivial | with_reducible rfl | (simp only [oJ_ge (show ¬ j < k + 1 by omega), hs]; done) | (simp only [oJ_ge (show ¬ j < k + 1 by omega), hs]; with_reducible rfl) | (simp [oJ_ge (show ¬ j < k + 1 by omega), hs]; done) | (simp [oJ_ge (show ¬ j < k + 1 by omega), hs]; omega) | (simp only [oJ_ge (show ¬ j < k + 1 by omega), hs]; rfl) | skip)
    · subst c
      rw [oJ_ge (by omega)]
      have hs2 : (f.data.take k).map (slV' true 4 canonV) ++ [V.own 5 1] = ((f.data.take (k + 1)).map (slV' true 4 canonV)).set k (.own 5 1) := setJ_eq hlt
      refine zso ?_
      refine ev_draw (fu := fu8) mixed [3, 4] 2 rfl (by kernel_rfl) ?_; simp only [go_sem]
      repeat (first | refine And.intro (by omega) ?_ | refine And.intro rfl ?_ | refine ev_ctl rfl rfl ?_ | refine evr_nil ?_ | refine evw_nil (by kernel_rfl) ?_ | (simp (disch := omega) only [takeAll, Nat.min_eq_left, Nat.min_eq_right, if_pos, if_neg, getD_map, wrapI64, modIn, fdivE, tmodE, tdivE, decT, decF, beqT, beqF, bneT, bneF, Int.toNat_natCast]; try simp only [go_sem]) | (refine ev_condTb rfl ?_ ?_; · (simp <;> omega)) | (refine ev_condFb rfl ?_ ?_; · (simp <;> omega)) | ((first | refine ev_region ?_ | refine evr_go rfl ?_ | refine evw_gom [3, 4] rfl ?_ | refine ev_dr0 mixed rfl (by kernel_rfl) ?_ | refine ev_dr1 mixed rfl (by kernel_rfl) ?_ | refine ev_dr2 mixed rfl (by kernel_rfl) ?_); simp only [go_sem]))
      refine ev_next 6 (hJ _ (⟨k + 1, hlt⟩) (by first | omega | (dsimp only; omega) | (simp; omega))) rfl (by simp) ?_ (by first | rfl | (simp only [go_sem]; done)) (by first | rfl | (simp only [go_sem]; done) | (simp only [oJ_lt (show k < k + 1 by omega), hs2, List.cons_append, List.nil_append]; (try simp only [go_sem]); first | done | rfl)) ?_
      · (first | rfl | (simp only [go_sem]; done) | (simp only [go_sem]; simp only [oJ_lt (show k < k + 1 by omega), hs2, List.cons_append, List.nil_append]; done) | (simp only [oJ_lt (show k < k + 1 by omega), hs2, List.cons_append, List.nil_append]; done) | (simp only [go_sem]; simp [oJ_lt (show k < k + 1 by omega), hs2, List.cons_append, List.nil_append]; done) | (simp [oJ_lt (show k < k + 1 by omega), hs2, List.cons_append, List.nil_append]; done))
      · (simp only [go_sem]; (repeat' (refine And.intro ?_ ?_)) <;> first | exact trivial | with_reducible rfl | (simp only [oJ_lt (show k < k + 1 by omega), hs2, List.cons_append, List.nil_append]; done) | (simp only [oJ_lt (show k < k + 1 by omega), hs2, List.cons_append, List.nil_append]; with_reducible rfl) | (simp [oJ_lt (show k < k + 1 by omega), hs2, List.cons_append, List.nil_append]; done) | (simp [oJ_lt (show k < k + 1 by omega), hs2, List.cons_append, List.nil_append]; omega) | (simp only [oJ_lt (show k < k + 1 by omega), hs2, List.cons_append, List.nil_append]; rfl) | skip)
    · rw [oJ_lt c]
      have hs2 : ((f.data.take k).map (slV' true 4 canonV)).set j (.own 5 1) ++ [V.sl true 4 (f.data[k]!.map canonV)] = ((f.data.take (k + 1)).map (slV' true 4 canonV)).set j (.own 5 1) := setJ_lt hlt c
      refine zst ?_
      refine ev_next 6 (hJ _ (⟨k + 1, hlt⟩) (by first | omega | (dsimp only; omega) | (simp; omega))) rfl (by simp) ?_ (by first | rfl | (simp only [go_sem]; done)) (by first | rfl | (simp only [go_sem]; done) | (simp only [oJ_lt (show j < k + 1 by omega), hs2, List.cons_append, List.nil_append]; (try simp only [go_sem]); first | done | rfl)) ?_
      · (first | rfl | (simp only [go_sem]; done) | (simp only [go_sem]; simp only [oJ_lt (show j < k + 1 by omega), hs2, List.cons_append, List.nil_append]; done) | (simp only [oJ_lt (show j < k + 1 by omega), hs2, List.cons_append, List.nil_append]; done) | (simp only [go_sem]; simp [oJ_lt (show j < k + 1 by omega), hs2, List.cons_append, List.nil_append]; done) | (simp [oJ_lt (show j < k + 1 by omega), hs2, List.cons_append, List.nil_append]; done))
      · (simp only [go_sem]; (repeat' (refine And.intro ?_ ?_)) <;> first | exact trivial | with_reducible rfl | (simp only [oJ_lt (show j < k + 1 by omega), hs2, List.cons_append, List.nil_append]; done) | (simp only [oJ_lt (show j < k + 1 by omega), hs2, List.cons_append, List.nil_append]; with_reducible rfl) | (simp [oJ_lt (show j < k + 1 by omega), hs2, List.cons_append, List.nil_append]; done) | (simp [oJ_lt (show j < k + 1 by omega), hs2, List.cons_append, List.nil_append]; omega) | (simp only [oJ_lt (show j < k + 1 by omega), hs2, List.cons_append, List.nil_append]; rfl) | skip)
  · obtain rfl : k = f.data.length := by omega
    rw [oJ_lt hj]
    refine zst ?_
    refine retN m_rcopy_ok [4, 2, 5] ?_; simp only [go_sem]
    exact V.oksW_set (V.oksW_pure _ _ _ (pures_lo _ _)) _ (by simp only [go_sem])
end Go.Proofs.YtkfpcgkmemfdaaaGreat
/- Files: handles, Close, Seek. -/
namespace Go.Proofs.YtkfpcgkmemfdaaaGreat
open Go Go.RowKit Rdn Rdn.Dp
set_option linter.unusedVariables false
set_option linter.unusedSimpArgs false
theorem m_o1_ok : compF Tryz.prog 100 = some (6, Qr ([Qw 1 (.box 47 (.t 0)), Qc 2 (.bool false)])
 (Qr ([Qf 3 0 0 1, Ql 4 1 3, Qk 5 .eql 4 (-1), Qm 2 5])
 (.ret)), [.mov (.t 2)]) := by kernel_rfl
theorem m_idxo_ok : compF Tryz.prog 99 = some (19, Qr ([Qp 4 (.mov (Qi 0))])
 (.seq (Qr ([Qm 6 0, Qn 7 6, Qp 8 (.mov (Qi 0))])
 (.block 0 (.loop (Qr ([Qb 9 .lss 8 7])
 (.seq (.cond (.t 9) (.skip) (.exit 0))
 (.seq (.block 1 (Qr ([Qm 10 8, Qm 5 10])
 (Qr ([Qm 11 1, Qm 12 0, Qm 13 5, Qx 14 3 12 13, QL 15 3 14, ⟨(some 16), none, (.callv (.t 11) [(.t 15)])⟩])
 (.cond (.t 16) (Qr ([Qm 17 5, Qm 4 17])
 (.ret)) (.skip)))))
 (.reg [Qk 18 .add 8 1, Qm 8 18])))))))
 (Qr ([Qp 4 (.mov (Qi (-1)))])
 (.ret))), [.mov (.t 4)]) := by kernel_rfl
theorem m_opened_ok : compF Tryz.prog 96 = some (48, Qr ([Qw 2 (.box 34 (.t 0)), Qc 4 (.bool false)])
 (.seq (Qr ([Qm 6 1, Qk 7 .lss 6 0, Qm 8 7, Q0 9 8 (.mov (.t 1)), Q0 10 8 (.fieldA 1 1 (.t 2)), Q0 11 8 (.load false 1 (.t 10)), Q0 12 8 (.len (.t 11)), Q0 13 8 (.bin 0 .geq (.t 9) (.t 12)), Qt 14 8 13])
 (.cond (.t 14) (Qr ([Qc 4 (.bool false)])
 (.ret)) (.skip)))
 (Qr ([Qf 15 1 1 2, Ql 16 1 15, Qm 17 1, Qx 18 3 16 17, QL 19 3 18, Qw 5 (.alloc 47 (.agg [.int .i64 0, .int .i64 0, .bool false])), Qs 3 5 19])
 (.seq (.dreg [Qf 20 0 0 5, Ql 21 1 20, Qk 22 .geq 21 0, Qm 23 22, Q1 24 23 (.fieldA 0 0 (.t 5)), Q1 25 23 (.load false 1 (.t 24)), Q1 26 23 (.fieldA 0 0 (.t 2)), Q1 27 23 (.load false 1 (.t 26)), Q1 28 23 (.len (.t 27)), Q1 29 23 (.bin 0 .lss (.t 25) (.t 28)), Qu 30 23 29, Qm 31 30, Q1 32 31 (.fieldA 1 1 (.t 5)), Q1 33 31 (.load false 1 (.t 32)), Q1 34 31 (.bin 0 .geq (.t 33) (Qi 0)), Qu 35 31 34, Qm 36 35, Q1 37 36 (.fieldA 1 1 (.t 5)), Q1 38 36 (.load false 1 (.t 37)), Q1 39 36 (.fieldA 0 0 (.t 2)), Q1 40 36 (.load false 1 (.t 39)), Q1 41 36 (.fieldA 0 0 (.t 5)), Q1 42 36 (.load false 1 (.t 41)), Q1 43 36 (.idxA 1 (.t 40) (.t 42)), Q1 44 36 (.load false 1 (.t 43)), Q1 45 36 (.len (.t 44)), Q1 46 36 (.bin 0 .leq (.t 38) (.t 45)), Qu 47 36 46, Qm 4 47] [[], [0], [0, 1], [0, 1, 2], [0, 1, 2, 3], [0, 1, 2, 3, 4], [0, 1, 2, 3], [0, 1, 2, 3, 6], [0, 1, 2, 3, 6, 7], [0, 1, 2, 3, 4, 5, 6, 7, 8], [0, 1, 2, 3, 4, 5, 6, 7, 8, 9], [0, 1, 2, 3, 4, 5, 6, 7, 8, 9, 10], [0, 1, 2, 3, 4, 5, 6, 7, 8, 9, 10, 11], [0, 1, 2, 3, 4, 5, 6, 7, 8, 9, 10, 11, 12], [0, 1, 2, 3, 4, 5, 6, 7, 8, 9, 10, 11, 12, 13], [0, 1, 2, 3, 4, 5, 6, 7, 8, 9, 10, 11, 12, 13, 14], [0, 1, 2, 3, 4, 5, 6, 7, 8, 9, 10, 11, 12, 13, 14, 15], [0, 1, 2, 3, 4, 5, 6, 7, 8, 9, 10, 11, 12, 13, 14, 15, 16], [0, 1, 2, 3, 4, 5, 6, 7, 8, 9, 10, 11, 12, 13, 14, 15, 16, 17], [0, 1, 2, 3, 4, 5, 6, 7, 8, 9, 10, 11, 12, 13, 14, 15, 16], [0, 1, 2, 3, 4, 5, 6, 7, 8, 9, 10, 11, 12, 13, 14, 15, 16, 19], [0, 1, 2, 3, 4, 5, 6, 7, 8, 9, 10, 11, 12, 13, 14, 15, 16], [0, 1, 2, 3, 4, 5, 6, 7, 8, 9, 10, 11, 12, 13, 14, 15, 16, 21], [0, 1, 2, 3, 4, 5, 6, 7, 8, 9, 10, 11, 12, 13, 14, 15, 16, 19, 20, 21, 22], [0, 1, 2, 3, 4, 5, 6, 7, 8, 9, 10, 11, 12, 13, 14, 15, 16, 19, 20, 21, 22, 23], [0, 1, 2, 3, 4, 5, 6, 7, 8, 9, 10, 11, 12, 13, 14, 15, 16, 19, 20, 21, 22, 23, 24], [0, 1, 2, 3, 4, 5, 6, 7, 8, 9, 10, 11, 12, 13, 14, 15, 16, 17, 18, 19, 20, 21, 22, 23, 24, 25], [0, 1, 2, 3, 4, 5, 6, 7, 8, 9, 10, 11, 12, 13, 14, 15, 16, 17, 18, 19, 20, 21, 22, 23, 24, 25, 26], [0, 1, 2, 3, 4, 5, 6, 7, 8, 9, 10, 11, 12, 13, 14, 15, 16, 17, 18, 19, 20, 21, 22, 23, 24, 25, 26, 27]])
 (.ret)))), [.mov (.t 4)]) := by kernel_rfl
theorem m_ropen_ok : compF Tryz.prog 103 = some (23, Qr ([Qw 2 (.box 34 (.t 0)), Qc 4 (.bool false)])
 (Qr ([Qm 5 1, Qk 6 .geq 5 0, Qm 7 6, Q1 8 7 (.mov (.t 1)), Q1 9 7 (.fieldA 1 1 (.t 2)), Q1 10 7 (.load false 1 (.t 9)), Q1 11 7 (.len (.t 10)), Q1 12 7 (.bin 0 .lss (.t 8) (.t 11)), Qu 13 7 12, Qm 14 13, Q1 15 14 (.fieldA 1 1 (.t 2)), Q1 16 14 (.load false 1 (.t 15)), Q1 17 14 (.mov (.t 1)), Q1 18 14 (.idxA 3 (.t 16) (.t 17)), Q1 19 14 (.fieldA 0 0 (.t 18)), Q1 20 14 (.load false 1 (.t 19)), Q1 21 14 (.bin 0 .neq (.t 20) (Qi (-1))), Qu 22 14 21, Qm 4 22])
 (.ret)), [.mov (.t 4)]) := by kernel_rfl
theorem m_wclose_ok : compF Tryz.prog 55 = some (20, Qr ([Qw 2 (.box 34 (.t 0)), Qw 4 (.alloc 34 (.agg [.nilS, .nilS])), Qc 5 (.bool false)])
 (Qr ([QL 7 2 2, Qq 8 94 [(.t 7)], Qw 6 (.alloc 34 (.agg [.nilS, .nilS])), Qs 2 6 8])
 (.seq (Qr ([QL 9 2 2, Qm 10 1, Qq 11 96 [(.t 9), (.t 10)], Qp 12 (.un .not (.t 11))])
 (.cond (.t 12) (Qr ([QL 13 2 6, Qs 2 4 13, Qc 5 (.bool false)])
 (.ret)) (.skip)))
 (Qr ([Qf 14 1 1 6, Ql 15 1 14, Qm 16 1, Qw 17 (.build none [.int .i64 0, .int .i64 0, .bool false] [(0, (Qi (-1)))]), Qx 18 3 15 16, Qs 3 18 17])
 (Qr ([QL 19 2 6, Qs 2 4 19, Qc 5 (.bool true)])
 (.ret))))), [.load true 2 (.t 4), .mov (.t 5)]) := by kernel_rfl
theorem m_rclose_ok : compF Tryz.prog 67 = some (20, Qr ([Qw 2 (.box 34 (.t 0)), Qw 4 (.alloc 34 (.agg [.nilS, .nilS])), Qc 5 (.bool false)])
 (Qr ([QL 7 2 2, Qq 8 23 [(.t 7)], Qw 6 (.alloc 34 (.agg [.nilS, .nilS])), Qs 2 6 8])
 (.seq (Qr ([QL 9 2 2, Qm 10 1, Qq 11 103 [(.t 9), (.t 10)], Qp 12 (.un .not (.t 11))])
 (.cond (.t 12) (Qr ([QL 13 2 6, Qs 2 4 13, Qc 5 (.bool false)])
 (.ret)) (.skip)))
 (Qr ([Qf 14 1 1 6, Ql 15 1 14, Qm 16 1, Qw 17 (.build none [.int .i64 0, .int .i64 0, .bool false] [(0, (Qi (-1)))]), Qx 18 3 15 16, Qs 3 18 17])
 (Qr ([QL 19 2 6, Qs 2 4 19, Qc 5 (.bool true)])
 (.ret))))), [.load true 2 (.t 4), .mov (.t 5)]) := by kernel_rfl
def isShut (o : Opn) : Bool := decide (o.file = -1)
set_option maxHeartbeats 4000000 in
theorem o1_fn (o : Opn) : Fnc Tryz.prog 100 [opnV o] (fun x obs => x = .bool (isShut o) ∧ obs = []) := by
  by_cases c : o.file = -1
  · have hr : isShut o = true := decT c
    refine zgo m_o1_ok fun W S => ?_
    exact zrh m_o1_ok hr
  · have hr : isShut o = false := decF c
    refine zgo m_o1_ok fun W S => ?_
    exact zrh m_o1_ok hr
set_option maxHeartbeats 4000000 in
theorem idxo_fn (l : List Opn) : Fnc Tryz.prog 99 [.sl false 3 (l.map opnV), .fn 100] (fun x obs => x = .int .i64 (fnd isShut l) ∧ obs = []) := by
  refine Fnc.wf fun hw => ?_
  have hm : l.length ≤ 140737488355328 := by
    have := hw.1
    simp only [V.wf, List.length_map] at this
    exact this.2
  clear hw
  refine zgo m_idxo_ok fun W S => ?_
  refine ev_loopK [0, 1, 7] (fun p : {p : Nat // p ≤ l.length ∧ ∀ j, j < p → isShut l[j]! = false} => [(8, .int .i64 p.1)]) (fun _ => []) (fun p => l.length - p.1) (⟨0, by simp⟩) 0 (by simp only [go_sem]; rfl) ?_ (by first | rfl | (simp only [go_sem]; done)) (by simp) (by first | rfl | (simp only [go_sem]; done)) (by first | rfl | (simp only [go_sem]; done)) (by first | rfl | (simp only [go_sem]; done)) ?_
  · (simp only [go_sem]; (try simp []); done)
  intro J hJ
  rintro ⟨k, hk0, hk1⟩
  by_cases hlt : k < l.length
  · have hc := o1_fn l[k]!
    cases hb : isShut l[k]! with
    | true =>
      rw [hb] at hc
      have hr := fnd_at (p := isShut) hlt hk1 hb
      refine zst ?_
      refine zcv (hc) ?_
      exact zrh m_idxo_ok hr
    | false =>
      rw [hb] at hc
      have hS : ∀ j, j < k + 1 → isShut l[j]! = false := fun j hj => by
        by_cases e : j = k
        · subst e; exact hb
        · exact hk1 j (by omega)
      refine zst ?_
      refine zcv (hc) ?_
      exact zn0 (hJ _ (⟨k + 1, hlt, hS⟩) (by first | omega | (dsimp only; omega) | (simp; omega))) hlt
  · obtain rfl : k = l.length := by omega
    have hr := fnd_no (p := isShut) hk1
    refine zst ?_
    exact zrh m_idxo_ok hr
attribute [local irreducible] sClose sSeek setOff dat
set_option maxHeartbeats 8000000 in
theorem opened_fn (f : Files) (F : FitF f) (h : Int) : Fnc Tryz.prog 96 [filV f, .int .i64 h] (fun x obs => x = .bool (decide (opd f h)) ∧ obs = []) := by
  have h8 := F.o
  have hd4 := F.d
  by_cases c1 : h < 0
  · have hr : decide (opd f h) = false := decF fun c => by have := c.1; omega
    refine zgo m_opened_ok fun W S => ?_
    exact zrh m_opened_ok hr
  by_cases c2 : (f.opens.length : Int) ≤ h
  · have hr : decide (opd f h) = false := decF fun c => by have := c.2.1; omega
    refine zgo m_opened_ok fun W S => ?_
    exact zrh m_opened_ok hr
  obtain ⟨i, hi⟩ : ∃ i : Nat, h = i := ⟨h.toNat, by omega⟩
  subst hi
  have hil : i < f.opens.length := by omega
  have hok := F.ok _ (mem_at hil)
  have hi' : ((i : Int)).toNat = i := Int.toNat_natCast i
  by_cases c3 : f.opens[i]!.file = -1
  · have hr : decide (opd f i) = false := decF fun c => c.2.2 (by rw [hi']; exact c3)
    refine zgo m_opened_ok fun W S => ?_
    exact zrh m_opened_ok hr
  · have hr : decide (opd f i) = true := decT ⟨by omega, by omega, by rw [hi']; exact c3⟩
    rcases hok with hok | ⟨k1, k2, k3, k4⟩
    · exact absurd hok.1 c3
    refine zgo m_opened_ok fun W S => ?_
    exact zrh m_opened_ok hr
set_option maxHeartbeats 8000000 in
theorem ropen_fn (f : Files) (F : FitF f) (h : Int) : Fnc Tryz.prog 103 [filV f, .int .i64 h] (fun x obs => x = .bool (decide (opd f h)) ∧ obs = []) := by
  have h8 := F.o
  by_cases c1 : h < 0
  · have hr : decide (opd f h) = false := decF fun c => by have := c.1; omega
    refine zgo m_ropen_ok fun W S => ?_
    exact zrh m_ropen_ok hr
  by_cases c2 : (f.opens.length : Int) ≤ h
  · have hr : decide (opd f h) = false := decF fun c => by have := c.2.1; omega
    refine zgo m_ropen_ok fun W S => ?_
    exact zrh m_ropen_ok hr
  obtain ⟨i, hi⟩ : ∃ i : Nat, h = i := ⟨h.toNat, by omega⟩
  subst hi
  have hil : i < f.opens.length := by omega
  have hi' : ((i : Int)).toNat = i := Int.toNat_natCast i
  by_cases c3 : f.opens[i]!.file = -1
  · have hr : decide (opd f i) = false := decF fun c => c.2.2 (by rw [hi']; exact c3)
    refine zgo m_ropen_ok fun W S => ?_
    exact zrh m_ropen_ok hr
  · have hr : decide (opd f i) = true := decT ⟨by omega, by omega, by rw [hi']; exact c3⟩
    refine zgo m_ropen_ok fun W S => ?_
    exact zrh m_ropen_ok hr
theorem sClose_T {f : Files} {h : Int} (c : opd f h) : sClose f h = (⟨f.data, f.opens.set h.toNat shut⟩, true) := by unfold sClose; exact if_pos c
theorem sClose_F {f : Files} {h : Int} (c : ¬ opd f h) : sClose f h = (f, false) := by unfold sClose; exact if_neg c
set_option maxHeartbeats 8000000 in
theorem wclose_fn (f : Files) (F : FitF f) (h : Int) : Fnc Tryz.prog 55 [filV f, .int .i64 h] (fun x obs => x = .tup [filV (sClose f h).1, .bool (sClose f h).2] ∧ obs = []) := by
  refine Fnc.low ?_
  have fO := opened_fn f F h
  by_cases c : opd f h
  · rw [decT c] at fO
    rw [sClose_T c]
    obtain ⟨c1, c2, c3⟩ := c
    refine zgo m_wclose_ok fun W S => ?_
    refine zcx (wcopy_fn f F.low) ?_
    refine zcd (fO) ?_
    refine ret m_wclose_ok [] ?_; (first | (simp only [go_sem]; done) | (simp only [go_sem]; ((try dsimp only); (repeat' (refine And.intro ?_ ?_)) <;> first | with_reducible rfl | (simp only [go_sem]; done) | (simp only [go_sem]; rfl) | (simp only [go_sem, shut]; done) | (simp only [shut]; (try simp only [go_sem]); first | done | rfl) | (simp only [go_sem]; simp [shut]; done) | (simp [shut]; done) | rfl)))
  · rw [decF c] at fO
    rw [sClose_F c]
    refine zgo m_wclose_ok fun W S => ?_
    refine zcx (wcopy_fn f F.low) ?_
    refine zcd (fO) ?_
    exact zrt m_wclose_ok
set_option maxHeartbeats 8000000 in
theorem rclose_fn (f : Files) (F : FitF f) (h : Int) : Fnc Tryz.prog 67 [filV f, .int .i64 h] (fun x obs => x = .tup [filV (sClose f h).1, .bool (sClose f h).2] ∧ obs = []) := by
  refine Fnc.low ?_
  have fO := ropen_fn f F h
  by_cases c : opd f h
  · rw [decT c] at fO
    rw [sClose_T c]
    obtain ⟨c1, c2, c3⟩ := c
    refine zgo m_rclose_ok fun W S => ?_
    refine zcx (rcopy_fn f F.low) ?_
    refine zcd (fO) ?_
    refine ret m_rclose_ok [] ?_; (first | (simp only [go_sem]; done) | (simp only [go_sem]; ((try dsimp only); (repeat' (refine And.intro ?_ ?_)) <;> first | with_reducible rfl | (simp only [go_sem]; done) | (simp only [go_sem]; rfl) | (simp only [go_sem, shut]; done) | (simp only [shut]; (try simp only [go_sem]); first | done | rfl) | (simp only [go_sem]; simp [shut]; done) | (simp [shut]; done) | rfl)))
  · rw [decF c] at fO
    rw [sClose_F c]
    refine zgo m_rclose_ok fun W S => ?_
    refine zcx (rcopy_fn f F.low) ?_
    refine zcd (fO) ?_
    exact zrt m_rclose_ok
end Go.Proofs.YtkfpcgkmemfdaaaGreat
/- Files: Seek, Read. -/
namespace Go.Proofs.YtkfpcgkmemfdaaaGreat
open Go Go.RowKit Rdn Rdn.Dp
set_option linter.unusedVariables false
set_option linter.unusedSimpArgs false
theorem m_wseek_ok : compF Tryz.prog 56 = some (42, Qr ([Qw 3 (.box 34 (.t 0)), Qw 6 (.alloc 34 (.agg [.nilS, .nilS])), Qc 7 (.bool false)])
 (Qr ([QL 9 2 3, Qq 10 94 [(.t 9)], Qw 8 (.alloc 34 (.agg [.nilS, .nilS])), Qs 2 8 10])
 (.seq (.seq (.dreg [QL 11 2 3, Qm 12 1, Qq 13 96 [(.t 11), (.t 12)], Qp 14 (.un .not (.t 13)), Qm 15 14, Q0 16 15 (.mov (.t 2)), Q0 17 15 (.bin 0 .lss (.t 16) (Qi 0)), Qt 18 15 17, Qm 19 18, Q0 20 19 (.mov (.t 2)), Q0 21 19 (.fieldA 0 0 (.t 3)), Q0 22 19 (.load false 1 (.t 21)), Q0 23 19 (.fieldA 1 1 (.t 3)), Q0 24 19 (.load false 1 (.t 23)), Q0 25 19 (.mov (.t 1)), Q0 26 19 (.idxA 3 (.t 24) (.t 25)), Q0 27 19 (.fieldA 0 0 (.t 26)), Q0 28 19 (.load false 1 (.t 27)), Q0 29 19 (.idxA 1 (.t 22) (.t 28)), Q0 30 19 (.load false 1 (.t 29)), Q0 31 19 (.len (.t 30)), Q0 32 19 (.bin 0 .gtr (.t 20) (.t 31)), Qt 33 19 32] [[], [], [0, 1], [0, 1, 2], [0, 1, 2, 3], [0, 1, 2, 3, 4], [0, 1, 2, 3, 4, 5], [0, 1, 2, 3, 4, 5, 6], [0, 1, 2, 3, 4, 5, 6, 7], [0, 1, 2, 3, 4, 5, 6, 7, 8], [0, 1, 2, 3, 4, 5, 6, 7, 8], [0, 1, 2, 3, 4, 5, 6, 7, 8, 10], [0, 1, 2, 3, 4, 5, 6, 7, 8], [0, 1, 2, 3, 4, 5, 6, 7, 8, 12], [0, 1, 2, 3, 4, 5, 6, 7, 8], [0, 1, 2, 3, 4, 5, 6, 7, 8, 12, 13, 14], [0, 1, 2, 3, 4, 5, 6, 7, 8, 12, 13, 14, 15], [0, 1, 2, 3, 4, 5, 6, 7, 8, 12, 13, 14, 15, 16], [0, 1, 2, 3, 4, 5, 6, 7, 8, 10, 11, 12, 13, 14, 15, 16, 17], [0, 1, 2, 3, 4, 5, 6, 7, 8, 10, 11, 12, 13, 14, 15, 16, 17, 18], [0, 1, 2, 3, 4, 5, 6, 7, 8, 10, 11, 12, 13, 14, 15, 16, 17, 18, 19], [0, 1, 2, 3, 4, 5, 6, 7, 8, 9, 10, 11, 12, 13, 14, 15, 16, 17, 18, 19, 20], [0, 1, 2, 3, 4, 5, 6, 7, 8, 9, 10, 11, 12, 13, 14, 15, 16, 17, 18, 19, 20, 21]])
 (.cond (.t 33) (Qr ([QL 34 2 8, Qs 2 6 34, Qc 7 (.bool false)])
 (.ret)) (.skip)))
 (Qr ([Qf 35 1 1 8, Ql 36 1 35, Qm 37 1, Qm 38 2, Qx 39 3 36 37, Qf 40 1 1 39, Qs 1 40 38])
 (Qr ([QL 41 2 8, Qs 2 6 41, Qc 7 (.bool true)])
 (.ret))))), [.load true 2 (.t 6), .mov (.t 7)]) := by kernel_rfl
theorem m_rseek_ok : compF Tryz.prog 68 = some (42, Qr ([Qw 3 (.box 34 (.t 0)), Qw 6 (.alloc 34 (.agg [.nilS, .nilS])), Qc 7 (.bool false)])
 (Qr ([QL 9 2 3, Qq 10 23 [(.t 9)], Qw 8 (.alloc 34 (.agg [.nilS, .nilS])), Qs 2 8 10])
 (.seq (.seq (.dreg [QL 11 2 3, Qm 12 1, Qq 13 103 [(.t 11), (.t 12)], Qp 14 (.un .not (.t 13)), Qm 15 14, Q0 16 15 (.mov (.t 2)), Q0 17 15 (.bin 0 .lss (.t 16) (Qi 0)), Qt 18 15 17, Qm 19 18, Q0 20 19 (.mov (.t 2)), Q0 21 19 (.fieldA 0 0 (.t 3)), Q0 22 19 (.load false 1 (.t 21)), Q0 23 19 (.fieldA 1 1 (.t 3)), Q0 24 19 (.load false 1 (.t 23)), Q0 25 19 (.mov (.t 1)), Q0 26 19 (.idxA 3 (.t 24) (.t 25)), Q0 27 19 (.fieldA 0 0 (.t 26)), Q0 28 19 (.load false 1 (.t 27)), Q0 29 19 (.idxA 1 (.t 22) (.t 28)), Q0 30 19 (.load false 1 (.t 29)), Q0 31 19 (.len (.t 30)), Q0 32 19 (.bin 0 .gtr (.t 20) (.t 31)), Qt 33 19 32] [[], [], [0, 1], [0, 1, 2], [0, 1, 2, 3], [0, 1, 2, 3, 4], [0, 1, 2, 3, 4, 5], [0, 1, 2, 3, 4, 5, 6], [0, 1, 2, 3, 4, 5, 6, 7], [0, 1, 2, 3, 4, 5, 6, 7, 8], [0, 1, 2, 3, 4, 5, 6, 7, 8], [0, 1, 2, 3, 4, 5, 6, 7, 8, 10], [0, 1, 2, 3, 4, 5, 6, 7, 8], [0, 1, 2, 3, 4, 5, 6, 7, 8, 12], [0, 1, 2, 3, 4, 5, 6, 7, 8], [0, 1, 2, 3, 4, 5, 6, 7, 8, 12, 13, 14], [0, 1, 2, 3, 4, 5, 6, 7, 8, 12, 13, 14, 15], [0, 1, 2, 3, 4, 5, 6, 7, 8, 12, 13, 14, 15, 16], [0, 1, 2, 3, 4, 5, 6, 7, 8, 10, 11, 12, 13, 14, 15, 16, 17], [0, 1, 2, 3, 4, 5, 6, 7, 8, 10, 11, 12, 13, 14, 15, 16, 17, 18], [0, 1, 2, 3, 4, 5, 6, 7, 8, 10, 11, 12, 13, 14, 15, 16, 17, 18, 19], [0, 1, 2, 3, 4, 5, 6, 7, 8, 9, 10, 11, 12, 13, 14, 15, 16, 17, 18, 19, 20], [0, 1, 2, 3, 4, 5, 6, 7, 8, 9, 10, 11, 12, 13, 14, 15, 16, 17, 18, 19, 20, 21]])
 (.cond (.t 33) (Qr ([QL 34 2 8, Qs 2 6 34, Qc 7 (.bool false)])
 (.ret)) (.skip)))
 (Qr ([Qf 35 1 1 8, Ql 36 1 35, Qm 37 1, Qm 38 2, Qx 39 3 36 37, Qf 40 1 1 39, Qs 1 40 38])
 (Qr ([QL 41 2 8, Qs 2 6 41, Qc 7 (.bool true)])
 (.ret))))), [.load true 2 (.t 6), .mov (.t 7)]) := by kernel_rfl
theorem m_wread_ok : compF Tryz.prog 53 = some (67, Qr ([Qw 3 (.box 34 (.t 0)), Qw 6 (.alloc 34 (.agg [.nilS, .nilS])), Qp 7 (.mov (.c (.nilS))), Qc 8 (.bool false)])
 (Qr ([QL 13 2 3, Qq 14 94 [(.t 13)], Qw 9 (.alloc 34 (.agg [.nilS, .nilS])), Qs 2 9 14])
 (.seq (Qr ([QL 15 2 3, Qm 16 1, Qq 17 96 [(.t 15), (.t 16)], Qp 18 (.un .not (.t 17)), Qm 19 18, Q0 20 19 (.mov (.t 2)), Q0 21 19 (.bin 0 .lss (.t 20) (Qi 0)), Qt 22 19 21, Qm 23 22, Q0 24 23 (.fieldA 1 1 (.t 3)), Q0 25 23 (.load false 1 (.t 24)), Q0 26 23 (.mov (.t 1)), Q0 27 23 (.idxA 3 (.t 25) (.t 26)), Q0 28 23 (.fieldA 2 2 (.t 27)), Q0 29 23 (.load false 1 (.t 28)), Qt 30 23 29])
 (.cond (.t 30) (Qr ([QL 31 2 9, Qs 2 6 31, Qp 7 (.mov (.c (.nilS))), Qc 8 (.bool false)])
 (.ret)) (.skip)))
 (Qr ([Qf 32 1 1 9, Ql 33 1 32, Qm 34 1, Qx 35 3 33 34, Qm 10 35])
 (.seq (.dreg [Qf 36 0 0 3, Ql 37 1 36, Qm 38 10, Qp 39 (.nilc (.t 38)), Qf 40 0 0 39, Ql 41 1 40, Qx 42 1 37 41, Ql 43 1 42, Qm 44 10, Qp 45 (.nilc (.t 44)), Qf 46 1 1 45, Ql 47 1 46, Qw 48 (.sl 4 (.t 43) (some (.t 47)) none none), Qm 11 48] [[], [0], [], [2], [2, 3], [2, 3, 4], [0, 1, 2, 3, 4, 5], [0, 1, 2, 3, 4, 5, 6], [], [8], [8, 9], [8, 9, 10], [0, 1, 2, 3, 4, 5, 6, 7, 8, 9, 10, 11], [0, 1, 2, 3, 4, 5, 6, 7, 8, 9, 10, 11, 12]])
 (Qr ([Qm 49 11, Qm 50 2, Qm 51 11, Qn 52 51, Qp 53 (.mn (.t 50) (.t 52)), Qw 54 (.sl 4 (.t 49) none (some (.t 53)) none), Qq 55 98 [(.t 54)], Qm 12 55])
 (Qr ([Qm 56 10, Qp 57 (.nilc (.t 56)), Qf 58 1 1 57, Ql 59 1 58, Qm 60 12, Qn 61 60, Qb 62 .add 59 61, Qp 63 (.nilc (.t 56)), Qf 64 1 1 63, Qs 1 64 62])
 (Qr ([QL 65 2 9, Qm 66 12, Qs 2 6 65, Qm 7 66, Qc 8 (.bool true)])
 (.ret)))))))), [.load true 2 (.t 6), .mov (.t 7), .mov (.t 8)]) := by kernel_rfl
theorem m_rread_ok : compF Tryz.prog 65 = some (77, Qr ([Qw 3 (.box 34 (.t 0)), Qw 6 (.alloc 34 (.agg [.nilS, .nilS])), Qp 7 (.mov (.c (.nilS))), Qc 8 (.bool false)])
 (Qr ([QL 14 2 3, Qq 15 23 [(.t 14)], Qw 9 (.alloc 34 (.agg [.nilS, .nilS])), Qs 2 9 15])
 (.seq (Qr ([QL 16 2 3, Qm 17 1, Qq 18 103 [(.t 16), (.t 17)], Qp 19 (.un .not (.t 18)), Qm 20 19, Q0 21 20 (.mov (.t 2)), Q0 22 20 (.bin 0 .lss (.t 21) (Qi 0)), Qt 23 20 22, Qm 24 23, Q0 25 24 (.fieldA 1 1 (.t 3)), Q0 26 24 (.load false 1 (.t 25)), Q0 27 24 (.mov (.t 1)), Q0 28 24 (.idxA 3 (.t 26) (.t 27)), Q0 29 24 (.fieldA 2 2 (.t 28)), Q0 30 24 (.load false 1 (.t 29)), Qt 31 24 30])
 (.cond (.t 31) (Qr ([QL 32 2 9, Qs 2 6 32, Qp 7 (.mov (.c (.nilS))), Qc 8 (.bool false)])
 (.ret)) (.skip)))
 (Qr ([Qf 33 1 1 9, Ql 34 1 33, Qm 35 1, Qx 36 3 34 35, Qm 10 36])
 (.seq (.dreg [Qf 37 0 0 9, Ql 38 1 37, Qm 39 10, Qp 40 (.nilc (.t 39)), Qf 41 0 0 40, Ql 42 1 41, Qx 43 1 38 42, Ql 44 1 43, Qm 11 44] [[], [0], [], [2], [2, 3], [2, 3, 4], [0, 1, 2, 3, 4, 5], [0, 1, 2, 3, 4, 5, 6], [0, 1, 2, 3, 4, 5, 6, 7]])
 (Qr ([Qm 45 2, Qm 46 11, Qn 47 46, Qm 48 10, Qp 49 (.nilc (.t 48)), Qf 50 1 1 49, Ql 51 1 50, Qb 52 .sub 47 51, Qp 53 (.mn (.t 45) (.t 52)), Qm 12 53])
 (.seq (.dreg [Qm 54 11, Qm 55 10, Qp 56 (.nilc (.t 55)), Qf 57 1 1 56, Ql 58 1 57, Qm 59 10, Qp 60 (.nilc (.t 59)), Qf 61 1 1 60, Ql 62 1 61, Qm 63 12, Qb 64 .add 62 63, Qw 65 (.sl 4 (.t 54) (some (.t 58)) (some (.t 64)) none), Qw 66 (.app 43 4 24 (.c (.nilS)) (.t 65)), Qm 13 66] [[], [], [1], [1, 2], [1, 2, 3], [], [5], [5, 6], [5, 6, 7], [], [5, 6, 7, 8, 9], [0, 1, 2, 3, 4, 5, 6, 7, 8, 9, 10], [0, 1, 2, 3, 4, 5, 6, 7, 8, 9, 10, 11], [0, 1, 2, 3, 4, 5, 6, 7, 8, 9, 10, 11, 12]])
 (Qr ([Qm 67 10, Qp 68 (.nilc (.t 67)), Qf 69 1 1 68, Ql 70 1 69, Qm 71 12, Qb 72 .add 70 71, Qp 73 (.nilc (.t 67)), Qf 74 1 1 73, Qs 1 74 72])
 (Qr ([QL 75 2 9, Qm 76 13, Qs 2 6 75, Qm 7 76, Qc 8 (.bool true)])
 (.ret))))))))), [.load true 2 (.t 6), .mov (.t 7), .mov (.t 8)]) := by kernel_rfl
theorem setOff_nat (f : Files) (i : Nat) (x : Int) : setOff f i x = f.opens.set i ⟨f.opens[i]!.file, x, f.opens[i]!.write⟩ := rfl
theorem dat_nat (f : Files) (i : Nat) : dat f i = f.data[f.opens[i]!.file.toNat]! := rfl
theorem opd_nat {f : Files} {i : Nat} (c : opd f i) : i < f.opens.length ∧ f.opens[i]!.file ≠ -1 := ⟨by have := c.2.1; omega, c.2.2⟩
theorem sSeek_T {f : Files} {h x : Int} (c : opd f h) (c1 : 0 ≤ x) (c2 : x ≤ (dat f h).length) : sSeek f h x = (⟨f.data, setOff f h x⟩, true) := by unfold sSeek; exact if_pos ⟨c, c1, c2⟩
theorem sSeek_F {f : Files} {h x : Int} (c : ¬ (opd f h ∧ 0 ≤ x ∧ x ≤ (dat f h).length)) : sSeek f h x = (f, false) := by unfold sSeek; exact if_neg c
theorem sRead_T {f : Files} {h n : Int} (c : opd f h) (c1 : 0 ≤ n) (c2 : f.opens[h.toNat]!.write = false) : sRead f h n = (⟨f.data, setOff f h (f.opens[h.toNat]!.offset + rdn f h n)⟩, ((dat f h).drop f.opens[h.toNat]!.offset.toNat).take (rdn f h n).toNat, true) := by unfold sRead; exact if_pos ⟨c, c1, c2⟩
theorem sRead_F {f : Files} {h n : Int} (c : ¬ (opd f h ∧ 0 ≤ n ∧ f.opens[h.toNat]!.write = false)) : sRead f h n = (f, [], false) := by unfold sRead; exact if_neg c
attribute [local irreducible] sSeek sRead setOff dat rdn
set_option maxHeartbeats 8000000 in
theorem wseek_fn (f : Files) (F : FitF f) (h x : Int) : Fnc Tryz.prog 56 [filV f, .int .i64 h, .int .i64 x] (fun y obs => y = .tup [filV (sSeek f h x).1, .bool (sSeek f h x).2] ∧ obs = []) := by
  refine Fnc.low ?_
  have fO := opened_fn f F h
  by_cases c : opd f h
  · have ha := F.at c
    rw [decT c] at fO
    obtain ⟨i, hi⟩ : ∃ i : Nat, h = i := ⟨h.toNat, by have := c.1; omega⟩
    subst hi
    rw [Int.toNat_natCast] at ha
    have hd := dat_nat f i
    have ho := setOff_nat f i x
    obtain ⟨c2, c3⟩ := opd_nat c
    have hdl : (dat f i).length = f.data[f.opens[i]!.file.toNat]!.length := by rw [hd]
    by_cases c4 : x < 0
    · rw [sSeek_F (fun k => by have := k.2.1; omega)]
      refine zgo m_wseek_ok fun W S => ?_
      refine zcx (wcopy_fn f F.low) ?_
      refine zcd (fO) ?_
      exact zrt m_wseek_ok
    by_cases c5 : ((dat f i).length : Int) < x
    · rw [sSeek_F (fun k => by have := k.2.2; omega)]
      refine zgo m_wseek_ok fun W S => ?_
      refine zcx (wcopy_fn f F.low) ?_
      refine zcd (fO) ?_
      exact zrt m_wseek_ok
    · rw [sSeek_T c (by omega) (by omega)]
      refine zgo m_wseek_ok fun W S => ?_
      refine zcx (wcopy_fn f F.low) ?_
      refine zcd (fO) ?_
      exact zrh m_wseek_ok ho
  · rw [decF c] at fO
    rw [sSeek_F (fun k => c k.1)]
    refine zgo m_wseek_ok fun W S => ?_
    refine zcx (wcopy_fn f F.low) ?_
    refine zcd (fO) ?_
    exact zrt m_wseek_ok
set_option maxHeartbeats 8000000 in
theorem rseek_fn (f : Files) (F : FitF f) (h x : Int) : Fnc Tryz.prog 68 [filV f, .int .i64 h, .int .i64 x] (fun y obs => y = .tup [filV (sSeek f h x).1, .bool (sSeek f h x).2] ∧ obs = []) := by
  refine Fnc.low ?_
  have fO := ropen_fn f F h
  by_cases c : opd f h
  · have ha := F.at c
    rw [decT c] at fO
    obtain ⟨i, hi⟩ : ∃ i : Nat, h = i := ⟨h.toNat, by have := c.1; omega⟩
    subst hi
    rw [Int.toNat_natCast] at ha
    have hd := dat_nat f i
    have ho := setOff_nat f i x
    obtain ⟨c2, c3⟩ := opd_nat c
    have hdl : (dat f i).length = f.data[f.opens[i]!.file.toNat]!.length := by rw [hd]
    by_cases c4 : x < 0
    · rw [sSeek_F (fun k => by have := k.2.1; omega)]
      refine zgo m_rseek_ok fun W S => ?_
      refine zcx (rcopy_fn f F.low) ?_
      refine zcd (fO) ?_
      exact zrt m_rseek_ok
    by_cases c5 : ((dat f i).length : Int) < x
    · rw [sSeek_F (fun k => by have := k.2.2; omega)]
      refine zgo m_rseek_ok fun W S => ?_
      refine zcx (rcopy_fn f F.low) ?_
      refine zcd (fO) ?_
      exact zrt m_rseek_ok
    · rw [sSeek_T c (by omega) (by omega)]
      refine zgo m_rseek_ok fun W S => ?_
      refine zcx (rcopy_fn f F.low) ?_
      refine zcd (fO) ?_
      exact zrh m_rseek_ok ho
  · rw [decF c] at fO
    rw [sSeek_F (fun k => c k.1)]
    refine zgo m_rseek_ok fun W S => ?_
    refine zcx (rcopy_fn f F.low) ?_
    refine zcd (fO) ?_
    exact zrt m_rseek_ok
set_option maxHeartbeats 8000000 in
theorem wread_fn (f : Files) (F : FitF f) (h n : Int) : Fnc Tryz.prog 53 [filV f, .int .i64 h, .int .i64 n] (fun y obs => y = .tup [filV (sRead f h n).1, cnV false (sRead f h n).2.1, .bool (sRead f h n).2.2] ∧ obs = []) := by
  refine Fnc.low ?_
  have fO := opened_fn f F h
  by_cases c : opd f h
  · have ha := F.at c
    rw [decT c] at fO
    obtain ⟨i, hi⟩ : ∃ i : Nat, h = i := ⟨h.toNat, by have := c.1; omega⟩
    subst hi
    have hR := @sRead_T f i n c
    rw [Int.toNat_natCast] at ha hR
    have hd := dat_nat f i
    obtain ⟨c2, c3⟩ := opd_nat c
    by_cases c4 : n < 0
    · rw [sRead_F (fun k => by have := k.2.1; omega)]
      refine zgo m_wread_ok fun W S => ?_
      refine zcx (wcopy_fn f F.low) ?_
      refine zcd (fO) ?_
      refine ev_nil2 7 true 4 rfl ?_
      exact zrt m_wread_ok
    by_cases c5 : f.opens[i]!.write = true
    · rw [sRead_F (fun k => by rw [Int.toNat_natCast] at k; rw [c5] at k; cases k.2.2)]
      refine zgo m_wread_ok fun W S => ?_
      refine zcx (wcopy_fn f F.low) ?_
      (first | refine callD (fO) ?_ | refine callDw (fO) ?_); refine zev ?_
      refine zsx c5 ?_
      refine ev_nil2 7 true 4 rfl ?_
      exact zrt m_wread_ok
    · have c6 : f.opens[i]!.write = false := by simpa using c5
      rw [hR (by omega) c6]
      refine zgo m_wread_ok fun W S => ?_
      refine zcx (wcopy_fn f F.low) ?_
      (first | refine callD (fO) ?_ | refine callDw (fO) ?_); refine zev ?_
      obtain ⟨D, hD⟩ : ∃ D, f.data[f.opens[i]!.file.toNat]! = D := ⟨_, rfl⟩
      rw [hD] at hd
      rw [hd] at ha ⊢
      have hm : (if ((D.length - f.opens[i]!.offset.toNat : Nat) : Int) < n then ((D.length - f.opens[i]!.offset.toNat : Nat) : Int) else n) = rdn f i n := by
        unfold rdn
        rw [Int.toNat_natCast, hd]
        split <;> omega
      obtain ⟨K, hK⟩ : ∃ K : Nat, rdn f i n = K := ⟨(rdn f i n).toNat, by rw [← hm]; split <;> omega⟩
      have hKD : f.opens[i]!.offset.toNat + K ≤ D.length := by rw [hK] at hm; split at hm <;> omega
      have hlen : (((D.drop f.opens[i]!.offset.toNat).take K).length : Int) = K := by rw [List.length_take, List.length_drop]; omega
      have hTl : ((D.drop f.opens[i]!.offset.toNat).take K).length ≤ 64 := by omega
      have ho := setOff_nat f i (f.opens[i]!.offset + K)
      rw [hK] at hm ⊢
      repeat (first | (simp only [c6, hD, hm]; try simp only [go_sem]) | refine And.intro (by omega) ?_ | refine And.intro rfl ?_ | refine ev_ctl rfl rfl ?_ | refine evr_nil ?_ | refine evw_nil (by kernel_rfl) ?_ | (simp (disch := omega) only [takeAll, Nat.min_eq_left, Nat.min_eq_right, if_pos, if_neg, getD_map, wrapI64, modIn, fdivE, tmodE, tdivE, decT, decF, beqT, beqF, bneT, bneF, Int.toNat_natCast]; try simp only [go_sem]) | (refine ev_condTb rfl ?_ ?_; · (simp <;> omega)) | (refine ev_condFb rfl ?_ ?_; · (simp <;> omega)) | ((first | refine ev_region ?_ | refine evr_go rfl ?_ | refine evw_go rfl ?_ | refine ev_dr0 mixed rfl (by kernel_rfl) ?_ | refine ev_dr1 mixed rfl (by kernel_rfl) ?_ | refine ev_dr2 mixed rfl (by kernel_rfl) ?_); simp only [go_sem]))
      (first | refine callD (ccl_fn ((D.drop f.opens[i]!.offset.toNat).take K) (by omega)) ?_ | refine callDw (ccl_fn ((D.drop f.opens[i]!.offset.toNat).take K) (by omega)) ?_); refine zev ?_
      refine zsx hlen ?_
      exact zrh m_wread_ok ho
  · rw [decF c] at fO
    rw [sRead_F (fun k => c k.1)]
    refine zgo m_wread_ok fun W S => ?_
    refine zcx (wcopy_fn f F.low) ?_
    refine zcd (fO) ?_
    refine ev_nil2 7 true 4 rfl ?_
    exact zrt m_wread_ok
set_option maxHeartbeats 8000000 in
theorem rread_fn (f : Files) (F : FitF f) (h n : Int) : Fnc Tryz.prog 65 [filV f, .int .i64 h, .int .i64 n] (fun y obs => y = .tup [filV (sRead f h n).1, cnV false (sRead f h n).2.1, .bool (sRead f h n).2.2] ∧ obs = []) := by
  refine Fnc.low ?_
  have fO := ropen_fn f F h
  by_cases c : opd f h
  · have ha := F.at c
    rw [decT c] at fO
    obtain ⟨i, hi⟩ : ∃ i : Nat, h = i := ⟨h.toNat, by have := c.1; omega⟩
    subst hi
    have hR := @sRead_T f i n c
    rw [Int.toNat_natCast] at ha hR
    have hd := dat_nat f i
    obtain ⟨c2, c3⟩ := opd_nat c
    by_cases c4 : n < 0
    · rw [sRead_F (fun k => by have := k.2.1; omega)]
      refine zgo m_rread_ok fun W S => ?_
      refine zcx (rcopy_fn f F.low) ?_
      refine zcd (fO) ?_
      refine ev_nil2 7 true 4 rfl ?_
      exact zrt m_rread_ok
    by_cases c5 : f.opens[i]!.write = true
    · rw [sRead_F (fun k => by rw [Int.toNat_natCast] at k; rw [c5] at k; cases k.2.2)]
      refine zgo m_rread_ok fun W S => ?_
      refine zcx (rcopy_fn f F.low) ?_
      (first | refine callD (fO) ?_ | refine callDw (fO) ?_); refine zev ?_
      refine zsx c5 ?_
      refine ev_nil2 7 true 4 rfl ?_
      exact zrt m_rread_ok
    · have c6 : f.opens[i]!.write = false := by simpa using c5
      rw [hR (by omega) c6]
      refine zgo m_rread_ok fun W S => ?_
      refine zcx (rcopy_fn f F.low) ?_
      (first | refine callD (fO) ?_ | refine callDw (fO) ?_); refine zev ?_
      obtain ⟨D, hD⟩ : ∃ D, f.data[f.opens[i]!.file.toNat]! = D := ⟨_, rfl⟩
      rw [hD] at hd
      rw [hd] at ha ⊢
      have hm : (if (D.length : Int) - f.opens[i]!.offset < n then (D.length : Int) - f.opens[i]!.offset else n) = rdn f i n := by
        unfold rdn
        rw [Int.toNat_natCast, hd]
        split <;> omega
      obtain ⟨K, hK⟩ : ∃ K : Nat, rdn f i n = K := ⟨(rdn f i n).toNat, by rw [← hm]; split <;> omega⟩
      have hKD : f.opens[i]!.offset.toNat + K ≤ D.length := by rw [hK] at hm; split at hm <;> omega
      have hlen : (((D.drop f.opens[i]!.offset.toNat).take K).length : Int) = K := by rw [List.length_take, List.length_drop]; omega
      have hTl : ((D.drop f.opens[i]!.offset.toNat).take K).length ≤ 64 := by omega
      have hTd : (D.take (f.opens[i]!.offset + (K : Int)).toNat).drop f.opens[i]!.offset.toNat = (D.drop f.opens[i]!.offset.toNat).take K := by
        rw [List.drop_take]
        congr 1
        omega
      have ho := setOff_nat f i (f.opens[i]!.offset + K)
      rw [c6] at ho
      rw [hK] at hm ⊢
      repeat (first | (simp only [c6, hD, hm, hTd]; try simp only [go_sem]) | refine And.intro (by omega) ?_ | refine And.intro rfl ?_ | refine ev_ctl rfl rfl ?_ | refine evr_nil ?_ | refine evw_nil (by kernel_rfl) ?_ | (simp (disch := omega) only [takeAll, Nat.min_eq_left, Nat.min_eq_right, if_pos, if_neg, getD_map, wrapI64, modIn, fdivE, tmodE, tdivE, decT, decF, beqT, beqF, bneT, bneF, Int.toNat_natCast]; try simp only [go_sem]) | (refine ev_condTb rfl ?_ ?_; · (simp <;> omega)) | (refine ev_condFb rfl ?_ ?_; · (simp <;> omega)) | ((first | refine ev_region ?_ | refine evr_go rfl ?_ | refine evw_go rfl ?_ | refine ev_dr0 mixed rfl (by kernel_rfl) ?_ | refine ev_dr1 mixed rfl (by kernel_rfl) ?_ | refine ev_dr2 mixed rfl (by kernel_rfl) ?_); simp only [go_sem]))
      exact zrh m_rread_ok ho
  · rw [decF c] at fO
    rw [sRead_F (fun k => c k.1)]
    refine zgo m_rread_ok fun W S => ?_
    refine zcx (rcopy_fn f F.low) ?_
    refine zcd (fO) ?_
    refine ev_nil2 7 true 4 rfl ?_
    exact zrt m_rread_ok
end Go.Proofs.YtkfpcgkmemfdaaaGreat
/- Files: Open. -/
namespace Go.Proofs.YtkfpcgkmemfdaaaGreat
open Go Go.RowKit Rdn Rdn.Dp
set_option linter.unusedVariables false
set_option linter.unusedSimpArgs false
theorem m_wopen_ok : compF Tryz.prog 54 = some (94, Qr ([Qw 3 (.box 34 (.t 0)), Qw 6 (.alloc 34 (.agg [.nilS, .nilS])), Qp 7 (.mov (Qi 0))])
 (Qr ([QL 12 2 3, Qq 13 94 [(.t 12)], Qw 8 (.alloc 34 (.agg [.nilS, .nilS])), Qs 2 8 13])
 (Qr ([Qf 14 1 1 8, Ql 15 1 14, Qq 16 99 [(.t 15), (.c (.fn 100))], Qm 9 16])
 (.seq (Qr ([Qm 17 1, Qk 18 .lss 17 0, Qm 19 18, Q0 20 19 (.mov (.t 1)), Q0 21 19 (.fieldA 0 0 (.t 3)), Q0 22 19 (.load false 1 (.t 21)), Q0 23 19 (.len (.t 22)), Q0 24 19 (.bin 0 .geq (.t 20) (.t 23)), Qt 25 19 24, Qm 26 25, Q0 27 26 (.mov (.t 2)), Q0 28 26 (.bin 0 .lss (.t 27) (Qi 0)), Qt 29 26 28, Qm 30 29, Q0 31 30 (.mov (.t 2)), Q0 32 30 (.bin 0 .gtr (.t 31) (Qi 2)), Qt 33 30 32, Qm 34 33, Q0 35 34 (.mov (.t 9)), Q0 36 34 (.bin 0 .lss (.t 35) (Qi 0)), Qt 37 34 36])
 (.cond (.t 37) (Qr ([QL 38 2 8, Qs 2 6 38, Qp 7 (.mov (Qi (-1)))])
 (.ret)) (.skip)))
 (.seq (Qr ([Qm 39 2])
 (.block 0 (Qr ([Qk 41 .eql 39 0, Qm 40 41])
 (.cond (.t 40) (.reg [Qf 42 1 1 8, Ql 43 1 42, Qm 44 9, Qm 45 1, Qw 46 (.build none [.int .i64 0, .int .i64 0, .bool false] [(0, (.t 45))]), Qx 47 3 43 44, Qs 3 47 46]) (Qr ([Qk 49 .eql 39 1, Qm 48 49])
 (.cond (.t 48) (Qr ([Qf 50 0 0 8, Ql 51 1 50, Qm 52 1, Qx 53 1 51 52, ⟨none, none, (.m (.store 1 (.t 53) (.c (.nilS))))⟩])
 (.seq (Qr ([Qf 54 1 1 8, Ql 55 1 54, Qn 56 55, Qp 57 (.mov (Qi 0))])
 (.block 1 (.loop (Qr ([Qb 58 .lss 57 56])
 (.seq (.cond (.t 58) (.skip) (.exit 1))
 (.seq (.block 2 (Qr ([Qm 59 57, Qx 60 3 55 57, QL 61 3 60, Qw 11 (.alloc 47 (.agg [.int .i64 0, .int .i64 0, .bool false])), Qm 10 59, Qs 3 11 61])
 (Qr ([Qf 62 0 0 11, Ql 63 1 62, Qm 64 1, Qb 65 .eql 63 64])
 (.cond (.t 65) (.reg [Qf 66 1 1 8, Ql 67 1 66, Qm 68 10, Qx 69 3 67 68, Qf 70 1 1 69, ⟨none, none, (.m (.store 1 (.t 70) (Qi 0)))⟩]) (.skip)))))
 (.reg [Qk 71 .add 57 1, Qm 57 71])))))))
 (.reg [Qf 72 1 1 8, Ql 73 1 72, Qm 74 9, Qm 75 1, Qw 76 (.build none [.int .i64 0, .int .i64 0, .bool false] [(0, (.t 75)), (2, (.c (.bool true)))]), Qx 77 3 73 74, Qs 3 77 76]))) (Qr ([Qk 79 .eql 39 2, Qm 78 79])
 (.cond (.t 78) (.dreg [Qf 80 1 1 8, Ql 81 1 80, Qm 82 9, Qm 83 1, Qf 84 0 0 8, Ql 85 1 84, Qm 86 1, Qx 87 1 85 86, Ql 88 1 87, Qn 89 88, Qw 90 (.build none [.int .i64 0, .int .i64 0, .bool false] [(0, (.t 83)), (1, (.t 89)), (2, (.c (.bool true)))]), Qx 91 3 81 82, Qs 3 91 90] [[], [0], [], [], [], [4], [], [4, 5, 6], [4, 5, 6, 7], [4, 5, 6, 7, 8], [3, 4, 5, 6, 7, 8, 9], [0, 1, 2, 3, 4, 5, 6, 7, 8, 9, 10], [0, 1, 2, 3, 4, 5, 6, 7, 8, 9, 10, 11]]) (.skip)))))))))
 (Qr ([QL 92 2 8, Qm 93 9, Qs 2 6 92, Qm 7 93])
 (.ret)))))), [.load true 2 (.t 6), .mov (.t 7)]) := by kernel_rfl
theorem m_rropen_ok : compF Tryz.prog 66 = some (103, Qr ([Qw 3 (.box 34 (.t 0)), Qw 6 (.alloc 34 (.agg [.nilS, .nilS])), Qp 7 (.mov (Qi 0))])
 (Qr ([QL 11 2 3, Qq 12 23 [(.t 11)], Qw 8 (.alloc 34 (.agg [.nilS, .nilS])), Qs 2 8 12])
 (Qr ([Qp 9 (.mov (Qi 0))])
 (.seq (.block 0 (.loop (.seq (Qr ([Qm 13 9, Qf 14 1 1 3, Ql 15 1 14, Qn 16 15, Qb 17 .lss 13 16, Qm 18 17, Q1 19 18 (.fieldA 1 1 (.t 3)), Q1 20 18 (.load false 1 (.t 19)), Q1 21 18 (.mov (.t 9)), Q1 22 18 (.idxA 3 (.t 20) (.t 21)), Q1 23 18 (.fieldA 0 0 (.t 22)), Q1 24 18 (.load false 1 (.t 23)), Q1 25 18 (.bin 0 .neq (.t 24) (Qi (-1))), Qu 26 18 25])
 (.cond (.t 26) (.skip) (.exit 0)))
 (.block 1 (.reg [Qm 27 9, Qk 28 .add 27 1, Qm 9 28])))))
 (.seq (Qr ([Qm 29 1, Qk 30 .lss 29 0, Qm 31 30, Q0 32 31 (.mov (.t 1)), Q0 33 31 (.fieldA 0 0 (.t 3)), Q0 34 31 (.load false 1 (.t 33)), Q0 35 31 (.len (.t 34)), Q0 36 31 (.bin 0 .geq (.t 32) (.t 35)), Qt 37 31 36, Qm 38 37, Q0 39 38 (.mov (.t 2)), Q0 40 38 (.bin 0 .lss (.t 39) (Qi 0)), Qt 41 38 40, Qm 42 41, Q0 43 42 (.mov (.t 2)), Q0 44 42 (.bin 0 .gtr (.t 43) (Qi 2)), Qt 45 42 44, Qm 46 45, Q0 47 46 (.mov (.t 9)), Q0 48 46 (.fieldA 1 1 (.t 3)), Q0 49 46 (.load false 1 (.t 48)), Q0 50 46 (.len (.t 49)), Q0 51 46 (.bin 0 .eql (.t 47) (.t 50)), Qt 52 46 51])
 (.cond (.t 52) (Qr ([QL 53 2 8, Qs 2 6 53, Qp 7 (.mov (Qi (-1)))])
 (.ret)) (.skip)))
 (.seq (Qr ([Qm 54 2, Qk 55 .eql 54 1])
 (.cond (.t 55) (Qr ([Qf 56 0 0 8, Ql 57 1 56, Qm 58 1, Qx 59 1 57 58, ⟨none, none, (.m (.store 1 (.t 59) (.c (.nilS))))⟩])
 (Qr ([Qf 60 1 1 8, Ql 61 1 60, Qn 62 61, Qp 63 (.mov (Qi 0))])
 (.block 2 (.loop (Qr ([Qb 64 .lss 63 62])
 (.seq (.cond (.t 64) (.skip) (.exit 2))
 (.seq (.block 3 (Qr ([Qm 65 63, Qm 10 65])
 (Qr ([Qf 66 1 1 8, Ql 67 1 66, Qm 68 10, Qx 69 3 67 68, Qf 70 0 0 69, Ql 71 1 70, Qm 72 1, Qb 73 .eql 71 72])
 (.cond (.t 73) (.reg [Qf 74 1 1 8, Ql 75 1 74, Qm 76 10, Qx 77 3 75 76, Qf 78 1 1 77, ⟨none, none, (.m (.store 1 (.t 78) (Qi 0)))⟩]) (.skip)))))
 (.reg [Qk 79 .add 63 1, Qm 63 79])))))))) (.skip)))
 (Qr ([Qf 80 1 1 8, Ql 81 1 80, Qm 82 9, Qm 83 1, Qm 84 2, Qk 85 .gtr 84 0, Qw 86 (.build none [.int .i64 0, .int .i64 0, .bool false] [(0, (.t 83)), (2, (.t 85))]), Qx 87 3 81 82, Qs 3 87 86])
 (.seq (Qr ([Qm 88 2, Qk 89 .eql 88 2])
 (.cond (.t 89) (.dreg [Qf 90 1 1 8, Ql 91 1 90, Qm 92 9, Qf 93 0 0 8, Ql 94 1 93, Qm 95 1, Qx 96 1 94 95, Ql 97 1 96, Qn 98 97, Qx 99 3 91 92, Qf 100 1 1 99, Qs 1 100 98] [[], [0], [], [], [3], [], [3, 4, 5], [3, 4, 5, 6], [3, 4, 5, 6, 7], [0, 1, 2, 3, 4, 5, 6, 7, 8], [0, 1, 2, 3, 4, 5, 6, 7, 8, 9], [0, 1, 2, 3, 4, 5, 6, 7, 8, 9, 10]]) (.skip)))
 (Qr ([QL 101 2 8, Qm 102 9, Qs 2 6 101, Qm 7 102])
 (.ret))))))))), [.load true 2 (.t 6), .mov (.t 7)]) := by kernel_rfl
theorem hdl_at {f : Files} {j : Nat} (h : j < hdl f) : f.opens[j]!.file ≠ -1 := by
  have hl := hdl_le f
  have := List.not_of_lt_findIdx (p := fun o : Opn => decide (o.file = -1)) (xs := f.opens) h
  rw [getElem!_pos f.opens j (by omega)]
  simpa using this
theorem hdl_is {f : Files} (h : hdl f < f.opens.length) : f.opens[hdl f]!.file = -1 := by
  have := List.findIdx_getElem (p := fun o : Opn => decide (o.file = -1)) (xs := f.opens) (w := h)
  rw [getElem!_pos f.opens (hdl f) h]
  exact of_decide_eq_true this
theorem fnd_hdl (f : Files) : fnd isShut f.opens = if hdl f = f.opens.length then -1 else (hdl f : Int) := by
  have hl := hdl_le f
  split
  · rename_i e
    exact fnd_no fun j hj => decF (hdl_at (by omega))
  · exact fnd_at (by omega) (fun j hj => decF (hdl_at hj)) (decT (hdl_is (by omega)))
def clr (k : Int) (l : List Opn) (p : Nat) : List Opn := (l.take p).map (zr k) ++ l.drop p
theorem clr_len (k : Int) (l : List Opn) (p : Nat) : (clr k l p).length = l.length := by simp [clr]; omega
theorem clr_zero (k : Int) (l : List Opn) : clr k l 0 = l := rfl
theorem clr_end (k : Int) (l : List Opn) : clr k l l.length = l.map (zr k) := by simp [clr]
theorem clr_at {k : Int} {l : List Opn} {p : Nat} (h : p < l.length) : (clr k l p)[p]! = l[p]! := by
  rw [getElem!_pos _ p (by rw [clr_len]; exact h), getElem!_pos l p h]
  simp [clr, List.getElem_append, Nat.min_eq_left (Nat.le_of_lt h)]
theorem clr_set {k : Int} {l : List Opn} {p : Nat} (h : p < l.length) : (clr k l p).set p (zr k l[p]!) = clr k l (p + 1) := by
  unfold clr
  rw [List.set_append_right _ _ (by simp; omega), take_snoc h, List.map_append, List.append_assoc]
  congr 1
  have e : l.drop p = l[p]! :: l.drop (p + 1) := by rw [getElem!_pos l p h]; exact (List.getElem_cons_drop h).symm
  rw [e]
  simp [Nat.min_eq_left (Nat.le_of_lt h)]
theorem clr_no {k : Int} {l : List Opn} {p : Nat} (h : p < l.length) (c : l[p]!.file ≠ k) : clr k l (p + 1) = clr k l p := by
  rw [← clr_set h]
  have e : zr k l[p]! = (clr k l p)[p]! := by rw [clr_at h]; exact if_neg c
  rw [e, getElem!_pos _ p (by rw [clr_len]; exact h), List.set_getElem_self]
theorem clr_yes {k : Int} {l : List Opn} {p : Nat} (h : p < l.length) (c : l[p]!.file = k) : (clr k l p).set p ⟨l[p]!.file, 0, l[p]!.write⟩ = clr k l (p + 1) := by
  rw [← clr_set h]
  exact congrArg _ (if_pos c).symm
theorem sOpen_F {f : Files} {k m : Int} (c : k < 0 ∨ (f.data.length : Int) ≤ k ∨ m < 0 ∨ 2 < m ∨ hdl f = f.opens.length) : sOpen f k m = (f, -1) := by unfold sOpen; exact if_pos c
theorem sOpen_0 {f : Files} {k : Int} (c : ¬ (k < 0 ∨ (f.data.length : Int) ≤ k ∨ hdl f = f.opens.length)) : sOpen f k 0 = ((⟨f.data, f.opens.set (hdl f) ⟨k, 0, false⟩⟩ : Files), (hdl f : Int)) := by
  unfold sOpen
  rw [if_neg (by omega), if_pos rfl]
theorem sOpen_1 {f : Files} {k : Int} (c : ¬ (k < 0 ∨ (f.data.length : Int) ≤ k ∨ hdl f = f.opens.length)) : sOpen f k 1 = ((⟨f.data.set k.toNat [], (f.opens.map (zr k)).set (hdl f) ⟨k, 0, true⟩⟩ : Files), (hdl f : Int)) := by
  unfold sOpen
  rw [if_neg (by omega), if_neg (by omega), if_pos rfl]
theorem sOpen_2 {f : Files} {k : Int} (c : ¬ (k < 0 ∨ (f.data.length : Int) ≤ k ∨ hdl f = f.opens.length)) : sOpen f k 2 = ((⟨f.data, f.opens.set (hdl f) ⟨k, f.data[k.toNat]!.length, true⟩⟩ : Files), (hdl f : Int)) := by
  unfold sOpen
  rw [if_neg (by omega), if_neg (by omega), if_neg (by omega)]
attribute [local irreducible] sOpen hdl clr
set_option maxHeartbeats 8000000 in
theorem wopen_fn (f : Files) (F : FitF f) (k m : Int) : Fnc Tryz.prog 54 [filV f, .int .i64 k, .int .i64 m] (fun y obs => y = .tup [filV (sOpen f k m).1, .int .i64 (sOpen f k m).2] ∧ obs = []) := by
  refine Fnc.low ?_
  have fI := idxo_fn f.opens
  rw [fnd_hdl] at fI
  have hle := hdl_le f
  have h8 := F.o
  have h4 := F.d
  by_cases c5 : hdl f = f.opens.length
  · rw [if_pos c5] at fI
    rw [sOpen_F (.inr (.inr (.inr (.inr c5))))]
    by_cases c1 : k < 0
    · skip
      refine zgo m_wopen_ok fun W S => ?_
      refine zcx (wcopy_fn f F.low) ?_
      refine zcd (fI) ?_
      exact zrt m_wopen_ok
    by_cases c2 : (f.data.length : Int) ≤ k
    · skip
      refine zgo m_wopen_ok fun W S => ?_
      refine zcx (wcopy_fn f F.low) ?_
      refine zcd (fI) ?_
      exact zrt m_wopen_ok
    by_cases c3 : m < 0
    · skip
      refine zgo m_wopen_ok fun W S => ?_
      refine zcx (wcopy_fn f F.low) ?_
      refine zcd (fI) ?_
      exact zrt m_wopen_ok
    by_cases c4 : 2 < m
    · skip
      refine zgo m_wopen_ok fun W S => ?_
      refine zcx (wcopy_fn f F.low) ?_
      refine zcd (fI) ?_
      exact zrt m_wopen_ok
    · skip
      refine zgo m_wopen_ok fun W S => ?_
      refine zcx (wcopy_fn f F.low) ?_
      refine zcd (fI) ?_
      exact zrt m_wopen_ok
  rw [if_neg c5] at fI
  by_cases c1 : k < 0
  · rw [sOpen_F (.inl c1)]
    refine zgo m_wopen_ok fun W S => ?_
    refine zcx (wcopy_fn f F.low) ?_
    refine zcd (fI) ?_
    exact zrt m_wopen_ok
  by_cases c2 : (f.data.length : Int) ≤ k
  · rw [sOpen_F (.inr (.inl c2))]
    refine zgo m_wopen_ok fun W S => ?_
    refine zcx (wcopy_fn f F.low) ?_
    refine zcd (fI) ?_
    exact zrt m_wopen_ok
  by_cases c3 : m < 0
  · rw [sOpen_F (.inr (.inr (.inl c3)))]
    refine zgo m_wopen_ok fun W S => ?_
    refine zcx (wcopy_fn f F.low) ?_
    refine zcd (fI) ?_
    exact zrt m_wopen_ok
  by_cases c4 : 2 < m
  · rw [sOpen_F (.inr (.inr (.inr (.inl c4))))]
    refine zgo m_wopen_ok fun W S => ?_
    refine zcx (wcopy_fn f F.low) ?_
    refine zcd (fI) ?_
    exact zrt m_wopen_ok
  have hc : ¬ (k < 0 ∨ (f.data.length : Int) ≤ k ∨ hdl f = f.opens.length) := by omega
  have c5' : hdl f < f.opens.length := by omega
  have hm : m = 0 ∨ m = 1 ∨ m = 2 := by omega
  rcases hm with rfl | rfl | rfl
  · rw [sOpen_0 hc]
    refine zgo m_wopen_ok fun W S => ?_
    refine zcx (wcopy_fn f F.low) ?_
    refine zcd (fI) ?_
    exact zrt m_wopen_ok
  · rw [sOpen_1 hc]
    refine zgo m_wopen_ok fun W S => ?_
    refine zcx (wcopy_fn f F.low) ?_
    refine zcd (fI) ?_
    refine ev_loopK [1, 6, 8, 9, 55, 56] (fun p : {p : Nat // p ≤ f.opens.length} => [(57, .int .i64 p.1)]) (fun p => [⟨.box false 34, true, 0, filV f⟩, ⟨.box false 34, true, 0, .agg [.nilS, .nilS]⟩, ⟨.row 22, true, 0, .arr 1 ((f.data.map (slV' true 4 canonV)).set k.toNat .nilS)⟩, ⟨.row 47, true, 0, .arr 3 ((clr k f.opens p.1).map opnV)⟩, ⟨.box false 34, true, 0, .agg [.own 2 0, .own 3 0]⟩]) (fun p => f.opens.length - p.1) (⟨0, by simp⟩) 5 (by simp only [go_sem]; rfl) ?_ (by first | rfl | (simp only [go_sem]; done) | (simp only [go_sem]; simp [clr_zero]; done)) (by simp) (by first | rfl | (simp only [go_sem]; done)) (by first | rfl | (simp only [go_sem]; done)) (by first | rfl | (simp only [go_sem]; done) | (simp only [clr_zero]; (try simp only [go_sem]); first | done | rfl)) ?_
    · (simp only [go_sem]; (try simp [clr_zero]); done)
    intro J hJ
    rintro ⟨p, hp⟩
    have hcl := clr_len k f.opens p
    by_cases hlt : p < f.opens.length
    · have ha := clr_at (k := k) hlt
      by_cases ck : f.opens[p]!.file = k
      · have hs := clr_yes hlt ck
        rw [ck] at hs
        refine zsx (And.intro ha (ck)) ?_
        exact zn5 (hJ _ (⟨p + 1, hlt⟩) (by first | omega | (dsimp only; omega) | (simp; omega))) hs
      · have hs := clr_no hlt ck
        refine zsx ha ?_
        exact zn5 (hJ _ (⟨p + 1, hlt⟩) (by first | omega | (dsimp only; omega) | (simp; omega))) hs
    · obtain rfl : p = f.opens.length := by omega
      have he := clr_end k f.opens
      have hml : (f.opens.map (zr k)).length = f.opens.length := by simp
      dsimp only
      rw [he]
      refine zst ?_
      refine ev_rowSub 2 ((f.data.set k.toNat []).map (slV' true 4 canonV)) rfl (subVs_setnil _ _ _ _ _) (pures_lo _ _) (unif_map (f := slV' true 4 canonV) (s := 1) (fun _ => rfl) _) ?_
      exact zrt m_wopen_ok
  · rw [sOpen_2 hc]
    refine zgo m_wopen_ok fun W S => ?_
    refine zcx (wcopy_fn f F.low) ?_
    refine zcd (fI) ?_
    exact zrt m_wopen_ok
set_option maxHeartbeats 8000000 in
theorem rropen_fn (f : Files) (F : FitF f) (k m : Int) : Fnc Tryz.prog 66 [filV f, .int .i64 k, .int .i64 m] (fun y obs => y = .tup [filV (sOpen f k m).1, .int .i64 (sOpen f k m).2] ∧ obs = []) := by
  refine Fnc.low ?_
  have hle := hdl_le f
  have h8 := F.o
  have h4 := F.d
  refine zgo m_rropen_ok fun W S => ?_
  refine zcx (rcopy_fn f F.low) ?_
  refine ev_loopK [1, 2, 3, 6, 8] (fun p : {p : Nat // p ≤ hdl f} => [(9, .int .i64 p.1)]) (fun _ => [⟨.box false 34, true, 0, filV f⟩, ⟨.box false 34, true, 0, .agg [.nilS, .nilS]⟩, ⟨.row 22, true, 0, .arr 1 (f.data.map (slV' true 4 canonV))⟩, ⟨.row 47, true, 0, .arr 3 (f.opens.map opnV)⟩, ⟨.box false 34, true, 0, .agg [.own 2 0, .own 3 0]⟩]) (fun p => hdl f - p.1) (⟨0, by simp⟩) 5 (by simp only [go_sem]; rfl) ?_ (by first | rfl | (simp only [go_sem]; done)) (by simp) (by first | rfl | (simp only [go_sem]; done)) (by first | rfl | (simp only [go_sem]; done)) (by first | rfl | (simp only [go_sem]; done)) ?_
  · (simp only [go_sem]; (try simp []); done)
  intro J hJ
  rintro ⟨h, hh⟩
  by_cases hlt : h < hdl f
  · have hn := hdl_at hlt
    refine zst ?_
    refine ev_next 5 (hJ _ (⟨h + 1, hlt⟩) (by first | omega | (dsimp only; omega) | (simp; omega))) rfl (by simp) ?_ (by first | rfl | (simp only [go_sem]; done)) (by first | rfl | (simp only [go_sem]; done)) ?_
    · (first | rfl | (simp only [go_sem]; done) | (simp only [go_sem]; simp only []; done) | (simp only []; done) | (simp only [go_sem]; simp []; done) | (simp []; done))
    · (simp only [go_sem]; (repeat' (refine And.intro ?_ ?_)) <;> first | exact trivial | with_reducible rfl | (simp only []; done) | (simp only []; with_reducible rfl) | (simp []; done) | (simp []; omega) | (simp only []; rfl) | skip)
  obtain rfl : h = hdl f := by omega
  by_cases c5 : hdl f = f.opens.length
  · rw [sOpen_F (.inr (.inr (.inr (.inr c5))))]
    by_cases c1 : k < 0
    · skip
      refine zst ?_
      exact zrt m_rropen_ok
    by_cases c2 : (f.data.length : Int) ≤ k
    · skip
      refine zst ?_
      exact zrt m_rropen_ok
    by_cases c3 : m < 0
    · skip
      refine zst ?_
      exact zrt m_rropen_ok
    by_cases c4 : 2 < m
    · skip
      refine zst ?_
      exact zrt m_rropen_ok
    · skip
      refine zst ?_
      exact zrt m_rropen_ok
  have his := hdl_is (f := f) (by omega)
  by_cases c1 : k < 0
  · rw [sOpen_F (.inl c1)]
    refine zst ?_
    exact zrt m_rropen_ok
  by_cases c2 : (f.data.length : Int) ≤ k
  · rw [sOpen_F (.inr (.inl c2))]
    refine zst ?_
    exact zrt m_rropen_ok
  by_cases c3 : m < 0
  · rw [sOpen_F (.inr (.inr (.inl c3)))]
    refine zst ?_
    exact zrt m_rropen_ok
  by_cases c4 : 2 < m
  · rw [sOpen_F (.inr (.inr (.inr (.inl c4))))]
    refine zst ?_
    exact zrt m_rropen_ok
  have hc : ¬ (k < 0 ∨ (f.data.length : Int) ≤ k ∨ hdl f = f.opens.length) := by omega
  have c5' : hdl f < f.opens.length := by omega
  have hm : m = 0 ∨ m = 1 ∨ m = 2 := by omega
  rcases hm with rfl | rfl | rfl
  · rw [sOpen_0 hc]
    refine zst ?_
    exact zrt m_rropen_ok
  · rw [sOpen_1 hc]
    refine zst ?_
    refine ev_loopK [1, 2, 6, 8, 9, 62] (fun p : {p : Nat // p ≤ f.opens.length} => [(63, .int .i64 p.1)]) (fun p => [⟨.box false 34, true, 0, filV f⟩, ⟨.box false 34, true, 0, .agg [.nilS, .nilS]⟩, ⟨.row 22, true, 0, .arr 1 ((f.data.map (slV' true 4 canonV)).set k.toNat .nilS)⟩, ⟨.row 47, true, 0, .arr 3 ((clr k f.opens p.1).map opnV)⟩, ⟨.box false 34, true, 0, .agg [.own 2 0, .own 3 0]⟩]) (fun p => f.opens.length - p.1) (⟨0, by simp⟩) 5 (by simp only [go_sem]; rfl) ?_ (by first | rfl | (simp only [go_sem]; done) | (simp only [go_sem]; simp [clr_zero]; done)) (by simp) (by first | rfl | (simp only [go_sem]; done)) (by first | rfl | (simp only [go_sem]; done)) (by first | rfl | (simp only [go_sem]; done) | (simp only [clr_zero]; (try simp only [go_sem]); first | done | rfl)) ?_
    · (simp only [go_sem]; (try simp [clr_zero]); done)
    intro J hJ
    rintro ⟨p, hp⟩
    have hcl := clr_len k f.opens p
    by_cases hlt : p < f.opens.length
    · have ha := clr_at (k := k) hlt
      by_cases ck : f.opens[p]!.file = k
      · have hs := clr_yes hlt ck
        rw [ck] at hs
        refine zsx (And.intro ha (ck)) ?_
        exact zn5 (hJ _ (⟨p + 1, hlt⟩) (by first | omega | (dsimp only; omega) | (simp; omega))) hs
      · have hs := clr_no hlt ck
        refine zsx ha ?_
        exact zn5 (hJ _ (⟨p + 1, hlt⟩) (by first | omega | (dsimp only; omega) | (simp; omega))) hs
    · obtain rfl : p = f.opens.length := by omega
      have he := clr_end k f.opens
      have hml : (f.opens.map (zr k)).length = f.opens.length := by simp
      dsimp only
      rw [he]
      refine zst ?_
      refine ev_rowSub 2 ((f.data.set k.toNat []).map (slV' true 4 canonV)) rfl (subVs_setnil _ _ _ _ _) (pures_lo _ _) (unif_map (f := slV' true 4 canonV) (s := 1) (fun _ => rfl) _) ?_
      exact zrt m_rropen_ok
  · rw [sOpen_2 hc]
    have hsa : (f.opens.set (hdl f) ⟨k, 0, true⟩)[hdl f]! = ⟨k, 0, true⟩ := by rw [set_at c5', if_pos rfl]
    have hsl : (f.opens.set (hdl f) ⟨k, 0, true⟩).length = f.opens.length := List.length_set
    refine zsx hsa ?_
    refine ret m_rropen_ok [] ?_; (first | (simp only [go_sem]; done) | (simp only [go_sem]; ((try dsimp only); (repeat' (refine And.intro ?_ ?_)) <;> first | with_reducible rfl | (simp only [go_sem]; done) | (simp only [go_sem]; rfl) | (simp only [go_sem, List.set_set]; done) | (simp only [List.set_set]; (try simp only [go_sem]); first | done | rfl) | (simp only [go_sem]; simp [List.set_set]; done) | (simp [List.set_set]; done) | rfl)))
end Go.Proofs.YtkfpcgkmemfdaaaGreat
