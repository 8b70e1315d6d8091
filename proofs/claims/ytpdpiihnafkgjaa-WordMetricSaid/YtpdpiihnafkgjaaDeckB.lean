/- Deck: Word, Cell. -/
import Derived.Test.YtpdpiihnafkgjaaDeck
import Derived.Test.YtpdpiihnafkgjaaRel
namespace Go.Proofs.Ytpdpiihnafkgjaa
open Go Go.RowKit Rdn
set_option linter.unusedVariables false

theorem u16_end {X : Int} {N g : Nat} {w w' : World} (h0 : 0 ≤ X) (h1 : X ≤ 65535) (hD : Deck N w' g) (hO : Only g w w') :
    ∃ r : Nat, r ≤ 65535 ∧ Ending.returned (.int .u16 X) = .returned (.int .u16 r) ∧ Deck N w' g ∧ Only g w w' :=
  ⟨X.toNat, by omega, ret_int (by omega), hD, hO⟩
theorem nat_of {k : IntKind} {X : Int} (h0 : 0 ≤ X) : ∃ r : Nat, X = r := ⟨X.toNat, by omega⟩

theorem word_any (N g : Nat) (w : World) (hd : Deck N w g) :
    Calls Try.prog 57 #[.pointer (some ⟨g, 0, none⟩)] w fun e w' =>
      ∃ r : Nat, r ≤ 65535 ∧ e = .returned (.int .u16 r) ∧ Deck N w' g ∧ Only g w w' := by
  go_enter Try.func57, Try.ntmps57
  go_wp2_with (go_at_call 34; with_reducible refine (next_any _ _ _ _ (by omega) (by omega) (by assumption)).mono ?_; rintro e w' ⟨r, hr, rfl, hD, hO⟩)
  all_goals go_ret
  all_goals exact u16_end (by omega) (by omega) (by assumption) (Only.trans (by assumption) (by assumption))

def tg (r : Nat) : Nat := if r < 3 then 0 else r - 2
theorem tg_le {r : Nat} (h : (r : Int) < 5) : tg r ≤ 2 := by unfold tg; split <;> omega
theorem lit_at (W : World) (r : Nat) (h : (r : Int) < 5) : (W.alloc (Obj.cells #[.int .i64 0, .int .i64 0, .int .i64 0, .int .i64 1, .int .i64 2] 3)).cell? ⟨W.heap.size, r, none⟩ = some (.int .i64 (tg r)) := by
  have : r < 5 := by omega
  match r, this with
  | 0, _ => simp [tg]
  | 1, _ => simp [tg]
  | 2, _ => simp [tg]
  | 3, _ => simp [tg]
  | 4, _ => simp [tg]
theorem lit_drew (W : World) (r : Nat) (h : (r : Int) < 5) : ((W.alloc (Obj.cells #[.int .i64 0, .int .i64 0, .int .i64 0, .int .i64 1, .int .i64 2] 3)).drew).cell? ⟨W.heap.size, r, none⟩ = some (.int .i64 (tg r)) := lit_at W r h


def cellC (N g : Nat) (w x : World) : Prop := Keep (fun b => b = g ∨ b = w.heap.size) w x ∧ Deck N x g ∧ ∃ t r : Nat, t ≤ 2 ∧ r ≤ 65535 ∧ x.heap[w.heap.size]? = some (.cells #[.int .u8 t, .int .u16 r] 24 (0, 0))
def lit5 : Obj := .cells #[.int .i64 0, .int .i64 0, .int .i64 0, .int .i64 1, .int .i64 2] 3 (0, 0)
def cellSh (g : Nat) (w : World) (i : Nat) (u : Value) : Prop := match i with
  | 0 => ∃ B, B ≠ g ∧ B ≠ w.heap.size ∧ u = .slice (some ⟨B, 0, none⟩) 5 5
  | 2 => ∃ r : Nat, (r : Int) < 5 ∧ u = .int .i64 r
  | 4 => ∃ r : Nat, r ≤ 2 ∧ u = .int .i64 r
  | 7 => ∃ r : Nat, r ≤ 65535 ∧ u = .int .u16 r
  | _ => True
def cellV (g : Nat) (w : World) (i : Nat) (x : World) (u : Value) : Prop := match i with
  | 0 => ∃ B, B ≠ g ∧ B ≠ w.heap.size ∧ u = .slice (some ⟨B, 0, none⟩) 5 5 ∧ x.heap[B]? = some lit5
  | _ => True

theorem cell_any (N g : Nat) (w : World) (hd : Deck N w g) :
    Calls Try.prog 50 #[.pointer (some ⟨g, 0, none⟩)] w fun e w' =>
      ∃ t r : Nat, t ≤ 2 ∧ r ≤ 65535 ∧ e = .returned (.agg #[.int .u8 t, .int .u16 r]) ∧ Deck N w' g ∧ Only g w w' := by
  have hgl := hd.lt
  have hNl := hd.le
  go_enter Try.func50, Try.ntmps50
  go_wp2_with fail
  refine wp_region_rel_lit (C := cellC N g w) (T := Keep (fun b => b = g ∨ b = w.heap.size)) [0, 2, 4, 7, 9] (cellSh g w) (cellV g w) (by kernel_rfl) (by kernel_rfl) ?_ ?_ ?_
  · rintro x x' i u hT hV
    unfold cellV at hV ⊢
    split
    · obtain ⟨B, h1, h2, h3, h4⟩ := hV
      exact ⟨B, h1, h2, h3, hT.at_ h4 (fun e => e.elim h1 h2)⟩
    · trivial
  · exact ⟨(Keep.alloc _ w _).trans (Keep.drew _ _), hd.alloc.drew, 0, 0, by omega, by omega, heap_new w _⟩
  · intro hne
    refine walk_rel (by rfl) (by rfl) ⟨_, g + w.heap.size + 1, by omega, by omega, rfl⟩ ?_ ?_
    · rintro x ⟨hK, hD, t, r, h1, h2, hR⟩ _
      go_simp
      have e1 := hD.lt
      have e2 := heap_lt hR
      exact ⟨⟨hK.trans (Keep.alloc _ _ _), hD.alloc, t, r, h1, h2, heap_push hR⟩, Keep.alloc _ _ _, ⟨x.heap.size, by omega, by omega, rfl⟩, ⟨x.heap.size, by omega, by omega, rfl, heap_new x _⟩⟩
    rintro u ⟨B, hB1, hB2, rfl⟩
    refine relWalk_step (fun K hK => ?_)
    go_simp
    refine hK _ _ ?_; clear hK K
    refine walk_rel (by rfl) (by rfl) ⟨_, 0, by omega, rfl⟩ ?_ ?_
    · rintro x ⟨hK, hD, t, r, h1, h2, hR⟩ _
      go_simp
      refine (next_any N g 5 x (by omega) (by omega) hD).mono ?_
      rintro e w' ⟨r', hr', rfl, hD', hO⟩
      exact ⟨_, rfl, ⟨hK.trans (hO.keep (.inl rfl)), hD', t, r, h1, h2, (hO.keep (S := fun b => b = g) rfl).at_ hR (by omega)⟩, hO.keep (.inl rfl), ⟨r', hr', rfl⟩, trivial⟩
    rintro u ⟨r, hr, rfl⟩
    refine relWalk_step (fun K hK => ?_)
    go_simp
    refine hK _ _ ?_; clear hK K
    refine walk_rel (by rfl) (by rfl) ⟨_, 0, by omega, rfl⟩ ?_ ?_
    · rintro x hC hF
      obtain ⟨B', _, _, e, hf⟩ := hF.get 1 rfl (by kernel_rfl)
      injection e with e
      injection e with e
      injection e with e
      subst e
      have hc : x.cell? ⟨B, r, none⟩ = some (.int .i64 (tg r)) := by
        rw [cells_cell hf]
        match r, hr with
        | 0, _ => rfl
        | 1, _ => rfl
        | 2, _ => rfl
        | 3, _ => rfl
        | 4, _ => rfl
        | n + 5, h => exfalso; omega
      clear hf
      go_simp
      exact ⟨hC, Keep.refl _ _, ⟨tg r, tg_le hr, rfl⟩, trivial⟩
    rintro u ⟨x, hx, rfl⟩
    refine relWalk_step (fun K hK => ?_)
    go_simp
    refine hK _ _ ?_; clear hK K
    refine relWalk_step (fun K hK => ?_)
    go_simp
    refine hK _ _ ?_; clear hK K
    refine walk_rel (by rfl) (by rfl) ⟨_, 0, by omega, rfl⟩ ?_ ?_
    · rintro x ⟨hK, hD, t, r, h1, h2, hR⟩ _
      go_simp
      refine (word_any N g x hD).mono ?_
      rintro e w' ⟨r', hr', rfl, hD', hO⟩
      exact ⟨_, rfl, ⟨hK.trans (hO.keep (.inl rfl)), hD', t, r, h1, h2, (hO.keep (S := fun b => b = g) rfl).at_ hR (by omega)⟩, hO.keep (.inl rfl), ⟨r', hr', rfl⟩, trivial⟩
    rintro u ⟨y, hy, rfl⟩
    refine relWalk_step (fun K hK => ?_)
    go_simp
    refine hK _ _ ?_; clear hK K
    refine walk_rel (by rfl) (by rfl) ⟨undef, trivial⟩ ?_ ?_
    · rintro z ⟨hK, hD, t, r, h1, h2, hR⟩ _
      have c0 := cells_cell hR 0
      have c1 := cells_cell hR 1
      have f0 := cells_free hR 0
      have hs := cells_set hR 0 (.int .u8 x)
      have c1' := cells_cell hs 1
      have f1 := cells_free hs 1
      have hs2 := Lib.hid (cells_set hs 1 (.int .u16 y))
      have hkk := Lib.hid hK
      clear hR hs hK
      have hx8 : IntKind.u8.wrap (x : Int) = x := by rw [IntKind.wrap_u8']; omega
      simp at c0 c1 c1'
      go_simp
      have hD1 := (hD.setCell (p := ⟨w.heap.size, 0, none⟩) hNl (by simp; omega) (.int .u8 x)).setCell (p := ⟨w.heap.size, 1, none⟩) hNl (by simp; omega) (.int .u16 y)
      have hK1 := (Keep.setCell (S := fun b => b = g ∨ b = w.heap.size) z ⟨w.heap.size, 0, none⟩ (.int .u8 x) (.inr rfl)).trans (Keep.setCell (S := fun b => b = g ∨ b = w.heap.size) (z.setCell ⟨w.heap.size, 0, none⟩ (.int .u8 x)) ⟨w.heap.size, 1, none⟩ (.int .u16 y) (.inr rfl))
      exact ⟨⟨hkk.out.trans hK1, hD1, x, y, hx, hy, hs2.out⟩, hK1, trivial, trivial⟩
    rintro u _
    refine walk_nil ?_
    rintro z ⟨hK, hD, t, r, h1, h2, hR⟩ hF
    go_wp2_with fail
    refine bodyPost_ret (v := .agg #[.int .u8 t, .int .u16 r]) ?_ rfl ⟨t, r, h1, h2, rfl, hD, keep_only hK ?_⟩
    · have c0 := cells_cell hR 0
      have c1 := cells_cell hR 1
      simp at c0 c1
      simp [results, Try.results50, go_sem, c0, c1]
    · intro b hb e
      omega
end Go.Proofs.Ytpdpiihnafkgjaa
