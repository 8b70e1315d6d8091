/- Pages: plain. -/
import Derived.Test.YtcphobeommkgeaaC5
namespace Go.Proofs.Ytcphobeommkgeaa
open Go Go.RowKit Rdn Rdn.Dp
set_option linter.unusedVariables false
set_option linter.unusedSimpArgs false
abbrev pidV (p : PageID) : V := .agg [.int .i64 p.region, .int .i64 p.index]
abbrev pgV (t : Bool) (p : Page) : V := .agg [pidV p.id, .sl t 4 (p.cells.map canonV), viewV t p.view]
abbrev staV (s : State) : V := .agg [.sl false 1 (s.regions.map (slV' false 4 canonV)), .sl false 8 (s.threads.map (viewV false))]
instance : Lo pidV pidV := ⟨fun _ => rfl, fun _ => rfl⟩
instance (t : Bool) : Lo (pgV t) (pgV false) := ⟨fun _ => rfl, fun o => by simp only [pgV, viewV, V.low, V.lows, lows_lo]⟩
/-- How many pages a region of n cells has. -/
def pcn (n : Int) : Nat := ((n + 7) / 8).toNat
theorem pcn_lt {n : Int} {i : Nat} : i < pcn n ↔ 8 * (i : Int) < n := by unfold pcn; omega
theorem pcn_le {n : Int} (h : n ≤ 32) : pcn n ≤ 4 := by unfold pcn; omega
def idsR (r c : Nat) : List PageID := (List.range c).map fun i : Nat => ⟨r, i⟩
def idsL (z : List Int) : Nat → List PageID
  | 0 => []
  | r + 1 => idsL z r ++ idsR r (pcn z[r]!)
def idsT (n : Nat) : List PageID := (List.range n).map fun i : Nat => ⟨-1, i⟩
/-- The pages of regions of sizes z and of n threads. -/
def idsF (z : List Int) (n : Int) : List PageID := idsL z z.length ++ idsT n.toNat
theorem idsR_zero (r : Nat) : idsR r 0 = [] := rfl
theorem idsR_snoc (r c : Nat) : idsR r c ++ [⟨r, c⟩] = idsR r (c + 1) := by simp [idsR, List.range_succ]
theorem idsT_zero : idsT 0 = [] := rfl
theorem idsT_snoc (c : Nat) : idsT c ++ [⟨-1, c⟩] = idsT (c + 1) := by simp [idsT, List.range_succ]
theorem idsL_snoc (z : List Int) (r : Nat) : idsL z r ++ idsR r (pcn z[r]!) = idsL z (r + 1) := rfl
theorem idsR_len (r c : Nat) : (idsR r c).length = c := by simp [idsR]
theorem idsT_len (c : Nat) : (idsT c).length = c := by simp [idsT]
/-- What List and Set refuse. -/
def chk (z : List Int) (n : Int) : Int := if 4 < z.length ∨ 4 < n then 3 else if n < 0 ∨ z.any (fun x => decide (x < 1 ∨ 32 < x)) = true then 1 else 0
theorem chk_ok {z : List Int} {n : Int} (h : chk z n = 0) : z.length ≤ 4 ∧ n ≤ 4 ∧ 0 ≤ n ∧ ∀ k, k < z.length → 1 ≤ z[k]! ∧ z[k]! ≤ 32 := by
  unfold chk at h
  split at h
  · cases h
  · split at h
    · cases h
    · rename_i h1 h2
      refine ⟨by omega, by omega, by omega, fun k hk => ?_⟩
      have h3 : ¬ z.any (fun x => decide (x < 1 ∨ 32 < x)) = true := fun h => h2 (.inr h)
      rw [List.any_eq_true] at h3
      have h4 : ¬ (z[k]! < 1 ∨ 32 < z[k]!) := fun h => h3 ⟨z[k]!, mem_at hk, decide_eq_true h⟩
      omega
theorem chk_3 {z : List Int} {n : Int} (h : 4 < z.length ∨ 4 < n) : chk z n = 3 := if_pos h
theorem chk_1 {z : List Int} {n : Int} (h : ¬ (4 < z.length ∨ 4 < n)) (h2 : n < 0) : chk z n = 1 := by unfold chk; rw [if_neg h, if_pos (.inl h2)]
theorem chk_1' {z : List Int} {n : Int} {k : Nat} (h : ¬ (4 < z.length ∨ 4 < n)) (hk : k < z.length) (h2 : z[k]! < 1 ∨ 32 < z[k]!) : chk z n = 1 := by
  unfold chk; rw [if_neg h, if_pos (.inr (List.any_eq_true.2 ⟨z[k]!, mem_at hk, decide_eq_true h2⟩))]
theorem chk_1'' {z : List Int} {n : Int} (h : ¬ (4 < z.length ∨ 4 < n)) (h2 : z.any (fun x => decide (x < 1 ∨ 32 < x)) = true) : chk z n = 1 := by
  unfold chk; rw [if_neg h, if_pos (.inr h2)]
theorem chk_0 {z : List Int} {n : Int} (h : ¬ (4 < z.length ∨ 4 < n)) (h1 : 0 ≤ n) (h2 : ∀ k, k < z.length → 1 ≤ z[k]! ∧ z[k]! ≤ 32) : chk z n = 0 := by
  unfold chk; rw [if_neg h, if_neg]
  rintro (h3 | h3)
  · omega
  · obtain ⟨x, hx, h4⟩ := List.any_eq_true.1 h3
    obtain ⟨k, hk, rfl⟩ := List.getElem_of_mem hx
    have := h2 k hk
    rw [getElem!_pos z k hk] at this
    simp only [decide_eq_true_eq] at h4
    omega
def sList (z : List Int) (n : Int) : List PageID × Int := if chk z n = 0 then (idsF z n, 0) else ([], chk z n)
def szs (s : State) : List Int := s.regions.map fun l => (l.length : Int)
theorem szs_len (s : State) : (szs s).length = s.regions.length := by simp [szs]
theorem szs_at {s : State} {k : Nat} (h : k < s.regions.length) : (szs s)[k]! = (s.regions[k]!.length : Int) := by simp [szs, h]
theorem szs_take (s : State) (k : Nat) (h : k < s.regions.length) : (szs s).take k ++ [(s.regions[k]!.length : Int)] = (szs s).take (k + 1) := by
  rw [← szs_at h, ← take_snoc (by rw [szs_len]; exact h)]
def shp (s : State) : Bool := decide (chk (szs s) s.threads.length = 0)
theorem shp_chk {s : State} (h : shp s = true) : chk (szs s) s.threads.length = 0 := of_decide_eq_true h
structure Shp (s : State) : Prop where
  r : s.regions.length ≤ 4
  t : s.threads.length ≤ 4
  z : ∀ k, k < s.regions.length → 1 ≤ s.regions[k]!.length ∧ s.regions[k]!.length ≤ 32
theorem shp_to {s : State} (h : shp s = true) : Shp s := by
  have h := chk_ok (of_decide_eq_true h)
  rw [szs_len] at h
  refine ⟨h.1, by omega, fun k hk => ?_⟩
  have := h.2.2.2 k hk
  rw [szs_at hk] at this
  omega
theorem Shp.of {s : State} (h : Shp s) : shp s = true := by
  refine decide_eq_true (chk_0 ?_ (by omega) fun k hk => ?_)
  · have := h.r; have := h.t; rw [szs_len]; omega
  · rw [szs_len] at hk
    have := h.z k hk
    rw [szs_at hk]; omega
def zvw : View := ⟨0, 0, 0, 0, 0, 0, 0, []⟩
def zpg : Page := ⟨⟨0, 0⟩, [], zvw⟩
/-- The cells of a page of a region. -/
def prt (l : List Canon) (i : Int) : List Canon := if 0 ≤ i ∧ i ≤ 32 then (l.drop (8 * i).toNat).take 8 else []
theorem prt_len (l : List Canon) (i : Int) : (prt l i).length ≤ 8 := by unfold prt; split <;> simp; omega
def getP (s : State) (d : PageID) : Page := if d.region = -1 then ⟨d, [], s.threads[d.index.toNat]!⟩ else ⟨d, prt s.regions[d.region.toNat]! d.index, zvw⟩
def There (s : State) (d : PageID) : Prop := (d.region = -1 ∧ 0 ≤ d.index ∧ d.index < s.threads.length) ∨ (0 ≤ d.region ∧ d.region < s.regions.length ∧ 0 ≤ d.index ∧ d.index ≤ 32 ∧ 8 * d.index < s.regions[d.region.toNat]!.length)
instance (s : State) (d : PageID) : Decidable (There s d) := by unfold There; infer_instance
def sGet (s : State) (d : PageID) : Page × Int := if shp s = true then (if There s d then (getP s d, 0) else (zpg, 30)) else (zpg, 1)
theorem sGet_1 {s : State} {d : PageID} (h : shp s = false) : sGet s d = (zpg, 1) := by unfold sGet; rw [h]; rfl
theorem sGet_30 {s : State} {d : PageID} (h : shp s = true) (h1 : ¬ There s d) : sGet s d = (zpg, 30) := by unfold sGet; rw [if_pos h, if_neg h1]
theorem sGet_0 {s : State} {d : PageID} (h : shp s = true) (h1 : There s d) : sGet s d = (getP s d, 0) := by unfold sGet; rw [if_pos h, if_pos h1]
def pgs (s : State) : List Page := (idsF (szs s) s.threads.length).map (getP s)
def sAll (s : State) : List Page × Int := if shp s = true then (pgs s, 0) else ([], 1)
theorem sAll_0 {s : State} (h : shp s = true) : sAll s = (pgs s, 0) := if_pos h
theorem sAll_1 {s : State} (h : shp s = false) : sAll s = ([], 1) := by unfold sAll; rw [h]; rfl
theorem mem_idsL {z : List Int} {d : PageID} : ∀ {r : Nat}, d ∈ idsL z r → 0 ≤ d.region ∧ d.region < r ∧ 0 ≤ d.index ∧ 8 * d.index < z[d.region.toNat]!
  | 0, h => by cases h
  | r + 1, h => by
    rcases List.mem_append.1 h with h | h
    · have := mem_idsL h; omega
    · obtain ⟨i, hi, rfl⟩ := List.mem_map.1 h
      have := pcn_lt.1 (List.mem_range.1 hi)
      dsimp only
      rw [Int.toNat_natCast]
      omega
theorem mem_idsF {s : State} {d : PageID} (h : d ∈ idsF (szs s) s.threads.length) (H : Shp s) : There s d := by
  rcases List.mem_append.1 h with h | h
  · have := mem_idsL h
    rw [szs_len] at this
    obtain ⟨h1, h2, h3, h4⟩ := this
    have hz := H.z d.region.toNat (by omega)
    rw [szs_at (by omega)] at h4
    exact .inr ⟨h1, h2, h3, by omega, h4⟩
  · obtain ⟨i, hi, rfl⟩ := List.mem_map.1 h
    have := List.mem_range.1 hi
    exact .inl ⟨rfl, by dsimp only; omega, by dsimp only; omega⟩
theorem idsL_le {z : List Int} (hz : ∀ k, k < z.length → z[k]! ≤ 32) : ∀ {r : Nat}, r ≤ z.length → (idsL z r).length ≤ 4 * r
  | 0, _ => Nat.le_refl _
  | r + 1, h => by
    have h1 := idsL_le hz (r := r) (by omega)
    have h2 := hz r (by omega)
    have h3 : pcn z[r]! ≤ 4 := by unfold pcn; omega
    rw [idsL, List.length_append, idsR_len]
    omega
theorem idsF_le {z : List Int} {n : Int} (h : chk z n = 0) : (idsF z n).length ≤ 20 := by
  obtain ⟨h1, h2, h3, h4⟩ := chk_ok h
  have := idsL_le (z := z) (fun k hk => (h4 k hk).2) (Nat.le_refl _)
  rw [idsF, List.length_append, idsT_len]
  omega
theorem getP_id (s : State) (d : PageID) : (getP s d).id = d := by unfold getP; split <;> rfl
theorem There.cells {s : State} {d : PageID} (h : There s d) : (getP s d).cells.length ≤ 8 ∧ ((d.region = -1) ↔ (getP s d).cells.length = 0) := by
  unfold getP
  rcases h with ⟨h1, h2, h3⟩ | ⟨h1, h2, h3, h4, h5⟩
  · rw [if_pos h1]; simp [h1]
  · rw [if_neg (by omega)]
    refine ⟨prt_len _ _, by omega, fun h => ?_⟩
    dsimp only [prt] at h
    rw [if_pos ⟨h3, h4⟩, List.length_take, List.length_drop] at h
    omega
theorem prt_region {l : List Canon} {i : Nat} (h : i ≤ 32) : prt l i = (l.drop (8 * i)).take 8 := by
  unfold prt
  rw [if_pos ⟨by omega, by omega⟩, show (8 * (i : Int)).toNat = 8 * i by omega]
/-- How many cells pages have. -/
def cnt (l : List Page) : Nat := (l.map fun p => p.cells.length).sum
theorem cnt_snoc (l : List Page) (p : Page) : cnt (l ++ [p]) = cnt l + p.cells.length := by simp [cnt]
theorem cnt_app (l m : List Page) : cnt (l ++ m) = cnt l + cnt m := by simp [cnt]
def wsum (s : State) (r : Nat) : Nat := ((s.regions.take r).map List.length).sum
theorem wsum_snoc {s : State} {r : Nat} (h : r < s.regions.length) : wsum s (r + 1) = wsum s r + s.regions[r]!.length := by
  unfold wsum; rw [take_snoc h]; simp
theorem cnt_R (s : State) (H : Shp s) {r : Nat} (hr : r < s.regions.length) : ∀ c, c ≤ pcn s.regions[r]!.length → cnt ((idsR r c).map (getP s)) = min (8 * c) s.regions[r]!.length
  | 0, _ => by simp [idsR_zero, cnt]
  | c + 1, h => by
    have ih := cnt_R s H hr c (by omega)
    have hc := pcn_lt.1 (show c < pcn s.regions[r]!.length by omega)
    have hz := H.z r hr
    rw [← idsR_snoc, List.map_append, cnt_app, ih]
    have : (getP s ⟨r, c⟩).cells = prt s.regions[r]! c := by
      unfold getP
      rw [if_neg (by dsimp only; omega)]
      dsimp only
      rw [Int.toNat_natCast]
    simp only [cnt, List.map_cons, List.map_nil, List.sum_cons, List.sum_nil, this]
    rw [prt_region (by omega), List.length_take, List.length_drop]
    omega
theorem cnt_L (s : State) (H : Shp s) : ∀ r, r ≤ s.regions.length → cnt ((idsL (szs s) r).map (getP s)) = wsum s r
  | 0, _ => rfl
  | r + 1, h => by
    have ih := cnt_L s H r (by omega)
    have hz := H.z r (by omega)
    rw [idsL, List.map_append, cnt_app, ih, szs_at (by omega), cnt_R s H (by omega) _ (Nat.le_refl _), wsum_snoc (by omega)]
    unfold pcn
    omega
theorem cnt_T (s : State) : ∀ n, cnt ((idsT n).map (getP s)) = 0
  | 0 => rfl
  | n + 1 => by
    rw [← idsT_snoc, List.map_append, cnt_app, cnt_T s n]
    rfl
theorem cnt_all (s : State) (H : Shp s) : cnt (pgs s) = wsum s s.regions.length := by
  unfold pgs idsF
  rw [szs_len, List.map_append, cnt_app, cnt_L s H _ (Nat.le_refl _), cnt_T]; rfl
/-- How many pages regions have. -/
def psum (s : State) : Nat → Nat
  | 0 => 0
  | r + 1 => psum s r + (s.regions[r]!.length + 7) / 8
theorem psum_L (s : State) : ∀ r, r ≤ s.regions.length → (idsL (szs s) r).length = psum s r
  | 0, _ => rfl
  | r + 1, h => by
    rw [idsL, List.length_append, idsR_len, psum_L s r (by omega), szs_at (by omega), psum]
    unfold pcn
    omega
theorem pgs_len (s : State) : (pgs s).length = s.threads.length + psum s s.regions.length := by
  unfold pgs idsF
  rw [List.length_map, List.length_append, szs_len, psum_L s _ (Nat.le_refl _), idsT_len]
  omega
instance : Inhabited PageID := ⟨⟨0, 0⟩⟩
instance : Inhabited Page := ⟨zpg⟩
theorem map_at' {α β : Type} [Inhabited α] [Inhabited β] (g : α → β) (l : List α) {i : Nat} (h : i < l.length) : (l.map g)[i]! = g l[i]! := by simp [h]
theorem pgs_at {s : State} {k : Nat} (h : k < (pgs s).length) : (pgs s)[k]! = getP s (idsF (szs s) s.threads.length)[k]! := by
  unfold pgs at h ⊢
  rw [List.length_map] at h
  exact map_at' _ _ h
end Go.Proofs.Ytcphobeommkgeaa
