/- Trees: the levels of digests, and where two trees differ; plain. -/
import Derived.Test.YtcphobeommkgeaaM1
namespace Go.Proofs.Ytcphobeommkgeaa
open Go Go.RowKit Rdn Rdn.Dp
set_option linter.unusedVariables false
set_option linter.unusedSimpArgs false
attribute [local irreducible] djoin
/-- The level behind a level. -/
def up (l : List Int) : List Int := (List.range ((l.length + 1) / 2)).map fun i => if 2 * i + 1 = l.length then l[2 * i]! else djoin l[2 * i]! l[2 * i + 1]!
theorem up_len (l : List Int) : (up l).length = (l.length + 1) / 2 := by simp [up]
theorem up_at {l : List Int} {i : Nat} (h : i < (l.length + 1) / 2) : (up l)[i]! = if 2 * i + 1 = l.length then l[2 * i]! else djoin l[2 * i]! l[2 * i + 1]! := by
  rw [getElem!_pos (up l) i (by rw [up_len]; exact h)]
  simp only [up, List.getElem_map, List.getElem_range]
def lev (l : List Int) : Nat → List Int
  | 0 => l
  | k + 1 => up (lev l k)
def hl (n : Nat) : Nat → Nat
  | 0 => n
  | k + 1 => (hl n k + 1) / 2
theorem lev_len (l : List Int) : ∀ k, (lev l k).length = hl l.length k
  | 0 => rfl
  | k + 1 => by rw [lev, up_len, lev_len l k]; rfl
/-- How many levels stand above the first one. -/
def dep (n : Nat) : Nat := if n ≤ 1 then 0 else if n ≤ 2 then 1 else if n ≤ 4 then 2 else if n ≤ 8 then 3 else if n ≤ 16 then 4 else 5
theorem dep_ranges {n c : Nat} (h : dep n = c) : (c = 0 ∧ n ≤ 1) ∨ (c = 1 ∧ n = 2) ∨ (c = 2 ∧ 3 ≤ n ∧ n ≤ 4) ∨ (c = 3 ∧ 5 ≤ n ∧ n ≤ 8) ∨ (c = 4 ∧ 9 ≤ n ∧ n ≤ 16) ∨ (c = 5 ∧ 17 ≤ n) := by
  unfold dep at h
  repeat' split at h
  all_goals omega
theorem dep_le (n : Nat) : dep n ≤ 5 := by have := dep_ranges (n := n) rfl; omega
theorem six {k : Nat} (h : k ≤ 5) : k = 0 ∨ k = 1 ∨ k = 2 ∨ k = 3 ∨ k = 4 ∨ k = 5 := by omega
theorem hl_pos {n k : Nat} (h : 1 ≤ n) : 1 ≤ hl n k := by
  induction k with
  | zero => exact h
  | succ k ih => simp only [hl]; omega
theorem hl_dep {n k : Nat} (h1 : 1 ≤ n) (h2 : n ≤ 20) (hk : k ≤ dep n) : 1 < hl n k ↔ k < dep n := by
  have h5 := dep_le n
  have hr := dep_ranges (n := n) rfl
  rcases six (Nat.le_trans hk h5) with rfl | rfl | rfl | rfl | rfl | rfl <;> simp only [hl] <;> omega
theorem hl_top {n : Nat} (h1 : 1 ≤ n) (h2 : n ≤ 20) : hl n (dep n) = 1 := by
  have := hl_dep h1 h2 (Nat.le_refl _)
  have := hl_pos (k := dep n) h1
  omega
theorem hl_anti {n : Nat} (h1 : 1 ≤ n) : ∀ {i j : Nat}, i ≤ j → hl n j ≤ hl n i := by
  intro i j h
  induction h with
  | refl => exact Nat.le_refl _
  | step h ih => simp only [hl]; have := hl_pos (k := i) h1; omega
theorem hl_le {n : Nat} (h1 : 1 ≤ n) (k : Nat) : hl n k ≤ n := hl_anti h1 (Nat.zero_le k)
/-- The first levels. -/
def blk' (l : List Int) (p : Nat) : List (List Int) := (List.range (p + 1)).map (lev l)
theorem blk_snoc (l : List Int) (p : Nat) : blk' l p ++ [lev l (p + 1)] = blk' l (p + 1) := by
  unfold blk'
  rw [List.range_succ (n := p + 1), List.map_append]; rfl
theorem blk_zero (l : List Int) : blk' l 0 = [l] := rfl
theorem blk_len (l : List Int) (p : Nat) : (blk' l p).length = p + 1 := by simp [blk']
theorem blk_at (l : List Int) {p k : Nat} (h : k ≤ p) : (blk' l p)[k]! = lev l k := by
  rw [getElem!_pos (blk' l p) k (by rw [blk_len]; omega)]
  simp [blk']
def bld (l : List Int) : List (List Int) := blk' l (dep l.length)
theorem bld_len (l : List Int) : (bld l).length = dep l.length + 1 := blk_len _ _
theorem bld_at (l : List Int) {k : Nat} (h : k ≤ dep l.length) : (bld l)[k]! = lev l k := blk_at l h
theorem bld_zero (l : List Int) : (bld l)[0]! = l := bld_at l (Nat.zero_le _)
/-! ### Where two trees differ -/
def dif (x y : List Int) (L : List Nat) : List Nat := L.filter fun i => decide (x[i]! ≠ y[i]!)
/-- What is looked at below. -/
def ch1 (w i : Nat) : List Nat := (if 2 * i < w then [2 * i] else []) ++ (if 2 * i + 1 < w then [2 * i + 1] else [])
def chl (w : Nat) (d : List Nat) : List Nat := d.flatMap (ch1 w)
/-- Behind p levels, from the last one on: what is looked at, how many pairs were compared. -/
def dst (l m : List Int) : Nat → List Nat × Nat
  | 0 => ([0], 0)
  | p + 1 => (chl (lev l (dep l.length - p - 1)).length (dif (lev l (dep l.length - p)) (lev m (dep l.length - p)) (dst l m p).1), (dst l m p).2 + (dst l m p).1.length)
def dres (l m : List Int) : List Nat := dif l m (dst l m (dep l.length)).1
def dnum (l m : List Int) : Nat := (dst l m (dep l.length)).2 + (dst l m (dep l.length)).1.length
theorem dres_eq (l m : List Int) : dres l m = dif (lev l 0) (lev m 0) (dst l m (dep l.length)).1 := rfl
theorem dnum_eq (l m : List Int) : dnum l m = (dst l m (dep l.length)).2 + (dst l m (dep l.length)).1.length := rfl
/-- In ascending order, and below w. -/
def Asc (w : Nat) (L : List Nat) : Prop := L.Pairwise (· < ·) ∧ ∀ i ∈ L, i < w
theorem Asc.len {w : Nat} : ∀ {L : List Nat}, Asc w L → L.length ≤ w := by
  suffices h : ∀ (L : List Nat) (a : Nat), L.Pairwise (· < ·) → (∀ i ∈ L, a ≤ i ∧ i < w) → L.length ≤ w - a by
    intro L hL
    have := h L 0 hL.1 fun i hi => ⟨Nat.zero_le _, hL.2 i hi⟩
    omega
  intro L
  induction L with
  | nil => intro a _ _; simp
  | cons x L ih =>
    intro a hp hb
    have hp' := List.pairwise_cons.1 hp
    have hx := hb x (by simp)
    have := ih (x + 1) hp'.2 fun i hi => ⟨hp'.1 i hi, (hb i (by simp [hi])).2⟩
    simp only [List.length_cons]
    omega
theorem Asc.dif {w : Nat} {L : List Nat} (h : Asc w L) (x y : List Int) : Asc w (dif x y L) := ⟨h.1.filter _, fun i hi => h.2 i (List.mem_filter.1 hi).1⟩
theorem ch1_mem {w i j : Nat} (h : j ∈ ch1 w i) : j < w ∧ (j = 2 * i ∨ j = 2 * i + 1) := by
  unfold ch1 at h
  rcases List.mem_append.1 h with h | h
  · split at h
    · simp at h; omega
    · simp at h
  · split at h
    · simp at h; omega
    · simp at h
theorem ch1_pw (w i : Nat) : (ch1 w i).Pairwise (· < ·) := by
  unfold ch1
  split <;> split <;> simp
theorem Asc.chl {w v : Nat} {L : List Nat} (h : Asc v L) : Asc w (chl w L) := by
  refine ⟨?_, fun j hj => ?_⟩
  · have hp := h.1
    clear h
    induction L with
    | nil => exact List.Pairwise.nil
    | cons x L ih =>
      have hp' := List.pairwise_cons.1 hp
      show (ch1 w x ++ _).Pairwise _
      refine List.pairwise_append.2 ⟨ch1_pw w x, ih hp'.2, fun a ha b hb => ?_⟩
      obtain ⟨i, hi, hb⟩ := List.mem_flatMap.1 hb
      have h1 := ch1_mem ha
      have h2 := ch1_mem hb
      have := hp'.1 i hi
      omega
  · obtain ⟨i, hi, hj⟩ := List.mem_flatMap.1 hj
    exact (ch1_mem hj).1
theorem dst_two (l m : List Int) (p : Nat) : (dst l m (p + 1)).2 = (dst l m p).2 + (dst l m p).1.length := rfl
theorem dst_asc {l m : List Int} (h1 : 1 ≤ l.length) (h2 : l.length ≤ 20) : ∀ {p : Nat}, p ≤ dep l.length → Asc (hl l.length (dep l.length - p)) (dst l m p).1
  | 0, _ => by
    rw [Nat.sub_zero, hl_top h1 h2]
    exact ⟨by simp [dst], fun i hi => by simp [dst] at hi; omega⟩
  | p + 1, hp => by
    have h := dst_asc (m := m) h1 h2 (p := p) (by omega)
    have := (h.dif (lev l (dep l.length - p)) (lev m (dep l.length - p))).chl (w := (lev l (dep l.length - p - 1)).length)
    rw [lev_len] at this
    show Asc (hl l.length (dep l.length - (p + 1))) (chl (lev l (dep l.length - p - 1)).length _)
    rw [show dep l.length - (p + 1) = dep l.length - p - 1 by omega, lev_len]
    exact this
theorem dnum_le {l m : List Int} (h1 : 1 ≤ l.length) (h2 : l.length ≤ 20) : dnum l m ≤ 2 * l.length + 5 := by
  have a0 := dst_two l m 0
  have a1 := dst_two l m 1
  have a2 := dst_two l m 2
  have a3 := dst_two l m 3
  have a4 := dst_two l m 4
  have az : (dst l m 0).2 = 0 := rfl
  have b := fun p hp => (dst_asc (m := m) h1 h2 (p := p) hp).len
  obtain ⟨c, hc⟩ : ∃ c, dep l.length = c := ⟨_, rfl⟩
  have hr := dep_ranges hc
  unfold dnum
  rw [hc] at b ⊢
  rcases hr with ⟨rfl, hr⟩ | ⟨rfl, hr⟩ | ⟨rfl, hr⟩ | ⟨rfl, hr⟩ | ⟨rfl, hr⟩ | ⟨rfl, hr⟩
  · have := b 0 (by omega)
    simp only [Nat.sub_self, hl] at this; omega
  · have := b 0 (by omega); have := b 1 (by omega)
    simp only [Nat.sub_zero, Nat.sub_self, Nat.zero_add, Nat.reduceAdd, hl] at *; omega
  · have := b 0 (by omega); have := b 1 (by omega); have := b 2 (by omega)
    simp only [Nat.sub_zero, Nat.sub_self, Nat.reduceSub, Nat.zero_add, Nat.reduceAdd, hl] at *; omega
  · have := b 0 (by omega); have := b 1 (by omega); have := b 2 (by omega); have := b 3 (by omega)
    simp only [Nat.sub_zero, Nat.sub_self, Nat.reduceSub, Nat.zero_add, Nat.reduceAdd, hl] at *; omega
  · have := b 0 (by omega); have := b 1 (by omega); have := b 2 (by omega); have := b 3 (by omega); have := b 4 (by omega)
    simp only [Nat.sub_zero, Nat.sub_self, Nat.reduceSub, Nat.zero_add, Nat.reduceAdd, hl] at *; omega
  · have := b 0 (by omega); have := b 1 (by omega); have := b 2 (by omega); have := b 3 (by omega); have := b 4 (by omega); have := b 5 (by omega)
    simp only [Nat.sub_zero, Nat.sub_self, Nat.reduceSub, Nat.zero_add, Nat.reduceAdd, hl] at *; omega
theorem dres_asc {l m : List Int} (h1 : 1 ≤ l.length) (h2 : l.length ≤ 20) : Asc l.length (dres l m) := by
  have := dst_asc (m := m) h1 h2 (Nat.le_refl _)
  rw [Nat.sub_self] at this
  exact this.dif _ _
theorem dres_ne {l m : List Int} {i : Nat} (h : i ∈ dres l m) : l[i]! ≠ m[i]! := by
  have := (List.mem_filter.1 h).2
  simpa using this
/-! ### One digest is another one -/
theorem lev_set {l : List Int} {k : Nat} {v : Int} : ∀ {j i : Nat}, i ≠ k / 2 ^ j → (lev l j)[i]! = (lev (l.set k v) j)[i]!
  | 0, i, h => by
    simp only [Nat.pow_zero, Nat.div_one] at h
    show l[i]! = (l.set k v)[i]!
    simp only [List.getElem!_eq_getElem?_getD]
    rw [List.getElem?_set_ne (by omega)]
  | j + 1, i, h => by
    have e : k / 2 ^ (j + 1) = k / 2 ^ j / 2 := by rw [Nat.pow_succ, Nat.div_div_eq_div_mul]
    obtain ⟨q, hq⟩ : ∃ q, k / 2 ^ j = q := ⟨_, rfl⟩
    rw [e, hq] at h
    have hl1 := lev_len l j
    have hl2 := lev_len (l.set k v) j
    rw [List.length_set] at hl2
    simp only [lev]
    by_cases hi : i < (hl l.length j + 1) / 2
    · rw [up_at (by rw [hl1]; exact hi), up_at (by rw [hl2]; exact hi), hl1, hl2, lev_set (j := j) (i := 2 * i) (by rw [hq]; omega), lev_set (j := j) (i := 2 * i + 1) (by rw [hq]; omega)]
    · rw [getElem!_neg _ _ (by rw [up_len, hl1]; exact hi), getElem!_neg _ _ (by rw [up_len, hl2]; exact hi)]
theorem one_len {L : List Nat} {c : Nat} (hp : L.Pairwise (· < ·)) (h : ∀ i ∈ L, i = c) : L.length ≤ 1 := by
  cases L with
  | nil => simp
  | cons a L =>
    cases L with
    | nil => simp
    | cons b L =>
      have h1 := h a (by simp)
      have h2 := h b (by simp)
      have := (List.pairwise_cons.1 hp).1 b (by simp)
      omega
theorem dif_one {l : List Int} {k : Nat} {v : Int} (j : Nat) (L : List Nat) : ∀ i ∈ dif (lev l j) (lev (l.set k v) j) L, i = k / 2 ^ j := fun i hi => by
  have := (List.mem_filter.1 hi).2
  simp only [decide_eq_true_eq] at this
  by_cases e : i = k / 2 ^ j
  · exact e
  · exact absurd (lev_set e) this
theorem chl_len (w : Nat) : ∀ d : List Nat, (chl w d).length ≤ 2 * d.length
  | [] => by simp [chl]
  | x :: d => by
    have := chl_len w d
    have e : chl w (x :: d) = ch1 w x ++ chl w d := rfl
    have : (ch1 w x).length ≤ 2 := by unfold ch1; split <;> split <;> simp
    rw [e, List.length_append, List.length_cons]
    omega
theorem dst_one {l : List Int} {k : Nat} {v : Int} (h1 : 1 ≤ l.length) (h2 : l.length ≤ 20) {p : Nat} (hp : p + 1 ≤ dep l.length) : (dst l (l.set k v) (p + 1)).1.length ≤ 2 := by
  have ha := (dst_asc (m := l.set k v) h1 h2 (p := p) (by omega)).dif (lev l (dep l.length - p)) (lev (l.set k v) (dep l.length - p))
  have := one_len ha.1 (dif_one _ _)
  have := chl_len (lev l (dep l.length - p - 1)).length (dif (lev l (dep l.length - p)) (lev (l.set k v) (dep l.length - p)) (dst l (l.set k v) p).1)
  show (chl _ _).length ≤ 2
  omega
theorem dnum_one {l : List Int} {k : Nat} {v : Int} (h1 : 1 ≤ l.length) (h2 : l.length ≤ 20) : dnum l (l.set k v) ≤ 2 * l.length := by
  have a0 := dst_two l (l.set k v) 0
  have a1 := dst_two l (l.set k v) 1
  have a2 := dst_two l (l.set k v) 2
  have a3 := dst_two l (l.set k v) 3
  have a4 := dst_two l (l.set k v) 4
  have az : (dst l (l.set k v) 0).2 = 0 := rfl
  have ay : (dst l (l.set k v) 0).1.length = 1 := rfl
  have b := fun p hp => dst_one (k := k) (v := v) h1 h2 (p := p) hp
  obtain ⟨c, hc⟩ : ∃ c, dep l.length = c := ⟨_, rfl⟩
  have hr := dep_ranges hc
  unfold dnum
  rw [hc] at b ⊢
  rcases hr with ⟨rfl, hr⟩ | ⟨rfl, hr⟩ | ⟨rfl, hr⟩ | ⟨rfl, hr⟩ | ⟨rfl, hr⟩ | ⟨rfl, hr⟩
  · omega
  · have := b 0 (by omega); simp only [Nat.zero_add, Nat.reduceAdd] at *; omega
  · have := b 0 (by omega); have := b 1 (by omega); simp only [Nat.zero_add, Nat.reduceAdd] at *; omega
  · have := b 0 (by omega); have := b 1 (by omega); have := b 2 (by omega); simp only [Nat.zero_add, Nat.reduceAdd] at *; omega
  · have := b 0 (by omega); have := b 1 (by omega); have := b 2 (by omega); have := b 3 (by omega); simp only [Nat.zero_add, Nat.reduceAdd] at *; omega
  · have := b 0 (by omega); have := b 1 (by omega); have := b 2 (by omega); have := b 3 (by omega); have := b 4 (by omega); simp only [Nat.zero_add, Nat.reduceAdd] at *; omega
theorem dres_one {l : List Int} {k : Nat} {v : Int} (h1 : 1 ≤ l.length) (h2 : l.length ≤ 20) : (dres l (l.set k v)).length ≤ 1 ∧ ∀ i ∈ dres l (l.set k v), i = k := by
  have h := dif_one (l := l) (k := k) (v := v) 0 (dst l (l.set k v) (dep l.length)).1
  simp only [Nat.pow_zero, Nat.div_one] at h
  exact ⟨one_len (dres_asc h1 h2).1 h, h⟩
theorem dif_self (x : List Int) (L : List Nat) : dif x x L = [] := by simp [dif]
theorem dst_self (l : List Int) : ∀ p, dst l l (p + 1) = ([], 1)
  | 0 => by
    show (chl _ (dif _ _ _), _) = _
    rw [dif_self]; rfl
  | p + 1 => by
    show (chl _ (dif _ _ _), (dst l l (p + 1)).2 + (dst l l (p + 1)).1.length) = _
    rw [dif_self, dst_self l p]; rfl
theorem dnum_self (l : List Int) : dnum l l = 1 := by
  unfold dnum
  cases dep l.length with
  | zero => rfl
  | succ p => rw [dst_self]; rfl
theorem dres_self (l : List Int) : dres l l = [] := dif_self _ _
end Go.Proofs.Ytcphobeommkgeaa
