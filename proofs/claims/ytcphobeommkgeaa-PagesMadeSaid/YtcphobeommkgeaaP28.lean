/- Pages set and built: plain. -/
import Derived.Test.YtcphobeommkgeaaP1
namespace Go.Proofs.Ytcphobeommkgeaa
open Go Go.RowKit Rdn Rdn.Dp
set_option linter.unusedVariables false
set_option linter.unusedSimpArgs false
/-- A list of which a part is another one. -/
def ovr (l : List Canon) (j : Nat) (m : List Canon) : List Canon := l.take j ++ m ++ l.drop (j + m.length)
def putP (s : State) (p : Page) : State := if p.id.region = -1 then ⟨s.regions, s.threads.set p.id.index.toNat p.view⟩ else ⟨s.regions.set p.id.region.toNat (ovr s.regions[p.id.region.toNat]! (8 * p.id.index).toNat p.cells), s.threads⟩
/-- A page that fits. -/
def okP (s : State) (p : Page) : Prop := if p.id.region = -1 then p.cells.length = 0 else p.cells.length = (prt s.regions[p.id.region.toNat]! p.id.index).length ∧ p.view = zvw
instance (s : State) (p : Page) : Decidable (okP s p) := by unfold okP; infer_instance
def nost : State := ⟨[], []⟩
def sSet (s : State) (p : Page) : State × Int := if (sGet s p.id).2 = 0 then (if okP s p then (putP s p, 0) else (nost, 5)) else (nost, (sGet s p.id).2)
theorem sSet_0 {s : State} {p : Page} (h : shp s = true) (h1 : There s p.id) (h2 : okP s p) : sSet s p = (putP s p, 0) := by unfold sSet; rw [sGet_0 h h1, if_pos rfl, if_pos h2]
theorem sSet_5 {s : State} {p : Page} (h : shp s = true) (h1 : There s p.id) (h2 : ¬ okP s p) : sSet s p = (nost, 5) := by unfold sSet; rw [sGet_0 h h1, if_pos rfl, if_neg h2]
theorem sSet_e {s : State} {p : Page} {e : Int} (h : (sGet s p.id).2 = e) (he : e ≠ 0) : sSet s p = (nost, e) := by subst h; unfold sSet; rw [if_neg he]
theorem ovr_len {l m : List Canon} {j : Nat} (h : j + m.length ≤ l.length) : (ovr l j m).length = l.length := by
  simp only [ovr, List.length_append, List.length_take, List.length_drop]; omega
theorem ovr_get {l m : List Canon} {j : Nat} (h : j + m.length ≤ l.length) (c : Nat) : (ovr l j m)[c]? = if c < j then l[c]? else if c < j + m.length then m[c - j]? else l[c]? := by
  unfold ovr
  have h1 : (l.take j).length = j := by rw [List.length_take]; omega
  by_cases c1 : c < j
  · rw [if_pos c1, List.append_assoc, List.getElem?_append_left (by omega), List.getElem?_take_of_lt c1]
  · rw [if_neg c1]
    by_cases c2 : c < j + m.length
    · rw [if_pos c2, List.getElem?_append_left (by rw [List.length_append]; omega), List.getElem?_append_right (by omega), h1]
    · rw [if_neg c2, List.getElem?_append_right (by rw [List.length_append]; omega), List.length_append, h1, List.getElem?_drop]
      congr 1; omega
theorem prt_get {l : List Canon} {i : Int} (h : 0 ≤ i) (h2 : i ≤ 32) (c : Nat) : (prt l i)[c]? = if c < 8 then l[(8 * i).toNat + c]? else none := by
  unfold prt
  rw [if_pos ⟨h, h2⟩, List.getElem?_take]
  split
  · rw [List.getElem?_drop]
  · rfl
theorem prt_size {l : List Canon} {i : Int} (h : 0 ≤ i) (h2 : i ≤ 32) : (prt l i).length = min 8 (l.length - (8 * i).toNat) := by
  unfold prt
  rw [if_pos ⟨h, h2⟩, List.length_take, List.length_drop]
theorem prt_ovr {l m : List Canon} {i : Int} (h : 0 ≤ i) (h2 : i ≤ 32) (h3 : 8 * i < l.length) (hm : m.length = (prt l i).length) : prt (ovr l (8 * i).toNat m) i = m := by
  rw [prt_size h h2] at hm
  refine List.ext_getElem? fun c => ?_
  rw [prt_get h h2, ovr_get (by omega)]
  by_cases c1 : c < 8
  · rw [if_pos c1, if_neg (by omega)]
    by_cases c2 : c < m.length
    · rw [if_pos (by omega)]
      congr 1; omega
    · rw [if_neg (by omega), List.getElem?_eq_none (by omega), List.getElem?_eq_none (by omega)]
  · rw [if_neg c1, List.getElem?_eq_none (by omega)]
theorem prt_ovr_ne {l m : List Canon} {i j : Int} (h : 0 ≤ i) (h2 : i ≤ 32) (h3 : 8 * i < l.length) (k : 0 ≤ j) (k2 : j ≤ 32) (hij : j ≠ i) (hm : m.length = (prt l i).length) : prt (ovr l (8 * i).toNat m) j = prt l j := by
  rw [prt_size h h2] at hm
  refine List.ext_getElem? fun c => ?_
  rw [prt_get k k2, prt_get k k2, ovr_get (by omega)]
  by_cases c1 : c < 8
  · rw [if_pos c1, if_pos c1]
    by_cases c2 : (8 * j).toNat + c < (8 * i).toNat
    · rw [if_pos c2]
    · rw [if_neg c2, if_neg (by omega)]
  · rw [if_neg c1, if_neg c1]
theorem setx_eq {α : Type} [Inhabited α] {l : List α} {k : Nat} {x : α} (h : k < l.length) : (l.set k x)[k]! = x := by simp [h]
theorem setx_ne {α : Type} [Inhabited α] {l : List α} {k j : Nat} {x : α} (h : k ≠ j) : (l.set k x)[j]! = l[j]! := by
  simp only [List.getElem!_eq_getElem?_getD, List.getElem?_set_ne h]
/-- States of one shape. -/
structure Sm (x s : State) : Prop where
  r : x.regions.length = s.regions.length
  t : x.threads.length = s.threads.length
  c : ∀ k, k < s.regions.length → x.regions[k]!.length = s.regions[k]!.length
theorem Sm.refl (s : State) : Sm s s := ⟨rfl, rfl, fun _ _ => rfl⟩
theorem Sm.trans {a b c : State} (h : Sm a b) (k : Sm b c) : Sm a c := ⟨h.r.trans k.r, h.t.trans k.t, fun i hi => (h.c i (by rw [k.r]; exact hi)).trans (k.c i hi)⟩
theorem Sm.symm {a b : State} (h : Sm a b) : Sm b a := ⟨h.r.symm, h.t.symm, fun i hi => (h.c i (by rw [← h.r]; exact hi)).symm⟩
theorem Sm.szs {x s : State} (h : Sm x s) : szs x = szs s := by
  refine List.ext_getElem (by simp [Go.Proofs.Ytcphobeommkgeaa.szs, h.r]) fun i h1 h2 => ?_
  have hi : i < s.regions.length := by simpa [Go.Proofs.Ytcphobeommkgeaa.szs] using h2
  have := h.c i hi
  rw [getElem!_pos x.regions i (by rw [h.r]; exact hi), getElem!_pos s.regions i hi] at this
  simp only [Go.Proofs.Ytcphobeommkgeaa.szs, List.getElem_map, this]
theorem Sm.shp {x s : State} (h : Sm x s) : shp x = shp s := by unfold Go.Proofs.Ytcphobeommkgeaa.shp; rw [h.szs, h.t]
theorem Sm.there {x s : State} (h : Sm x s) {d : PageID} (k : There s d) : There x d := by
  rcases k with ⟨k1, k2, k3⟩ | ⟨k1, k2, k3, k4, k5⟩
  · exact .inl ⟨k1, k2, by rw [h.t]; exact k3⟩
  · exact .inr ⟨k1, by rw [h.r]; exact k2, k3, k4, by rw [h.c _ (by omega)]; exact k5⟩
theorem put_sm {s : State} {p : Page} (h : There s p.id) (hk : okP s p) : Sm (putP s p) s := by
  unfold putP
  rcases h with ⟨k1, k2, k3⟩ | ⟨k1, k2, k3, k4, k5⟩
  · rw [if_pos k1]
    exact ⟨rfl, by simp, fun _ _ => rfl⟩
  · rw [if_neg (by omega)]
    unfold okP at hk
    rw [if_neg (by omega), prt_size k3 k4] at hk
    refine ⟨by simp, rfl, fun k hk' => ?_⟩
    by_cases e : p.id.region.toNat = k
    · subst e
      rw [setx_eq hk', ovr_len (by omega)]
    · rw [setx_ne e]
theorem put_eq {s : State} {p : Page} (h : There s p.id) (hk : okP s p) : getP (putP s p) p.id = p := by
  unfold okP at hk
  unfold putP getP
  obtain ⟨d, cs, v⟩ := p
  dsimp only at *
  rcases h with ⟨k1, k2, k3⟩ | ⟨k1, k2, k3, k4, k5⟩
  · rw [if_pos k1] at hk ⊢
    rw [if_pos k1]
    dsimp only
    rw [setx_eq (by omega), List.eq_nil_of_length_eq_zero hk]
  · rw [if_neg (by omega)] at hk ⊢
    rw [if_neg (by omega)]
    dsimp only
    rw [setx_eq (by omega), prt_ovr k3 k4 k5 hk.1, hk.2]
theorem put_ne {s : State} {p : Page} {d : PageID} (h : There s p.id) (hk : okP s p) (hd : There s d) (hne : d ≠ p.id) : getP (putP s p) d = getP s d := by
  unfold okP at hk
  unfold putP getP
  obtain ⟨⟨r, i⟩, cs, v⟩ := p
  obtain ⟨r', i'⟩ := d
  have hne : ¬ (r' = r ∧ i' = i) := fun h => hne (by rw [h.1, h.2])
  unfold There at h hd
  dsimp only at *
  by_cases e1 : r = -1
  · rw [if_pos e1]
    by_cases e2 : r' = -1
    · rw [if_pos e2, if_pos e2]
      dsimp only
      rw [setx_ne (by omega)]
    · rw [if_neg e2, if_neg e2]
  · rw [if_neg e1] at hk ⊢
    by_cases e2 : r' = -1
    · rw [if_pos e2, if_pos e2]
    · rw [if_neg e2, if_neg e2]
      dsimp only
      by_cases e3 : r' = r
      · subst e3
        rw [setx_eq (by omega), prt_ovr_ne (by omega) (by omega) (by omega) (by omega) (by omega) (by omega) hk.1]
      · rw [setx_ne (by omega)]
theorem There.has {s : State} {d : PageID} (h : There s d) (H : Shp s) : d ∈ idsF (szs s) s.threads.length := by
  obtain ⟨r, i⟩ := d
  unfold There at h
  dsimp only at h
  have key : ∀ {n k : Nat}, k < n → n ≤ s.regions.length → 0 ≤ i → 8 * i < s.regions[k]!.length → (⟨k, i⟩ : PageID) ∈ idsL (szs s) n := by
    intro n
    induction n with
    | zero => intro k h; omega
    | succ n ih =>
      intro k h1 h2 h3 h4
      rw [idsL]
      by_cases e : k = n
      · subst e
        refine List.mem_append_right _ (List.mem_map.2 ⟨i.toNat, List.mem_range.2 (pcn_lt.2 ?_), by rw [Int.toNat_of_nonneg h3]⟩)
        rw [szs_at (by omega)]; omega
      · exact List.mem_append_left _ (ih (by omega) (by omega) h3 h4)
  rcases h with ⟨h1, h2, h3⟩ | ⟨h1, h2, h3, h4, h5⟩
  · subst h1
    exact List.mem_append_right _ (List.mem_map.2 ⟨i.toNat, List.mem_range.2 (by omega), by rw [Int.toNat_of_nonneg h2]⟩)
  · refine List.mem_append_left _ ?_
    have := key (n := s.regions.length) (k := r.toNat) (by omega) (Nat.le_refl _) h3 h5
    rw [Int.toNat_of_nonneg h1] at this
    rw [szs_len]
    exact this
/-- States of one shape with the same pages are equal. -/
theorem pages_ext {x s : State} (H : Shp s) (h : Sm x s) (hp : ∀ d, There s d → getP x d = getP s d) : x = s := by
  obtain ⟨xr, xt⟩ := x
  obtain ⟨sr, st⟩ := s
  have hr := h.r
  have ht := h.t
  have hc := h.c
  have hz := H.z
  dsimp only at hr ht hc hz
  have e1 : xr = sr := by
    refine List.ext_getElem hr fun k h1 h2 => ?_
    have hk := hc k h2
    have hz := hz k h2
    rw [getElem!_pos xr k h1, getElem!_pos sr k h2] at hk
    rw [getElem!_pos sr k h2] at hz
    refine List.ext_getElem? fun c => ?_
    by_cases hcl : c < sr[k].length
    · have hT : There ⟨sr, st⟩ ⟨k, (c / 8 : Nat)⟩ := .inr ⟨by dsimp only; omega, by dsimp only; omega, by dsimp only; omega, by dsimp only; omega, by
        dsimp only; rw [Int.toNat_natCast, getElem!_pos sr k h2]; omega⟩
      have := congrArg Page.cells (hp _ hT)
      unfold getP at this
      rw [if_neg (by dsimp only; omega), if_neg (by dsimp only; omega)] at this
      dsimp only at this
      rw [Int.toNat_natCast, getElem!_pos xr k h1, getElem!_pos sr k h2] at this
      have := congrArg (·[c % 8]?) this
      rw [prt_get (by omega) (by omega), prt_get (by omega) (by omega), if_pos (by omega), if_pos (by omega), show (8 * ((c / 8 : Nat) : Int)).toNat + c % 8 = c by omega] at this
      exact this
    · rw [List.getElem?_eq_none (by omega), List.getElem?_eq_none (by omega)]
  have e2 : xt = st := by
    refine List.ext_getElem ht fun k h1 h2 => ?_
    have hT : There ⟨sr, st⟩ ⟨-1, k⟩ := .inl ⟨rfl, by dsimp only; omega, by dsimp only; omega⟩
    have := congrArg Page.view (hp _ hT)
    unfold getP at this
    rw [if_pos rfl, if_pos rfl] at this
    rw [Int.toNat_natCast, getElem!_pos xt k h1, getElem!_pos st k h2] at this
    exact this
  rw [e1, e2]
theorem ok_get {s x : State} {d : PageID} (h : There s d) (hx : Sm x s) : okP x (getP s d) := by
  rcases h with ⟨k1, k2, k3⟩ | ⟨k1, k2, k3, k4, k5⟩
  · rw [show getP s d = ⟨d, [], s.threads[d.index.toNat]!⟩ from if_pos k1]
    unfold okP
    rw [if_pos k1]; rfl
  · rw [show getP s d = ⟨d, prt s.regions[d.region.toNat]! d.index, zvw⟩ from if_neg (by omega)]
    unfold okP
    rw [if_neg (by dsimp only; omega)]
    dsimp only
    rw [prt_size k3 k4, prt_size k3 k4, hx.c _ (by omega)]
    exact ⟨rfl, rfl⟩
/-- The pages, one after the other. -/
def bldF : State → List PageID → List Page → Option State
  | s, [], [] => some s
  | s, d :: ds, p :: ps => if p.id = d ∧ (sSet s p).2 = 0 then bldF (sSet s p).1 ds ps else none
  | _, _, _ => none
theorem bldF_get {s : State} (H : Shp s) : ∀ (D : List PageID) (x : State), Sm x s → (∀ d ∈ D, There s d) → (∀ d, There s d → d ∉ D → getP x d = getP s d) → bldF x D (D.map (getP s)) = some s
  | [], x, h, _, hp => by rw [List.map_nil, bldF, pages_ext H h fun d hd => hp d hd (by simp)]
  | d :: D, x, h, hD, hp => by
    have hT : There s d := hD d (by simp)
    have hTx : There x (getP s d).id := by rw [getP_id]; exact h.there hT
    have hok := ok_get hT h
    have hS := sSet_0 (h.shp.trans H.of) hTx hok
    rw [List.map_cons, bldF, hS, if_pos ⟨getP_id s d, rfl⟩]
    have hs := put_sm hTx hok
    refine bldF_get H D _ (hs.trans h) (fun e he => hD e (by simp [he])) fun e he hne => ?_
    by_cases c : e = d
    · subst c
      have := put_eq hTx hok
      rw [getP_id] at this
      exact this
    · rw [put_ne hTx hok (h.there he) (by rw [getP_id]; exact c)]
      exact hp e he (by simp [c, hne])
def zsta (z : List Int) (t : Nat) : State := ⟨z.map fun n => List.replicate n.toNat ⟨0, 0, 0, 0⟩, List.replicate t zvw⟩
def bldR : Option State → State × Int
  | some s => (s, 0)
  | none => (nost, 5)
/-- What Build gives. -/
def sBuild (z : List Int) (l : List Page) : State × Int :=
  if chk z 0 = 0 then (if (idsF z 0).length ≤ l.length ∧ l.length ≤ (idsF z 0).length + 4 then bldR (bldF (zsta z (l.length - (idsF z 0).length)) (idsF z ((l.length - (idsF z 0).length : Nat) : Int)) l) else (nost, 5)) else (nost, chk z 0)
theorem idsF_len (z : List Int) (t : Nat) : (idsF z t).length = (idsF z 0).length + t := by
  unfold idsF
  rw [List.length_append, List.length_append, idsT_len, idsT_len]; simp
theorem zsta_sm (s : State) : Sm (zsta (szs s) s.threads.length) s := by
  refine ⟨by simp [zsta, szs], by simp [zsta], fun k hk => ?_⟩
  simp [zsta, szs, hk]
theorem sBuild_pgs {s : State} (h : shp s = true) : sBuild (szs s) (pgs s) = (s, 0) := by
  have H := shp_to h
  have hc := chk_ok (shp_chk h)
  have hl : (pgs s).length = (idsF (szs s) 0).length + s.threads.length := by unfold pgs; rw [List.length_map]; exact idsF_len _ _
  have h0 : chk (szs s) 0 = 0 := chk_0 (by omega) (by omega) hc.2.2.2
  have ht := H.t
  unfold sBuild
  rw [if_pos h0, if_pos (by omega), show (pgs s).length - (idsF (szs s) 0).length = s.threads.length by omega]
  have := bldF_get H (idsF (szs s) s.threads.length) _ (zsta_sm s) (fun d hd => mem_idsF hd H) (fun d hd hn => absurd (hd.has H) hn)
  rw [pgs, this]; rfl
theorem idsF_nodup {s : State} {i j : Nat} (hi : i < (idsF (szs s) s.threads.length).length) (hj : j < (idsF (szs s) s.threads.length).length) (h : (idsF (szs s) s.threads.length)[i]! = (idsF (szs s) s.threads.length)[j]!) : i = j := by
  have nR : ∀ r c, (idsR r c).Nodup := fun r c => by
    unfold idsR
    refine List.pairwise_map.2 (List.nodup_range.imp fun {a b} hab e => hab ?_)
    injection e with _ e; exact Int.ofNat.inj e
  have nT : ∀ c, (idsT c).Nodup := fun c => by
    unfold idsT
    refine List.pairwise_map.2 (List.nodup_range.imp fun {a b} hab e => hab ?_)
    injection e with _ e; exact Int.ofNat.inj e
  have nL : ∀ r, (idsL (szs s) r).Nodup := fun r => by
    induction r with
    | zero => exact List.nodup_nil
    | succ r ih =>
      rw [idsL]
      refine List.nodup_append.2 ⟨ih, nR _ _, fun a ha b hb e => ?_⟩
      subst e
      have h1 := mem_idsL ha
      obtain ⟨i, _, rfl⟩ := List.mem_map.1 hb
      dsimp only at h1; omega
  have nF : (idsF (szs s) s.threads.length).Nodup := by
    unfold idsF
    refine List.nodup_append.2 ⟨nL _, nT _, fun a ha b hb e => ?_⟩
    subst e
    have h1 := mem_idsL ha
    obtain ⟨i, _, rfl⟩ := List.mem_map.1 hb
    dsimp only at h1; omega
  rw [getElem!_pos _ i hi, getElem!_pos _ j hj] at h
  have nP := List.pairwise_iff_getElem.1 nF
  rcases Nat.lt_trichotomy i j with c | c | c
  · exact absurd h (nP i j hi hj c)
  · exact c
  · exact absurd h.symm (nP j i hj hi c)
end Go.Proofs.Ytcphobeommkgeaa
