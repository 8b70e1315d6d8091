/- U13, U14, U17, in one text. -/
import Derived.Test.YtkfpcgkmemfdaaaGreatU12
import Derived.Test.YtkfpcgkmemfdaaaGreatC5
/- The outside: any call. -/
namespace Go.Proofs.YtkfpcgkmemfdaaaGreat
open Go Go.RowKit Rdn Rdn.Dp
set_option linter.unusedVariables false
set_option linter.unusedSimpArgs false
def oks16 (q : Request) : Prop := bufS q.call = 2 → q.args[2]!.val ≤ 16
instance (q : Request) : Decidable (oks16 q) := by unfold oks16; exact inferInstance
/-- Whether a call is done. -/
noncomputable def okDo (o : Rdn.Outside) (q : Request) : Bool := valO o && asksB q && actB q.call && decide (oks16 q)
noncomputable def sDo (o : Rdn.Outside) (q : Request) : Rdn.Outside × Rdn.Result × Int := if okDo o q = true then ((doS o q).1, (doS o q).2, 0) else (noO, noR, 1)
theorem sDo_T {o : Rdn.Outside} {q : Request} (h : okDo o q = true) : sDo o q = ((doS o q).1, (doS o q).2, 0) := if_pos h
theorem sDo_F {o : Rdn.Outside} {q : Request} (h : okDo o q = false) : sDo o q = (noO, noR, 1) := if_neg (by rw [h]; decide)
theorem okDo_of {o : Rdn.Outside} {q : Request} (h : okDo o q = true) : FitO o ∧ asksB q = true ∧ actB q.call = true ∧ oks16 q := by
  unfold okDo at h
  simp only [Bool.and_eq_true, decide_eq_true_eq] at h
  exact ⟨valO_to h.1.1.1, h.1.1.2, h.1.2, h.2⟩
theorem act_cases {c : Int} (h : actB c = true) : c = 1 ∨ c = 2 ∨ c = 3 ∨ c = 4 ∨ c = 5 ∨ c = 6 ∨ c = 7 ∨ c = 13 ∨ c = 14 := by
  unfold actB at h
  have := of_decide_eq_true h
  omega
theorem noR_V : resV noR = .agg [canonV ⟨0, 0, 0, 0⟩, .sl false 4 [], .int .i64 0, .bool false] := rfl
theorem sub_noO : SubV (.agg [.nilS, .nilS, .nilS, .agg [.nilS, .nilS], .nilS]) (.agg [.sl false 1 [], .sl false 1 [], .sl false 1 [], .agg [.sl false 1 [], .sl false 3 []], .sl false 3 []]) := SubV.agg ⟨SubV.nil _ _, SubV.nil _ _, SubV.nil _ _, SubV.agg ⟨SubV.nil _ _, SubV.nil _ _, trivial⟩, SubV.nil _ _, trivial⟩
attribute [local irreducible] valO valQ asksB actB fitsL kl tagsQ
set_option maxHeartbeats 16000000 in
theorem wdo_fn (o : Rdn.Outside) (q : Request) (ha : q.args.length ≤ 1000) : Fnc Tryz.prog 14 [outsV o, reqV q] (fun x obs => x = .tup [outsV (sDo o q).1, resV (sDo o q).2.1, .int .i64 (sDo o q).2.2] ∧ obs = []) := by
  cases hk : okDo o q with
  | true =>
    rw [sDo_T hk]
    obtain ⟨F, A, C, H⟩ := okDo_of hk
    rcases act_cases C with c | c | c | c | c | c | c | c | c
    · exact wdo1_fn o q F A c
    · exact wdo2_fn o q F A c (H (by rw [c]; rfl))
    · exact wdo3_fn o q F A c
    · exact wdo4_fn o q F A c
    · exact wdo5_fn o q F A c
    · exact wdo6_fn o q F A c
    · exact wdo7_fn o q F A c
    · exact wdo13_fn o q F A c
    · exact wdo14_fn o q F A c (H (by rw [c]; rfl))
  | false =>
    rw [sDo_F hk, noO_V, noR_V]
    refine Fnc.low ?_
    have fv := woval_fn o
    cases e1 : valO o with
    | false =>
      rw [e1] at fv
      refine zgo m_wdo_ok fun W S => ?_
      refine zcd (fv) ?_
      refine ev_obSub 2 _ rfl sub_noO rfl ?_
      refine ev_obSub 3 (.agg [_, .sl false 4 [], _, _]) rfl (SubV.agg ⟨SubV.refl _, SubV.nil _ _, SubV.refl _, SubV.refl _, trivial⟩) rfl ?_
      exact zrt m_wdo_ok
    | true =>
      rw [e1] at fv
      have fa := wasks_fn q ha
      cases e2 : asksB q with
      | false =>
        rw [e2] at fa
        refine zgo m_wdo_ok fun W S => ?_
        refine zcd (fv) ?_
        refine zcd (fa) ?_
        refine ev_obSub 2 _ rfl sub_noO rfl ?_
        refine ev_obSub 3 (.agg [_, .sl false 4 [], _, _]) rfl (SubV.agg ⟨SubV.refl _, SubV.nil _ _, SubV.refl _, SubV.refl _, trivial⟩) rfl ?_
        exact zrt m_wdo_ok
      | true =>
        rw [e2] at fa
        have fx := wact_fn q.call
        cases e3 : actB q.call with
        | false =>
          rw [e3] at fx
          refine zgo m_wdo_ok fun W S => ?_
          refine zcd (fv) ?_
          refine zcd (fa) ?_
          refine zcd (fx) ?_
          refine ev_obSub 2 _ rfl sub_noO rfl ?_
          refine ev_obSub 3 (.agg [_, .sl false 4 [], _, _]) rfl (SubV.agg ⟨SubV.refl _, SubV.nil _ _, SubV.refl _, SubV.refl _, trivial⟩) rfl ?_
          exact zrt m_wdo_ok
        | true =>
          rw [e3] at fx
          have hn : ¬ oks16 q := fun h => by unfold okDo at hk; rw [e1, e2, e3, decT h] at hk; cases hk
          have hb : bufS q.call = 2 := Classical.byContradiction fun h => hn fun h2 => absurd h2 h
          have hv : ¬ q.args[2]!.val ≤ 16 := fun h => hn fun _ => h
          obtain ⟨FQ, hst⟩ := asks_fit e2
          have hl := asks_len e2
          have h3 : (kl q.call).length = 3 := by
            rcases act_cases e3 with c | c | c | c | c | c | c | c | c <;> rw [c] at hb ⊢ <;> first | (unfold kl; rfl) | (exact absurd hb (by decide))
          rw [h3] at hl
          have fb := wbuf_fn q.call FQ.call.1 FQ.call.2
          rw [hb] at fb
          refine zgo m_wdo_ok fun W S => ?_
          refine zcd (fv) ?_
          refine zcd (fa) ?_
          refine zcd (fx) ?_
          refine zcd (fb) ?_
          refine ev_obSub 2 _ rfl sub_noO rfl ?_
          refine ev_obSub 3 (.agg [_, .sl false 4 [], _, _]) rfl (SubV.agg ⟨SubV.refl _, SubV.nil _ _, SubV.refl _, SubV.refl _, trivial⟩) rfl ?_
          exact zrt m_wdo_ok
set_option maxHeartbeats 16000000 in
theorem rdo_fn (o : Rdn.Outside) (q : Request) (ha : q.args.length ≤ 1000) : Fnc Tryz.prog 15 [outsV o, reqV q] (fun x obs => x = .tup [outsV (sDo o q).1, resV (sDo o q).2.1, .int .i64 (sDo o q).2.2] ∧ obs = []) := by
  cases hk : okDo o q with
  | true =>
    rw [sDo_T hk]
    obtain ⟨F, A, C, H⟩ := okDo_of hk
    rcases act_cases C with c | c | c | c | c | c | c | c | c
    · exact rdo1_fn o q F A c
    · exact rdo2_fn o q F A c (H (by rw [c]; rfl))
    · exact rdo3_fn o q F A c
    · exact rdo4_fn o q F A c
    · exact rdo5_fn o q F A c
    · exact rdo6_fn o q F A c
    · exact rdo7_fn o q F A c
    · exact rdo13_fn o q F A c
    · exact rdo14_fn o q F A c (H (by rw [c]; rfl))
  | false =>
    rw [sDo_F hk, noO_V, noR_V]
    refine Fnc.low ?_
    have fv := roval_fn o
    have fa := rrval_fn q
    have fx := ract_fn q.call
    have fk := rkinds_fn q ha
    cases e1 : valO o with
    | false =>
      rw [e1] at fv
      refine zgo m_rdo_ok fun W S => ?_
      refine zcd (fv) ?_
      refine ev_obSub 2 _ rfl sub_noO rfl ?_
      refine ev_obSub 3 (.agg [_, .sl false 4 [], _, _]) rfl (SubV.agg ⟨SubV.refl _, SubV.nil _ _, SubV.refl _, SubV.refl _, trivial⟩) rfl ?_
      exact zrt m_rdo_ok
    | true =>
      rw [e1] at fv
      cases eq : valQ q with
      | false =>
        rw [eq] at fa
        refine zgo m_rdo_ok fun W S => ?_
        refine zcd (fv) ?_
        refine zcd (fa) ?_
        refine ev_obSub 2 _ rfl sub_noO rfl ?_
        refine ev_obSub 3 (.agg [_, .sl false 4 [], _, _]) rfl (SubV.agg ⟨SubV.refl _, SubV.nil _ _, SubV.refl _, SubV.refl _, trivial⟩) rfl ?_
        exact zrt m_rdo_ok
      | true =>
        rw [eq] at fa
        by_cases st : q.stop = 1
        rotate_left
        · skip
          refine zgo m_rdo_ok fun W S => ?_
          refine zcd (fv) ?_
          refine zcd (fa) ?_
          refine ev_obSub 2 _ rfl sub_noO rfl ?_
          refine ev_obSub 3 (.agg [_, .sl false 4 [], _, _]) rfl (SubV.agg ⟨SubV.refl _, SubV.nil _ _, SubV.refl _, SubV.refl _, trivial⟩) rfl ?_
          exact zrt m_rdo_ok
        cases e3 : actB q.call with
        | false =>
          rw [e3] at fx
          refine zgo m_rdo_ok fun W S => ?_
          refine zcd (fv) ?_
          refine zcd (fa) ?_
          refine zcd (fx) ?_
          refine ev_obSub 2 _ rfl sub_noO rfl ?_
          refine ev_obSub 3 (.agg [_, .sl false 4 [], _, _]) rfl (SubV.agg ⟨SubV.refl _, SubV.nil _ _, SubV.refl _, SubV.refl _, trivial⟩) rfl ?_
          exact zrt m_rdo_ok
        | true =>
          rw [e3] at fx
          cases e4 : fitsL (kl q.call) (tagsQ q) with
          | false =>
            rw [e4] at fk
            refine zgo m_rdo_ok fun W S => ?_
            refine zcd (fv) ?_
            refine zcd (fa) ?_
            refine zcd (fx) ?_
            refine zcd (fk) ?_
            refine ev_obSub 2 _ rfl sub_noO rfl ?_
            refine ev_obSub 3 (.agg [_, .sl false 4 [], _, _]) rfl (SubV.agg ⟨SubV.refl _, SubV.nil _ _, SubV.refl _, SubV.refl _, trivial⟩) rfl ?_
            exact zrt m_rdo_ok
          | true =>
            rw [e4] at fk
            have e2 : asksB q = true := by unfold asksB; rw [eq, e4, decT st]; rfl
            have hn : ¬ oks16 q := fun h => by unfold okDo at hk; rw [e1, e2, e3, decT h] at hk; cases hk
            have hb : bufS q.call = 2 := Classical.byContradiction fun h => hn fun h2 => absurd h2 h
            have hv : ¬ q.args[2]!.val ≤ 16 := fun h => hn fun _ => h
            have FQ := valQ_to eq
            have hl := asks_len e2
            have h3 : (kl q.call).length = 3 := by
              rcases act_cases e3 with c | c | c | c | c | c | c | c | c <;> rw [c] at hb ⊢ <;> first | (unfold kl; rfl) | (exact absurd hb (by decide))
            rw [h3] at hl
            have fb := rbuf_fn q.call FQ.call.1 FQ.call.2
            rw [hb] at fb
            refine zgo m_rdo_ok fun W S => ?_
            refine zcd (fv) ?_
            refine zcd (fa) ?_
            refine zcd (fx) ?_
            refine zcd (fk) ?_
            refine zcd (fb) ?_
            refine ev_obSub 2 _ rfl sub_noO rfl ?_
            refine ev_obSub 3 (.agg [_, .sl false 4 [], _, _]) rfl (SubV.agg ⟨SubV.refl _, SubV.nil _ _, SubV.refl _, SubV.refl _, trivial⟩) rfl ?_
            exact zrt m_rdo_ok
end Go.Proofs.YtkfpcgkmemfdaaaGreat
/- The outside stays valid. -/
namespace Go.Proofs.YtkfpcgkmemfdaaaGreat
open Go Go.RowKit Rdn Rdn.Dp
set_option linter.unusedVariables false
set_option linter.unusedSimpArgs false
theorem FitO.setF {o : Rdn.Outside} (F : FitO o) {f : Files} (h : FitF f) : FitO (setF o f) := ⟨F.c, F.r, F.i, F.w, h, F.n, F.od, F.d⟩
theorem sFirst_len (l : List Int) : (sFirst l).1.length ≤ l.length := by
  unfold sFirst
  split
  · exact Nat.le_refl _
  · rw [List.length_drop]; omega
theorem sRecv_len (l : List (List Int)) (s n : Int) : (sRecv l s n).1.length = l.length := by
  unfold sRecv
  split
  · rfl
  · rw [List.length_set]
theorem sRecv_w {l : List (List Int)} {s n : Int} (h : ∀ x ∈ l, x.length ≤ 64) : ∀ x ∈ (sRecv l s n).1, x.length ≤ 64 := by
  unfold sRecv
  split
  · exact h
  · rename_i c
    intro x hx
    rcases List.mem_or_eq_of_mem_set hx with hx | rfl
    · exact h x hx
    · have := h _ (mem_at (l := l) (k := s.toNat) (by omega))
      rw [List.length_drop]; omega
theorem sSend_fit {l : List Output} {s : Int} {d : List Canon} (hn : l.length ≤ 200) (ho : ordered l) (hd : ∀ x ∈ l, cellsB x.data 16 = true) (hc : cellsB d 16 = true) : (sSend l s d).1.length ≤ 200 ∧ ordered (sSend l s d).1 ∧ ∀ x ∈ (sSend l s d).1, cellsB x.data 16 = true := by
  unfold sSend
  split
  · exact ⟨hn, ho, hd⟩
  · rename_i c
    refine ⟨by rw [List.length_append]; simp; omega, fun j hj => ?_, fun x hx => ?_⟩
    · rw [List.length_append] at hj
      simp only [List.length_cons, List.length_nil] at hj
      by_cases e : j < l.length
      · have := ho j e
        rwa [show (l ++ [(⟨l.length, s, d⟩ : Output)])[j]! = l[j]! by rw [getElem!_pos _ j (by rw [List.length_append]; omega), getElem!_pos _ j e, List.getElem_append_left e]]
      · obtain rfl : j = l.length := by omega
        rw [show (l ++ [(⟨l.length, s, d⟩ : Output)])[l.length]! = ⟨l.length, s, d⟩ by rw [getElem!_pos _ _ (by simp), List.getElem_append_right (Nat.le_refl _)]; simp]
        exact ⟨rfl, by dsimp only; omega, by dsimp only; omega, by show d.length ≤ 16; omega⟩
    · rcases List.mem_append.1 hx with hx | hx
      · exact hd x hx
      · obtain rfl := List.mem_singleton.1 hx
        exact hc
theorem doS_fit {o : Rdn.Outside} {q : Request} (F : FitO o) (A : asksB q = true) : FitO (doS o q).1 := by
  have hc := (asks_fit A).1.data
  unfold doS
  split
  · exact F.setF (F.f.write _ _)
  split
  · exact F.setF (F.f.read _ _)
  split
  · exact F.setF (F.f.open _ _)
  split
  · exact F.setF (F.f.close _)
  split
  · exact F.setF (F.f.seek _ _)
  split
  · exact ⟨Nat.le_trans (sFirst_len _) F.c, F.r, F.i, F.w, F.f, F.n, F.od, F.d⟩
  split
  · exact ⟨F.c, Nat.le_trans (sFirst_len _) F.r, F.i, F.w, F.f, F.n, F.od, F.d⟩
  split
  · have h := sSend_fit (s := q.args[0]!.val) F.n F.od F.d hc
    exact ⟨F.c, F.r, F.i, F.w, F.f, h.1, h.2.1, h.2.2⟩
  split
  · exact ⟨F.c, F.r, by show (sRecv _ _ _).1.length ≤ 2; rw [sRecv_len]; exact F.i, sRecv_w F.w, F.f, F.n, F.od, F.d⟩
  · exact F
theorem sDo_fit {o : Rdn.Outside} {q : Request} (h : (sDo o q).2.2 = 0) : FitO (sDo o q).1 ∧ okDo o q = true := by
  cases e : okDo o q with
  | true =>
    rw [sDo_T e]
    obtain ⟨F, A, _, _⟩ := okDo_of e
    exact ⟨doS_fit F A, rfl⟩
  | false => rw [sDo_F e] at h; cases h
end Go.Proofs.YtkfpcgkmemfdaaaGreat
/- What a call on the outside leaves as it was. -/
namespace Go.Proofs.YtkfpcgkmemfdaaaGreat
open Go Go.RowKit Rdn Rdn.Dp
set_option linter.unusedVariables false
set_option linter.unusedSimpArgs false
theorem cell_num (v : Int) : cellB (⟨0, v, 0, 0⟩ : Canon) = true := decide_eq_true (.inl ⟨.inl rfl, rfl, rfl⟩)
theorem cell_hdl (v : Int) : cellB (⟨2, v, 0, 0⟩ : Canon) = true := decide_eq_true (.inl ⟨.inr rfl, rfl, rfl⟩)
structure FitR (r : Rdn.Result) : Prop where
  v : cellB r.value = true
  d : cellsB r.data 16 = true
  s : r.spawn = -1
  w : r.wait = false
theorem cellsB_nil : cellsB [] 16 = true := rfl
theorem cellsB_mk {l : List Canon} {n : Int} (h : l.all cellB = true) (h2 : (l.length : Int) ≤ n) : cellsB l n = true := by unfold cellsB; rw [h, decT h2]; rfl
theorem resB_fit {c : Canon} {d : List Canon} (ok : Bool) (h : ok = true → cellB c = true) (h2 : ok = true → cellsB d 16 = true) : FitR (resB c d ok) := by
  cases ok with
  | true => exact ⟨h rfl, h2 rfl, rfl, rfl⟩
  | false => exact ⟨cell_num _, cellsB_nil, rfl, rfl⟩
theorem resB_len {c : Canon} {d : List Canon} {ok : Bool} (h : d = []) : (resB c d ok).data.length = 0 := by
  subst h
  cases ok <;> rfl
theorem numR_small {v : Int} (h0 : 0 ≤ v) (h1 : v ≤ 1000) : numR v ≠ ⟨0, 65535, 0, 0⟩ := by
  unfold numR
  rw [show IntKind.u16.wrap v = v from wrapU16 h0 (by omega)]
  intro h
  have := congrArg Canon.val h
  dsimp only at this
  omega
theorem resB_val {c : Canon} {d : List Canon} {ok : Bool} (h : ok = true → c ≠ ⟨0, 65535, 0, 0⟩) (e : (resB c d ok).value = ⟨0, 65535, 0, 0⟩) : ok = false := by
  cases ok with
  | true => exact absurd e (h rfl)
  | false => rfl
theorem sWrite_same {f : Files} {h : Int} {c : List Canon} (e : (sWrite f h c).2.2 = false) : (sWrite f h c).1 = f := by
  unfold sWrite at e ⊢
  split at e
  · cases e
  · rename_i n; rw [if_neg n]
theorem sRead_same {f : Files} {h n : Int} (e : (sRead f h n).2.2 = false) : (sRead f h n).1 = f := by
  unfold sRead at e ⊢
  split at e
  · cases e
  · rename_i n; rw [if_neg n]
theorem sClose_same {f : Files} {h : Int} (e : (sClose f h).2 = false) : (sClose f h).1 = f := by
  unfold sClose at e ⊢
  split at e
  · cases e
  · rename_i n; rw [if_neg n]
theorem sSeek_same {f : Files} {h x : Int} (e : (sSeek f h x).2 = false) : (sSeek f h x).1 = f := by
  unfold sSeek at e ⊢
  split at e
  · cases e
  · rename_i n; rw [if_neg n]
theorem sOpen_same {f : Files} {k m : Int} (e : ¬ 0 ≤ (sOpen f k m).2) : (sOpen f k m).1 = f := by
  unfold sOpen at e ⊢
  split
  · rfl
  · rename_i n
    rw [if_neg n] at e
    split at e
    · exact absurd (Int.natCast_nonneg _) e
    · split at e <;> exact absurd (Int.natCast_nonneg _) e
theorem sSend_same {l : List Output} {s : Int} {d : List Canon} (e : (sSend l s d).2.2 = false) : (sSend l s d).1 = l := by
  unfold sSend at e ⊢
  split at e
  · rename_i n; rw [if_pos n]
  · cases e
theorem sRecv_same {l : List (List Int)} {s n : Int} (e : (sRecv l s n).2.2 = false) : (sRecv l s n).1 = l := by
  unfold sRecv at e ⊢
  split at e
  · rename_i n; rw [if_pos n]
  · cases e
theorem sWrite_n {f : Files} (F : FitF f) {h : Int} {c : List Canon} (hc : c.length ≤ 16) : 0 ≤ (sWrite f h c).2.1 ∧ (sWrite f h c).2.1 ≤ 16 := by
  unfold sWrite
  split
  · rename_i n
    obtain ⟨a1, a2, a3, a4, a5⟩ := F.at n.1
    unfold wrn
    dsimp only
    omega
  · exact ⟨Int.le_refl _, by dsimp only; omega⟩
theorem all_mem {l : List Canon} {P : Canon → Bool} (h : l.all P = true) {m : List Canon} (hm : ∀ x ∈ m, x ∈ l) : m.all P = true := List.all_eq_true.2 fun x hx => List.all_eq_true.1 h x (hm x hx)
theorem sRead_d {f : Files} (F : FitF f) {h n : Int} (hn : n ≤ 16) : cellsB (sRead f h n).2.1 16 = true := by
  unfold sRead
  split
  · rename_i c
    obtain ⟨a1, a2, a3, a4, a5⟩ := F.at c.1
    have hm : (dat f h) ∈ f.data := by
      unfold dat
      exact mem_at (by omega)
    refine cellsB_mk (all_mem (F.cell _ hm) fun x hx => List.mem_of_mem_drop (List.mem_of_mem_take hx)) ?_
    have : rdn f h n ≤ n := by unfold rdn; omega
    rw [List.length_take]
    omega
  · exact cellsB_nil
theorem numC_all (l : List Int) : (numC l).all cellB = true := by
  refine List.all_eq_true.2 fun x hx => ?_
  unfold numC at hx
  obtain ⟨v, -, rfl⟩ := List.mem_map.1 hx
  exact cell_num v
theorem sRecv_d {l : List (List Int)} {s n : Int} (hn : n ≤ 16) : cellsB (sRecv l s n).2.1 16 = true := by
  unfold sRecv
  split
  · exact cellsB_nil
  · refine cellsB_mk (numC_all _) ?_
    rw [numC_len, List.length_take]
    omega
theorem cells_len {l : List Canon} (h : cellsB l 16 = true) : l.length ≤ 16 := by
  unfold cellsB at h
  simp only [Bool.and_eq_true, decide_eq_true_eq] at h
  omega
theorem sSend_n {l : List Output} {s : Int} {d : List Canon} : 0 ≤ (sSend l s d).2.1 ∧ (sSend l s d).2.1 ≤ 16 := by
  unfold sSend
  split
  · exact ⟨Int.le_refl _, by dsimp only; omega⟩
  · dsimp only; omega
theorem sSend_pre {l : List Output} {s : Int} {d : List Canon} : l.length ≤ (sSend l s d).1.length ∧ ∀ j, j < l.length → (sSend l s d).1[j]! = l[j]! := by
  unfold sSend
  split
  · exact ⟨Nat.le_refl _, fun _ _ => rfl⟩
  · refine ⟨by rw [List.length_append]; omega, fun j hj => ?_⟩
    rw [getElem!_pos _ j (by rw [List.length_append]; omega), getElem!_pos _ j hj, List.getElem_append_left hj]
theorem sFirst_cell {l : List Int} (h : (sFirst l).2.2 = true) : cellB (sFirst l).2.1 = true := by
  unfold sFirst at h ⊢
  split at h
  · cases h
  · rename_i n
    rw [if_neg n]; exact cell_num _
structure Keeps (o : Rdn.Outside) (q : Request) : Prop where
  r : FitR (doS o q).2
  n : o.outputs.length ≤ (doS o q).1.outputs.length
  c : (doS o q).1.clock.length ≤ o.clock.length
  d : (doS o q).1.random.length ≤ o.random.length
  p : ∀ j, j < o.outputs.length → (doS o q).1.outputs[j]! = o.outputs[j]!
  f : (doS o q).2.value = ⟨0, 65535, 0, 0⟩ → q.call ≠ 6 → q.call ≠ 7 → (doS o q).1 = o
  b : 0 < (doS o q).2.data.length → bufS q.call = 2
theorem setF_self (o : Rdn.Outside) : setF o o.files = o := rfl
theorem doS_keeps {o : Rdn.Outside} {q : Request} (F : FitO o) (A : asksB q = true) (C : actB q.call = true) (H : oks16 q) : Keeps o q := by
  have hd := (asks_fit A).1.data
  have hl := cells_len hd
  rcases act_cases C with c | c | c | c | c | c | c | c | c
  · have e := doS_1 (o := o) c
    have n := sWrite_n F.f (h := q.args[0]!.val) hl
    refine ⟨by rw [e]; exact resB_fit _ (fun _ => cell_num _) (fun _ => cellsB_nil), by rw [e]; exact Nat.le_refl _, by rw [e]; exact Nat.le_refl _, by rw [e]; exact Nat.le_refl _, by rw [e]; exact fun _ _ => rfl, fun h _ _ => ?_, fun h => ?_⟩
    · rw [e] at h ⊢
      have := resB_val (fun _ => numR_small n.1 (by omega)) h
      dsimp only
      rw [sWrite_same this]; rfl
    · rw [e] at h
      have : 0 < 0 := by have h' := resB_len (c := numR (sWrite o.files q.args[0]!.val q.data).2.1) (ok := (sWrite o.files q.args[0]!.val q.data).2.2) (rfl : ([] : List Canon) = []); dsimp only at h; omega
      omega
  · have e := doS_2 (o := o) c
    have H2 := H (by rw [c]; rfl)
    have d := sRead_d F.f (h := q.args[0]!.val) H2
    have n := cells_len d
    refine ⟨by rw [e]; exact resB_fit _ (fun _ => cell_num _) (fun _ => d), by rw [e]; exact Nat.le_refl _, by rw [e]; exact Nat.le_refl _, by rw [e]; exact Nat.le_refl _, by rw [e]; exact fun _ _ => rfl, fun h _ _ => ?_, fun h => by rw [c]; rfl⟩
    rw [e] at h ⊢
    have := resB_val (fun _ => numR_small (by omega) (by omega)) h
    dsimp only
    rw [sRead_same this]; rfl
  · have e := doS_3 (o := o) c
    refine ⟨by rw [e]; exact resB_fit _ (fun _ => cell_hdl _) (fun _ => cellsB_nil), by rw [e]; exact Nat.le_refl _, by rw [e]; exact Nat.le_refl _, by rw [e]; exact Nat.le_refl _, by rw [e]; exact fun _ _ => rfl, fun h _ _ => ?_, fun h => ?_⟩
    · rw [e] at h ⊢
      have := resB_val (fun _ h => absurd (show (2 : Int) = 0 from congrArg Canon.tag h) (by decide)) h
      dsimp only
      rw [sOpen_same (of_decide_eq_false this)]; rfl
    · rw [e] at h
      exact absurd h (by rw [resB_len rfl]; omega)
  · have e := doS_4 (o := o) c
    refine ⟨by rw [e]; exact resB_fit _ (fun _ => cell_num _) (fun _ => cellsB_nil), by rw [e]; exact Nat.le_refl _, by rw [e]; exact Nat.le_refl _, by rw [e]; exact Nat.le_refl _, by rw [e]; exact fun _ _ => rfl, fun h _ _ => ?_, fun h => ?_⟩
    · rw [e] at h ⊢
      have := resB_val (fun _ h => absurd (show (0 : Int) = 65535 from congrArg Canon.val h) (by decide)) h
      dsimp only
      rw [sClose_same this]; rfl
    · rw [e] at h
      exact absurd h (by rw [resB_len rfl]; omega)
  · have e := doS_5 (o := o) c
    refine ⟨by rw [e]; exact resB_fit _ (fun _ => cell_num _) (fun _ => cellsB_nil), by rw [e]; exact Nat.le_refl _, by rw [e]; exact Nat.le_refl _, by rw [e]; exact Nat.le_refl _, by rw [e]; exact fun _ _ => rfl, fun h _ _ => ?_, fun h => ?_⟩
    · rw [e] at h ⊢
      have := resB_val (fun _ h => absurd (show (0 : Int) = 65535 from congrArg Canon.val h) (by decide)) h
      dsimp only
      rw [sSeek_same this]; rfl
    · rw [e] at h
      exact absurd h (by rw [resB_len rfl]; omega)
  · have e := doS_6 (o := o) c
    refine ⟨by rw [e]; exact resB_fit _ sFirst_cell (fun _ => cellsB_nil), by rw [e]; exact Nat.le_refl _, by rw [e]; exact sFirst_len _, by rw [e]; exact Nat.le_refl _, by rw [e]; exact fun _ _ => rfl, fun _ h => absurd c h, fun h => ?_⟩
    · rw [e] at h
      exact absurd h (by rw [resB_len rfl]; omega)
  · have e := doS_7 (o := o) c
    refine ⟨by rw [e]; exact resB_fit _ sFirst_cell (fun _ => cellsB_nil), by rw [e]; exact Nat.le_refl _, by rw [e]; exact Nat.le_refl _, by rw [e]; exact sFirst_len _, by rw [e]; exact fun _ _ => rfl, fun _ _ h => absurd c h, fun h => ?_⟩
    · rw [e] at h
      exact absurd h (by rw [resB_len rfl]; omega)
  · have e := doS_13 (o := o) c
    have n := sSend_n (l := o.outputs) (s := q.args[0]!.val) (d := q.data)
    refine ⟨by rw [e]; exact resB_fit _ (fun _ => cell_num _) (fun _ => cellsB_nil), by rw [e]; exact sSend_pre.1, by rw [e]; exact Nat.le_refl _, by rw [e]; exact Nat.le_refl _, by rw [e]; exact sSend_pre.2, fun h _ _ => ?_, fun h => ?_⟩
    · rw [e] at h ⊢
      have := resB_val (fun _ => numR_small n.1 (by omega)) h
      dsimp only
      rw [sSend_same this]
    · rw [e] at h
      exact absurd h (by rw [resB_len rfl]; omega)
  · have e := doS_14 (o := o) c
    have H2 := H (by rw [c]; rfl)
    have d := sRecv_d (l := o.inputs) (s := q.args[0]!.val) H2
    have n := cells_len d
    refine ⟨by rw [e]; exact resB_fit _ (fun _ => cell_num _) (fun _ => d), by rw [e]; exact Nat.le_refl _, by rw [e]; exact Nat.le_refl _, by rw [e]; exact Nat.le_refl _, by rw [e]; exact fun _ _ => rfl, fun h _ _ => ?_, fun h => by rw [c]; rfl⟩
    rw [e] at h ⊢
    have := resB_val (fun _ => numR_small (by omega) (by omega)) h
    dsimp only
    rw [sRecv_same this]
end Go.Proofs.YtkfpcgkmemfdaaaGreat
