/- Maps of methods that are bound to one receiver: a literal, its look-ups, its methods called. Over any program. -/
import Derived.Test.YtdpfglkjhdnbbaaGreatPt
import Derived.MapKept
namespace Rdn.Dp
open Go Go.RowKit Rdn
set_option linter.unusedVariables false
set_option linter.unusedSimpArgs false
section
variable {P : Program} {cx : Cx} {E E' : Env} {σ : AS} {a : Act} {w w' : World} {N : Nat} {Q : Exit → Act → World → Prop} {k : List It} {l : List RO}
def lkp : List (Int × FuncId) → Int → Option FuncId
  | [], _ => none
  | (k, f) :: l, n => if k = n then some f else lkp l n
def lkV (u : V) : Option FuncId → V
  | some f => .tup [.clo (.bm f) [u], .bool true]
  | none => .tup [.junk, .bool false]
theorem findNow_lkp {vs : List Value} {n : Int} : ∀ {ents : List (Int × FuncId)} {es : List MapEntry} (i : Nat), es.map (·.key) = ents.map (fun x => .int .i64 x.1) → es.map (·.val) = ents.map (fun x => .func (.func x.2) vs.toArray #[]) →
    ∃ j, Instr.findNow (.int .i64) (.int .i64 n) es i = some ((lkp ents n).map fun f => (j, .func (.func f) vs.toArray #[]))
  | [], es, i, h1, h2 => by
    have : es = [] := by simpa using h1
    subst this
    exact ⟨0, rfl⟩
  | (k, f) :: ents, [], i, h1, h2 => by simp at h1
  | (k, f) :: ents, e :: es, i, h1, h2 => by
    simp only [List.map_cons, List.cons.injEq] at h1 h2
    by_cases c : k = n
    · subst c
      refine ⟨i, ?_⟩
      simp [Instr.findNow, Instr.sameNow, h1.1, h2.1, lkp]
    · obtain ⟨j, hj⟩ := findNow_lkp (n := n) (i + 1) h1.2 h2.2
      refine ⟨j, ?_⟩
      have hne : (n == k) = false := by simp; exact fun h => c h.symm
      simp [Instr.findNow, Instr.sameNow, h1.1, hne, hj, lkp, c]
theorem compM_lk {op : Op} {t : Nat} {x y : X} (hc : compM P op = some (.lk t x y)) : ∃ x0 y0 kt e i z, op = .lookup t x0 y0 true ∧ P.underlying t = some (.map kt e) ∧ P.underlying kt = some (.int .i64) ∧ P.info? e = some i ∧ i.zero = some z ∧ compX x0 = some x ∧ compX y0 = some y := by
  unfold compM at hc
  split at hc
  case h_12 T x0 y0 =>
    split at hc
    · rename_i h1
      split at hc
      · rename_i h2 h3
        split at hc
        · rename_i h4
          simp only [Option.map_eq_some_iff, Option.bind_eq_some_iff] at hc
          obtain ⟨x', hx, y', hy, e⟩ := hc
          injection e with e1 e2 e3
          subst e1 e2 e3
          obtain ⟨z, hz⟩ := Option.isSome_iff_exists.1 h4
          exact ⟨_, _, _, _, _, z, rfl, h1, h2, h3, hz, hx, hy⟩
        · cases hc
      · cases hc
    · cases hc
  all_goals (repeat' split at hc) <;> first | (cases hc; done) | (simp [Option.bind_eq_some_iff] at hc; done)
theorem gen_lk {t : Nat} {ents : List (Int × FuncId)} {u : V} {x y : X} {n : Int} (hx : x.ev σ = .clo (.mp ents) [u]) (hy : y.ev σ = .int .i64 n) : Gen P σ (.m (.lk t x y)) (lkV u (lkp ents n)) [] none := by
  refine ⟨fun _ _ h => (by cases h), ?_⟩
  intro σ' hev hob _ cx E a w o R hc S hS
  obtain ⟨x0, y0, kt, e, i, z, e1, e2, e3, e4, e5, e6, e7⟩ := compM_lk (compK_m hc)
  have hX := compX_rd R e6
  have hY := compX_rd R e7
  rw [hev x (by simp [xsK, xsM]), hx] at hX
  rw [hev y (by simp [xsK, xsM]), hy] at hY
  simp only [RdT, RdTs, CK.ok] at hX
  obtain ⟨vs, ⟨b, es, ck, h1, h2, h3, h4, h5⟩, v, ys, rfl, hu, rfl⟩ := hX
  have hyv : a.eval y0 = .int .i64 n := (rd_int hY).1
  obtain ⟨j, hj⟩ := findNow_lkp (n := n) 0 h4 h5
  have hK : Go.MapKept.IsKey (.int .i64) (.int .i64 n) := by simp [Go.MapKept.IsKey]
  have hrun : ∃ r, (execOp a.eval o).run P w = .ok (.value r) w ∧ RdT E w (lkV u (lkp ents n)) r := by
    cases hl : lkp ents n with
    | none =>
      rw [hl] at hj
      refine ⟨.tuple #[z, .bool false], ?_, ?_⟩
      · simp only [execOp, e1, h1, hyv, Instr.lookup, Sem.run_bind, run_underlying e2, Result.andThen_ok, Go.MapKept.run_getObj_map h3, Sem.run_pure, Go.MapKept.run_checkKey e3 hK, Go.MapKept.run_findKey e3 hj, Option.map_none, zeroValue, typeInfo, run_program, e4, e5, if_true]
      · simp only [lkV, RdT, RdTs, RdV]
        exact ⟨[z, .bool false], rfl, z, [.bool false], rfl, trivial, .bool false, [], rfl, rfl, rfl⟩
    | some f =>
      rw [hl] at hj
      refine ⟨.tuple #[.func (.func f) [v].toArray #[], .bool true], ?_, ?_⟩
      · simp only [execOp, e1, h1, hyv, Instr.lookup, Sem.run_bind, run_underlying e2, Result.andThen_ok, Go.MapKept.run_getObj_map h3, Sem.run_pure, Go.MapKept.run_checkKey e3 hK, Go.MapKept.run_findKey e3 hj, Option.map_some, if_true]
      · simp only [lkV, RdT, RdTs, RdV]
        exact ⟨[_, .bool true], rfl, _, [.bool true], rfl, ⟨[v], rfl, v, [], rfl, hu, rfl⟩, .bool true, [], rfl, rfl, rfl⟩
  obtain ⟨r, hr, hv⟩ := hrun
  unfold relAt relUpon
  rw [hr]
  exact hS r w E (Leads.refl _ _) hv R
theorem evr_callB {n : Nat} {t : List (Nat × V)} {ob : List Ob} {gd : Option (Nat × Bool)} {i : Nat} {f : FuncId} {x0 : X} {xs : List X} {r g : Nat} {ws ys : List V} {q : Bool} {T : TypeId} {dc d d' x : V} (hF : FncM P f T d ys fun y obs c => y = x ∧ obs = [] ∧ c = d') (hf : okF P f = true) (hw : wants ⟨n, t, ob⟩ gd = some true)
    (hv : x0.ev ⟨n, t, ob⟩ = .clo (.bm f) [.ptr r g [] 0]) (hx : xs.map (X.ev ⟨n, t, ob⟩) = ws) (hob : ob[r]? = some ⟨.box q T, true, g, dc⟩) (hdp : dc.pure = true) (hd : dc.low = d) (hwp : V.pures ws = true) (hys : V.lows ws = ys)
    (h : EvR P cx N Q k l ⟨n, (i, x.shift ob.length) :: t, ob.set r ⟨.box q T, true, g, d'⟩⟩) : EvR P cx N Q k (⟨some i, gd, .callv x0 xs⟩ :: l) ⟨n, t, ob⟩ := by
  refine ⟨fun hn E a w R ops os hcc => ?_⟩
  obtain ⟨o, os', rfl, h1, h2⟩ := compL_cons hcc
  obtain ⟨k1, k2, k3, k4⟩ := compR_some h1
  unfold wpList
  rw [if_pos (wants_ok R k2 hw)]
  refine .inl ?_
  obtain ⟨j, aq, ats, e1, rfl, hxs⟩ := compK_callv (o := o) k1
  have hu : RdT E w (.clo (.bm f) [.ptr r g [] 0]) (a.tmps.getD j undef) := by
    have := R.tm j
    rw [show slotV t j = .clo (.bm f) [.ptr r g [] 0] from hv] at this
    exact this
  simp only [RdT, RdTs, CK.ok] at hu
  obtain ⟨us, hu, v0, us2, rfl, hp, rfl⟩ := hu
  have hp : RdT E w (.ptr r g [] 0) v0 := by simp only [RdT]; exact hp
  unfold okF at hf
  split at hf
  · rename_i fn hfn
    simp only [Bool.and_eq_true] at hf
    have hr : (execOp a.eval o).run P w = .ok (.enter f (#[v0] ++ aq.map a.eval)) w := by
      simp only [execOp, e1, resolve, Act.eval, hu, Deferred.ofValue, Sem.run_bind, Sem.run_pure, Result.andThen_ok, invoke]
      rw [run_callv hfn hf.1 hf.2]
      simp
    unfold Oper.wp
    rw [hr, Oper.upon_enter]
    subst hd hys
    have hargs := compXs_rd0 R hxs
    rw [hx] at hargs
    obtain ⟨o0, u, b, zs, m1, m2, m3, m4, m5, m6, m7, m8, m9⟩ := rd_ptr R hp (by simp [obV, hob])
    have m1 : ob[r]? = some o0 := m1
    rw [hob] at m1
    obtain rfl := Option.some.inj m1
    have m5' := m5
    unfold OkO at m5
    simp only at m5
    obtain ⟨b', cs, rfl, n1, n2, n3, n4⟩ := m5
    simp only [blk, Option.some.injEq] at m6
    subst m6
    simp only [if_true] at n4
    subst m7
    have hS : ∀ b, E.B b → b < w.heap.size ∧ b ≠ b' := fun b hb => ⟨R.lt b hb, fun e => n4 (e ▸ hb)⟩
    have hC := hF w E.B b' hS cs n1 (low_rdS (E := E) (E0 := argS E.B) (fun _ h => h) hdp n2) _ (lowTs_rdS (E := E) (E0 := argS E.B) (fun _ h => h) hwp hargs)
    have e2 : (Value.pointer (some ⟨b', 0, none⟩) :: aq.toList.map a.eval).toArray = #[Value.pointer (some ⟨b', 0, none⟩)] ++ aq.map a.eval := by
      rw [← Array.toList_map]
      simp
    rw [e2] at hC
    refine hC.mono ?_
    rintro e w' ⟨x', obs, c, v, ⟨rfl, rfl, rfl⟩, rfl, hres⟩
    obtain ⟨E', L, hx', R'⟩ := R.backM hob rfl rfl m4 (b0 := b') rfl hres
    show wpList P ops (onX P cx N Q k) os' (a.put o.dst v) w'
    rw [show o.dst = some i from k3]
    simp only [List.map_nil, List.append_nil] at R'
    exact h.h hn E' _ w' (R'.put (d := some i) (fun j hj => by show j < n; rw [show n = N from hn]; exact k4 j hj) hx') ops os' h2
  · cases hf
def NoRef (E : Env) (b : Nat) : Prop := ¬ E.B b ∧ ∀ (r g : Nat) (u : Value), E.ref[r]? = some (g, u) → blk u ≠ some b
structure EvT (P : Program) (cx : Cx) (N : Nat) (Q : Exit → Act → World → Prop) (k : List It) (l : List RO) (σ : AS) (d : Nat) (ents : List (Int × FuncId)) (u : V) : Prop where
  h : σ.n = N → ∀ E a w, Rel cx E σ a w → ∀ b es ck p, a.tmps.getD d undef = .map (some b) → w.heap[b]? = some (.map es ck) → cx.W.heap.size ≤ b → NoRef E b → RdT E w u p → es.toList.map (·.key) = ents.map (fun x => .int .i64 x.1) → es.toList.map (·.val) = ents.map (fun x => .func (.func x.2) #[p] #[]) →
    ∀ ops os, compL P N ops os = some l → wpList P ops (onX P cx N Q k) os a w
theorem compM_mkM {op : Op} {t : Nat} (hc : compM P op = some (.mkM t)) : op = .makeMap t none := by
  unfold compM at hc
  split at hc
  case h_10 T =>
    split at hc
    · injection hc with hc
      injection hc with hc
      subst hc
      rfl
    · cases hc
  all_goals (repeat' split at hc) <;> first | (cases hc; done) | (simp [Option.bind_eq_some_iff] at hc; done)
theorem compM_ins {op : Op} {t : Nat} {m x y : X} (hc : compM P op = some (.ins t m x y)) : ∃ m0 x0 y0 kt e, op = .insert t m0 x0 y0 ∧ P.underlying t = some (.map kt e) ∧ P.underlying kt = some (.int .i64) ∧ compX m0 = some m ∧ compX x0 = some x ∧ compX y0 = some y := by
  unfold compM at hc
  split at hc
  case h_11 T m0 x0 y0 =>
    split at hc
    · rename_i h1
      split at hc
      · rename_i h2
        simp only [Option.map_eq_some_iff, Option.bind_eq_some_iff] at hc
        obtain ⟨m', hm, x', hx, y', hy, e⟩ := hc
        injection e with e1 e2 e3 e4
        subst e1 e2 e3 e4
        exact ⟨_, _, _, _, _, rfl, h1, h2, hm, hx, hy⟩
      · cases hc
    · cases hc
  all_goals (repeat' split at hc) <;> first | (cases hc; done) | (simp [Option.bind_eq_some_iff] at hc; done)
theorem Rel.far (R : Rel cx E σ a w) {b : Nat} (hb : NoRef E b) (hW : cx.W.heap.size ≤ b) (hK : Keep (fun b' => b' = b) w w') : Leads E w E w' ∧ Rel cx E σ a w' := by
  have hB : ∀ b', E.B b' → w'.heap[b']? = w.heap[b']? := fun b' hb' => hK.block b' (R.lt b' hb') (fun e => hb.1 (e ▸ hb'))
  have L : Leads E w E w' := Leads.heap hB
  refine ⟨L, R.df, R.n, fun i => (R.tm i).mono L, R.len, fun r o hr => ?_, R.sep, fun b' hb' => Nat.lt_of_lt_of_le (R.lt b' hb') hK.size, R.fr, R.old, ?_⟩
  · obtain ⟨u, k1, k2⟩ := R.ob r o hr
    refine ⟨u, k1, k2.keep L (fun b' hb' => hK.block b' (k2.blk_lt hb') (fun e => hb.2 r o.g u k1 (e ▸ hb'))) (fun _ b' _ hn => hn)⟩
  · exact ⟨hK.os.trans R.keep.os, hK.tape.trans R.keep.tape, hK.output.trans R.keep.output, Nat.le_trans R.keep.size hK.size, fun i hi hs => (hK.block i (Nat.lt_of_lt_of_le hi R.keep.size) (fun e => by subst e; omega)).trans (R.keep.block i hi hs)⟩
theorem evt_mk {t d : Nat} {u : V} (j : Nat) (hj : slotV σ.t j = u) (hjd : j ≠ d) (hjN : True) (h : EvT P cx N Q k l (σ.put (some d) .junk) d [] u) : EvR P cx N Q k (⟨some d, none, .m (.mkM t)⟩ :: l) σ := by
  refine ⟨fun hn E a w R ops os hcc => ?_⟩
  obtain ⟨o, os', rfl, h1, h2⟩ := compL_cons hcc
  obtain ⟨k1, k2, k3, k4⟩ := compR_some h1
  unfold wpList
  rw [if_pos (wants_ok R k2 rfl)]
  refine .inl ?_
  have e1 := compM_mkM (compK_m k1)
  have hrun : (execOp a.eval o).run P w = .ok (.value (.map (some w.heap.size))) (w.alloc (.map #[] 0)) := by
    simp only [execOp, e1, Instr.makeMap, Option.map_none, Sem.run_bind, Sem.run_pure, run_newObj_alloc, Result.andThen_ok]
  unfold Oper.wp
  rw [hrun, Oper.upon_value, show o.dst = some d from k3]
  have hNo : NoRef E w.heap.size := by
    refine ⟨fun hb => Nat.lt_irrefl _ (R.lt _ hb), fun r g v hr hv => ?_⟩
    have hrl : r < σ.ob.length := by rw [← R.len]; exact (List.getElem?_eq_some_iff.1 hr).1
    obtain ⟨v', q1, q2⟩ := R.ob r _ (List.getElem?_eq_getElem hrl)
    rw [hr] at q1
    injection q1 with q1
    injection q1 with _ q1
    subst q1
    exact Nat.lt_irrefl _ (q2.blk_lt hv)
  have hK : Keep (fun b' => b' = w.heap.size) w (w.alloc (.map #[] 0)) := ⟨rfl, rfl, rfl, by show w.heap.size ≤ (w.heap.push _).size; simp, fun i hi _ => heap_alloc_old w _ hi⟩
  obtain ⟨L, R'⟩ := R.far hNo R.keep.size hK
  have hd : d < σ.n := by rw [hn]; exact k4 d rfl
  have hu : RdT E (w.alloc (.map #[] 0)) u (a.tmps.getD j undef) := by rw [← hj]; exact R'.tm j
  refine h.h (by rw [AS.put_n]; exact hn) E _ _ (R'.put (fun i hi => by injection hi with hi; subst hi; exact hd) (by simp only [RdT])) w.heap.size #[] 0 (a.tmps.getD j undef) ?_ (heap_alloc_new w _) R.keep.size hNo hu rfl rfl ops os' h2
  rw [getD_put a d _ d (by rw [R.n]; exact hd), if_pos rfl]
theorem evt_p {d d' : Nat} {m : POp} {ents : List (Int × FuncId)} {u : V} (hdd : d' ≠ d) (hc : (aopP σ m).2) (h : EvT P cx N Q k l (σ.put (some d') (aopP σ m).1) d ents u) : EvT P cx N Q k (⟨some d', none, .p m⟩ :: l) σ d ents u := by
  refine ⟨fun hn E a w R b es ck p q1 q2 q3 q4 q5 q6 q7 ops os hcc => ?_⟩
  obtain ⟨o, os', rfl, h1, h2⟩ := compL_cons hcc
  obtain ⟨k1, k2, k3, k4⟩ := compR_some h1
  unfold wpList
  rw [if_pos (wants_ok R k2 rfl)]
  refine .inl ?_
  have k1' : compP P o.op = some m := by
    have k1 : compK P o.op = some (.p m) := k1
    have hb : m ≠ .bad := fun e => by subst e; exact hc
    unfold compK at k1
    split at k1
    · rename_i e; cases k1; exact e
    · split at k1
      · cases k1
      · split at k1
        · split at k1
          · split at k1
            · simp at k1
            · cases k1; exact absurd rfl hb
          · cases k1; exact absurd rfl hb
        · simp at k1
        · cases k1; exact absurd rfl hb
  obtain ⟨v, hr, hx⟩ := opP_sound k1' R hc
  have hd' : d' < a.tmps.size := by rw [R.n, hn]; exact k4 d' rfl
  unfold Oper.wp
  rw [hr, Oper.upon_value, show o.dst = some d' from k3]
  refine h.h (by rw [AS.put_n]; exact hn) E _ w (R.put (fun i hi => by rw [hn]; exact k4 i hi) hx) b es ck p ?_ q2 q3 q4 q5 q6 q7 ops os' h2
  rw [getD_put a d' _ d hd', if_neg hdd]
  exact q1
theorem evt_ins {t d r g : Nat} {ents : List (Int × FuncId)} {n : Int} {f : FuncId} {x : X} (hg : (obV σ r g).2) (hx : x.ev σ = .clo (.bm f) [.ptr r g [] 0]) (hne : lkp ents n = none) (h : EvT P cx N Q k l σ d (ents ++ [(n, f)]) (.ptr r g [] 0)) : EvT P cx N Q k (⟨none, none, .m (.ins t (.t d) (.c (.int .i64 n)) x)⟩ :: l) σ d ents (.ptr r g [] 0) := by
  refine ⟨fun hn E a w R b es ck p q1 q2 q3 q4 q5 q6 q7 ops os hcc => ?_⟩
  obtain ⟨o, os', rfl, h1, h2⟩ := compL_cons hcc
  obtain ⟨k1, k2, k3, k4⟩ := compR_some h1
  unfold wpList
  rw [if_pos (wants_ok R k2 rfl)]
  refine .inl ?_
  obtain ⟨m0, x0, y0, kt, e, e1, e2, e3, e4, e5, e6⟩ := compM_ins (compK_m k1)
  have hm : a.eval m0 = .map (some b) := by
    rw [← q1]
    cases m0 <;> simp [compX] at e4
    all_goals first | (subst e4; rfl) | (obtain ⟨_, h⟩ := e4; cases h) | skip
  have hk : a.eval x0 = .int .i64 n := by
    have := compX_rd R e5
    exact (rd_int (by simpa [X.ev] using this)).1
  have hy := compX_rd R e6
  rw [hx] at hy
  simp only [RdT, RdTs, CK.ok] at hy
  obtain ⟨vs, hy, v, ys, rfl, hp, rfl⟩ := hy
  have hp : RdT E w (.ptr r g [] 0) v := by simp only [RdT]; exact hp
  have hvp : v = p := by
    obtain ⟨_, u1, b1, _, _, _, _, m4, _, m6, m7, _⟩ := rd_ptr R hp hg
    obtain ⟨_, u2, b2, _, _, _, _, n4, _, n6, n7, _⟩ := rd_ptr R q5 hg
    rw [m4] at n4
    injection n4 with n4
    injection n4 with _ n4
    subst n4
    rw [m6] at n6
    injection n6 with n6
    rw [m7, n7, n6]
  subst hvp
  obtain ⟨j, hj⟩ := findNow_lkp (n := n) (vs := [v]) 0 q6 q7
  rw [hne] at hj
  have hK : Go.MapKept.IsKey (.int .i64) (.int .i64 n) := by simp [Go.MapKept.IsKey]
  have hrun : (execOp a.eval o).run P w = .ok .skip { w with heap := w.heap.setIfInBounds b (.map (es.push { key := .int .i64 n, val := .func (.func f) #[v] #[], born := ck }) (ck + 1)) } := by
    simp only [execOp, e1, hm, hk, hy, Instr.mapUpdate, Sem.run_bind, run_underlying e2, Result.andThen_ok, Go.MapKept.run_getObj_map q2, Sem.run_pure, Go.MapKept.run_checkKey e3 hK, Go.MapKept.run_findKey e3 hj, Option.map_none, Go.MapKept.run_setObj_map _ q2]
  unfold Oper.wp
  rw [hrun, Oper.upon_skip, show o.dst = none from k3]
  have hset := Go.MapKept.heap_set (o' := .map (es.push { key := .int .i64 n, val := .func (.func f) #[v] #[], born := ck }) (ck + 1)) q2
  obtain ⟨L, R'⟩ := R.far (w' := { w with heap := w.heap.setIfInBounds b (.map (es.push { key := .int .i64 n, val := .func (.func f) #[v] #[], born := ck }) (ck + 1)) }) q4 q3 ⟨rfl, rfl, rfl, by simp, fun i hi hs => hset.2 i hs⟩
  exact h.h hn E a _ R' b _ (ck + 1) v q1 hset.1 q3 q4 (q5.mono L) (by simp [q6]) (by simp [q7]) ops os' h2
theorem evt_end {n : Nat} {t : List (Nat × V)} {ob : List Ob} {d : Nat} {ents : List (Int × FuncId)} {u : V} (h : EvR P cx N Q k l ⟨n, (d, .clo (.mp ents) [u]) :: t, ob⟩) : EvT P cx N Q k l ⟨n, t, ob⟩ d ents u := by
  refine ⟨fun hn E a w R b es ck p q1 q2 q3 q4 q5 q6 q7 ops os hcc => ?_⟩
  obtain ⟨L, R'⟩ := R.addB (b := b) q3 (Array.getElem?_eq_some_iff.1 q2).1 (fun r o g v hr hl hg hb => q4.2 r g v hg hb)
  refine h.h hn _ a w (R'.slot ?_) ops os hcc
  rw [q1]
  simp only [RdT, RdTs, CK.ok]
  exact ⟨[p], ⟨b, es, ck, rfl, .inr rfl, q2, q6, q7⟩, p, [], rfl, q5.mono L, rfl⟩
end
end Rdn.Dp
