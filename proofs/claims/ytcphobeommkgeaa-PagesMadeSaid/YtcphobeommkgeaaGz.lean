/- Zero values appended to a row of one's own (append(l, make(..)...)). Over any program. -/
import Derived.Test.YtcphobeommkgeaaPt
import Derived.Lib.AppendZerosOnto
namespace Rdn.Dp
open Go Go.RowKit Rdn
set_option linter.unusedVariables false
set_option linter.unusedSimpArgs false
section
variable {P : Program} {cx : Cx} {E E' : Env} {σ : AS} {a : Act} {w w' : World}
theorem run_appz_room (w : World) (t tn ty e : TypeId) (i : TypeInfo) (z : Value) (kq kn : IntKind) (ht : P.underlying t = some (.slice e)) (htn : P.underlying tn = some (.int kn)) (hi : P.info? e = some i) (hz : i.zero = some z)
    (g n cap : Nat) (cur : Array Value) (T : TypeId) (hg : w.heap[g]? = some (.cells cur T (0, 0))) (m : Nat) (h0 : 0 < m) (hs : 0 < i.size) (hroom : n + m ≤ cap) (h63 : m ≤ 140737488355328) (hb : m * i.bytes ≤ 140737488355328) {zs : List Value} (hzl : (Builtin.zeroCells z.cells m).toList = zs) (h1 : ∀ v ∈ zs, v.oneCell' = true) (hfit : n * i.size + zs.length ≤ cur.size) :
    (Builtin.append_ #[t, tn] ty #[.slice (some ⟨g, 0, none⟩) n cap, .int kq m]).run P w = .ok (.slice (some ⟨g, 0, none⟩) (n + m) cap) (w.setRow g (cur.toList.take (n * i.size) ++ zs ++ cur.toList.drop (n * i.size + zs.length)).toArray) := by
  have hw : IntKind.i64.wrap (m : Int) = m := by rw [IntKind.wrap_i64]; omega
  have h48i : ¬ (281474976710656 < (m : Int) * (i.bytes : Int)) := by
    rw [← Int.natCast_mul]
    omega
  have hneg : ¬ ((m : Int) < 0) := by omega
  have hns : ¬ (m * i.size = 0) := Nat.mul_ne_zero (by omega) (by omega)
  have hst := run_storeCells_at P g (n * i.size) T zs 0 cur w hg (by simpa using hfit) h1
  simp only [Nat.add_zero] at hst
  subst hzl
  have hadd : (⟨g, 0, none⟩ : Addr).add (n * i.size) = ⟨g, n * i.size, none⟩ := by simp [Addr.add_lit]
  have hm0 : ¬ m = 0 := by omega
  have hs0 : ¬ i.size = 0 := by omega
  simp [Builtin.append_, run_underlying ht, run_underlying htn, Go.sizeOf, typeInfo, zeroValue, hi, hz, asInt, asIntOf, hw, hroom, hneg, hns, hm0, hs0, h48i, hadd, hst]
theorem run_appz_zero (w : World) (t tn ty e : TypeId) (i : TypeInfo) (kq kn : IntKind) (ht : P.underlying t = some (.slice e)) (htn : P.underlying tn = some (.int kn)) (hi : P.info? e = some i)
    (A : Option Addr) (n cap : Nat) (hn : n ≤ cap) : (Builtin.append_ #[t, tn] ty #[.slice A n cap, .int kq 0]).run P w = .ok (.slice A n cap) w := by
  have hw : IntKind.i64.wrap (0 : Int) = 0 := by rw [IntKind.wrap_i64]; omega
  cases A <;> simp [Builtin.append_, run_underlying ht, run_underlying htn, Go.sizeOf, typeInfo, hi, asInt, asIntOf, hw, hn, storeCells]
theorem appz_run {base : Nat} {t tn ty e : TypeId} {i : TypeInfo} {z : Value} {kq kn : IntKind} (ht : P.underlying t = some (.slice e)) (htn : P.underlying tn = some (.int kn)) (hi : P.info? e = some i) (hz : i.zero = some z) (hzs : z.cells.size = i.size) (h0 : 0 < i.size)
    {v : Value} {n : Nat} {xs : List Value} (hown : w.ownsRow base e i.size v n xs) (m : Nat) {zs : List Value} (hzl : (Builtin.zeroCells z.cells m).toList = zs) (h1 : ∀ v ∈ zs, v.oneCell' = true)
    (hb : (n + m) * i.bytes ≤ 140737488355328) (h63 : n + m ≤ 140737488355328) (hbase : base ≤ w.heap.size) :
    ∃ v' w', (Builtin.append_ #[t, tn] ty #[v, .int kq m]).run P w = .ok v' w' ∧ w'.ownsRow base e i.size v' (n + m) (xs ++ zs) ∧ Keep (fun b => v.ownBlock = some b) w w' ∧ (v'.ownBlock = v.ownBlock ∨ v'.ownBlock = some w.heap.size) := by
  have hzlen : zs.length = m * i.size := by rw [← hzl, Array.length_toList, size_zeroCells, hzs]
  have hlen : (xs ++ zs).length = (n + m) * i.size := by rw [List.length_append, hown.1, hzlen, Nat.add_mul]
  have h63' : n + m ≤ maxLen := by simp [maxLen]; omega
  have hmb : m * i.bytes ≤ 140737488355328 := Nat.le_trans (Nat.mul_le_mul_right _ (by omega)) hb
  by_cases hm0 : 0 < m
  · have hza : Builtin.zeroCells z.cells m = zs.toArray := by rw [← hzl]
    have grown : ∀ (old : Nat), old < n + m →
      (w.drew.alloc (.cells (xs.toArray ++ Builtin.zeroCells z.cells m ++ Builtin.zeroCells z.cells (grownCap w (n + m) old e - (n + m))) e)).ownsRow base e i.size
        (.slice (some ⟨w.heap.size, 0, none⟩) (n + m) (grownCap w (n + m) old e)) (n + m) (xs ++ zs) := by
      intro old ho
      have hge := grownCap_ge w (n + m) old e
      have hcm : grownCap w (n + m) old e ≤ maxLen := grownCap_le_maxLen w (n + m) old e h63'
      refine ⟨hlen, .inr ⟨w.heap.size, _, _, rfl, hbase, heap_alloc_new w.drew _, hge, hcm, ?_, ?_⟩⟩
      · simp only [Array.size_append, List.size_toArray, size_zeroCells, hzs, hown.1, ← Nat.add_mul]
        congr 1
        omega
      · simp only [Array.toList_append, hza, List.append_assoc]
        rw [← List.append_assoc, ← hlen]
        exact List.take_left
    rcases hown.2 with ⟨rfl, rfl⟩ | ⟨g, cap, cur, rfl, hbg, hg, hnc, hcm, hcs, htake⟩
    · have hx : xs = [] := List.eq_nil_of_length_eq_zero (by simpa using hown.1)
      subst hx
      have hold : (Builtin.firstCells i.size 0 (.slice none 0 0)).run P w.drew = .ok ([] : List Value).toArray w.drew := run_firstCells_none w.drew i.size 0 0 0
      have hr := Lib.run_append_grow_zeros w t tn ty e i z kq kn ht htn hi hz none 0 0 [] hold m hm0 h0 (by omega) (by omega) (by omega) (growslice_fits (by omega) hb)
      exact ⟨_, _, hr, grown 0 (by omega), ⟨rfl, rfl, rfl, by simp, fun k hk _ => heap_alloc_old w.drew _ hk⟩, .inr rfl⟩
    · by_cases hroom : n + m ≤ cap
      · have hfit : n * i.size + zs.length ≤ cur.size := by rw [hzlen, hcs, ← Nat.add_mul]; exact Nat.mul_le_mul_right _ hroom
        have hr' := run_appz_room (P := P) w t tn ty e i z kq kn ht htn hi hz g n cap cur e hg m hm0 h0 hroom (by omega) hmb hzl h1 hfit
        have hsz : (cur.toList.take (n * i.size) ++ zs ++ cur.toList.drop (n * i.size + zs.length)).toArray.size = cap * i.size := by
          simp only [List.size_toArray, List.length_append, List.length_take, List.length_drop, Array.length_toList]
          omega
        refine ⟨_, _, hr', ⟨hlen, .inr ⟨g, cap, _, rfl, hbg, setRow_heap w g cur _ e _ hg, hroom, hcm, hsz, ?_⟩⟩, keep_setRow w g _ rfl, .inl rfl⟩
        rw [htake, ← hlen]
        exact List.take_left
      · have holds : ∀ j u, xs[j]? = some u → w.drew.cell? ((⟨g, 0, none⟩ : Addr).add j) = some u := fun j u hj => hown.cells (g := g) rfl j u hj
        have hold : (Builtin.firstCells i.size n (.slice (some ⟨g, 0, none⟩) n cap)).run P w.drew = .ok xs.toArray w.drew := run_firstCells_some (P := P) w.drew i.size n ⟨g, 0, none⟩ n cap xs hown.1 holds
        have hr' := Lib.run_append_grow_zeros w t tn ty e i z kq kn ht htn hi hz (some ⟨g, 0, none⟩) n cap xs hold m hm0 h0 (by omega) (by omega) (by omega) (growslice_fits (by omega) hb)
        exact ⟨_, _, hr', grown cap (by omega), ⟨rfl, rfl, rfl, by simp, fun k hk _ => heap_alloc_old w.drew _ hk⟩, .inr rfl⟩
  · have hm1 : m = 0 := by omega
    subst hm1
    have hy : zs = [] := List.eq_nil_of_length_eq_zero (by simpa using hzlen)
    subst hy
    rcases hown.2 with ⟨rfl, rfl⟩ | ⟨g, cap, cur, rfl, _, _, hc, _⟩
    · exact ⟨_, w, run_appz_zero (P := P) w t tn ty e i kq kn ht htn hi none 0 0 (Nat.le_refl _), by simpa using hown, Keep.refl _ _, .inl rfl⟩
    · exact ⟨_, w, run_appz_zero (P := P) w t tn ty e i kq kn ht htn hi _ n cap hc, by simpa using hown, Keep.refl _ _, .inl rfl⟩
theorem compM_appz {op : Op} {e s b : Nat} {zv : V} {x y : X} (hc : compM P op = some (.appz e s b zv x y)) : ∃ x0 y0 t t' i kn, op = .call { callee := .builtin .append, args := #[x0, y0], argTypes := #[t, t'] } ∧ P.underlying t = some (.slice e) ∧ P.underlying t' = some (.int kn) ∧ P.info? e = some i ∧ zeroOk P e zv = true ∧ 0 < i.size ∧ zv.size = i.size ∧ compX x0 = some x ∧ compX y0 = some y ∧ s = i.size ∧ b = i.bytes := by
  unfold compM at hc
  split at hc
  case h_8 b aas ts =>
    split at hc
    · rename_i x y t t' e1 e2
      obtain ⟨aas⟩ := aas
      obtain ⟨ts⟩ := ts
      have e1 : aas = [x, y] := e1
      have e2 : ts = [t, t'] := e2
      subst e1 e2
      split at hc
      · (repeat' split at hc) <;> first | (cases hc; done) | (simp [Option.bind_eq_some_iff] at hc; done)
      · split at hc
        · rename_i h1 h1'
          split at hc
          · rename_i h2 h3
            split at hc
            · rename_i h4
              simp only [Bool.and_eq_true, decide_eq_true_eq] at h4
              simp only [Option.map_eq_some_iff, Option.bind_eq_some_iff] at hc
              obtain ⟨x', hx, y', hy, e⟩ := hc
              injection e with e1 e2 e3 e4 e5 e6
              subst e1 e2 e3 e4 e5 e6
              exact ⟨_, _, _, _, _, _, rfl, h1, h1', h2, h4.1, h4.2.1, h4.2.2, hx, hy, rfl, rfl⟩
            · cases hc
          · cases hc
        · cases hc
    · (repeat' split at hc) <;> first | (cases hc; done) | (simp [Option.bind_eq_some_iff] at hc; done)
    · cases hc
  all_goals (repeat' split at hc) <;> first | (cases hc; done) | (simp [Option.bind_eq_some_iff] at hc; done)
/-- Zero values are appended to a row of one's own. -/
theorem gen_appz {r g s e b : Nat} {kq : IntKind} {q : List V} {zv : V} {x y : X} {m : Nat} (hx : x.ev σ = .own r g) (hy : y.ev σ = .int kq m) (k1 : σ.ob[r]? = some ⟨.row e, true, g, .arr s q⟩) (hzp : zv.pure = true) (hb : (q.length + m) * b ≤ 140737488355328) (h63 : q.length + m ≤ 140737488355328) :
    Gen P σ (.m (.appz e s b zv x y)) (.own r (g + 1)) [r] (some (r, ⟨.row e, true, g + 1, .arr s (q ++ List.replicate m zv)⟩)) := by
  refine Gen.of (fun _ _ h => by injection h with h; injection h with h; subst h; simp) (fun σ' hev hob {cx E a w o} R hc => ?_)
  obtain ⟨x0, y0, t, t', i, kn, e1, e2, e3, e4, e5, e6, e7, e8, e9, rfl, rfl⟩ := compM_appz hc
  have q1 : σ'.ob[r]? = some ⟨.row e, true, g, .arr i.size q⟩ := by rw [hob r (by simp)]; exact k1
  obtain ⟨e0, u, xs, hke, hu, hU, hs0, hql, hown, hrd, hpu, hB⟩ := R.rowAt (.inl ⟨e, rfl⟩) q1
  have hee : e0 = e := by
    rcases hke with h | ⟨p, h⟩
    · injection h with h; exact h.symm
    · cases h
  subst hee
  have hX := compX_rd R e8
  have hY := compX_rd R e9
  rw [hev x (by simp [xsM]), hx] at hX
  rw [hev y (by simp [xsM]), hy] at hY
  have hxu : a.eval x0 = u := by
    simp only [RdT, RdV] at hX
    obtain ⟨v', m1, _, _, m4⟩ := hX
    simp only [List.cons.injEq, and_true] at m1
    subst m1
    exact (m4 g u hu).2 rfl
  have hyv : a.eval y0 = .int kq m := (rd_int hY).1
  obtain ⟨i', v, hi', hv, hzr⟩ := zeroOk_rd e5 E w
  rw [e4] at hi'
  obtain rfl := Option.some.inj hi'
  have hvl : v.cells.size = i.size := by have := hzr.len; simpa [e7] using this
  have hU0 : Unif i.size (List.replicate m zv) := fun x hx => by rw [List.eq_of_mem_replicate hx, e7]
  have hzl : (Builtin.zeroCells v.cells m).toList = (List.range (m * v.cells.size)).map (v.cells[· % v.cells.size]!) := by simp [Builtin.zeroCells]
  have hzR : RdL E w (List.replicate m zv) ((List.range (m * v.cells.size)).map (v.cells[· % v.cells.size]!)) := zeros_rd hzr (by rw [hvl]; exact e6) m
  obtain ⟨v', w', k2, k3, k4, k5⟩ := appz_run (P := P) (ty := o.type) (kq := kq) e2 e3 e4 hv hvl e6 hown m hzl hzR.one hb h63 (Nat.le_trans (OK.base_le _ _) R.keep.size)
  have hrun : (execOp a.eval o).run P w = .ok (.value v') w' := by
    simp only [execOp, e1, resolve, invoke, builtin, Sem.run_bind, Sem.run_pure, Result.andThen_ok, List.map_toArray, List.map_cons, List.map_nil, hxu, hyv, k2]
  have hob1 : ∀ (v : Value) (b : Nat), blk v = some b → (∃ A n c, v = .slice A n c) → v.ownBlock = some b := by
    rintro v b hb ⟨A, n, c, rfl⟩
    cases A with
    | none => simp [blk] at hb
    | some aa => simpa [blk, Value.ownBlock] using hb
  have hob2 : ∀ (v : Value) (b : Nat), v.ownBlock = some b → blk v = some b := by
    intro v b hb
    cases v <;> simp [Value.ownBlock] at hb
    rename_i A n c
    cases A with
    | none => simp at hb
    | some aa => simpa [blk] using hb
  have hsl : ∃ A n c, v' = .slice A n c := by
    rcases k3.2 with ⟨rfl, _⟩ | ⟨g, cap, cur, rfl, _⟩
    · exact ⟨_, _, _, rfl⟩
    · exact ⟨_, _, _, rfl⟩
  have hS : Keep (fun b => blk u = some b) w w' := k4.mono (fun b _ hb => hob2 _ _ hb)
  have hlive : ∀ b, blk u = some b → ¬ E.B b := hB
  have hKB : ∀ b, E.B b → w'.heap[b]? = w.heap[b]? := fun b hb => hS.block b (R.lt b hb) (fun eq => hlive b eq hb)
  have L0 : Leads E w E w' := Leads.heap hKB
  have hnb : ∀ b, blk v' = some b → ¬ E.B b := by
    intro b hb hB'
    have hb := hob1 _ _ hb hsl
    rcases k5 with k5 | k5
    · rw [k5] at hb
      exact hlive b (hob2 _ _ hb) hB'
    · rw [k5] at hb
      injection hb with hb
      have := R.lt b hB'
      omega
  have hrl : r < E.ref.length := (List.getElem?_eq_some_iff.1 hu).1
  have hpure : V.pures (q ++ List.replicate m zv) = true := pures_iff.2 fun x hx => by
    rcases List.mem_append.1 hx with hx | hx
    · exact pures_iff.1 (hpu ⟨e0, rfl⟩) x hx
    · rw [List.eq_of_mem_replicate hx]; exact hzp
  have hOk : OkO cx { E with ref := E.ref.set r (g + 1, v') } w' ⟨.row e0, true, g + 1, .arr i.size (q ++ List.replicate m zv)⟩ v' := by
    unfold OkO
    refine ⟨i.size, _, _, rfl, hpure, hU.app hU0, e6, by simpa using h63, by rw [List.length_append, List.length_replicate]; exact k3, RdL.cutp hpure ((hrd.mono L0).app (hzR.mono L0)), fun b hb => ?_⟩
    simp only [if_true]
    exact hnb b hb
  obtain ⟨L', R'⟩ := R.touch (o' := ⟨.row e0, true, g + 1, .arr i.size (q ++ List.replicate m zv)⟩) (u' := v') q1 rfl hu hS rfl (.inr rfl) (fun b hb => by
    have hb := hob1 _ _ hb hsl
    rcases k5 with k5 | k5
    · rw [k5] at hb; exact .inl (hob2 _ _ hb)
    · rw [k5] at hb; injection hb with hb; exact .inr (by omega)) hOk
  refine ⟨v', w', _, .inl hrun, L', ?_, R'⟩
  obtain ⟨A', n', c', rfl⟩ := hsl
  simp only [RdT, RdV]
  refine ⟨_, rfl, rfl, by simpa using hrl, fun gc u h => ?_⟩
  rw [List.getElem?_set_self hrl] at h
  injection h with h
  injection h with h1 h2
  exact ⟨by omega, fun _ => h2⟩
end
end Rdn.Dp
