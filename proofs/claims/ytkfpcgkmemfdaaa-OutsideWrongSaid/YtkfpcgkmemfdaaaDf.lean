/- Walks over trees: a region's operations one by one, and what stands around them. Over any program. -/
import Derived.LoopN
import Derived.Test.YtkfpcgkmemfdaaaDea
namespace Rdn.Dp
open Go Go.RowKit Rdn
set_option linter.unusedVariables false

inductive RK where
  | p (m : POp)
  | m (m : MOp)
  | call (f : FuncId) (xs : List X)
  | callv (x : X) (xs : List X)
/-- An operation of a region: the slot that it fills, its guard (a slot and what it must hold), what it does. -/
structure RO where
  d : Option Nat
  gd : Option (Nat × Bool)
  k : RK
inductive MC where
  | skip
  | reg (l : List RO)
  | dreg (l : List RO) (B : List (List Nat))
  | seq (a b : MC)
  | cond (x : X) (a b : MC)
  | block (id : Nat) (c : MC)
  | loop (c : MC)
  | exit (id : Nat)
  | ret
  | bad
section
variable (P : Program)
def compK (op : Op) : Option RK :=
  match compP P op with
  | some m => some (.p m)
  | none => match compM P op with
    | some m => some (.m m)
    | none => match op with
      | .call { callee := .value (.func f), args := as, .. } => match P.funcs[f]? with
        | some fn => if fn.body.isSome && fn.name != "runtime.NumGoroutine" then (compXs as.toList).map (.call f) else some (.p .bad)
        | none => some (.p .bad)
      | .call { callee := .value (.tmp i), args := as, .. } => (compXs as.toList).map (.callv (.t i))
      | _ => some (.p .bad)
def compG (ops : Array Oper) : Option (Nat × Bool) → Option (Option (Nat × Bool))
  | none => some none
  | some (j, b) => match (ops[j]?).bind (·.dst) with
    | some t => some (some (t, b))
    | none => none
def compR (n : Nat) (ops : Array Oper) (o : Oper) : Option RO :=
  match compK P o.op, compG ops o.guard with
  | some k, some g => if o.dst.all (· < n) then some ⟨o.dst, g, k⟩ else none
  | _, _ => none
def compL (n : Nat) (ops : Array Oper) : List Oper → Option (List RO)
  | [] => some []
  | o :: l => match compR P n ops o, compL n ops l with
    | some r, some m => some (r :: m)
    | _, _ => none
/-- n: the frame's slots. -/
def comp (n : Nat) : Code → Option MC
  | .skip => some .skip
  | .region _ ops draw => match compL P n ops ops.toList with
    | some l => if draw then (if relOk ops (relB ops) then some (.dreg l (relB ops)) else none) else some (.reg l)
    | none => none
  | .seq a b => match comp n a, comp n b with
    | some x, some y => some (.seq x y)
    | _, _ => none
  | .cond c a b => match compX c, comp n a, comp n b with
    | some z, some x, some y => some (.cond z x y)
    | _, _, _ => none
  | .block id c => (comp n c).map (.block id)
  | .loop c => (comp n c).map .loop
  | .exit id => some (.exit id)
  | .ret => some .ret
  | _ => some .bad
end

/-! ### What is still to do -/
inductive It where
  | code (m : MC)
  | inBlock (id : Nat)
  | goal (J : AS → Prop)
  | rounds (m : MC) (n : Nat)
section
variable (P : Program) (cx : Cx) (N : Nat) (Q : Exit → Act → World → Prop)
mutual
def wpS : List It → Act → World → Prop
  | [], a, w => Q .normal a w
  | .code m :: k, a, w => ∀ c, comp P N c = some m → c.wp P (fun e => match e with | .normal => wpS k | .exit id => exitS k id | e => Q e) a w
  | .inBlock id :: k, a, w => wpS k a w
  | .goal J :: k, a, w => ∃ E σ, J σ ∧ σ.n = N ∧ Rel cx E σ a w
  | .rounds m n :: k, a, w => ∀ c, comp P N c = some m → Code.rounds P c (fun e => match e with | .normal => wpS k | .exit id => exitS k id | e => Q e) n a w
def exitS : List It → Nat → Act → World → Prop
  | [], id, a, w => Q (.exit id) a w
  | .inBlock id' :: k, id, a, w => if id = id' then wpS k a w else exitS k id a w
  | .code _ :: k, id, a, w => exitS k id a w
  | .goal _ :: k, id, a, w => exitS k id a w
  | .rounds _ _ :: k, id, a, w => exitS k id a w
end
/-- The post-condition of a piece in front of k. -/
def onX (k : List It) : Exit → Act → World → Prop
  | .normal => wpS P cx N Q k
  | .exit id => exitS P cx N Q k id
  | e => Q e
structure Ev (k : List It) (σ : AS) : Prop where
  h : σ.n = N → ∀ E a w, Rel cx E σ a w → wpS P cx N Q k a w
def popTo (id : Nat) : List It → Option (List It)
  | [] => none
  | .inBlock id' :: k => if id = id' then some k else popTo id k
  | .code _ :: k => popTo id k
  | .goal _ :: k => popTo id k
  | .rounds _ _ :: k => popTo id k
/-- In an ordered region. -/
structure EvR (k : List It) (l : List RO) (σ : AS) : Prop where
  h : σ.n = N → ∀ E a w, Rel cx E σ a w → ∀ ops os, compL P N ops os = some l → wpList P ops (onX P cx N Q k) os a w
end
section
variable {P : Program} {cx : Cx} {N : Nat} {Q : Exit → Act → World → Prop} {k : List It} {σ : AS}
theorem exitS_pop {id : Nat} {k' : List It} (h : popTo id k = some k') : exitS P cx N Q k id = wpS P cx N Q k' := by
  induction k with
  | nil => cases h
  | cons i k ih =>
    cases i with
    | inBlock id' =>
      simp only [popTo] at h
      funext a w
      simp only [exitS]
      split at h
      · rename_i e; cases h; rw [if_pos e]
      · rename_i e; rw [if_neg e, ih h]
    | code m => funext a w; simp only [exitS, ih h]
    | goal J => funext a w; simp only [exitS, ih h]
    | rounds m n => funext a w; simp only [exitS, ih h]
theorem wpS_code {m : MC} {a : Act} {w : World} : wpS P cx N Q (.code m :: k) a w = ∀ c, comp P N c = some m → c.wp P (onX P cx N Q k) a w := by
  simp only [wpS]
  have e : (fun e => match e with | Exit.normal => wpS P cx N Q k | .exit id => exitS P cx N Q k id | e => Q e) = onX P cx N Q k := by
    funext e
    cases e <;> rfl
  rw [e]
theorem ev_skip (h : Ev P cx N Q k σ) : Ev P cx N Q (.code .skip :: k) σ := by
  refine ⟨fun hn E a w R => ?_⟩
  rw [wpS_code]
  intro c hc
  cases c <;> simp only [comp] at hc
  case skip => exact wp_skip (h.h hn E a w R)
  all_goals (first | cases hc | (split at hc <;> first | cases hc | (split at hc <;> first | cases hc | (split at hc <;> cases hc))) | (simp at hc))
theorem ev_seq {x y : MC} (h : Ev P cx N Q (.code x :: .code y :: k) σ) : Ev P cx N Q (.code (.seq x y) :: k) σ := by
  refine ⟨fun hn E a w R => ?_⟩
  rw [wpS_code]
  intro c hc
  cases c <;> simp only [comp] at hc
  case seq c1 c2 =>
    split at hc
    · rename_i h1 h2
      cases hc
      have := h.h hn E a w R
      rw [wpS_code] at this
      refine wp_seq (wp_mono (this c1 h1) fun e a w hq => ?_)
      cases e with
      | normal =>
        have hq : wpS P cx N Q (.code y :: k) a w := hq
        rw [wpS_code] at hq
        exact hq c2 h2
      | exit id => exact hq
      | goto l => exact hq
      | ret => exact hq
      | panic c => exact hq
      | outgrown => exact hq
    · cases hc
  all_goals (first | cases hc | (split at hc <;> first | cases hc | (split at hc <;> first | cases hc | (split at hc <;> cases hc))) | (simp at hc))
theorem ev_cond {x : X} {y z : MC} {t : Bool} (hx : x.ev σ = .bool t) (h1 : t = true → Ev P cx N Q (.code y :: k) σ) (h2 : t = false → Ev P cx N Q (.code z :: k) σ) : Ev P cx N Q (.code (.cond x y z) :: k) σ := by
  refine ⟨fun hn E a w R => ?_⟩
  rw [wpS_code]
  intro c hc
  cases c <;> simp only [comp] at hc
  case cond o c1 c2 =>
    split at hc
    · rename_i k0 k1 k2
      cases hc
      have hr := compX_rd R k0
      rw [hx] at hr
      refine wp_cond_split (rd_bool hr) (fun e => ?_) (fun e => ?_)
      · have := (h1 e).h hn E a w R
        rw [wpS_code] at this
        exact this _ k1
      · have := (h2 e).h hn E a w R
        rw [wpS_code] at this
        exact this _ k2
    · cases hc
  all_goals (first | cases hc | (split at hc <;> first | cases hc | (split at hc <;> first | cases hc | (split at hc <;> cases hc))) | (simp at hc))
theorem ev_block {id : Nat} {x : MC} (h : Ev P cx N Q (.code x :: .inBlock id :: k) σ) : Ev P cx N Q (.code (.block id x) :: k) σ := by
  refine ⟨fun hn E a w R => ?_⟩
  rw [wpS_code]
  intro c hc
  cases c <;> simp only [comp] at hc
  case block id' c =>
    simp only [Option.map_eq_some_iff] at hc
    obtain ⟨y, h1, h2⟩ := hc
    cases h2
    have := h.h hn E a w R
    rw [wpS_code] at this
    refine wp_block (wp_mono (this c h1) fun e a w hq => ?_)
    cases e with
    | normal => simpa only [onX, wpS, Exit.inBlock] using hq
    | exit id' =>
      simp only [onX, exitS] at hq
      simp only [Exit.inBlock]
      split
      · rename_i e; rw [if_pos e] at hq; exact hq
      · rename_i e; rw [if_neg e] at hq; exact hq
    | goto l => exact hq
    | ret => exact hq
    | panic c => exact hq
    | outgrown => exact hq
  all_goals (first | cases hc | (split at hc <;> first | cases hc | (split at hc <;> first | cases hc | (split at hc <;> cases hc))) | (simp at hc))
theorem ev_inBlock {id : Nat} (h : Ev P cx N Q k σ) : Ev P cx N Q (.inBlock id :: k) σ := by
  refine ⟨fun hn E a w R => ?_⟩
  simp only [wpS]
  exact h.h hn E a w R
theorem ev_exit {id : Nat} {k' : List It} (hp : popTo id k = some k') (h : Ev P cx N Q k' σ) : Ev P cx N Q (.code (.exit id) :: k) σ := by
  refine ⟨fun hn E a w R => ?_⟩
  rw [wpS_code]
  intro c hc
  cases c <;> simp only [comp] at hc
  case exit id' =>
    obtain rfl : id' = id := by simpa using hc
    refine wp_exit ?_
    show exitS P cx N Q k _ a w
    rw [exitS_pop hp]
    exact h.h hn E a w R
  all_goals (first | cases hc | (split at hc <;> first | cases hc | (split at hc <;> first | cases hc | (split at hc <;> cases hc))) | (simp at hc))
theorem ev_ret (h : ∀ E a w, Rel cx E σ a w → Q .ret a w) : Ev P cx N Q (.code .ret :: k) σ := by
  refine ⟨fun hn E a w R => ?_⟩
  rw [wpS_code]
  intro c hc
  cases c <;> simp only [comp] at hc
  case ret => exact wp_ret (h E a w R)
  all_goals (first | cases hc | (split at hc <;> first | cases hc | (split at hc <;> first | cases hc | (split at hc <;> cases hc))) | (simp at hc))
theorem ev_end (h : ∀ E a w, Rel cx E σ a w → Q .normal a w) : Ev P cx N Q [] σ := by
  refine ⟨fun hn E a w R => ?_⟩
  simp only [wpS]
  exact h E a w R
theorem ev_goal {J : AS → Prop} (h : J σ) : Ev P cx N Q (.goal J :: k) σ := by
  refine ⟨fun hn E a w R => ?_⟩
  simp only [wpS]
  exact ⟨E, σ, h, hn, R⟩
/-- Less is known, and the last objects are forgotten. -/
theorem ev_less {t : List (Nat × V)} {m : Nat} (hm : m ≤ σ.ob.length) (ht : ∀ x ∈ t, slotV σ.t x.1 = slotV t x.1) (hs : ∀ x ∈ t, x.2.scp m = true) (ho : ∀ o ∈ σ.ob.take m, o.scp m = true) (h : Ev P cx N Q k ⟨σ.n, t, σ.ob.take m⟩) : Ev P cx N Q k σ := by
  refine ⟨fun hn E a w R => ?_⟩
  have key : ∀ (t : List (Nat × V)) i, (∃ x ∈ t, x.1 = i ∧ slotV t i = x.2) ∨ slotV t i = .junk := by
    intro t i
    induction t with
    | nil => exact .inr rfl
    | cons p l ih =>
      obtain ⟨j, x⟩ := p
      by_cases e : j = i
      · exact .inl ⟨(j, x), by simp, e, by simp [slotV, e]⟩
      · rcases ih with ⟨y, h1, h2, h3⟩ | h3
        · exact .inl ⟨y, by simp [h1], h2, by simp [slotV, e, h3]⟩
        · exact .inr (by simp [slotV, e, h3])
  have R1 := R.less (t := t) (fun i => by
    rcases key t i with ⟨x, h1, h2, h3⟩ | h3
    · right; rw [← h2]; exact (ht x h1).symm
    · exact .inl h3)
  have R2 := R1.cut m hm (fun i => by
    rcases key t i with ⟨x, h1, h2, h3⟩ | h3
    · show (slotV t i).scp m = true
      rw [h3]; exact hs x h1
    · show (slotV t i).scp m = true
      rw [h3]; rfl) ho
  exact h.h hn _ a w R2
/-- A loop: I i holds at each round's head; the measure goes down. -/
theorem ev_loop {ι : Type} (I : ι → AS) (μ : ι → Nat) (i0 : ι) (hI : Ev P cx N Q [.goal fun σ' => σ' = I i0] σ) {x : MC}
    (round : ∀ i, Ev P cx N Q (.code x :: .goal (fun σ' => ∃ i', σ' = I i' ∧ μ i' < μ i) :: k) (I i)) : Ev P cx N Q (.code (.loop x) :: k) σ := by
  refine ⟨fun hn E a w R => ?_⟩
  rw [wpS_code]
  intro c hc
  cases c <;> simp only [comp] at hc
  case loop c =>
    simp only [Option.map_eq_some_iff] at hc
    obtain ⟨y, h1, h2⟩ := hc
    cases h2
    have h0 := hI.h hn E a w R
    simp only [wpS] at h0
    obtain ⟨E0, σ0, rfl, hn0, R0⟩ := h0
    intro b kk cs
    have key : ∀ n i a w, μ i = n → (∃ E, (I i).n = N ∧ Rel cx E (I i) a w) → ∃ e a' w', onX P cx N Q k e a' w' ∧ Arrives P (lone (b.at a (.code c :: .inLoop c :: kk)) cs w) b kk cs e a' w' := by
      intro n
      induction n using Nat.strongRecOn with
      | _ n ih =>
        intro i a w hμ ⟨E, hni, Ri⟩
        have hr := (round i).h hni E a w Ri
        rw [wpS_code] at hr
        obtain ⟨e, a1, w1, hq, harr⟩ := hr c h1 b (.inLoop c :: kk) cs
        cases e with
        | normal =>
          have hq : wpS P cx N Q (.goal (fun σ' => ∃ i', σ' = I i' ∧ μ i' < μ i) :: k) a1 w1 := hq
          simp only [wpS] at hq
          obtain ⟨E1, σ1, ⟨i', rfl, hlt⟩, hn1, R1⟩ := hq
          obtain ⟨e2, a2, w2, hq2, harr2⟩ := ih (μ i') (hμ ▸ hlt) i' a1 w1 rfl ⟨E1, hn1, R1⟩
          exact ⟨e2, a2, w2, hq2, .of_steps (Steps.trans harr (.one step_inLoop)) harr2⟩
        | exit id =>
          have hq : exitS P cx N Q (.goal (fun σ' => ∃ i', σ' = I i' ∧ μ i' < μ i) :: k) id a1 w1 := hq
          simp only [exitS] at hq
          exact ⟨.exit id, a1, w1, hq, .pass (x := .inLoop c) rfl (fun _ _ => .inl (by simp)) harr⟩
        | goto l => exact ⟨.goto l, a1, w1, hq, .pass (x := .inLoop c) rfl (fun _ _ => .inl (by simp)) harr⟩
        | ret => exact ⟨.ret, a1, w1, hq, .pass (x := .inLoop c) rfl (fun _ _ => .inl (by simp)) harr⟩
        | panic ch => exact ⟨.panic ch, a1, w1, hq, .pass (x := .inLoop c) rfl (fun _ _ => .inl (by simp)) harr⟩
        | outgrown => exact ⟨.outgrown, a1, w1, hq, .pass (x := .inLoop c) rfl (fun _ _ => .inl (by simp)) harr⟩
    obtain ⟨e, a', w', hq, harr⟩ := key _ i0 a w rfl ⟨E0, hn0, R0⟩
    exact ⟨e, a', w', hq, .of_steps (.one step_loop) harr⟩
  all_goals (first | cases hc | (split at hc <;> first | cases hc | (split at hc <;> first | cases hc | (split at hc <;> cases hc))) | (simp at hc))

/-- A loop of at most n rounds, each walked by itself. -/
theorem wpS_rounds {m : MC} {n : Nat} {a : Act} {w : World} : wpS P cx N Q (.rounds m n :: k) a w = ∀ c, comp P N c = some m → Code.rounds P c (onX P cx N Q k) n a w := by
  simp only [wpS]
  have e : (fun e => match e with | Exit.normal => wpS P cx N Q k | .exit id => exitS P cx N Q k id | e => Q e) = onX P cx N Q k := by
    funext e
    cases e <;> rfl
  rw [e]
theorem ev_unroll (n : Nat) {x : MC} (h : Ev P cx N Q (.rounds x n :: k) σ) : Ev P cx N Q (.code (.loop x) :: k) σ := by
  refine ⟨fun hn E a w R => ?_⟩
  rw [wpS_code]
  intro c hc
  cases c <;> simp only [comp] at hc
  case loop c =>
    simp only [Option.map_eq_some_iff] at hc
    obtain ⟨y, h1, h2⟩ := hc
    cases h2
    have := h.h hn E a w R
    rw [wpS_rounds] at this
    exact wp_loop_rounds n (this c h1)
  all_goals (first | cases hc | (split at hc <;> first | cases hc | (split at hc <;> first | cases hc | (split at hc <;> cases hc))) | (simp at hc))
theorem ev_round {n : Nat} {x : MC} (h : Ev P cx N Q (.code x :: .rounds x n :: k) σ) : Ev P cx N Q (.rounds x (n + 1) :: k) σ := by
  refine ⟨fun hn E a w R => ?_⟩
  rw [wpS_rounds]
  intro c hc
  have := h.h hn E a w R
  rw [wpS_code] at this
  refine wp_mono (this c hc) fun e a w hq => ?_
  cases e with
  | normal =>
    have hq : wpS P cx N Q (.rounds x n :: k) a w := hq
    rw [wpS_rounds] at hq
    exact hq c hc
  | exit id =>
    have hq : exitS P cx N Q (.rounds x n :: k) id a w := hq
    simp only [exitS] at hq
    exact hq
  | goto l => exact hq
  | ret => exact hq
  | panic c => exact hq
  | outgrown => exact hq

/-! ### A region in the order of the text -/
theorem ev_reg {l : List RO} (h : EvR P cx N Q k l σ) : Ev P cx N Q (.code (.reg l) :: k) σ := by
  refine ⟨fun hn E a w R => ?_⟩
  rw [wpS_code]
  intro c hc
  cases c <;> simp only [comp] at hc
  case region id ops draw =>
    split at hc
    · rename_i h1
      cases draw with
      | false =>
        simp only [Bool.false_eq_true, if_false, Option.some.injEq, MC.reg.injEq] at hc
        subst hc
        exact wp_region_list (h.h hn E a w R ops ops.toList h1)
      | true => simp only [if_true] at hc; split at hc <;> simp at hc
    · cases hc
  all_goals (first | cases hc | (split at hc <;> first | cases hc | (split at hc <;> first | cases hc | (split at hc <;> cases hc))) | (simp at hc))
theorem evr_nil (h : Ev P cx N Q k σ) : EvR P cx N Q k [] σ := by
  refine ⟨fun hn E a w R ops os hc => ?_⟩
  cases os with
  | nil => exact h.h hn E a w R
  | cons o os =>
    simp only [compL] at hc
    split at hc <;> cases hc
theorem compL_cons {ops : Array Oper} {os : List Oper} {r : RO} {l : List RO} (h : compL P N ops os = some (r :: l)) : ∃ o os', os = o :: os' ∧ compR P N ops o = some r ∧ compL P N ops os' = some l := by
  cases os with
  | nil => simp [compL] at h
  | cons o os =>
    simp only [compL] at h
    split at h
    · rename_i h1 h2
      cases h
      exact ⟨o, os, rfl, h1, h2⟩
    · cases h
theorem compR_some {ops : Array Oper} {o : Oper} {r : RO} (h : compR P N ops o = some r) : compK P o.op = some r.k ∧ compG ops o.guard = some r.gd ∧ o.dst = r.d ∧ ∀ i, r.d = some i → i < N := by
  unfold compR at h
  split at h
  · rename_i h1 h2
    split at h
    · rename_i h3
      cases h
      refine ⟨h1, h2, rfl, fun i hi => ?_⟩
      rw [show o.dst = some i from hi] at h3
      simpa using h3
    · cases h
  · cases h
theorem AS.put_n (σ : AS) (d : Option Nat) (x : V) : (σ.put d x).n = σ.n := by cases d <;> rfl
/-- What a guard says: run, or leave out. -/
def wants (σ : AS) : Option (Nat × Bool) → Option Bool
  | none => some true
  | some (t, b) => match slotV σ.t t with
    | .bool c => some (c == b)
    | .tup [] => some false
    | _ => none
theorem wants_ok' {a : Act} (hs : ∀ t c, slotV σ.t t = .bool c → a.tmps.getD t undef = .bool c) (ht : ∀ t, slotV σ.t t = .tup [] → a.tmps.getD t undef = .tuple #[]) {ops : Array Oper} {o : Oper} {gd : Option (Nat × Bool)} (hg : compG ops o.guard = some gd) {b : Bool} (h : wants σ gd = some b) : Region.wanted o (yielded ops a.tmps) = b := by
  unfold compG at hg
  unfold Region.wanted
  split at hg
  · rename_i e
    cases hg
    simp only [wants, Option.some.injEq] at h
    rw [e, ← h]
  · rename_i j c e
    split at hg
    · rename_i t htt
      cases hg
      rw [e]
      simp only [wants] at h
      have hy : yielded ops a.tmps j = match a.tmps[t]? with | some (.bool b) => some b | _ => none := by
        unfold yielded
        rw [htt]
        rfl
      split at h
      · rename_i d e2
        have := hs t d e2
        have e3 : a.tmps[t]? = some (.bool d) := by
          rw [Array.getD_eq_getD_getElem?] at this
          cases hq : a.tmps[t]? with
          | none => rw [hq] at this; simp [undef] at this
          | some x => rw [hq] at this; simp at this; rw [this]
        simp only [hy, e3]
        simp only [Option.some.injEq] at h
        rw [← h]
        simp
      · rename_i e2
        have h1 := ht t e2
        simp only [Option.some.injEq] at h
        subst h
        have e3 : ∀ b, a.tmps[t]? ≠ some (.bool b) := by
          intro b hq
          rw [Array.getD_eq_getD_getElem?, hq] at h1
          simp at h1
        have e4 : yielded ops a.tmps j = none := by
          rw [hy]
          split
          · rename_i b hq; exact absurd hq (e3 b)
          · rfl
        simp only [e4]
        rfl
      · cases h
    · cases hg
theorem wants_ok {E : Env} {a : Act} {w : World} (R : Rel cx E σ a w) {ops : Array Oper} {o : Oper} {gd : Option (Nat × Bool)} (hg : compG ops o.guard = some gd) {b : Bool} (h : wants σ gd = some b) : Region.wanted o (yielded ops a.tmps) = b := by
  refine wants_ok' (fun t c e => ?_) (fun t e => ?_) hg h
  · have hr := R.tm t
    rw [e] at hr
    exact rd_bool hr
  · have hr := R.tm t
    rw [e] at hr
    simp only [RdT, RdTs] at hr
    obtain ⟨vs, h1, rfl⟩ := hr
    exact h1
/-- An operation is left out. -/
theorem evr_skip {r : RO} {l : List RO} (hw : wants σ r.gd = some false) (h : EvR P cx N Q k l (σ.put r.d (.tup []))) : EvR P cx N Q k (r :: l) σ := by
  refine ⟨fun hn E a w R ops os hc => ?_⟩
  obtain ⟨o, os', rfl, h1, h2⟩ := compL_cons hc
  obtain ⟨k1, k2, k3, k4⟩ := compR_some h1
  unfold wpList
  rw [if_neg (by rw [wants_ok R k2 hw]; simp), k3]
  refine h.h (by rw [AS.put_n]; exact hn) E _ w (R.put (fun i hi => by rw [hn]; exact k4 i hi) ?_) ops os' h2
  simp only [RdT, RdTs]
  exact ⟨[], rfl, rfl⟩
/-- An operation that changes nothing. -/
theorem evr_p {d : Option Nat} {gd : Option (Nat × Bool)} {m : POp} {l : List RO} (hw : wants σ gd = some true) (hc : (aopP σ m).2) (h : EvR P cx N Q k l (σ.put d (aopP σ m).1)) : EvR P cx N Q k (⟨d, gd, .p m⟩ :: l) σ := by
  refine ⟨fun hn E a w R ops os hcc => ?_⟩
  obtain ⟨o, os', rfl, h1, h2⟩ := compL_cons hcc
  obtain ⟨k1, k2, k3, k4⟩ := compR_some h1
  unfold wpList
  rw [if_pos (wants_ok R k2 hw)]
  refine .inl ?_
  have k1' : compP P o.op = some m := by
    have k1 : compK P o.op = some (.p m) := k1
    have hb : m ≠ .bad := fun e => by subst e; exact hc
    unfold compK at k1
    split at k1
    · rename_i e; cases k1; exact e
    · split at k1
      · cases k1
      · split at k1
        · split at k1
          · split at k1
            · simp at k1
            · cases k1; exact absurd rfl hb
          · cases k1; exact absurd rfl hb
        · simp at k1
        · cases k1; exact absurd rfl hb
  obtain ⟨v, hr, hx⟩ := opP_sound k1' R hc
  unfold Oper.wp
  rw [hr, Oper.upon_value, show o.dst = d from k3]
  exact h.h (by rw [AS.put_n]; exact hn) E _ w (R.put (fun i hi => by rw [hn]; exact k4 i hi) hx) ops os' h2
theorem compP_bin {op : Op} {n : Nat} {b : BinOp} {x y : X} (h : compP P op = some (.bin n b x y)) : ∃ T x0 y0 yt, op = .binOp b T x0 y0 yt ∧ tbOf P T = n ∧ compX x0 = some x ∧ compX y0 = some y := by
  cases op
  case binOp op T x0 y0 yt =>
    simp only [compP] at h
    split at h
    · simp [Option.map_eq_some_iff, Option.bind_eq_some_iff] at h
    · simp only [Option.map_eq_some_iff, Option.bind_eq_some_iff, POp.bin.injEq] at h
      obtain ⟨a1, q1, a2, q2, e1, e2, e3, e4⟩ := h
      subst e2 e3 e4
      exact ⟨T, x0, y0, yt, rfl, e1, q1, q2⟩
  all_goals
    exfalso
    unfold compP at h
    (repeat' (split at h)) <;> simp_all [Option.map_eq_some_iff, Option.bind_eq_some_iff]
/-- Whether a slice is nil: told only if it has elements. -/
theorem evr_nilq {d : Option Nat} {gd : Option (Nat × Bool)} {x : X} {t : Bool} {s : Nat} {L : List V} {l : List RO} (hw : wants σ gd = some true) (hx : x.ev σ = .sl t s L) (h : ∀ b, (L ≠ [] → b = false) → EvR P cx N Q k l (σ.put d (.bool b))) : EvR P cx N Q k (⟨d, gd, .p (.bin 2 .eql x (.c .nilS))⟩ :: l) σ := by
  refine ⟨fun hn E a w R ops os hcc => ?_⟩
  obtain ⟨o, os', rfl, h1, h2⟩ := compL_cons hcc
  obtain ⟨k1, k2, k3, k4⟩ := compR_some h1
  unfold wpList
  rw [if_pos (wants_ok R k2 hw)]
  refine .inl ?_
  have k1 : compK P o.op = some (.p (.bin 2 .eql x (.c .nilS))) := k1
  have k1' : compP P o.op = some (.bin 2 .eql x (.c .nilS)) := by
    unfold compK at k1
    split at k1
    · rename_i e; cases k1; exact e
    · split at k1
      · cases k1
      · split at k1
        · split at k1
          · split at k1
            · simp at k1
            · cases k1
          · cases k1
        · simp at k1
        · cases k1
  obtain ⟨T, x0, y0, yt, ho, hT, hx0, hy0⟩ := compP_bin k1'
  have hr := compX_rd R hx0
  rw [hx] at hr
  have hr' := compX_rd R hy0
  simp only [X.ev, RdT, RdV, List.cons.injEq, and_true] at hr hr'
  obtain ⟨hp, hU, A, c, he, hc, hm, hne⟩ := hr
  have hs : ∃ e, P.underlying T = some (.slice e) := by
    unfold tbOf at hT
    split at hT
    · cases hT
    · exact ⟨_, by assumption⟩
    · cases hT
  obtain ⟨e, hs⟩ := hs
  have hrun : (execOp a.eval o).run P w = .ok (.value (.bool A.isNone)) w := by
    simp only [execOp, ho, he, hr', Sem.run_bind]
    have hg : (eqGuard .eql T x0 y0 (.slice A L.length c) (.slice none 0 0)).run P w = .ok () w := by rw [eqGuard_at_slice]; rfl
    have hq : (binOp .eql T (.slice A L.length c) (.slice none 0 0)).run P w = .ok (.bool A.isNone) w := by
      simp only [binOp]
      have h9 : ∀ d : Nat, (Op.equalIn (d + 1) T (.slice A L.length c) (.slice none 0 0)).run P w = .ok A.isNone w := fun d => by
        cases A <;> simp [Op.equalIn, run_underlying hs]
      simp [Op.equal, Op.maxDepth, h9 9999]
    simp only [hg, hq, Result.andThen_ok, Sem.run_pure]
  unfold Oper.wp
  rw [hrun, Oper.upon_value, show o.dst = d from k3]
  refine (h A.isNone fun hL => ?_).h (by rw [AS.put_n]; exact hn) E _ w (R.put (fun i hi => by rw [hn]; exact k4 i hi) (by simp only [RdT, RdV])) ops os' h2
  obtain ⟨b, o', xs, hA, _⟩ := hne (List.length_pos_iff.2 hL)
  rw [hA]; rfl
/-- An operation that makes memory or writes. -/
theorem evr_m {d : Option Nat} {gd : Option (Nat × Bool)} {m : MOp} {l : List RO} (hw : wants σ gd = some true) (hc : (aopM σ m).2.2) (hnn : (aopM σ m).2.1.n = σ.n) (h : EvR P cx N Q k l ((aopM σ m).2.1.put d (aopM σ m).1)) : EvR P cx N Q k (⟨d, gd, .m m⟩ :: l) σ := by
  refine ⟨fun hn E a w R ops os hcc => ?_⟩
  obtain ⟨o, os', rfl, h1, h2⟩ := compL_cons hcc
  obtain ⟨k1, k2, k3, k4⟩ := compR_some h1
  unfold wpList
  rw [if_pos (wants_ok R k2 hw)]
  refine .inl ?_
  have k1' : compM P o.op = some m := by
    have k1 : compK P o.op = some (.m m) := k1
    unfold compK at k1
    split at k1
    · cases k1
    · split at k1
      · rename_i e; cases k1; exact e
      · split at k1
        · split at k1
          · split at k1
            · simp at k1
            · cases k1
          · cases k1
        · simp at k1
        · cases k1
  obtain ⟨v, w', E', hr, _, hx, R'⟩ := opM_sound k1' R hc
  have R2 := R'.put (d := d) (fun i hi => by rw [hnn, hn]; exact k4 i hi) hx
  have hgo := h.h (by rw [AS.put_n, hnn]; exact hn) E' _ w' R2 ops os' h2
  unfold Oper.wp
  rcases hr with hr | ⟨hr, rfl⟩
  · rw [hr, Oper.upon_value, show o.dst = d from k3]
    exact hgo
  · rw [hr, Oper.upon_skip, show o.dst = d from k3]
    exact hgo
/-- What is told of arguments. -/
def Sub (x y : V) : Prop := ∀ S w v, RdT (argS S) w x v → RdT (argS S) w y v
theorem Sub.refl (x : V) : Sub x x := fun _ _ _ h => h
theorem Sub.nil (s : Nat) : Sub .nilS (.sl false s []) := by
  intro S w v h
  simp only [RdT, RdV] at h ⊢
  simp at h
  subst h
  exact ⟨rfl, by simp [Unif], none, 0, by simp, by simp, by simp, by simp⟩
def Subs : List V → List V → Prop
  | [], [] => True
  | x :: l, y :: m => Sub x y ∧ Subs l m
  | _, _ => False
theorem Subs.rd {S : Nat → Prop} {w : World} : ∀ {l m : List V} {vs : List Value}, Subs l m → RdTs (argS S) w l vs → RdTs (argS S) w m vs
  | [], [], vs, _, h => h
  | x :: l, y :: m, vs, hs, h => by
    simp only [RdTs] at h ⊢
    obtain ⟨v, ys, h1, h2, h3⟩ := h
    exact ⟨v, ys, h1, hs.1 S w v h2, hs.2.rd h3⟩
  | [], y :: m, vs, hs, h => hs.elim
  | x :: l, [], vs, hs, h => hs.elim
def noTup : List V → Prop
  | [] => True
  | .tup _ :: _ => False
  | _ :: l => noTup l
theorem compXs_rd {E : Env} {a : Act} {w : World} (R : Rel cx E σ a w) : ∀ {as : List Operand} {xs : List X}, compXs as = some xs → V.ressOk σ (xs.map (X.ev σ)) → noTup (xs.map (X.ev σ)) → RdTs (argE w) w (V.lows (V.ress σ [] (xs.map (X.ev σ)))) (as.map a.eval)
  | [], xs, h, _, _ => by simp only [compXs, Option.some.injEq] at h; subst h; simp [RdTs, V.ress, V.lows]
  | o :: as, xs, h, hr, ht => by
    simp only [compXs] at h
    split at h
    · rename_i y m h1 h2
      cases h
      simp only [List.map_cons, V.ress, V.lows, RdTs, V.ressOk] at hr ⊢
      have ht' : noTup (m.map (X.ev σ)) ∧ ∀ l, y.ev σ ≠ .tup l := by
        simp only [List.map_cons] at ht
        cases he : y.ev σ <;> rw [he] at ht <;> simp_all [noTup]
      exact ⟨_, _, rfl, argT R hr.1 ht'.2 (compX_rd R h1), compXs_rd R h2 hr.2 ht'.1⟩
    · cases h
/-- The blocks through which a call reads its arguments. -/
theorem call_args {E : Env} {a : Act} {w : World} (R : Rel cx E σ a w) {as : List Operand} {xs : List X} (hxs : compXs as = some xs) {ys : List V} (hok : V.ressOk σ (xs.map (X.ev σ))) (ht : noTup (xs.map (X.ev σ))) (hs : Subs (V.lows (V.ress σ [] (xs.map (X.ev σ)))) ys) :
    ∃ S : Nat → Prop, (∀ b, S b → b < w.heap.size) ∧ RdTs (argS S) w ys (as.map a.eval) ∧ (V.pures (xs.map (X.ev σ)) = true → ∀ b, S b → E.B b) := by
  cases hp : V.pures (xs.map (X.ev σ)) with
  | true =>
    refine ⟨E.B, R.lt, ?_, fun _ _ h => h⟩
    rw [V.ress_pure σ [] _ hp] at hs
    exact hs.rd (lowTs_rdS (E := E) (E0 := argS E.B) (fun _ h => h) hp (compXs_rd0 R hxs))
  | false => exact ⟨fun b => b < w.heap.size, fun _ h => h, hs.rd (compXs_rd R hxs hok ht), fun h => by cases h⟩
/-- When a result may be taken over: the arguments are nobody's to write, or the result is new. -/
def newOr (ws : List V) (x : V) (obs : List Ob) : Prop := V.pures ws = true ∨ (x.fresh = true ∧ ∀ o ∈ obs, o.v.fresh = true)
theorem Rel.backC {E : Env} {a : Act} {w w' : World} (R : Rel cx E σ a w) {S : Nat → Prop} {ws : List V} (hS : V.pures ws = true → ∀ b, S b → E.B b) {x : V} {obs : List Ob} (hq : newOr ws x obs) {v : Value} (h : ResOk w w' S x obs v) :
    ∃ E', Leads E w E' w' ∧ RdT E' w' (x.shift σ.ob.length) v ∧ Rel cx E' { σ with ob := σ.ob ++ obs.map (Ob.shift σ.ob.length) } a w' := by
  rcases hq with hq | hq
  · exact R.back (hS hq) h
  · exact R.back (S := fun _ => False) (fun _ h => h.elim) (h.fresh hq.1 hq.2)
theorem run_callv {f : FuncId} {fn : Func} (hf : P.funcs[f]? = some fn) (hb : fn.body.isSome = true) (hnm : (fn.name != "runtime.NumGoroutine") = true) (args : Array Value) (w : World) : (callFunc f args).run P w = .ok (.enter f args) w := by
  have hb' : fn.body.isNone = false := by cases h : fn.body <;> simp_all
  have hn : (fn.name == "runtime.NumGoroutine") = false := by simpa using hnm
  simp only [callFunc, Sem.run_bind, run_program, Result.andThen_ok, hf, hn, hb', Bool.false_eq_true, if_false, Sem.run_pure]
/-- A call. -/
theorem evr_call {d : Option Nat} {gd : Option (Nat × Bool)} {f : FuncId} {xs : List X} {l : List RO} (ys : List V) (R0 : V → List Ob → Prop) (hF : Fnc P f ys R0) (hw : wants σ gd = some true) (hok : V.ressOk σ (xs.map (X.ev σ))) (ht : noTup (xs.map (X.ev σ)))
    (hs : Subs (V.lows (V.ress σ [] (xs.map (X.ev σ)))) ys) (hq : ∀ x obs, R0 x obs → newOr (xs.map (X.ev σ)) x obs) (h : ∀ x obs, R0 x obs → EvR P cx N Q k l (AS.put { σ with ob := σ.ob ++ obs.map (Ob.shift σ.ob.length) } d (x.shift σ.ob.length))) : EvR P cx N Q k (⟨d, gd, .call f xs⟩ :: l) σ := by
  refine ⟨fun hn E a w R ops os hcc => ?_⟩
  obtain ⟨o, os', rfl, h1, h2⟩ := compL_cons hcc
  obtain ⟨k1, k2, k3, k4⟩ := compR_some h1
  unfold wpList
  rw [if_pos (wants_ok R k2 hw)]
  refine .inl ?_
  have k1 : compK P o.op = some (.call f xs) := k1
  unfold compK at k1
  split at k1
  · cases k1
  split at k1
  · cases k1
  split at k1
  · rename_i f' as ats e1
    split at k1
    · rename_i fn hfn
      split at k1
      · rename_i hcnd
        simp only [Bool.and_eq_true] at hcnd
        simp only [Option.map_eq_some_iff, RK.call.injEq] at k1
        obtain ⟨ys', hys, rfl, rfl⟩ := k1
        have hr : (execOp a.eval o).run P w = .ok (.enter f' (as.map a.eval)) w := by
          simp only [execOp, e1, resolve, Act.eval, Deferred.ofValue, Sem.run_bind, Sem.run_pure, Result.andThen_ok, invoke]
          rw [run_callv hfn hcnd.1 hcnd.2]
          simp
        unfold Oper.wp
        rw [hr, Oper.upon_enter]
        obtain ⟨S, hS, hargs, hSp⟩ := call_args R hys hok ht hs
        have hC := hF w S _ hS hargs
        have e2 : (as.toList.map a.eval).toArray = as.map a.eval := by rw [← Array.toList_map, Array.toArray_toList]
        rw [e2] at hC
        refine hC.mono ?_
        rintro e w' ⟨x, obs, v, hx, rfl, hres⟩
        obtain ⟨E', _, hx', R'⟩ := R.backC hSp (hq x obs hx) hres
        show wpList P ops (onX P cx N Q k) os' (a.put o.dst v) w'
        rw [show o.dst = d from k3]
        exact (h x obs hx).h (by rw [AS.put_n]; exact hn) E' _ w' (R'.put (fun i hi => by show i < σ.n; rw [hn]; exact k4 i hi) hx') ops os' h2
      · cases k1
    · cases k1
  · simp at k1
  · cases k1
/-! ### Calls of function values -/
/-- Which function a value is, and what it has captured. -/
def calleeV : V → Option (FuncId × List V)
  | .fn f => some (f, [])
  | .clo f cs => some (f, cs)
  | _ => none
def okF (P : Program) (f : FuncId) : Bool := match P.funcs[f]? with
  | some fn => fn.body.isSome && fn.name != "runtime.NumGoroutine"
  | none => false
theorem RdTs.app {E : Env} {w : World} : ∀ {l m : List V} {vs us : List Value}, RdTs E w l vs → RdTs E w m us → RdTs E w (l ++ m) (vs ++ us)
  | [], m, vs, us, h, k => by simp only [RdTs] at h; subst h; exact k
  | x :: l, m, vs, us, h, k => by
    simp only [RdTs, List.cons_append] at h ⊢
    obtain ⟨v, ys, rfl, h1, h2⟩ := h
    exact ⟨v, ys ++ us, rfl, h1, h2.app k⟩
theorem noTup_to : ∀ {l : List V}, noTup l → V.noTups l = true
  | [], _ => rfl
  | x :: l, h => by cases x <;> simp only [noTup, V.noTups] at h ⊢ <;> exact noTup_to h
theorem callee_rd {E : Env} {w : World} {x : V} {v : Value} {f : FuncId} {cs : List V} (h : calleeV x = some (f, cs)) (hr : RdT E w x v) : ∃ us, v = .func (.func f) #[] us.toArray ∧ RdTs E w cs us := by
  unfold calleeV at h
  split at h
  · obtain ⟨rfl, rfl⟩ := Prod.mk.inj (Option.some.inj h)
    simp only [RdT, RdV, List.cons.injEq, and_true] at hr
    exact ⟨[], by simpa using hr, by simp only [RdTs]⟩
  · obtain ⟨rfl, rfl⟩ := Prod.mk.inj (Option.some.inj h)
    simpa only [RdT] using hr
  · cases h
theorem call_argsV {E : Env} {a : Act} {w : World} (R : Rel cx E σ a w) {ws : List V} {vs : List Value} (hr : RdTs E w ws vs) {ys : List V} (hok : V.ressOk σ ws) (ht : noTup ws) (hs : Subs (V.lows (V.ress σ [] ws)) ys) :
    ∃ S : Nat → Prop, (∀ b, S b → b < w.heap.size) ∧ RdTs (argS S) w ys vs ∧ (V.pures ws = true → ∀ b, S b → E.B b) := by
  cases hp : V.pures ws with
  | true =>
    refine ⟨E.B, R.lt, ?_, fun _ _ h => h⟩
    rw [V.ress_pure σ [] _ hp] at hs
    exact hs.rd (lowTs_rdS (E := E) (E0 := argS E.B) (fun _ h => h) hp hr)
  | false => exact ⟨fun b => b < w.heap.size, fun _ h => h, hs.rd (argTs R hok (noTup_to ht) hr), fun h => by cases h⟩
theorem compK_callv {o : Oper} {x : X} {xs : List X} (h : compK P o.op = some (.callv x xs)) : ∃ i as ats, o.op = .call { callee := .value (.tmp i), args := as, argTypes := ats } ∧ x = .t i ∧ compXs as.toList = some xs := by
  unfold compK at h
  split at h
  · cases h
  split at h
  · cases h
  split at h
  · split at h
    · split at h
      · simp at h
      · cases h
    · cases h
  · rename_i i as ats e1
    simp only [Option.map_eq_some_iff, RK.callv.injEq] at h
    obtain ⟨ys, h1, h2, h3⟩ := h
    subst h3
    exact ⟨i, as, ats, e1, h2.symm, h1⟩
  · cases h
/-- A call of a value. -/
theorem evr_callv {d : Option Nat} {gd : Option (Nat × Bool)} {x0 : X} {xs : List X} {l : List RO} {f : FuncId} {cs : List V} (ys : List V) (R0 : V → List Ob → Prop) (hF : Fnc P f ys R0) (hf : okF P f = true) (hv : calleeV (x0.ev σ) = some (f, cs)) (hw : wants σ gd = some true) (hok : V.ressOk σ (xs.map (X.ev σ) ++ cs)) (ht : noTup (xs.map (X.ev σ) ++ cs))
    (hs : Subs (V.lows (V.ress σ [] (xs.map (X.ev σ) ++ cs))) ys) (hq : ∀ x obs, R0 x obs → newOr (xs.map (X.ev σ) ++ cs) x obs) (h : ∀ x obs, R0 x obs → EvR P cx N Q k l (AS.put { σ with ob := σ.ob ++ obs.map (Ob.shift σ.ob.length) } d (x.shift σ.ob.length))) : EvR P cx N Q k (⟨d, gd, .callv x0 xs⟩ :: l) σ := by
  refine ⟨fun hn E a w R ops os hcc => ?_⟩
  obtain ⟨o, os', rfl, h1, h2⟩ := compL_cons hcc
  obtain ⟨k1, k2, k3, k4⟩ := compR_some h1
  unfold wpList
  rw [if_pos (wants_ok R k2 hw)]
  refine .inl ?_
  obtain ⟨i, as, ats, e1, rfl, hxs⟩ := compK_callv (o := o) k1
  obtain ⟨us, hu, hus⟩ := callee_rd hv (R.tm i)
  unfold okF at hf
  split at hf
  · rename_i fn hfn
    simp only [Bool.and_eq_true] at hf
    have hr : (execOp a.eval o).run P w = .ok (.enter f (as.map a.eval ++ us.toArray)) w := by
      simp only [execOp, e1, resolve, Act.eval, hu, Deferred.ofValue, Sem.run_bind, Sem.run_pure, Result.andThen_ok, invoke]
      rw [run_callv hfn hf.1 hf.2]
      simp
    unfold Oper.wp
    rw [hr, Oper.upon_enter]
    obtain ⟨S, hS, hargs, hSp⟩ := call_argsV R ((compXs_rd0 R hxs).app hus) hok ht hs
    have hC := hF w S _ hS hargs
    have e2 : (as.toList.map a.eval ++ us).toArray = as.map a.eval ++ us.toArray := by
      rw [← Array.toList_map]
      simp
    rw [e2] at hC
    refine hC.mono ?_
    rintro e w' ⟨x, obs, v, hx, rfl, hres⟩
    obtain ⟨E', _, hx', R'⟩ := R.backC hSp (hq x obs hx) hres
    show wpList P ops (onX P cx N Q k) os' (a.put o.dst v) w'
    rw [show o.dst = d from k3]
    exact (h x obs hx).h (by rw [AS.put_n]; exact hn) E' _ w' (R'.put (fun i hi => by show i < σ.n; rw [hn]; exact k4 i hi) hx') ops os' h2
  · cases hf
end
end Rdn.Dp
