/- The operations that change nothing: what they yield, told on trees. Over any program. -/
import Derived.Test.YtkfpcgkmemfdaaaDs
import Derived.Deep.MidRow
import Derived.Test.YtkfpcgkmemfdaaaStr
namespace Rdn.Dp
open Go Go.RowKit Rdn
set_option linter.unusedVariables false

inductive X where
  | t (i : Nat)
  | c (x : V)
def X.ev (σ : AS) : X → V
  | .t i => slotV σ.t i
  | .c x => x
def constV : Value → Option V
  | .int k n => if k.min ≤ n ∧ n ≤ k.max then some (.int k n) else none
  | .bool b => some (.bool b)
  | .string s => some (.str s)
  | .slice none 0 0 => some .nilS
  | .pointer none => some .junk
  | _ => none
def compX : Operand → Option X
  | .tmp i => some (.t i)
  | .const v => (constV v).map .c
  | .func f => some (.c (.fn f))
  | .global _ => none
def V.isAgg : V → Bool
  | .agg _ => true
  | .arr _ _ => true
  | _ => false
def agD : TypeDesc → Bool
  | .struct _ => true
  | .array _ _ => true
  | _ => false

/-- Operations that change nothing. ag: of a struct or an array; n, s: cells; fo: a field's offset. -/
inductive POp where
  | mov (x : X)
  | bin (tb : Nat) (op : BinOp) (x y : X)
  | un (op : UnOp) (x : X)
  | conv (k : IntKind) (x : X)
  | nilc (x : X)
  | load (ag : Bool) (n : Nat) (x : X)
  | fieldA (fo j : Nat) (x : X)
  | field (ag : Bool) (n fo j : Nat) (x : X)
  | idxA (s : Nat) (x i : X)
  | idxAA (m s : Nat) (x i : X)
  | idx (ag : Bool) (m n : Nat) (x i : X)
  | ext (x : X) (j : Nat)
  | len (x : X)
  | lenA (n : Nat)
  | mx (x y : X)
  | mn (x y : X)
  | pick (c x y : X)
  | b2s (x : X)
  | eqs (neg : Bool) (ks : List (Option IntKind)) (x y : X)
  | lenS (x : X)
  | idxS (x i : X)
  | mkf (f : FuncId) (xs : List X)
  | bad

def bad : V × Prop := (.junk, False)
/-- Bit by bit. -/
def band (k : IntKind) (a b : Int) : Int := k.wrap (BitVec.ofInt k.bits a &&& BitVec.ofInt k.bits b).toNat
def bor (k : IntKind) (a b : Int) : Int := k.wrap (BitVec.ofInt k.bits a ||| BitVec.ofInt k.bits b).toNat
def bxor (k : IntKind) (a b : Int) : Int := k.wrap (BitVec.ofInt k.bits a ^^^ BitVec.ofInt k.bits b).toNat
def bandn (k : IntKind) (a b : Int) : Int := k.wrap (BitVec.ofInt k.bits a &&& ~~~BitVec.ofInt k.bits b).toNat
def binI (op : BinOp) (k : IntKind) (a : Int) (k' : IntKind) (b : Int) : V × Prop :=
  match op with
  | .shl => (.int k (k.wrap (a * 2 ^ min b.toNat k.bits)), 0 ≤ b)
  | .shr => (.int k (a.fdiv (2 ^ min b.toNat k.bits)), 0 ≤ b)
  | .add => (.int k (k.wrap (a + b)), k = k')
  | .sub => (.int k (k.wrap (a - b)), k = k')
  | .mul => (.int k (k.wrap (a * b)), k = k')
  | .quo => (.int k (k.wrap (a.tdiv b)), k = k' ∧ b ≠ 0)
  | .rem => (.int k (a.tmod b), k = k' ∧ b ≠ 0)
  | .and => (.int k (band k a b), k = k')
  | .or => (.int k (bor k a b), k = k')
  | .xor => (.int k (bxor k a b), k = k')
  | .andNot => (.int k (bandn k a b), k = k')
  | .eql => (.bool (a == b), k = k')
  | .neq => (.bool (a != b), k = k')
  | .lss => (.bool (decide (a < b)), k = k')
  | .leq => (.bool (decide (a ≤ b)), k = k')
  | .gtr => (.bool (decide (a > b)), k = k')
  | .geq => (.bool (decide (a ≥ b)), k = k')
/-- tb: 1 at bools, 2 at slices. -/
def binV (tb : Nat) (op : BinOp) : V → V → V × Prop
  | .int k a, .int k' b => binI op k a k' b
  | .bool a, .bool b => match op with
    | .eql => (.bool (a == b), tb = 1)
    | .neq => (.bool (!(a == b)), tb = 1)
    | _ => bad
  | .str a, .str b => match op with
    | .eql => (.bool (a.toList == b.toList), True)
    | .neq => (.bool (!(a.toList == b.toList)), True)
    | _ => bad
  | _, _ => bad
def unV (op : UnOp) : V → V × Prop
  | .int k n => match op with
    | .neg => (.int k (k.wrap (0 - n)), True)
    | .xor => (.int k (k.wrap (BitVec.ofInt k.bits (if k.signed then -1 else k.max) ^^^ BitVec.ofInt k.bits n).toNat), True)
    | _ => bad
  | .bool b => match op with
    | .not => (.bool !b, True)
    | _ => bad
  | _ => bad
/-- The object r as it stands at growth g. -/
def obV (σ : AS) (r g : Nat) : V × Prop := match σ.ob[r]? with
  | some o => (o.v, o.g = g)
  | none => bad
/-- The row r as it stands at growth g: the cells of an element, the elements. -/
def rowV (σ : AS) (r g : Nat) : Nat × List V × Prop := match σ.ob[r]? with
  | some ⟨.row _, _, g', .arr s l⟩ => (s, l, g' = g)
  | _ => (0, [], False)
/-- As rowV, also of rows that hold rows. -/
def rowW (σ : AS) (r g : Nat) : Nat × List V × Prop := match σ.ob[r]? with
  | some ⟨.row _, _, g', .arr s l⟩ => (s, l, g' = g)
  | some ⟨.rows _, _, g', .arr s l⟩ => (s, l, g' = g)
  | _ => (0, [], False)
def loadV (ag : Bool) (n : Nat) (σ : AS) : V → V × Prop
  | .rp v => (v, v.size = n ∧ v.isAgg = ag)
  | .ptr r g p o => ((nav 0 (obV σ r g).1 p).1, (obV σ r g).2 ∧ (nav 0 (obV σ r g).1 p).2.2 ∧ (nav 0 (obV σ r g).1 p).2.1 = o ∧ (nav 0 (obV σ r g).1 p).1.size = n ∧ (nav 0 (obV σ r g).1 p).1.isAgg = ag)
  | _ => bad
def fieldAV (fo j : Nat) (σ : AS) : V → V × Prop
  | .rp (.agg l) => (.rp (l.getD j .junk), j < l.length ∧ V.sizes (l.take j) = fo)
  | .ptr r g p o => (.ptr r g (p ++ [j]) (o + fo), (obV σ r g).2)
  | _ => bad
def fieldV (ag : Bool) (n fo j : Nat) : V → V × Prop
  | .agg l => (l.getD j .junk, j < l.length ∧ V.sizes (l.take j) = fo ∧ (l.getD j .junk).size = n ∧ (l.getD j .junk).isAgg = ag)
  | _ => bad
def idxAV (s : Nat) (σ : AS) (i : Int) : V → V × Prop
  | .sl t s' l => (.rp (l.getD i.toNat .junk), s' = s ∧ 0 ≤ i ∧ i < l.length)
  | .own r g => (.ptr r g [i.toNat] (i.toNat * s), (rowW σ r g).2.2 ∧ (rowW σ r g).1 = s ∧ 0 ≤ i ∧ i < (rowW σ r g).2.1.length)
  | _ => bad
def idxAAV (m s : Nat) (σ : AS) (i : Int) : V → V × Prop
  | .ptr r g p o => (.ptr r g (p ++ [i.toNat]) (o + i.toNat * s), (obV σ r g).2 ∧ 0 ≤ i ∧ i < m)
  | .rp (.arr s' l) => (.rp (l.getD i.toNat .junk), s' = s ∧ l.length = m ∧ 0 ≤ i ∧ i < m)
  | _ => bad
def idxV (ag : Bool) (m n : Nat) (i : Int) : V → V × Prop
  | .arr s l => (l.getD i.toNat .junk, s = n ∧ l.length = m ∧ 0 ≤ i ∧ i < m ∧ (l.getD i.toNat .junk).isAgg = ag)
  | _ => bad
def lenV (σ : AS) : V → V × Prop
  | .sl t s l => (.int .i64 l.length, True)
  | .nilS => (.int .i64 0, True)
  | .own r g => (.int .i64 (rowW σ r g).2.1.length, (rowW σ r g).2.2)
  | _ => bad
def onInt (f : Int → V × Prop) : V → V × Prop
  | .int _ i => f i
  | _ => bad
def nilcV (σ : AS) : V → V × Prop
  | .ptr r g p o => (.ptr r g p o, (obV σ r g).2)
  | .rp v => (.rp v, True)
  | _ => bad
def extV (j : Nat) : V → V × Prop
  | .tup l => (l.getD j .junk, j < l.length)
  | _ => bad
def mxV : V → V → V × Prop
  | .int k a, .int k' b => (.int k (if b > a then b else a), k = k')
  | _, _ => bad
def mnV : V → V → V × Prop
  | .int k a, .int k' b => (.int k (if b < a then b else a), k = k')
  | _, _ => bad
def pickV : V → V → V → V × Prop
  | .bool true, a, _ => (a, True)
  | .bool false, _, b => (b, True)
  | _, _, _ => bad
def numV : V → Int
  | .int _ n => n
  | _ => 0
def isU8 : V → Bool
  | .int .u8 _ => true
  | _ => false
def strV : V → V × Prop
  | .sl t s l => (.str (strOfNums (l.map numV)), s = 1 ∧ l.all isU8 = true)
  | .nilS => (.str (strOfNums []), True)
  | _ => bad
/-- Equality of structs of numbers and bools; ks: what each field is. -/
def eqFl : List (Option IntKind) → List V → List V → Bool × Prop
  | [], [], [] => (true, True)
  | some _ :: ks, .int k m :: a, .int k' n :: b => (m == n && (eqFl ks a b).1, k = k' ∧ (eqFl ks a b).2)
  | none :: ks, .bool m :: a, .bool n :: b => (m == n && (eqFl ks a b).1, (eqFl ks a b).2)
  | _, _, _ => (false, False)
def eqsV (neg : Bool) (ks : List (Option IntKind)) : V → V → V × Prop
  | .agg a, .agg b => (.bool (if neg = true then !(eqFl ks a b).1 else (eqFl ks a b).1), (eqFl ks a b).2)
  | _, _ => bad
def lenSV : V → V × Prop
  | .str s => (.int .i64 s.size, inK .i64 (s.size : Int))
  | _ => bad
def idxSV (n : Int) : V → V × Prop
  | .str s => (.int .u8 (s[n.toNat]?.getD 0).toNat, 0 ≤ n ∧ n < s.size)
  | _ => bad
def aopP (σ : AS) : POp → V × Prop
  | .mov x => (x.ev σ, True)
  | .bin tb op x y => binV tb op (x.ev σ) (y.ev σ)
  | .un op x => unV op (x.ev σ)
  | .conv k x => onInt (fun n => (.int k (k.wrap n), True)) (x.ev σ)
  | .nilc x => nilcV σ (x.ev σ)
  | .load ag n x => loadV ag n σ (x.ev σ)
  | .fieldA fo j x => fieldAV fo j σ (x.ev σ)
  | .field ag n fo j x => fieldV ag n fo j (x.ev σ)
  | .idxA s x i => onInt (fun n => idxAV s σ n (x.ev σ)) (i.ev σ)
  | .idxAA m s x i => onInt (fun n => idxAAV m s σ n (x.ev σ)) (i.ev σ)
  | .idx ag m n x i => onInt (fun k => idxV ag m n k (x.ev σ)) (i.ev σ)
  | .ext x j => extV j (x.ev σ)
  | .len x => lenV σ (x.ev σ)
  | .lenA n => (.int .i64 n, inK .i64 (n : Int))
  | .mx x y => mxV (x.ev σ) (y.ev σ)
  | .mn x y => mnV (x.ev σ) (y.ev σ)
  | .pick c x y => pickV (c.ev σ) (x.ev σ) (y.ev σ)
  | .b2s x => strV (x.ev σ)
  | .eqs neg ks x y => eqsV neg ks (x.ev σ) (y.ev σ)
  | .lenS x => lenSV (x.ev σ)
  | .idxS x i => onInt (fun k => idxSV k (x.ev σ)) (i.ev σ)
  | .mkf f xs => (.clo f (xs.map (X.ev σ)), True)
  | .bad => bad

def tbOf (P : Program) (T : TypeId) : Nat := match P.underlying T with
  | some .bool => 1
  | some (.slice _) => 2
  | _ => 0
def flatFs (P : Program) : Nat → List Field → Option (List (Option IntKind))
  | _, [] => some []
  | i, f :: fs => if f.name ≠ "_" ∧ f.offset = i then match P.underlying f.type, flatFs P (i + 1) fs with
      | some (.int k), some l => some (some k :: l)
      | some .bool, some l => some (none :: l)
      | _, _ => none
    else none
def flatKs (P : Program) (T : TypeId) : Option (List (Option IntKind)) :=
  match P.underlying T with
  | some (.struct fs) => if P.eqGuardType P.depth T = false ∧ P.stoodInHeld T = false then flatFs P 0 fs.toList else none
  | _ => none
def eqOp (P : Program) (T : TypeId) : BinOp → Option (Bool × List (Option IntKind))
  | .eql => (flatKs P T).map fun l => (false, l)
  | .neq => (flatKs P T).map fun l => (true, l)
  | _ => none
def compXs : List Operand → Option (List X)
  | [] => some []
  | x :: l => match compX x, compXs l with
    | some y, some m => some (y :: m)
    | _, _ => none
def compP (P : Program) : Op → Option POp
  | .move x => (compX x).map .mov
  | .assign x => (compX x).map .mov
  | .binOp op T x y _ => match eqOp P T op with
    | some (neg, ks) => (compX x).bind fun x => (compX y).map fun y => .eqs neg ks x y
    | none => (compX x).bind fun x => (compX y).map fun y => .bin (tbOf P T) op x y
  | .unOp op _ x => (compX x).map (.un op)
  | .pick c x y => (compX c).bind fun c => (compX x).bind fun x => (compX y).map fun y => .pick c x y
  | .convert s d x => match P.underlying s, P.underlying d with
    | some _, some (.int k) => (compX x).map (.conv k)
    | some (.slice e), some .string => match P.underlying e with
      | some (.int .u8) => (compX x).map .b2s
      | _ => none
    | _, _ => none
  | .nilCheck x => (compX x).map .nilc
  | .load T x => match P.underlying T, P.info? T with
    | some d, some i => (compX x).map (.load (agD d) i.size)
    | _, _ => none
  | .fieldAddr T x j => match P.underlying T with
    | some (.struct fs) => match fs[j]? with
      | some f => match P.info? f.type with
        | some i => if i.size = 0 then none else (compX x).map (.fieldA f.offset j)
        | none => none
      | none => none
    | _ => none
  | .field T x j => match P.underlying T with
    | some (.struct fs) => match fs[j]? with
      | some f => match P.underlying f.type, P.info? f.type with
        | some d, some i => (compX x).map (.field (agD d) i.size f.offset j)
        | _, _ => none
      | none => none
    | _ => none
  | .indexAddr T x i => match P.underlying T with
    | some (.slice e) => match P.info? e with
      | some f => (compX x).bind fun x => (compX i).map fun i => .idxA f.size x i
      | none => none
    | some (.array m e) => match P.info? e with
      | some f => (compX x).bind fun x => (compX i).map fun i => .idxAA m f.size x i
      | none => none
    | _ => none
  | .index T x i => match P.underlying T with
    | some (.array m e) => match P.underlying e, P.info? e with
      | some d, some f => (compX x).bind fun x => (compX i).map fun i => .idx (agD d) m f.size x i
      | _, _ => none
    | some .string => (compX x).bind fun x => (compX i).map fun i => .idxS x i
    | _ => none
  | .extract x j => (compX x).map (.ext · j)
  | .call { callee := .builtin b, args := as, argTypes := ts } => match b, as.toList, ts.toList with
    | .len, [x], [t] => match P.underlying t with
      | some (.slice _) => (compX x).map .len
      | some .string => (compX x).map .lenS
      | some (.array n _) => some (.lenA n)
      | some (.pointer a) => match P.underlying a with
        | some (.array n _) => some (.lenA n)
        | _ => none
      | _ => none
    | .max, [x, y], _ => (compX x).bind fun x => (compX y).map fun y => .mx x y
    | .min, [x, y], _ => (compX x).bind fun x => (compX y).map fun y => .mn x y
    | _, _, _ => none
  | .makeFunc (.func f) first captured => if first = #[] then (compXs captured.toList).map (.mkf f) else none
  | _ => none

/-! ### Numbers -/
theorem wrap_inK (k : IntKind) (n : Int) : inK k (k.wrap n) := by
  unfold inK
  cases k <;> simp [IntKind.wrap, IntKind.min, IntKind.max, IntKind.signed, IntKind.bits] <;> (try split) <;> omega
theorem tmod_inK {k : IntKind} {a b : Int} (h : inK k a) : inK k (a.tmod b) := by
  have le : ∀ x : Int, 0 ≤ x → x.tmod b ≤ x := by
    intro x hx
    obtain ⟨n, rfl⟩ := Int.eq_ofNat_of_zero_le hx
    rw [Int.tmod_eq_emod_of_nonneg hx]
    rcases Int.eq_nat_or_neg b with ⟨m, rfl | rfl⟩
    · exact_mod_cast Nat.mod_le n m
    · rw [Int.emod_neg]; exact_mod_cast Nat.mod_le n m
  have key : (0 ≤ a → 0 ≤ a.tmod b ∧ a.tmod b ≤ a) ∧ (a ≤ 0 → a ≤ a.tmod b ∧ a.tmod b ≤ 0) := by
    refine ⟨fun ha => ⟨Int.tmod_nonneg b ha, le a ha⟩, fun ha => ?_⟩
    have e : a.tmod b = - (-a).tmod b := by rw [Int.neg_tmod]; omega
    have := Int.tmod_nonneg b (a := -a) (by omega)
    have := le (-a) (by omega)
    omega
  obtain ⟨h1, h2⟩ := h
  have hm : k.min ≤ 0 := by cases k <;> simp [IntKind.min, IntKind.signed, IntKind.bits]
  have hM : 0 ≤ k.max := by cases k <;> simp [IntKind.max, IntKind.signed, IntKind.bits]
  rcases Int.le_total 0 a with ha | ha
  · have := key.1 ha; exact ⟨by omega, by omega⟩
  · have := key.2 ha; exact ⟨by omega, by omega⟩
theorem fdiv_inK {k : IntKind} {a : Int} (m : Nat) (h : inK k a) : inK k (a.fdiv (2 ^ m)) := by
  obtain ⟨h1, h2⟩ := h
  have hm : k.min ≤ 0 := by cases k <;> simp [IntKind.min, IntKind.signed, IntKind.bits]
  have hM : 0 ≤ k.max := by cases k <;> simp [IntKind.max, IntKind.signed, IntKind.bits]
  have hp : (1 : Int) ≤ 2 ^ m := by have := Int.pow_pos (n := 2) (m := m) (by decide); omega
  rw [Int.fdiv_eq_ediv_of_nonneg _ (by omega)]
  have hu : a / 2 ^ m ≤ k.max := by
    rcases Int.le_total 0 a with ha | ha
    · have := Int.ediv_le_self (2 ^ m) ha; omega
    · have : a / 2 ^ m ≤ 0 := by
        have := Int.ediv_le_ediv (show (0 : Int) < 2 ^ m by omega) ha
        simpa using this
      omega
  have hl : k.min ≤ a / 2 ^ m := by
    refine (Int.le_ediv_iff_mul_le (by omega)).2 ?_
    have : k.min * 2 ^ m ≤ k.min * 1 := Int.mul_le_mul_of_nonpos_left hm hp
    omega
  exact ⟨hl, hu⟩

section
variable {P : Program} {cx : Cx} {E : Env} {σ : AS} {a : Act} {w : World}
theorem constV_rd {v : Value} {x : V} (h : constV v = some x) : RdT E w x v := by
  unfold constV at h
  split at h
  · split at h
    · rename_i k n hk
      cases h
      simp only [RdT, RdV]
      exact ⟨trivial, hk⟩
    · cases h
  all_goals first
    | (cases h; simp [RdT, RdV]; done)
    | cases h
theorem compX_rd (R : Rel cx E σ a w) {o : Operand} {x : X} (h : compX o = some x) : RdT E w (x.ev σ) (a.eval o) := by
  cases o with
  | tmp i => simp only [compX, Option.some.injEq] at h; subst h; exact R.tm i
  | const v =>
    simp only [compX, Option.map_eq_some_iff] at h
    obtain ⟨y, h1, rfl⟩ := h
    exact constV_rd h1
  | func f => simp only [compX, Option.some.injEq] at h; subst h; simp [X.ev, RdT, RdV, Act.eval]
  | global g => cases h
theorem compXs_rd0 {E : Env} {a : Act} {w : World} (R : Rel cx E σ a w) : ∀ {as : List Operand} {xs : List X}, compXs as = some xs → RdTs E w (xs.map (X.ev σ)) (as.map a.eval)
  | [], xs, h => by simp only [compXs, Option.some.injEq] at h; subst h; simp [RdTs]
  | o :: as, xs, h => by
    simp only [compXs] at h
    split at h
    · rename_i y m h1 h2
      cases h
      simp only [List.map_cons, RdTs]
      exact ⟨_, _, rfl, compX_rd R h1, compXs_rd0 R h2⟩
    · cases h
/-- What stands in cells, as a slot has it. -/
theorem RdV.toT : ∀ {x : V} {cs : List Value}, RdV E w x cs → (x.isAgg = true ∧ RdT E w x (.agg cs.toArray)) ∨ (x.isAgg = false ∧ ∃ v, cs = [v] ∧ RdT E w x v)
  | .int k n, cs, h => .inr ⟨rfl, by have h' := h; simp only [RdV] at h'; exact ⟨_, h'.1, by simp only [RdT]; rw [← h'.1]; exact h⟩⟩
  | .bool k, cs, h => .inr ⟨rfl, by have h' := h; simp only [RdV] at h'; exact ⟨_, h', by simp only [RdT]; rw [← h']; exact h⟩⟩
  | .str k, cs, h => .inr ⟨rfl, by have h' := h; simp only [RdV] at h'; exact ⟨_, h', by simp only [RdT]; rw [← h']; exact h⟩⟩
  | .nilS, cs, h => .inr ⟨rfl, by have h' := h; simp only [RdV] at h'; exact ⟨_, h', by simp only [RdT]; rw [← h']; exact h⟩⟩
  | .agg l, cs, h => .inl ⟨rfl, by simp only [RdT]; exact ⟨cs, rfl, h⟩⟩
  | .arr s l, cs, h => .inl ⟨rfl, by simp only [RdT]; exact ⟨cs, rfl, h⟩⟩
  | .sl t s l, cs, h => .inr ⟨rfl, by have h' := h; simp only [RdV] at h'; obtain ⟨_, _, A, c, h1, _⟩ := h'; exact ⟨_, h1, by simp only [RdT]; rw [← h1]; exact h⟩⟩
  | .own r g, cs, h => .inr ⟨rfl, by have h' := h; simp only [RdV] at h'; obtain ⟨v, h1, _⟩ := h'; exact ⟨_, h1, by simp only [RdT]; rw [← h1]; exact h⟩⟩
  | .ptr r g p o, cs, h => .inr ⟨rfl, by have h' := h; simp only [RdV] at h'; obtain ⟨v, h1, _⟩ := h'; exact ⟨_, h1, by simp only [RdT]; rw [← h1]; exact h⟩⟩
  | .rp x, cs, h => .inr ⟨rfl, by have h' := h; simp only [RdV] at h'; obtain ⟨_, b, o, xs, h1, _⟩ := h'; exact ⟨_, h1, by simp only [RdT]; rw [← h1]; exact h⟩⟩
  | .fn f, cs, h => .inr ⟨rfl, by have h' := h; simp only [RdV] at h'; exact ⟨_, h', by simp only [RdT]; rw [← h']; exact h⟩⟩
  | .tup l, cs, h => by simp only [RdV] at h
  | .clo f l, cs, h => by simp only [RdV] at h
  | .junk, cs, h => by simp only [RdV] at h
/-- And back. -/
theorem RdT.toV : ∀ {x : V} {v : Value}, RdT E w x v → x.size ≠ 0 ∨ x.isAgg = true → RdV E w x v.cells.toList
  | .int k n, v, h, _ => by simp only [RdT] at h; have h' := h; simp only [RdV] at h'; simp at h'; obtain ⟨rfl, _⟩ := h'; exact h
  | .bool k, v, h, _ => by simp only [RdT] at h; have h' := h; simp only [RdV] at h'; simp at h'; subst h'; exact h
  | .str k, v, h, _ => by simp only [RdT] at h; have h' := h; simp only [RdV] at h'; simp at h'; subst h'; exact h
  | .nilS, v, h, _ => by simp only [RdT] at h; have h' := h; simp only [RdV] at h'; simp at h'; subst h'; exact h
  | .agg l, v, h, _ => by simp only [RdT] at h; obtain ⟨cs, rfl, h1⟩ := h; exact h1
  | .arr s l, v, h, _ => by simp only [RdT] at h; obtain ⟨cs, rfl, h1⟩ := h; exact h1
  | .sl t s l, v, h, _ => by simp only [RdT] at h; have h' := h; simp only [RdV] at h'; obtain ⟨_, _, A, c, h1, _⟩ := h'; simp at h1; subst h1; exact h
  | .own r g, v, h, _ => by
    simp only [RdT] at h; have h' := h; simp only [RdV] at h'; obtain ⟨u, h1, h2, _⟩ := h'; simp at h1; subst h1
    have : v.cells.toList = [v] := by cases v <;> simp_all [Value.cells, Value.oneCell']
    rw [this]; exact h
  | .ptr r g p o, v, h, _ => by
    simp only [RdT] at h; have h' := h; simp only [RdV] at h'; obtain ⟨u, h1, h2, _⟩ := h'; simp at h1; subst h1
    have : v.cells.toList = [v] := by cases v <;> simp_all [Value.cells, Value.oneCell']
    rw [this]; exact h
  | .rp x, v, h, _ => by simp only [RdT] at h; have h' := h; simp only [RdV] at h'; obtain ⟨_, b, o, xs, h1, _⟩ := h'; simp at h1; subst h1; exact h
  | .fn f, v, h, _ => by simp only [RdT] at h; have h' := h; simp only [RdV] at h'; simp at h'; subst h'; exact h
  | .tup l, v, h, hs => by simp [V.size, V.isAgg] at hs
  | .clo f l, v, h, hs => by simp [V.size, V.isAgg] at hs
  | .junk, v, h, hs => by simp [V.size, V.isAgg] at hs
theorem rd_int {k : IntKind} {n : Int} {v : Value} (h : RdT E w (.int k n) v) : v = .int k n ∧ inK k n := by
  simp only [RdT, RdV] at h; simpa using h
theorem rd_mk {k : IntKind} {n : Int} (h : inK k n) : RdT E w (.int k n) (.int k n) := by simp only [RdT, RdV]; exact ⟨trivial, h⟩
theorem rd_bool {b : Bool} {v : Value} (h : RdT E w (.bool b) v) : v = .bool b := by simp only [RdT, RdV] at h; simpa using h
theorem rd_mkb (b : Bool) : RdT E w (.bool b) (.bool b) := by simp only [RdT, RdV]
theorem rd_str {b : ByteArray} {v : Value} (h : RdT E w (.str b) v) : v = .string b := by simp only [RdT, RdV] at h; simpa using h

/-- What an object's cells are. -/
theorem Rel.cells (R : Rel cx E σ a w) {r : Nat} {o : Ob} (hr : σ.ob[r]? = some o) :
    ∃ u, E.ref[r]? = some (o.g, u) ∧ OkO cx E w o u ∧ (∀ b, blk u = some b → ∃ xs, At w b 0 xs ∧ RdV E w o.v xs) := by
  obtain ⟨u, h1, h2⟩ := R.ob r o hr
  refine ⟨u, h1, h2, fun b hb => ?_⟩
  unfold OkO at h2
  split at h2
  · obtain ⟨b', cs, rfl, k1, k2, _⟩ := h2
    simp only [blk, Option.some.injEq] at hb
    subst hb
    exact ⟨cs, fun j v hv => by simpa [World.cell?, k1] using hv, k2⟩
  · obtain ⟨s, l, xs, k1, k2, k3, k4, k5, k6, k7, k8⟩ := h2
    refine ⟨xs, ?_, by rw [k1]; simp only [RdV]; exact ⟨k7, k3⟩⟩
    rcases k6.2 with ⟨rfl, _⟩ | ⟨g, cap, cur, rfl, m1, m2, m3, m4, m5, m6⟩
    · simp [blk] at hb
    · simp only [blk, Option.some.injEq] at hb
      subst hb
      intro j v hv
      rw [← m6, List.getElem?_take] at hv
      split at hv
      · simpa [World.cell?, m2] using hv
      · cases hv
  · obtain ⟨k0, s, l, xs, k1, k3, k4, k5, k6, k7, k8⟩ := h2
    refine ⟨xs, ?_, by rw [k1]; simp only [RdV]; exact ⟨k7, k3⟩⟩
    rcases k6.2 with ⟨rfl, _⟩ | ⟨g, cap, cur, rfl, m1, m2, m3, m4, m5, m6⟩
    · simp [blk] at hb
    · simp only [blk, Option.some.injEq] at hb
      subst hb
      intro j v hv
      rw [← m6, List.getElem?_take] at hv
      split at hv
      · simpa [World.cell?, m2] using hv
      · cases hv
theorem rd_rp {x : V} {v : Value} (h : RdT E w (.rp x) v) : x.pure = true ∧ ∃ b o xs, v = .pointer (some ⟨b, o, none⟩) ∧ E.B b ∧ RdV E w x xs ∧ At w b o xs := by
  simp only [RdT, RdV] at h
  obtain ⟨h1, b, o, xs, h2, h3, h4, h5⟩ := h
  exact ⟨h1, b, o, xs, by simpa using h2, h3, h4, h5⟩
theorem mk_rp {x : V} {b o : Nat} {xs : List Value} (h1 : x.pure = true) (h3 : E.B b) (h4 : RdV E w x xs) (h5 : At w b o xs) : RdT E w (.rp x) (.pointer (some ⟨b, o, none⟩)) := by
  simp only [RdT, RdV]; exact ⟨h1, b, o, xs, rfl, h3, h4, h5⟩
theorem obV_some {r g : Nat} (h : (obV σ r g).2) : ∃ o, σ.ob[r]? = some o ∧ o.g = g ∧ (obV σ r g).1 = o.v := by
  unfold obV at h ⊢
  cases ho : σ.ob[r]? with
  | none => rw [ho] at h; exact h.elim
  | some o => rw [ho] at h; exact ⟨o, rfl, h, rfl⟩
theorem rowV_some {r g : Nat} (h : (rowV σ r g).2.2) : ∃ e lv s l, σ.ob[r]? = some ⟨.row e, lv, g, .arr s l⟩ ∧ (rowV σ r g).1 = s ∧ (rowV σ r g).2.1 = l := by
  unfold rowV at h ⊢
  split at h
  · rename_i e lv g' s l ho
    subst h
    exact ⟨e, lv, s, l, ho, by simp, by simp⟩
  · exact h.elim
/-- A slice of the call's own. -/
theorem rd_own (R : Rel cx E σ a w) {r g : Nat} {v : Value} (h : RdT E w (.own r g) v) (hg : (rowV σ r g).2.2) :
    ∃ e lv s l xs, σ.ob[r]? = some ⟨.row e, lv, g, .arr s l⟩ ∧ (rowV σ r g).1 = s ∧ (rowV σ r g).2.1 = l ∧ E.ref[r]? = some (g, v) ∧ V.pures l = true ∧ Unif s l ∧ 0 < s ∧ l.length ≤ 140737488355328 ∧
      w.ownsRow cx.W.heap.size e s v l.length xs ∧ RdL E w l xs ∧ (∀ b, blk v = some b → if lv then ¬ E.B b else E.B b) := by
  obtain ⟨e, lv, s, l, h1, h2, h3⟩ := rowV_some hg
  obtain ⟨u, k1, k2, _⟩ := R.cells h1
  simp only [RdT, RdV] at h
  obtain ⟨v', m1, _, _, m4⟩ := h
  simp at m1
  subst m1
  obtain rfl := (m4 g u k1).2 rfl
  unfold OkO at k2
  obtain ⟨s', l', xs, q1, q2, q3, q4, q5, q6, q7, q8⟩ := k2
  injection q1 with q1 q1'
  subst q1 q1'
  exact ⟨e, lv, s, l, xs, h1, h2, h3, k1, q2, q3, q4, q5, q6, q7, q8⟩
/-- As rd_own, also of rows that hold rows. -/
theorem rd_ownW (R : Rel cx E σ a w) {r g : Nat} {v : Value} (h : RdT E w (.own r g) v) (hg : (rowW σ r g).2.2) :
    ∃ k e lv s l xs, σ.ob[r]? = some ⟨k, lv, g, .arr s l⟩ ∧ (k = .row e ∧ V.pures l = true ∨ k = .rows e ∧ lv = true) ∧ (rowW σ r g).1 = s ∧ (rowW σ r g).2.1 = l ∧ E.ref[r]? = some (g, v) ∧ Unif s l ∧ 0 < s ∧ l.length ≤ 140737488355328 ∧
      w.ownsRow cx.W.heap.size e s v l.length xs ∧ RdL E w l xs ∧ (∀ b, blk v = some b → if lv then ¬ E.B b else E.B b) := by
  simp only [RdT, RdV] at h
  obtain ⟨v', m1, _, _, m4⟩ := h
  simp at m1
  subst m1
  unfold rowW at hg ⊢
  split at hg
  · rename_i e lv g' s l ho
    subst hg
    obtain ⟨u, k1, k2, _⟩ := R.cells ho
    obtain rfl := (m4 _ u k1).2 rfl
    unfold OkO at k2
    obtain ⟨s', l', xs, q1, q2, q3, q4, q5, q6, q7, q8⟩ := k2
    injection q1 with q1 q1'
    subst q1 q1'
    exact ⟨.row e, e, lv, s, l, xs, ho, .inl ⟨rfl, q2⟩, rfl, rfl, k1, q3, q4, q5, q6, q7, q8⟩
  · rename_i e lv g' s l ho
    subst hg
    obtain ⟨u, k1, k2, _⟩ := R.cells ho
    obtain rfl := (m4 _ u k1).2 rfl
    unfold OkO at k2
    obtain ⟨q0, s', l', xs, q1, q3, q4, q5, q6, q7, q8⟩ := k2
    injection q1 with q1 q1'
    subst q1 q1'
    have q0 : lv = true := q0
    subst q0
    exact ⟨.rows e, e, true, s, l, xs, ho, .inr ⟨rfl, rfl⟩, rfl, rfl, k1, q3, q4, q5, q6, q7, fun b hb => by rw [if_pos rfl]; exact q8 b hb⟩
  · exact hg.elim
theorem rd_ptr (R : Rel cx E σ a w) {r g o : Nat} {p : List Nat} {v : Value} (h : RdT E w (.ptr r g p o) v) (hg : (obV σ r g).2) :
    ∃ ob u b xs, σ.ob[r]? = some ob ∧ ob.g = g ∧ (obV σ r g).1 = ob.v ∧ E.ref[r]? = some (g, u) ∧ OkO cx E w ob u ∧ blk u = some b ∧ v = .pointer (some ⟨b, o, none⟩) ∧ At w b 0 xs ∧ RdV E w ob.v xs := by
  obtain ⟨ob, h1, h2, h3⟩ := obV_some hg
  obtain ⟨u, k1, k2, k3⟩ := R.cells h1
  simp only [RdT, RdV] at h
  obtain ⟨v', m1, m2, m3, m4⟩ := h
  simp at m1
  subst m1
  rw [h2] at k1
  obtain ⟨b, q1, q2⟩ := (m4 g u k1).2 rfl
  obtain ⟨xs, q3, q4⟩ := k3 b q1
  exact ⟨ob, u, b, xs, h1, h2, h3, k1, k2, q1, q2, q3, q4⟩
theorem mk_ptr {r g g' o : Nat} {p : List Nat} {b : Nat} {u : Value} (hu : E.ref[r]? = some (g, u)) (hb : blk u = some b) : RdT E w (.ptr r g p o) (.pointer (some ⟨b, o, none⟩)) := by
  simp only [RdT, RdV]
  refine ⟨_, rfl, rfl, (List.getElem?_eq_some_iff.1 hu).1, fun gc u' h => ?_⟩
  rw [hu] at h
  injection h with h
  injection h with h1 h2
  subst h1 h2
  exact ⟨Nat.le_refl _, fun _ => ⟨b, hb, rfl⟩⟩
theorem run_loadAt {T : TypeId} {d : TypeDesc} {i : TypeInfo} (hd : P.underlying T = some d) (hi : P.info? T = some i) {b o : Nat} {x : V} {xs : List Value} (ha : At w b o xs) (hx : RdV E w x xs) (hs : x.size = i.size) (hag : x.isAgg = agD d) :
    ∃ v, (Instr.loadAt T (.pointer (some ⟨b, o, none⟩))).run P w = .ok v w ∧ RdT E w x v := by
  have hl := hx.len
  rcases hx.toT with ⟨h1, h2⟩ | ⟨h1, v, rfl, h2⟩
  · refine ⟨_, run_loadAt_mid w b o T xs d ha hd ?_ (by simp [hi, hl, hs]), h2⟩
    rw [h1] at hag
    revert hag
    cases d <;> simp [agD]
  · refine ⟨v, ?_, h2⟩
    rw [h1] at hag
    have hagg : (isAgg T).run P w = .ok false w := by
      unfold isAgg
      rw [Sem.run_bind, run_underlying hd w]
      revert hag
      cases d <;> simp [agD]
    have hc : w.cell? ⟨b, o, none⟩ = some v := ha.c0
    simp [Instr.loadAt, Instr.sureAddr, loadVar, hagg, run_load, hc]
end
end Rdn.Dp
