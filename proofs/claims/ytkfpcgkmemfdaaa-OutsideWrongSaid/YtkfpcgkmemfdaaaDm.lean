/- The operations that make memory or write it: what they yield and leave, told on trees. Over any program. -/
import Derived.Test.YtkfpcgkmemfdaaaDp
namespace Rdn.Dp
open Go Go.RowKit Rdn
set_option linter.unusedVariables false

/-- Operations that make memory or write. e: an element's type; s: its cells; z: its zero. -/
inductive MOp where
  | box (T : TypeId) (x : X)
  | alloc (T : TypeId) (z : V)
  | build (ar : Option Nat) (z : List V) (ps : List (Nat × X))
  | buildS (e s : Nat) (z : V) (m : Nat) (ps : List (Nat × X))
  | store (n : Nat) (x y : X)
  | sl (s : Nat) (x : X) (lo hi mx : Option X)
  | slA (m s : Nat) (x : X) (lo hi mx : Option X)
  | mkS (e s b : Nat) (z : V) (x y : X)
  | app (e s b : Nat) (x y : X)
  | bytes (x : X)

def bad3 (σ : AS) : V × AS × Prop := (.junk, σ, False)
def AS.upd (σ : AS) (r : Nat) (f : Ob → Ob) : AS := { σ with ob := match σ.ob[r]? with | some o => σ.ob.set r (f o) | none => σ.ob }
def Ob.freeze (o : Ob) : Ob := { o with live := false }
def liveAt (σ : AS) (r : Nat) : Prop := match σ.ob[r]? with | some o => o.live = true | none => False
def setps : List V → List (Nat × V) → List V
  | l, [] => l
  | l, (i, x) :: ps => setps (l.set i x) ps
/-- Each part has the size of what stands at its place. -/
def fits : List V → List (Nat × V) → Prop
  | _, [] => True
  | l, (i, x) :: ps => i < l.length ∧ x.size = (l.getD i .junk).size ∧ (x.size ≠ 0 ∨ x.isAgg = true) ∧ fits (l.set i x) ps
def evs (σ : AS) (ps : List (Nat × X)) : List (Nat × V) := ps.map fun p => (p.1, p.2.ev σ)
def boundV (d : Int) (σ : AS) : Option X → Int × Prop
  | none => (d, True)
  | some x => match x.ev σ with
    | .int _ n => (n, True)
    | _ => (0, False)
def storeV (σ : AS) (n : Nat) (y : V) : V → V × AS × Prop
  | .ptr r g p o => (.junk, σ.upd r (fun ob => { ob with v := setp ob.v p y }),
      (obV σ r g).2 ∧ liveAt σ r ∧ (nav 0 (obV σ r g).1 p).2.2 ∧ (nav 0 (obV σ r g).1 p).2.1 = o ∧ (nav 0 (obV σ r g).1 p).1.size = n ∧ y.size = n ∧ (n ≠ 0) ∧ (match σ.ob[r]? with | some ⟨.box _ _, _, _, _⟩ => True | some ⟨.rows _, _, _, _⟩ => p ≠ [] | _ => y.pure = true ∧ p ≠ []))
  | _ => bad3 σ
def slV (σ : AS) (s : Nat) (lo hi mx : Option X) : V → V × AS × Prop
  | .sl t s' l => (.sl t s ((l.take (boundV l.length σ hi).1.toNat).drop (boundV 0 σ lo).1.toNat), σ,
      s' = s ∧ (boundV 0 σ lo).2 ∧ (boundV l.length σ hi).2 ∧ (boundV l.length σ mx).2 ∧ 0 ≤ (boundV 0 σ lo).1 ∧ (boundV 0 σ lo).1 ≤ (boundV l.length σ hi).1 ∧ (boundV l.length σ hi).1 ≤ (boundV l.length σ mx).1 ∧ (boundV l.length σ mx).1 ≤ l.length ∧ (mx.isSome = true → hi.isSome = true))
  | .own r g => (.sl true s (((rowV σ r g).2.1.take (boundV (rowV σ r g).2.1.length σ hi).1.toNat).drop (boundV 0 σ lo).1.toNat), σ.upd r Ob.freeze,
      (rowV σ r g).2.2 ∧ (rowV σ r g).1 = s ∧ (boundV 0 σ lo).2 ∧ (boundV (rowV σ r g).2.1.length σ hi).2 ∧ (boundV (rowV σ r g).2.1.length σ mx).2 ∧ 0 ≤ (boundV 0 σ lo).1 ∧ (boundV 0 σ lo).1 ≤ (boundV (rowV σ r g).2.1.length σ hi).1 ∧ (boundV (rowV σ r g).2.1.length σ hi).1 ≤ (boundV (rowV σ r g).2.1.length σ mx).1 ∧ (boundV (rowV σ r g).2.1.length σ mx).1 ≤ (rowV σ r g).2.1.length ∧ (mx.isSome = true → hi.isSome = true))
  | _ => bad3 σ

/-- A slice of an array in memory: nobody writes the array behind it. -/
def slAV (σ : AS) (m s : Nat) (lo hi mx : Option X) : V → V × AS × Prop
  | .ptr r g [] 0 => match (obV σ r g).1 with
    | .arr s' l => (.sl true s ((l.take (boundV m σ hi).1.toNat).drop (boundV 0 σ lo).1.toNat), σ.upd r Ob.freeze,
        (obV σ r g).2 ∧ (match σ.ob[r]? with | some ⟨.box false _, _, _, _⟩ => True | _ => False) ∧ s' = s ∧ 0 < s ∧ V.pures l = true ∧ l.length = m ∧ m ≤ 140737488355328 ∧ (boundV 0 σ lo).2 ∧ (boundV m σ hi).2 ∧ 0 ≤ (boundV 0 σ lo).1 ∧ (boundV 0 σ lo).1 ≤ (boundV m σ hi).1 ∧ (boundV m σ hi).1 ≤ m ∧ mx.isSome = false)
    | _ => bad3 σ
  | _ => bad3 σ
/-- What a slice holds that append reads. -/
def srcV (σ : AS) (r0 : Nat) : V → List V × Nat × Prop
  | .sl t s l => (l, s, True)
  | .nilS => ([], 0, True)
  | .own r g => ((rowV σ r g).2.1, (rowV σ r g).1, (rowV σ r g).2.2 ∧ r ≠ r0)
  | _ => ([], 0, False)
/-- What append reads, also of rows that hold rows. -/
def srcW (σ : AS) (r0 : Nat) : V → List V × Nat × Prop
  | .sl t s l => (l, s, True)
  | .nilS => ([], 0, True)
  | .own r g => ((rowW σ r g).2.1, (rowW σ r g).1, (rowW σ r g).2.2 ∧ r ≠ r0)
  | _ => ([], 0, False)
def eAt (σ : AS) (r e : Nat) : Prop := match σ.ob[r]? with | some ⟨.row e', _, _, _⟩ => e' = e | some ⟨.rows e', _, _, _⟩ => e' = e | _ => False
/-- A row that holds no rows gets none. -/
def okApp (σ : AS) (r : Nat) (y : V) : Prop := match σ.ob[r]? with
  | some ⟨.rows _, _, _, _⟩ => True
  | _ => match y with
    | .own q _ => (match σ.ob[q]? with | some ⟨.row _, _, _, _⟩ => True | _ => False)
    | _ => True
/-- A literal that holds rows of one's own is of another kind. -/
def kOf : Bool → TypeId → OK
  | true, e => .row e
  | false, e => .rows e
def appV (σ : AS) (e s b : Nat) (y : V) : V → V × AS × Prop
  | .own r g => (.own r (g + 1), σ.upd r (fun o => ⟨o.k, o.live, g + 1, .arr s ((rowW σ r g).2.1 ++ (srcW σ r y).1)⟩),
      (rowW σ r g).2.2 ∧ liveAt σ r ∧ eAt σ r e ∧ (rowW σ r g).1 = s ∧ (srcW σ r y).2.2 ∧ ((srcW σ r y).1 = [] ∨ (srcW σ r y).2.1 = s) ∧ ((rowW σ r g).2.1.length + (srcW σ r y).1.length) * b ≤ 140737488355328 ∧ (rowW σ r g).2.1.length + (srcW σ r y).1.length ≤ 140737488355328 ∧ okApp σ r y)
  | .nilS => (.own σ.ob.length 0, { σ with ob := σ.ob ++ [⟨.row e, true, 0, .arr s (srcV σ σ.ob.length y).1⟩] },
      (srcV σ σ.ob.length y).2.2 ∧ ((srcV σ σ.ob.length y).1 = [] ∨ (srcV σ σ.ob.length y).2.1 = s) ∧ (srcV σ σ.ob.length y).1.length * b ≤ 140737488355328 ∧ (srcV σ σ.ob.length y).1.length ≤ 140737488355328)
  | _ => bad3 σ
/-- A string's bytes. -/
def bytesV (σ : AS) : V → V × AS × Prop
  | .str s => (.sl false 1 (s.data.toList.map fun b => .int .u8 b.toNat), σ, s.size ≤ 140737488355328)
  | _ => bad3 σ
def aopM (σ : AS) : MOp → V × AS × Prop
  | .box T x => (.ptr σ.ob.length 0 [] 0, { σ with ob := σ.ob ++ [⟨.box false T, true, 0, x.ev σ⟩] }, (x.ev σ).size ≠ 0 ∨ (x.ev σ).isAgg = true)
  | .alloc T z => (.ptr σ.ob.length 0 [] 0, { σ with ob := σ.ob ++ [⟨.box false T, true, 0, z⟩] }, True)
  | .build ar z ps => (match ar with | none => .agg (setps z (evs σ ps)) | some s => .arr s (setps z (evs σ ps)), σ, fits z (evs σ ps))
  | .buildS e s z m ps => (.own σ.ob.length 0, { σ with ob := σ.ob ++ [⟨.row e, true, 0, .arr s (setps (List.replicate m z) (evs σ ps))⟩] }, fits (List.replicate m z) (evs σ ps) ∧ V.pures (setps (List.replicate m z) (evs σ ps)) = true)
  | .store n x y => storeV σ n (y.ev σ) (x.ev σ)
  | .sl s x lo hi mx => slV σ s lo hi mx (x.ev σ)
  | .slA m s x lo hi mx => slAV σ m s lo hi mx (x.ev σ)
  | .mkS e s b z x y => match x.ev σ, y.ev σ with
    | .int _ l, .int _ c => (.own σ.ob.length 0, { σ with ob := σ.ob ++ [⟨.row e, true, 0, .arr s (List.replicate l.toNat z)⟩] }, 0 ≤ l ∧ l ≤ c ∧ (b : Int) * c ≤ 140737488355328 ∧ c ≤ 140737488355328)
    | _, _ => bad3 σ
  | .app e s b x y => appV σ e s b (y.ev σ) (x.ev σ)
  | .bytes x => bytesV σ (x.ev σ)

/-! ### Zeros -/
mutual
def zcells : V → Option (List Value)
  | .int k n => if k.min ≤ n ∧ n ≤ k.max then some [.int k n] else none
  | .bool b => some [.bool b]
  | .str s => some [.string s]
  | .nilS => some [.slice none 0 0]
  | .agg l => zcellss l
  | .arr s l => if l.all (fun x => x.size == s) then zcellss l else none
  | _ => none
def zcellss : List V → Option (List Value)
  | [] => some []
  | x :: l => match zcells x, zcellss l with
    | some c, some ys => some (c ++ ys)
    | _, _ => none
end
def eqv : Value → Value → Bool
  | .int k n, .int k' n' => decide (k = k') && decide (n = n')
  | .bool a, .bool b => a == b
  | .string a, .string b => decide (a = b)
  | .slice none 0 0, .slice none 0 0 => true
  | _, _ => false
def eqvs : List Value → List Value → Bool
  | [], [] => true
  | a :: l, b :: m => eqv a b && eqvs l m
  | _, _ => false
theorem eqv_eq {a b : Value} (h : eqv a b = true) : a = b := by
  unfold eqv at h
  split at h
  · simp at h; rw [h.1, h.2]
  · simp at h; rw [h]
  · simp at h; rw [h]
  · rfl
  · cases h
theorem eqvs_eq : ∀ {l m : List Value}, eqvs l m = true → l = m
  | [], [], _ => rfl
  | a :: l, b :: m, h => by
    simp only [eqvs, Bool.and_eq_true] at h
    rw [eqv_eq h.1, eqvs_eq h.2]
  | [], b :: m, h => by simp [eqvs] at h
  | a :: l, [], h => by simp [eqvs] at h
mutual
theorem zcells_rd (E : Env) (w : World) : ∀ {z : V} {cs : List Value}, zcells z = some cs → RdV E w z cs
  | .int k n, cs, h => by
    simp only [zcells] at h
    split at h
    · cases h; simp only [RdV]; exact ⟨trivial, by assumption⟩
    · cases h
  | .bool b, cs, h => by simp only [zcells, Option.some.injEq] at h; simp [RdV, ← h]
  | .nilS, cs, h => by simp only [zcells, Option.some.injEq] at h; simp [RdV, ← h]
  | .agg l, cs, h => by simp only [zcells] at h; simp only [RdV]; exact zcellss_rd E w h
  | .arr s l, cs, h => by
    simp only [zcells] at h
    split at h
    · rename_i hu
      simp only [RdV]
      refine ⟨zcellss_rd E w h, fun x hx => ?_⟩
      have := List.all_eq_true.1 hu x hx
      simpa using this
    · cases h
  | .str _, cs, h => by simp only [zcells, Option.some.injEq] at h; simp [RdV, ← h]
  | .sl _ _ _, cs, h => by simp [zcells] at h
  | .own _ _, cs, h => by simp [zcells] at h
  | .ptr _ _ _ _, cs, h => by simp [zcells] at h
  | .rp _, cs, h => by simp [zcells] at h
  | .tup _, cs, h => by simp [zcells] at h
  | .clo f _, cs, h => by simp [zcells] at h
  | .fn _, cs, h => by simp [zcells] at h
  | .junk, cs, h => by simp [zcells] at h
theorem zcellss_rd (E : Env) (w : World) : ∀ {l : List V} {cs : List Value}, zcellss l = some cs → RdL E w l cs
  | [], cs, h => by simp only [zcellss, Option.some.injEq] at h; simp [RdL, ← h]
  | x :: l, cs, h => by
    simp only [zcellss] at h
    split at h
    · rename_i c ys h1 h2
      cases h
      simp only [RdL]
      exact ⟨c, ys, rfl, zcells_rd E w h1, zcellss_rd E w h2⟩
    · cases h
end
/-- A zero's cells, over and over. -/
theorem zeros_rd {E : Env} {w : World} {z : V} {zc : Array Value} (h : RdV E w z zc.toList) (h0 : 0 < zc.size) : ∀ k, RdL E w (List.replicate k z) ((List.range (k * zc.size)).map (zc[· % zc.size]!))
  | 0 => by simp [RdL]
  | k + 1 => by
    have ih := zeros_rd h h0 k
    rw [List.replicate_succ', Nat.add_mul, List.range_add, List.map_append, List.map_map]
    refine RdL.app ih ?_
    simp only [RdL]
    refine ⟨zc.toList, [], ?_, h, rfl⟩
    rw [List.append_nil]
    apply List.ext_getElem
    · simp
    · intro i h1 h2
      have hi : i < zc.size := by simpa using h2
      have e : (k * zc.size + i) % zc.size = i := by rw [Nat.mul_comm, Nat.mul_add_mod, Nat.mod_eq_of_lt hi]
      simp [e, hi]

/-! ### From the program's operations -/
section
variable (P : Program)
def zeroV : Nat → TypeId → Option V
  | 0, _ => none
  | f + 1, t => match P.underlying t with
    | some (.int k) => some (.int k 0)
    | some .bool => some (.bool false)
    | some .string => some (.str ByteArray.empty)
    | some (.slice _) => some .nilS
    | some (.struct fs) => (fs.toList.mapM fun x => zeroV f x.type).map .agg
    | some (.array n e) => match zeroV f e, P.info? e with
      | some z, some i => some (.arr i.size (List.replicate n z))
      | _, _ => none
    | _ => none
def zeroOk (t : TypeId) (z : V) : Bool := match P.info? t with
  | some i => match i.zero, zcells z with
    | some v, some cs => eqvs cs v.cells.toList
    | _, _ => false
  | none => false
def structOk (fs : List Field) (z : List V) : Bool := decide (fs.mapM (fun f => (P.info? f.type).map fun i => (f.offset, i.size)) = some ((List.range z.length).map fun i => (V.sizes (z.take i), (z.getD i .junk).size)))
def compPs : List (Nat × Operand) → Option (List (Nat × X))
  | [] => some []
  | (i, x) :: l => match compX x, compPs l with
    | some y, some m => some ((i, y) :: m)
    | _, _ => none
def compO : Option Operand → Option (Option X)
  | none => some none
  | some x => (compX x).map some
def compM : Op → Option MOp
  | .box T x => (compX x).map (.box T)
  | .alloc T => match zeroV P 8 T with
    | some z => if zeroOk P T z then some (.alloc T z) else none
    | none => none
  | .build T ps => match zeroV P 8 T, P.underlying T with
    | some (.agg z), some (.struct fs) => if zeroOk P T (.agg z) && structOk P fs.toList z then (compPs ps.toList).map (.build none z) else none
    | some (.arr s z), some (.array n e) => if zeroOk P T (.arr s z) && decide ((P.info? e).map (·.size) = some s) then (compPs ps.toList).map (.build (some s) z) else none
    | _, _ => none
  | .buildSlice T m ps => match P.underlying T with
    | some (.slice e) => match P.info? e, zeroV P 8 e with
      | some i, some z => if zeroOk P e z && (decide (0 < i.size) && (decide (m * i.size ≤ 2 ^ 24) && decide (z.size = i.size))) then (compPs ps.toList).map (.buildS e i.size z m) else none
      | _, _ => none
    | _ => none
  | .store T x y => match P.info? T with
    | some i => (compX x).bind fun x => (compX y).map fun y => .store i.size x y
    | none => none
  | .slice T x lo hi mx => match P.underlying T with
    | some (.slice e) => match P.info? e with
      | some i => (compX x).bind fun x => (compO lo).bind fun lo => (compO hi).bind fun hi => (compO mx).map fun mx => .sl i.size x lo hi mx
      | none => none
    | some (.array n e) => match P.info? e with
      | some i => (compX x).bind fun x => (compO lo).bind fun lo => (compO hi).bind fun hi => (compO mx).map fun mx => .slA n i.size x lo hi mx
      | none => none
    | _ => none
  | .makeSlice T x y => match P.underlying T with
    | some (.slice e) => match P.info? e, zeroV P 8 e with
      | some i, some z => if zeroOk P e z && (decide (0 < i.size) && decide (z.size = i.size)) then (compX x).bind fun x => (compX y).map fun y => .mkS e i.size i.bytes z x y else none
      | _, _ => none
    | _ => none
  | .call { callee := .builtin b, args := as, argTypes := ts } => match b, as.toList, ts.toList with
    | .append, [x, y], [t, t'] => if t = t' then match P.underlying t with
      | some (.slice e) => match P.info? e with
        | some i => match i.zero with
          | some z => if z.cells.size = i.size ∧ 0 < i.size then (compX x).bind fun x => (compX y).map fun y => .app e i.size i.bytes x y else none
          | none => none
        | none => none
      | _ => none
      else none
    | _, _, _ => none
  | .convert s d x => match P.underlying s, P.underlying d with
    | some .string, some (.slice e) => match P.underlying e with
      | some (.int .u8) => (compX x).map .bytes
      | _ => none
    | _, _ => none
  | _ => none
end
theorem zeroOk_rd {P : Program} {t : TypeId} {z : V} (h : zeroOk P t z = true) (E : Env) (w : World) : ∃ i v, P.info? t = some i ∧ i.zero = some v ∧ RdV E w z v.cells.toList := by
  unfold zeroOk at h
  split at h
  · rename_i i hi
    split at h
    · rename_i v cs hv hc
      exact ⟨i, v, hi, hv, by rw [← eqvs_eq h]; exact zcells_rd E w hc⟩
    · cases h
  · cases h
end Rdn.Dp
