/- Fnv, P12, P8, P13, P14, P15, in one text. -/
import Derived.WalkKit
import Derived.Test.YtcphobeommkgeaaP7
import Derived.Test.YtcphobeommkgeaaP6
import Derived.Test.YtcphobeommkgeaaZt
import Derived.Test.YtcphobeommkgeaaM7
import Derived.Test.YtcphobeommkgeaaDeep
import Derived.Test.YtcphobeommkgeaaP4
import Derived.Test.YtcphobeommkgeaaM5
/- The digest's step on plain numbers: it can be undone. -/
namespace Rdn
open Go
set_option linter.unusedVariables false

/-- One byte. -/
def fnv1 (s x : Nat) : Nat := (s ^^^ x) * 16777619 % 4294967296
def fnv (s : Nat) : List Int → Nat
  | [] => s
  | x :: l => fnv (fnv1 s x.toNat) l
theorem fnv1_lt (s x : Nat) : fnv1 s x < 4294967296 := Nat.mod_lt _ (by decide)
theorem fnv_lt : ∀ (l : List Int) (s : Nat), s < 4294967296 → fnv s l < 4294967296
  | [], s, h => h
  | x :: l, s, _ => fnv_lt l _ (fnv1_lt _ _)
theorem fnv_append : ∀ (a b : List Int) (s : Nat), fnv s (a ++ b) = fnv (fnv s a) b
  | [], b, s => rfl
  | x :: a, b, s => fnv_append a b _
/-- The prime is odd: 16777619 * 899433627 = 1 modulo 2^32. -/
theorem mul_inv (n : Nat) (h : n < 4294967296) : n * 16777619 % 4294967296 * 899433627 % 4294967296 = n := by
  omega
theorem xor_cancel {a b x : Nat} (h : a ^^^ x = b ^^^ x) : a = b := by
  have := congrArg (· ^^^ x) h
  simpa [Nat.xor_assoc] using this
theorem xor32 {a x : Nat} (ha : a < 4294967296) (hx : x < 4294967296) : a ^^^ x < 4294967296 := Nat.xor_lt_two_pow (n := 32) ha hx
theorem fnv1_inj {a b x y : Nat} (ha : a < 4294967296) (hb : b < 4294967296) (hx : x < 4294967296) (hy : y < 4294967296) (h : fnv1 a x = fnv1 b y) : a ^^^ x = b ^^^ y := by
  rw [← mul_inv _ (xor32 ha hx), ← mul_inv _ (xor32 hb hy)]
  unfold fnv1 at h
  rw [h]
theorem fnv_inj : ∀ (l : List Int) {a b : Nat}, a < 4294967296 → b < 4294967296 → (∀ x ∈ l, x.toNat < 4294967296) → fnv a l = fnv b l → a = b
  | [], a, b, _, _, _, h => h
  | x :: l, a, b, ha, hb, hl, h => xor_cancel (fnv1_inj ha hb (hl x (by simp)) (hl x (by simp)) (fnv_inj l (fnv1_lt _ _) (fnv1_lt _ _) (fun y hy => hl y (by simp [hy])) h))
/-- Lists that differ in one byte alone. -/
theorem fnv_set : ∀ (l : List Int) (k : Nat) (x : Int) {s : Nat}, s < 4294967296 → (∀ y ∈ l, y.toNat < 4294967296) → x.toNat < 4294967296 → (h : k < l.length) → fnv s l = fnv s (l.set k x) → l[k].toNat = x.toNat
  | y :: l, 0, x, s, hs, hl, hx, _, h => by
    simp only [List.set_cons_zero, fnv] at h
    have e := fnv1_inj hs hs (hl y (by simp)) hx (fnv_inj l (fnv1_lt _ _) (fnv1_lt _ _) (fun z hz => hl z (by simp [hz])) h)
    rw [Nat.xor_comm s, Nat.xor_comm s] at e
    simpa using xor_cancel e
  | y :: l, k + 1, x, s, hs, hl, hx, hk, h => by
    simp only [List.set_cons_succ, fnv] at h
    simpa using fnv_set l k x (fnv1_lt _ _) (fun z hz => hl z (by simp [hz])) hx (by simpa using hk) h
end Rdn
/- Digests of cells of which one differs. -/
namespace Go.Proofs.Ytcphobeommkgeaa
open Go Go.RowKit Rdn Rdn.Dp
set_option linter.unusedVariables false
set_option linter.unusedSimpArgs false
theorem fstep_fnv {s b : Int} (h0 : 0 ≤ s) (h1 : s < 4294967296) (h2 : 0 ≤ b) (h3 : b < 256) : fstep s b = (fnv1 s.toNat b.toNat : Nat) := by
  have e := (bxor_nat (k := .u32) rfl h0 (by simpa [IntKind.bits] using h1) h2 (by simp [IntKind.bits]; omega)).1
  unfold fstep fnv1
  rw [e]
  omega
def byteL (l : List Int) : Prop := ∀ b ∈ l, 0 ≤ b ∧ b < 256
theorem dadd_cons (s b : Int) (l : List Int) : dadd s (b :: l) = dadd (fstep s b) l := by simp only [dadd, List.foldl_cons]
theorem dadd_fnv {l : List Int} (h : byteL l) : ∀ {s : Int}, 0 ≤ s → s < 4294967296 → dadd s l = (fnv s.toNat l : Nat) := by
  induction l with
  | nil =>
    intro s h0 h1
    simp only [dadd, List.foldl_nil, fnv]
    omega
  | cons b l ih =>
    intro s h0 h1
    have hb := h b (by simp)
    have e := fstep_fnv h0 h1 hb.1 hb.2
    have hlt := fnv1_lt s.toNat b.toNat
    have e2 := ih (fun x hx => h x (by simp [hx])) (s := fstep s b) (by rw [e]; omega) (by rw [e]; omega)
    rw [dadd_cons, e2, e, Int.toNat_natCast, fnv]
theorem dadd_set_ne {l : List Int} {k : Nat} {x s : Int} (h0 : 0 ≤ s) (h1 : s < 4294967296) (hl : byteL l) (hk : k < l.length) (hx0 : 0 ≤ x) (hx1 : x < 256) (hne : l[k]! ≠ x) : dadd s l ≠ dadd s (l.set k x) := by
  have hl2 : byteL (l.set k x) := fun b hb => by
    rcases List.mem_or_eq_of_mem_set hb with h | h
    · exact hl b h
    · omega
  rw [dadd_fnv hl h0 h1, dadd_fnv hl2 h0 h1]
  intro h
  have h := Int.ofNat.inj h
  have := fnv_set l k x (s := s.toNat) (by omega) (fun y hy => by have := hl y hy; omega) (by omega) hk h
  have h3 := hl l[k] (List.getElem_mem hk)
  rw [getElem!_pos l k hk] at hne
  omega
theorem byteL_app {a b : List Int} (h : byteL a) (k : byteL b) : byteL (a ++ b) := fun x hx => (List.mem_append.1 hx).elim (h x) (k x)
theorem byteL_le8 (n : Int) : byteL (le8 n) := by
  intro b hb
  simp only [le8, List.mem_cons, List.not_mem_nil, or_false] at hb
  omega
def Canon.ok (c : Canon) : Prop := 0 ≤ c.tag ∧ c.tag < 256 ∧ 0 ≤ c.val ∧ c.val < 65536
theorem byteL_cbytes {c : Canon} (h : Canon.ok c) : byteL (cbytes c) := by
  obtain ⟨h1, h2, h3, h4⟩ := h
  refine byteL_app (fun b hb => ?_) (byteL_app (byteL_le8 _) (byteL_le8 _))
  simp only [List.mem_cons, List.not_mem_nil, or_false] at hb
  omega
theorem byteL_flat {l : List Canon} (h : ∀ c ∈ l, Canon.ok c) : byteL (l.flatMap cbytes) := by
  intro b hb
  obtain ⟨c, hc, hb⟩ := List.mem_flatMap.1 hb
  exact byteL_cbytes (h c hc) b hb
theorem byteL_lbytes {l : List Canon} (h : ∀ c ∈ l, Canon.ok c) : byteL (lbytes l) := byteL_app (byteL_le8 _) (byteL_flat h)
theorem cbytes_set (c : Canon) {v : Int} (hv : v / 256 = c.val / 256) (rest : List Int) : cbytes ⟨c.tag, v, c.region, c.offset⟩ ++ rest = (cbytes c ++ rest).set 1 (v % 256) := by
  simp [cbytes, hv]
theorem flat_set : ∀ (l : List Canon) (k : Nat) (v : Int), k < l.length → v / 256 = l[k]!.val / 256 → (l.set k ⟨l[k]!.tag, v, l[k]!.region, l[k]!.offset⟩).flatMap cbytes = (l.flatMap cbytes).set (19 * k + 1) (v % 256)
  | [], k, v, h, _ => by simp at h
  | c :: l, 0, v, _, hv => by
    have hv : v / 256 = c.val / 256 := hv
    show (⟨c.tag, v, c.region, c.offset⟩ :: l).flatMap cbytes = _
    rw [List.flatMap_cons, List.flatMap_cons]
    exact cbytes_set c hv _
  | c :: l, k + 1, v, h, hv => by
    have ih := flat_set l k v (by simpa using h) (by simpa using hv)
    show (c :: l.set k _).flatMap cbytes = _
    rw [List.flatMap_cons, List.flatMap_cons, List.set_append_right _ _ (by rw [cbytes_len]; omega), cbytes_len, show 19 * (k + 1) + 1 - 19 = 19 * k + 1 by omega, ← ih]
    simp
theorem flat_at : ∀ (l : List Canon) (k : Nat), k < l.length → (l.flatMap cbytes)[19 * k + 1]! = l[k]!.val % 256
  | [], k, h => by simp at h
  | c :: l, 0, _ => by simp [cbytes]
  | c :: l, k + 1, h => by
    have ih := flat_at l k (by simpa using h)
    have hl := flat_len l
    have h' : k < l.length := by simpa using h
    rw [List.flatMap_cons]
    rw [getElem!_pos _ _ (by rw [hl]; omega)] at ih
    rw [getElem!_pos _ _ (by rw [List.length_append, cbytes_len, hl]; omega), List.getElem_append_right (by rw [cbytes_len]; omega)]
    simp only [cbytes_len, show 19 * (k + 1) + 1 - 19 = 19 * k + 1 by omega]
    rw [ih]
    simp
theorem xor_low {v y : Nat} (hv : v < 65536) (hy : y < 256) (h0 : 0 < y) : (v ^^^ y) / 256 = v / 256 ∧ (v ^^^ y) % 256 ≠ v % 256 := by
  have e1 : (v ^^^ y) / 2 ^ 8 = v / 2 ^ 8 ^^^ y / 2 ^ 8 := by rw [← Nat.shiftRight_eq_div_pow, ← Nat.shiftRight_eq_div_pow, ← Nat.shiftRight_eq_div_pow, Nat.shiftRight_xor_distrib]
  have e2 : (v ^^^ y) % 2 ^ 8 = v % 2 ^ 8 ^^^ y % 2 ^ 8 := Nat.xor_mod_two_pow
  have e3 : y / 2 ^ 8 = 0 := by omega
  have e4 : y % 2 ^ 8 = y := by omega
  rw [e3, Nat.xor_zero] at e1
  rw [e4] at e2
  refine ⟨by simpa using e1, fun h => ?_⟩
  have h : v % 2 ^ 8 ^^^ y = v % 2 ^ 8 := by rw [← e2]; simpa using h
  have : y = 0 := by
    have h2 := congrArg (v % 2 ^ 8 ^^^ ·) h
    simp only [Nat.xor_self] at h2
    rw [← Nat.xor_assoc, Nat.xor_self, Nat.zero_xor] at h2
    exact h2
  omega
/-- A list with one value changed in its low byte has another digest. -/
theorem cells_ne {l : List Canon} {k : Nat} {y : Int} (hl : ∀ c ∈ l, Canon.ok c) (hk : k < l.length) (hy : 0 < y) (hy' : y < 256) : dadd 2166136261 (lbytes l) ≠ dadd 2166136261 (lbytes (l.set k ⟨l[k]!.tag, bxor .u16 l[k]!.val y, l[k]!.region, l[k]!.offset⟩)) := by
  obtain ⟨_, _, h3, h4⟩ := hl _ (mem_at hk)
  have e := (bxor_nat (k := .u16) rfl h3 (by simpa [IntKind.bits] using h4) (show 0 ≤ y by omega) (by simp [IntKind.bits]; omega)).1
  have hx := xor_low (v := l[k]!.val.toNat) (y := y.toNat) (by omega) (by omega) (by omega)
  have hq : bxor .u16 l[k]!.val y / 256 = l[k]!.val / 256 := by rw [e]; omega
  have hb : lbytes (l.set k ⟨l[k]!.tag, bxor .u16 l[k]!.val y, l[k]!.region, l[k]!.offset⟩) = (lbytes l).set (8 + (19 * k + 1)) (bxor .u16 l[k]!.val y % 256) := by
    unfold lbytes
    rw [List.length_set, flat_set l k _ hk hq, List.set_append_right _ _ (by rw [le8_len]; omega), le8_len]
    congr 2
    omega
  have hlen : 8 + (19 * k + 1) < (lbytes l).length := by
    unfold lbytes
    rw [List.length_append, le8_len, flat_len]
    omega
  rw [hb]
  refine dadd_set_ne (by omega) (by omega) (byteL_lbytes hl) hlen (Int.emod_nonneg _ (by omega)) (Int.emod_lt_of_pos _ (by omega)) ?_
  have hat : (lbytes l)[8 + (19 * k + 1)]! = l[k]!.val % 256 := by
    rw [← flat_at l k hk]
    have hfl := flat_len l
    unfold lbytes
    rw [getElem!_pos _ _ (by rw [List.length_append, le8_len, flat_len]; omega), getElem!_pos _ _ (by rw [hfl]; omega), List.getElem_append_right (by rw [le8_len]; omega)]
    simp only [le8_len, show 8 + (19 * k + 1) - 8 = 19 * k + 1 by omega]
  rw [hat, e]
  omega
end Go.Proofs.Ytcphobeommkgeaa
/- Trees of states. -/
namespace Go.Proofs.Ytcphobeommkgeaa
open Go Go.RowKit Rdn Rdn.Dp
set_option linter.unusedVariables false
set_option linter.unusedSimpArgs false
def m_tof : MC := .seq (.reg [⟨(some 1), none, (.m (.box 30 (.t 0)))⟩, ⟨(some 2), none, (.m (.alloc 57 (.agg [.nilS])))⟩, ⟨(some 3), none, (.p (.mov (.c (.int .i64 0))))⟩])
 (.seq (.reg [⟨(some 10), none, (.p (.load true 2 (.t 1)))⟩, ⟨(some 11), none, (.call 23 [(.t 10)])⟩, ⟨(some 9), none, (.p (.mov (.t 11)))⟩, ⟨(some 12), none, (.p (.ext (.t 9) 0))⟩, ⟨(some 13), none, (.p (.ext (.t 9) 1))⟩, ⟨(some 4), none, (.p (.mov (.t 12)))⟩, ⟨(some 5), none, (.p (.mov (.t 13)))⟩])
 (.seq (.seq (.reg [⟨(some 14), none, (.p (.mov (.t 5)))⟩, ⟨(some 15), none, (.p (.bin 0 .neq (.t 14) (.c (.int .i64 0))))⟩])
 (.cond (.t 15) (.seq (.reg [⟨(some 16), none, (.m (.build none [.nilS] []))⟩, ⟨(some 17), none, (.p (.mov (.t 5)))⟩, ⟨none, none, (.m (.store 1 (.t 2) (.t 16)))⟩, ⟨(some 3), none, (.p (.mov (.t 17)))⟩])
 (.ret)) (.skip)))
 (.seq (.reg [⟨(some 6), none, (.p (.mov (.c (.nilS))))⟩])
 (.seq (.seq (.reg [⟨(some 18), none, (.p (.mov (.t 4)))⟩, ⟨(some 19), none, (.p (.len (.t 18)))⟩, ⟨(some 20), none, (.p (.mov (.c (.int .i64 0))))⟩])
 (.block 0 (.loop (.seq (.reg [⟨(some 21), none, (.p (.bin 0 .lss (.t 20) (.t 19)))⟩])
 (.seq (.cond (.t 21) (.skip) (.exit 0))
 (.seq (.block 1 (.seq (.reg [⟨(some 22), none, (.p (.idxA 11 (.t 18) (.t 20)))⟩, ⟨(some 23), none, (.p (.load true 11 (.t 22)))⟩, ⟨(some 8), none, (.m (.alloc 45 (.agg [.agg [.int .i64 0, .int .i64 0], .nilS, .agg [.int .i64 0, .int .i64 0, .int .i64 0, .int .i64 0, .int .i64 0, .int .i64 0, .int .u16 0, .nilS]])))⟩, ⟨none, none, (.m (.store 11 (.t 8) (.t 23)))⟩])
 (.seq (.reg [⟨(some 24), none, (.p (.fieldA 0 0 (.t 8)))⟩, ⟨(some 25), none, (.p (.fieldA 0 0 (.t 24)))⟩, ⟨(some 26), none, (.p (.load false 1 (.t 25)))⟩, ⟨(some 27), none, (.p (.bin 0 .lss (.t 26) (.c (.int .i64 0))))⟩])
 (.cond (.t 27) (.reg [⟨(some 28), none, (.p (.mov (.t 6)))⟩, ⟨(some 29), none, (.p (.fieldA 3 2 (.t 8)))⟩, ⟨(some 30), none, (.p (.load true 8 (.t 29)))⟩, ⟨(some 31), none, (.call 89 [(.t 30)])⟩, ⟨(some 32), none, (.m (.buildS 54 1 (.int .u32 0) 1 [(0, (.t 31))]))⟩, ⟨(some 33), none, (.m (.app 54 1 4 (.t 28) (.t 32)))⟩, ⟨(some 6), none, (.p (.mov (.t 33)))⟩]) (.reg [⟨(some 34), none, (.p (.mov (.t 6)))⟩, ⟨(some 35), none, (.p (.fieldA 2 1 (.t 8)))⟩, ⟨(some 36), none, (.p (.load false 1 (.t 35)))⟩, ⟨(some 37), none, (.call 90 [(.t 36)])⟩, ⟨(some 38), none, (.m (.buildS 54 1 (.int .u32 0) 1 [(0, (.t 37))]))⟩, ⟨(some 39), none, (.m (.app 54 1 4 (.t 34) (.t 38)))⟩, ⟨(some 6), none, (.p (.mov (.t 39)))⟩])))))
 (.reg [⟨(some 40), none, (.p (.bin 0 .add (.t 20) (.c (.int .i64 1))))⟩, ⟨(some 20), none, (.p (.mov (.t 40)))⟩])))))))
 (.seq (.reg [⟨(some 41), none, (.p (.mov (.t 6)))⟩, ⟨(some 42), none, (.call 28 [(.t 41)])⟩, ⟨(some 43), none, (.p (.ext (.t 42) 0))⟩, ⟨(some 44), none, (.p (.ext (.t 42) 1))⟩, ⟨none, none, (.m (.store 1 (.t 2) (.t 43)))⟩, ⟨(some 3), none, (.p (.mov (.t 44)))⟩])
 (.ret))))))
theorem m_tof_ok : compF Try.prog 48 = some (45, m_tof, [.load true 1 (.t 2), .mov (.t 3)]) := by kernel_rfl
def m_zof : MC := .seq (.reg [⟨(some 1), none, (.m (.box 30 (.t 0)))⟩, ⟨(some 2), none, (.m (.alloc 57 (.agg [.nilS])))⟩, ⟨(some 3), none, (.p (.mov (.c (.int .i64 0))))⟩])
 (.seq (.reg [⟨(some 9), none, (.p (.load true 2 (.t 1)))⟩, ⟨(some 10), none, (.call 17 [(.t 9)])⟩, ⟨(some 8), none, (.p (.mov (.t 10)))⟩, ⟨(some 11), none, (.p (.ext (.t 8) 0))⟩, ⟨(some 12), none, (.p (.ext (.t 8) 1))⟩, ⟨(some 4), none, (.p (.mov (.t 11)))⟩, ⟨(some 5), none, (.p (.mov (.t 12)))⟩])
 (.seq (.seq (.reg [⟨(some 13), none, (.p (.mov (.t 5)))⟩, ⟨(some 14), none, (.p (.bin 0 .neq (.t 13) (.c (.int .i64 0))))⟩])
 (.cond (.t 14) (.seq (.reg [⟨(some 15), none, (.m (.build none [.nilS] []))⟩, ⟨(some 16), none, (.p (.mov (.t 5)))⟩, ⟨none, none, (.m (.store 1 (.t 2) (.t 15)))⟩, ⟨(some 3), none, (.p (.mov (.t 16)))⟩])
 (.ret)) (.skip)))
 (.seq (.reg [⟨(some 6), none, (.p (.mov (.c (.nilS))))⟩])
 (.seq (.seq (.reg [⟨(some 7), none, (.p (.mov (.c (.int .i64 0))))⟩])
 (.block 0 (.loop (.seq (.seq (.reg [⟨(some 17), none, (.p (.mov (.t 7)))⟩, ⟨(some 18), none, (.p (.mov (.t 4)))⟩, ⟨(some 19), none, (.p (.len (.t 18)))⟩, ⟨(some 20), none, (.p (.bin 0 .lss (.t 17) (.t 19)))⟩])
 (.cond (.t 20) (.skip) (.exit 0)))
 (.seq (.block 1 (.seq (.reg [⟨(some 23), none, (.p (.mov (.t 4)))⟩, ⟨(some 24), none, (.p (.mov (.t 7)))⟩, ⟨(some 25), none, (.p (.idxA 11 (.t 23) (.t 24)))⟩, ⟨(some 26), none, (.p (.fieldA 0 0 (.t 25)))⟩, ⟨(some 27), none, (.p (.fieldA 0 0 (.t 26)))⟩, ⟨(some 28), none, (.p (.load false 1 (.t 27)))⟩, ⟨(some 29), none, (.p (.bin 0 .eql (.t 28) (.c (.int .i64 (-1)))))⟩])
 (.cond (.t 29) (.reg [⟨(some 30), none, (.p (.mov (.t 6)))⟩, ⟨(some 31), none, (.p (.mov (.t 4)))⟩, ⟨(some 32), none, (.p (.mov (.t 7)))⟩, ⟨(some 33), none, (.p (.idxA 11 (.t 31) (.t 32)))⟩, ⟨(some 34), none, (.p (.fieldA 3 2 (.t 33)))⟩, ⟨(some 35), none, (.p (.load true 8 (.t 34)))⟩, ⟨(some 36), none, (.call 91 [(.t 35)])⟩, ⟨(some 37), none, (.m (.buildS 54 1 (.int .u32 0) 1 [(0, (.t 36))]))⟩, ⟨(some 38), none, (.m (.app 54 1 4 (.t 30) (.t 37)))⟩, ⟨(some 6), none, (.p (.mov (.t 38)))⟩]) (.reg [⟨(some 39), none, (.p (.mov (.t 6)))⟩, ⟨(some 40), none, (.p (.mov (.t 4)))⟩, ⟨(some 41), none, (.p (.mov (.t 7)))⟩, ⟨(some 42), none, (.p (.idxA 11 (.t 40) (.t 41)))⟩, ⟨(some 43), none, (.p (.fieldA 2 1 (.t 42)))⟩, ⟨(some 44), none, (.p (.load false 1 (.t 43)))⟩, ⟨(some 45), none, (.call 92 [(.t 44)])⟩, ⟨(some 46), none, (.m (.buildS 54 1 (.int .u32 0) 1 [(0, (.t 45))]))⟩, ⟨(some 47), none, (.m (.app 54 1 4 (.t 39) (.t 46)))⟩, ⟨(some 6), none, (.p (.mov (.t 47)))⟩]))))
 (.reg [⟨(some 21), none, (.p (.mov (.t 7)))⟩, ⟨(some 22), none, (.p (.bin 0 .add (.t 21) (.c (.int .i64 1))))⟩, ⟨(some 7), none, (.p (.mov (.t 22)))⟩]))))))
 (.seq (.reg [⟨(some 48), none, (.p (.mov (.t 6)))⟩, ⟨(some 49), none, (.call 26 [(.t 48)])⟩, ⟨(some 50), none, (.p (.ext (.t 49) 0))⟩, ⟨(some 51), none, (.p (.ext (.t 49) 1))⟩, ⟨none, none, (.m (.store 1 (.t 2) (.t 50)))⟩, ⟨(some 3), none, (.p (.mov (.t 51)))⟩])
 (.ret))))))
theorem m_zof_ok : compF Try.prog 50 = some (52, m_zof, [.load true 1 (.t 2), .mov (.t 3)]) := by kernel_rfl
attribute [local irreducible] idsF shp lbytes tbytes dadd bld
/-- The digest of a page. -/
def dgP (p : Page) : Int := if p.id.region = -1 then dadd 2166136261 (tbytes p.view) else dadd 2166136261 (lbytes p.cells)
def dls (s : State) : List Int := (pgs s).map dgP
theorem dls_len (s : State) : (dls s).length = (pgs s).length := by simp [dls]
theorem pgs_le {s : State} (h : shp s = true) : (pgs s).length ≤ 20 := by unfold pgs; rw [List.length_map]; exact idsF_le' h
theorem pgs_id {s : State} (h : shp s = true) {k : Nat} (hk : k < (pgs s).length) : There s (pgs s)[k]!.id := by
  rw [pgs_at hk, getP_id]
  unfold pgs at hk
  rw [List.length_map] at hk
  exact mem_idsF (mem_at hk) (shp_to h)
theorem dls_snoc {s : State} {k : Nat} (hk : k < (pgs s).length) : ((pgs s).take k).map dgP ++ [dgP (pgs s)[k]!] = ((pgs s).take (k + 1)).map dgP := by rw [take_snoc hk, List.map_append]; rfl
theorem pgs_regs {s : State} (G : ∀ x ∈ s.threads, x.regs.length ≤ 1000000000) {k : Nat} (hk : k < (pgs s).length) (hT : There s (pgs s)[k]!.id) : (pgs s)[k]!.view.regs.length ≤ 1000000000 := by
  rw [pgs_at hk, getP_id] at hT
  rw [pgs_at hk]
  unfold getP
  split
  · rename_i h
    have : (idsF (szs s) s.threads.length)[k]!.index.toNat < s.threads.length := by unfold There at hT; omega
    exact G _ (mem_at this)
  · exact Nat.zero_le _
attribute [local irreducible] pgs dgP
theorem dgP_T {p : Page} (h : p.id.region = -1) : dgP p = dadd 2166136261 (tbytes p.view) := by unfold dgP; rw [if_pos h]
theorem dgP_C {p : Page} (h : p.id.region ≠ -1) : dgP p = dadd 2166136261 (lbytes p.cells) := by unfold dgP; rw [if_neg h]
set_option maxHeartbeats 8000000 in
theorem tof_bad (s : State) (L : LowS s) (h : shp s = false) : Fnc Try.prog 48 [staV s] (fun x obs => x = .tup [.agg [.nilS], .int .i64 1] ∧ obs = []) := by
  have f1 := pall_fn s L
  rw [sAll_1 h] at f1
  refine Fnc.intro m_tof_ok (by simp) fun W S => ?_
  unfold m_tof
  simp only [ents, Nat.zero_add, Nat.reduceAdd]
  refine zst ?_
  (first | refine callD (f1) ?_ | refine callDw (f1) ?_); simp only [go_sem]
  refine zst ?_
  refine ret m_tof_ok [] ?_; (first | (simp only [go_sem]; done) | (simp only [go_sem]; ((try dsimp only); (repeat' (refine And.intro ?_ ?_)) <;> first | with_reducible rfl | (simp only [go_sem]; done) | (simp only [go_sem]; rfl) | (simp only []; (try simp only [go_sem]); first | done | rfl) | (simp only [go_sem]; simp []; done) | (simp []; done) | rfl)))
set_option maxHeartbeats 8000000 in
theorem zof_bad (s : State) (L : LowS s) (h : shp s = false) : Fnc Try.prog 50 [staV s] (fun x obs => x = .tup [.agg [.nilS], .int .i64 1] ∧ obs = []) := by
  have f1 := zall_fn s L
  rw [sAll_1 h] at f1
  refine Fnc.intro m_zof_ok (by simp) fun W S => ?_
  unfold m_zof
  simp only [ents, Nat.zero_add, Nat.reduceAdd]
  refine zst ?_
  (first | refine callD (f1) ?_ | refine callDw (f1) ?_); simp only [go_sem]
  refine zst ?_
  refine ret m_zof_ok [] ?_; (first | (simp only [go_sem]; done) | (simp only [go_sem]; ((try dsimp only); (repeat' (refine And.intro ?_ ?_)) <;> first | with_reducible rfl | (simp only [go_sem]; done) | (simp only [go_sem]; rfl) | (simp only []; (try simp only [go_sem]); first | done | rfl) | (simp only [go_sem]; simp []; done) | (simp []; done) | rfl)))
set_option maxHeartbeats 8000000 in
theorem tof_to (s : State) (L : LowS s) (h : shp s = true) (T : V) (e : Int) (hB : Fnc Try.prog 28 [dsV (dls s)] (fun x obs => x = .tup [.agg [T], .int .i64 e] ∧ obs = [])) (hTT : (∃ B : List (List Int), T = .sl false 1 (B.map dsV)) ∨ T = .nilS ∨ ∃ B : List (List Int), T = .sl true 1 (B.map dtV)) : Fnc Try.prog 48 [staV s] (fun x obs => x = .tup [.agg [T], .int .i64 e] ∧ obs = []) := by
  have f1 := pall_fn s L
  rw [sAll_0 h] at f1
  have hn := pgs_le h
  have hT := fun k hk => pgs_id (s := s) h (k := k) hk
  have hS := fun k hk => dls_snoc (s := s) (k := k) hk
  have hP : (pgs s).map dgP = dls s := rfl
  generalize pgs s = D at f1 hn hT hS hP
  refine Fnc.intro m_tof_ok (by simp) fun W S => ?_
  unfold m_tof
  simp only [ents, Nat.zero_add, Nat.reduceAdd]
  refine zst ?_
  (first | refine callD (f1) ?_ | refine callDw (f1) ?_); simp only [go_sem]
  refine zst ?_
  refine ev_adopt (i := 6) (e := 54) (s := 1) rfl (by decide) ?_
  refine ev_loopK [2, 18, 19] (fun p : {p : Nat // p ≤ D.length} => [(6, .own 2 p.1), (20, .int .i64 p.1)]) (fun p => [⟨.box false 30, true, 0, staV s⟩, ⟨.box false 57, true, 0, .agg [.nilS]⟩, ⟨.row 54, true, p.1, .arr 1 (u32s ((D.take p.1).map dgP))⟩]) (fun p => D.length - p.1) (⟨0, by simp⟩) 3 (by simp only [go_sem]; rfl) ?_ (by first | rfl | (simp only [go_sem]; done)) (by simp) (by first | rfl | (simp only [go_sem]; done)) (by first | rfl | (simp only [go_sem]; done)) (by first | rfl | (simp only [go_sem]; done)) ?_
  · (simp only [go_sem]; (try simp []); done)
  intro J hJ
  rintro ⟨k, hk0⟩
  by_cases hlt : k < D.length
  · have ht := hT k hlt
    have hs := hS k hlt
    by_cases c : D[k]!.id.region = -1
    · have hd := dgP_T c
      rw [hd] at hs
      refine zst ?_
      (first | refine callD (thread_fn D[k]!.view) ?_ | refine callDw (thread_fn D[k]!.view) ?_); simp only [go_sem]
      refine zst ?_
      refine ev_next 3 (hJ _ (⟨k + 1, hlt⟩) (by first | omega | (dsimp only; omega) | (simp; omega))) rfl (by simp) ?_ (by first | rfl | (simp only [go_sem]; done)) (by first | rfl | (simp only [go_sem]; done) | (simp only [hs]; (try simp only [go_sem]); first | done | rfl)) ?_
      · (first | rfl | (simp only [go_sem]; done) | (simp only [go_sem]; simp only [hs]; done) | (simp only [hs]; done) | (simp only [go_sem]; simp [hs]; done) | (simp [hs]; done))
      · (simp only [go_sem]; (repeat' (refine And.intro ?_ ?_)) <;> first | exact trivial | with_reducible rfl | (simp only [hs]; done) | (simp only [hs]; with_reducible rfl) | (simp [hs]; done) | (simp [hs]; omega) | (simp only [hs]; rfl) | skip)
    · have hd := dgP_C c
      rw [hd] at hs
      have c2 : ¬ D[k]!.id.region < 0 := by unfold There at ht; omega
      refine zst ?_
      (first | refine callD (Cells_fn D[k]!.cells) ?_ | refine callDw (Cells_fn D[k]!.cells) ?_); simp only [go_sem]
      refine zst ?_
      refine ev_next 3 (hJ _ (⟨k + 1, hlt⟩) (by first | omega | (dsimp only; omega) | (simp; omega))) rfl (by simp) ?_ (by first | rfl | (simp only [go_sem]; done)) (by first | rfl | (simp only [go_sem]; done) | (simp only [hs]; (try simp only [go_sem]); first | done | rfl)) ?_
      · (first | rfl | (simp only [go_sem]; done) | (simp only [go_sem]; simp only [hs]; done) | (simp only [hs]; done) | (simp only [go_sem]; simp [hs]; done) | (simp [hs]; done))
      · (simp only [go_sem]; (repeat' (refine And.intro ?_ ?_)) <;> first | exact trivial | with_reducible rfl | (simp only [hs]; done) | (simp only [hs]; with_reducible rfl) | (simp [hs]; done) | (simp [hs]; omega) | (simp only [hs]; rfl) | skip)
  · obtain rfl : k = D.length := by omega
    dsimp only
    rw [List.take_length, hP]
    rcases hTT with ⟨B, rfl⟩ | rfl | ⟨B, rfl⟩
    · skip
      refine zst ?_
      refine evr_calmA ?_; (refine zev ?_); (first | refine callD (hB) ?_ | refine callDw (hB) ?_); simp only [go_sem]
      refine zst ?_
      refine ret m_tof_ok [] ?_; (first | (simp only [go_sem]; done) | (simp only [go_sem]; ((try dsimp only); (repeat' (refine And.intro ?_ ?_)) <;> first | with_reducible rfl | (simp only [go_sem]; done) | (simp only [go_sem]; rfl) | (simp only []; (try simp only [go_sem]); first | done | rfl) | (simp only [go_sem]; simp []; done) | (simp []; done) | rfl)))
    · skip
      refine zst ?_
      refine evr_calmA ?_; (refine zev ?_); (first | refine callD (hB) ?_ | refine callDw (hB) ?_); simp only [go_sem]
      refine zst ?_
      refine ret m_tof_ok [] ?_; (first | (simp only [go_sem]; done) | (simp only [go_sem]; ((try dsimp only); (repeat' (refine And.intro ?_ ?_)) <;> first | with_reducible rfl | (simp only [go_sem]; done) | (simp only [go_sem]; rfl) | (simp only []; (try simp only [go_sem]); first | done | rfl) | (simp only [go_sem]; simp []; done) | (simp []; done) | rfl)))
    · skip
      refine zst ?_
      refine evr_calmA ?_; (refine zev ?_); (first | refine callD (hB) ?_ | refine callDw (hB) ?_); simp only [go_sem]
      refine zst ?_
      refine ret m_tof_ok [] ?_; (first | (simp only [go_sem]; done) | (simp only [go_sem]; ((try dsimp only); (repeat' (refine And.intro ?_ ?_)) <;> first | with_reducible rfl | (simp only [go_sem]; done) | (simp only [go_sem]; rfl) | (simp only []; (try simp only [go_sem]); first | done | rfl) | (simp only [go_sem]; simp []; done) | (simp []; done) | rfl)))
set_option maxHeartbeats 8000000 in
theorem zof_to (s : State) (L : LowS s) (G : ∀ x ∈ s.threads, x.regs.length ≤ 1000000000) (h : shp s = true) (T : V) (e : Int) (hB : Fnc Try.prog 26 [dsV (dls s)] (fun x obs => x = .tup [.agg [T], .int .i64 e] ∧ obs = [])) (hTT : (∃ B : List (List Int), T = .sl false 1 (B.map dsV)) ∨ T = .nilS) : Fnc Try.prog 50 [staV s] (fun x obs => x = .tup [.agg [T], .int .i64 e] ∧ obs = []) := by
  have f1 := zall_fn s L
  rw [sAll_0 h] at f1
  have hn := pgs_le h
  have hT := fun k hk => pgs_id (s := s) h (k := k) hk
  have hG := fun k hk => pgs_regs (s := s) G (k := k) hk (hT k hk)
  have hS := fun k hk => dls_snoc (s := s) (k := k) hk
  have hC : ∀ k, k < (pgs s).length → (pgs s)[k]!.cells.length ≤ 8 := fun k hk => by
    have := hT k hk
    rw [pgs_at hk, getP_id] at this
    rw [pgs_at hk]
    exact this.cells.1
  have hP : (pgs s).map dgP = dls s := rfl
  generalize pgs s = D at f1 hn hT hS hP hG hC
  refine Fnc.intro m_zof_ok (by simp) fun W S => ?_
  unfold m_zof
  simp only [ents, Nat.zero_add, Nat.reduceAdd]
  refine zst ?_
  (first | refine callD (f1) ?_ | refine callDw (f1) ?_); simp only [go_sem]
  refine zst ?_
  refine ev_adopt (i := 6) (e := 54) (s := 1) rfl (by decide) ?_
  refine ev_loopK [2, 4] (fun p : {p : Nat // p ≤ D.length} => [(6, .own 2 p.1), (7, .int .i64 p.1)]) (fun p => [⟨.box false 30, true, 0, staV s⟩, ⟨.box false 57, true, 0, .agg [.nilS]⟩, ⟨.row 54, true, p.1, .arr 1 (u32s ((D.take p.1).map dgP))⟩]) (fun p => D.length - p.1) (⟨0, by simp⟩) 3 (by simp only [go_sem]; rfl) ?_ (by first | rfl | (simp only [go_sem]; done)) (by simp) (by first | rfl | (simp only [go_sem]; done)) (by first | rfl | (simp only [go_sem]; done)) (by first | rfl | (simp only [go_sem]; done)) ?_
  · (simp only [go_sem]; (try simp []); done)
  intro J hJ
  rintro ⟨k, hk0⟩
  by_cases hlt : k < D.length
  · have ht := hT k hlt
    have hs := hS k hlt
    have hc := hC k hlt
    by_cases c : D[k]!.id.region = -1
    · have hd := dgP_T c
      rw [hd] at hs
      refine zst ?_
      (first | refine callD (rThread_fn D[k]!.view (hG k hlt)) ?_ | refine callDw (rThread_fn D[k]!.view (hG k hlt)) ?_); simp only [go_sem]
      refine zst ?_
      refine ev_next 3 (hJ _ (⟨k + 1, hlt⟩) (by first | omega | (dsimp only; omega) | (simp; omega))) rfl (by simp) ?_ (by first | rfl | (simp only [go_sem]; done)) (by first | rfl | (simp only [go_sem]; done) | (simp only [hs]; (try simp only [go_sem]); first | done | rfl)) ?_
      · (first | rfl | (simp only [go_sem]; done) | (simp only [go_sem]; simp only [hs]; done) | (simp only [hs]; done) | (simp only [go_sem]; simp [hs]; done) | (simp [hs]; done))
      · (simp only [go_sem]; (repeat' (refine And.intro ?_ ?_)) <;> first | exact trivial | with_reducible rfl | (simp only [hs]; done) | (simp only [hs]; with_reducible rfl) | (simp [hs]; done) | (simp [hs]; omega) | (simp only [hs]; rfl) | skip)
    · have hd := dgP_C c
      rw [hd] at hs
      refine zst ?_
      (first | refine callD (rCells_fn D[k]!.cells (by omega)) ?_ | refine callDw (rCells_fn D[k]!.cells (by omega)) ?_); simp only [go_sem]
      refine zst ?_
      refine ev_next 3 (hJ _ (⟨k + 1, hlt⟩) (by first | omega | (dsimp only; omega) | (simp; omega))) rfl (by simp) ?_ (by first | rfl | (simp only [go_sem]; done)) (by first | rfl | (simp only [go_sem]; done) | (simp only [hs]; (try simp only [go_sem]); first | done | rfl)) ?_
      · (first | rfl | (simp only [go_sem]; done) | (simp only [go_sem]; simp only [hs]; done) | (simp only [hs]; done) | (simp only [go_sem]; simp [hs]; done) | (simp [hs]; done))
      · (simp only [go_sem]; (repeat' (refine And.intro ?_ ?_)) <;> first | exact trivial | with_reducible rfl | (simp only [hs]; done) | (simp only [hs]; with_reducible rfl) | (simp [hs]; done) | (simp [hs]; omega) | (simp only [hs]; rfl) | skip)
  · obtain rfl : k = D.length := by omega
    dsimp only
    rw [List.take_length, hP]
    rcases hTT with ⟨B, rfl⟩ | rfl
    · skip
      refine zst ?_
      refine evr_calmA ?_; (refine zev ?_); (first | refine callD (hB) ?_ | refine callDw (hB) ?_); simp only [go_sem]
      refine zst ?_
      refine ret m_zof_ok [] ?_; (first | (simp only [go_sem]; done) | (simp only [go_sem]; ((try dsimp only); (repeat' (refine And.intro ?_ ?_)) <;> first | with_reducible rfl | (simp only [go_sem]; done) | (simp only [go_sem]; rfl) | (simp only []; (try simp only [go_sem]); first | done | rfl) | (simp only [go_sem]; simp []; done) | (simp []; done) | rfl)))
    · skip
      refine zst ?_
      refine evr_calmA ?_; (refine zev ?_); (first | refine callD (hB) ?_ | refine callDw (hB) ?_); simp only [go_sem]
      refine zst ?_
      refine ret m_zof_ok [] ?_; (first | (simp only [go_sem]; done) | (simp only [go_sem]; ((try dsimp only); (repeat' (refine And.intro ?_ ?_)) <;> first | with_reducible rfl | (simp only [go_sem]; done) | (simp only [go_sem]; rfl) | (simp only []; (try simp only [go_sem]); first | done | rfl) | (simp only [go_sem]; simp []; done) | (simp []; done) | rfl)))
end Go.Proofs.Ytcphobeommkgeaa
/- States copied such that a region may be written; trees that are new. -/
namespace Go.Proofs.Ytcphobeommkgeaa
open Go Go.RowKit Rdn Rdn.Dp
set_option linter.unusedVariables false
set_option linter.unusedSimpArgs false
def m_zcopy : MC := .seq (.reg [⟨(some 1), none, (.m (.box 30 (.t 0)))⟩, ⟨(some 2), none, (.m (.alloc 30 (.agg [.nilS, .nilS])))⟩])
 (.seq (.reg [⟨(some 3), none, (.m (.alloc 30 (.agg [.nilS, .nilS])))⟩])
 (.seq (.seq (.reg [⟨(some 4), none, (.p (.mov (.c (.int .i64 0))))⟩])
 (.block 0 (.loop (.seq (.seq (.reg [⟨(some 6), none, (.p (.mov (.t 4)))⟩, ⟨(some 7), none, (.p (.fieldA 0 0 (.t 1)))⟩, ⟨(some 8), none, (.p (.load false 1 (.t 7)))⟩, ⟨(some 9), none, (.p (.len (.t 8)))⟩, ⟨(some 10), none, (.p (.bin 0 .lss (.t 6) (.t 9)))⟩])
 (.cond (.t 10) (.skip) (.exit 0)))
 (.seq (.block 1 (.dreg [⟨(some 13), none, (.p (.fieldA 0 0 (.t 3)))⟩, ⟨(some 14), none, (.p (.load false 1 (.t 13)))⟩, ⟨(some 15), none, (.m (.buildS 84 4 (.agg [.int .u8 0, .int .u16 0, .int .i64 0, .int .i64 0]) 0 []))⟩, ⟨(some 16), none, (.p (.fieldA 0 0 (.t 1)))⟩, ⟨(some 17), none, (.p (.load false 1 (.t 16)))⟩, ⟨(some 18), none, (.p (.mov (.t 4)))⟩, ⟨(some 19), none, (.p (.idxA 1 (.t 17) (.t 18)))⟩, ⟨(some 20), none, (.p (.load false 1 (.t 19)))⟩, ⟨(some 21), none, (.m (.app 84 4 24 (.t 15) (.t 20)))⟩, ⟨(some 22), none, (.m (.buildS 40 1 (.nilS) 1 [(0, (.t 21))]))⟩, ⟨(some 23), none, (.m (.app 40 1 24 (.t 14) (.t 22)))⟩, ⟨(some 24), none, (.p (.fieldA 0 0 (.t 3)))⟩, ⟨none, none, (.m (.store 1 (.t 24) (.t 23)))⟩] [[], [0], [], [], [3], [], [3, 4, 5], [3, 4, 5, 6], [2, 3, 4, 5, 6, 7], [2, 3, 4, 5, 6, 7, 8], [0, 1, 2, 3, 4, 5, 6, 7, 8, 9], [0, 1, 2, 3, 4, 5, 6, 7, 8, 9, 10], [0, 1, 2, 3, 4, 5, 6, 7, 8, 9, 10, 11]]))
 (.reg [⟨(some 11), none, (.p (.mov (.t 4)))⟩, ⟨(some 12), none, (.p (.bin 0 .add (.t 11) (.c (.int .i64 1))))⟩, ⟨(some 4), none, (.p (.mov (.t 12)))⟩]))))))
 (.seq (.seq (.reg [⟨(some 5), none, (.p (.mov (.c (.int .i64 0))))⟩])
 (.block 2 (.loop (.seq (.seq (.reg [⟨(some 25), none, (.p (.mov (.t 5)))⟩, ⟨(some 26), none, (.p (.fieldA 1 1 (.t 1)))⟩, ⟨(some 27), none, (.p (.load false 1 (.t 26)))⟩, ⟨(some 28), none, (.p (.len (.t 27)))⟩, ⟨(some 29), none, (.p (.bin 0 .lss (.t 25) (.t 28)))⟩])
 (.cond (.t 29) (.skip) (.exit 2)))
 (.seq (.block 3 (.dreg [⟨(some 32), none, (.p (.fieldA 1 1 (.t 3)))⟩, ⟨(some 33), none, (.p (.load false 1 (.t 32)))⟩, ⟨(some 34), none, (.p (.fieldA 1 1 (.t 1)))⟩, ⟨(some 35), none, (.p (.load false 1 (.t 34)))⟩, ⟨(some 36), none, (.p (.mov (.t 5)))⟩, ⟨(some 37), none, (.p (.idxA 8 (.t 35) (.t 36)))⟩, ⟨(some 38), none, (.p (.load true 8 (.t 37)))⟩, ⟨(some 39), none, (.call 88 [(.t 38)])⟩, ⟨(some 40), none, (.m (.buildS 43 8 (.agg [.int .i64 0, .int .i64 0, .int .i64 0, .int .i64 0, .int .i64 0, .int .i64 0, .int .u16 0, .nilS]) 1 [(0, (.t 39))]))⟩, ⟨(some 41), none, (.m (.app 43 8 80 (.t 33) (.t 40)))⟩, ⟨(some 42), none, (.p (.fieldA 1 1 (.t 3)))⟩, ⟨none, none, (.m (.store 1 (.t 42) (.t 41)))⟩] [[], [0], [], [2], [], [2, 3, 4], [2, 3, 4, 5], [2, 3, 4, 5, 6], [2, 3, 4, 5, 6, 7], [0, 1, 2, 3, 4, 5, 6, 7, 8], [0, 1, 2, 3, 4, 5, 6, 7, 8, 9], [0, 1, 2, 3, 4, 5, 6, 7, 8, 9, 10]]))
 (.reg [⟨(some 30), none, (.p (.mov (.t 5)))⟩, ⟨(some 31), none, (.p (.bin 0 .add (.t 30) (.c (.int .i64 1))))⟩, ⟨(some 5), none, (.p (.mov (.t 31)))⟩]))))))
 (.seq (.reg [⟨(some 43), none, (.p (.load true 2 (.t 3)))⟩, ⟨none, none, (.m (.store 2 (.t 2) (.t 43)))⟩])
 (.ret)))))
theorem m_zcopy_ok : compF Try.prog 47 = some (44, m_zcopy, [.load true 2 (.t 2)]) := by kernel_rfl
attribute [local go_sem] List.length_set
/-- The objects of a copy, one region of which may be written. -/
def sJ (s : State) (j : Nat) (p : Nat) : List Ob := if j < p then [⟨.box false 30, true, 0, staV s⟩, ⟨.box false 30, true, 0, .agg [.nilS, .nilS]⟩, ⟨.box false 30, true, 0, .agg [.own 3 p, .nilS]⟩, ⟨.rows 40, true, p, .arr 1 (((s.regions.take p).map (slV' true 4 canonV)).set j (.own 4 2))⟩, ⟨.row 84, true, 2, .arr 4 (s.regions[j]!.map canonV)⟩] else [⟨.box false 30, true, 0, staV s⟩, ⟨.box false 30, true, 0, .agg [.nilS, .nilS]⟩, ⟨.box false 30, true, 0, .agg [.own 3 p, .nilS]⟩, ⟨.rows 40, true, p, .arr 1 ((s.regions.take p).map (slV' true 4 canonV))⟩]
theorem sJ_ge {s : State} {j p : Nat} (h : ¬ j < p) : sJ s j p = [⟨.box false 30, true, 0, staV s⟩, ⟨.box false 30, true, 0, .agg [.nilS, .nilS]⟩, ⟨.box false 30, true, 0, .agg [.own 3 p, .nilS]⟩, ⟨.rows 40, true, p, .arr 1 ((s.regions.take p).map (slV' true 4 canonV))⟩] := if_neg h
theorem sJ_lt {s : State} {j p : Nat} (h : j < p) : sJ s j p = [⟨.box false 30, true, 0, staV s⟩, ⟨.box false 30, true, 0, .agg [.nilS, .nilS]⟩, ⟨.box false 30, true, 0, .agg [.own 3 p, .nilS]⟩, ⟨.rows 40, true, p, .arr 1 (((s.regions.take p).map (slV' true 4 canonV)).set j (.own 4 2))⟩, ⟨.row 84, true, 2, .arr 4 (s.regions[j]!.map canonV)⟩] := if_pos h
theorem setJ_lt {α : Type} [Inhabited α] {l : List α} {g : α → V} {j k : Nat} {x : V} (h : k < l.length) (hj : j < k) : ((l.take k).map g).set j x ++ [g l[k]!] = ((l.take (k + 1)).map g).set j x := by
  rw [take_snoc h, List.map_append, List.set_append_left _ _ (by simp; omega)]; rfl
theorem setJ_eq {α : Type} [Inhabited α] {l : List α} {g : α → V} {k : Nat} {x : V} (h : k < l.length) : (l.take k).map g ++ [x] = ((l.take (k + 1)).map g).set k x := by
  rw [take_snoc h, List.map_append, List.set_append_right _ _ (by simp; omega)]
  simp [Nat.min_eq_left (Nat.le_of_lt h)]
theorem setJ_snoc {α : Type} [Inhabited α] {l : List α} {g : α → V} {k : Nat} {x y : V} (h : k < l.length) (hy : y = g l[k]!) : ((l.take k).map g ++ [x]).set k y = (l.take (k + 1)).map g := by
  subst hy
  rw [List.set_append_right _ _ (by simp; omega), take_snoc h, List.map_append]
  simp [Nat.min_eq_left (Nat.le_of_lt h)]
theorem setJ_snoc2 {α : Type} [Inhabited α] {l : List α} {g : α → V} {j k : Nat} {x y z : V} (h : k < l.length) (hj : j < k) (hy : y = g l[k]!) : (((l.take k).map g).set j z ++ [x]).set k y = ((l.take (k + 1)).map g).set j z := by
  subst hy
  rw [List.set_append_right _ _ (by simp; omega), ← setJ_lt h hj]
  simp [Nat.min_eq_left (Nat.le_of_lt h)]
theorem snoc_get {A : List V} {x : V} {k : Nat} (h : A.length = k) : (A ++ [x])[k]? = some x := by subst h; simp
set_option maxHeartbeats 16000000 in
theorem zcopyJ_fn (s : State) (L : LowS s) (j : Nat) (hj : j < s.regions.length) (hr : s.regions.length ≤ 1000) (ht : s.threads.length ≤ 1000) : Fnc Try.prog 47 [staV s] (fun x obs => x = .agg [.own 0 0, .own 1 0] ∧ obs = [⟨.rows 40, true, 0, .arr 1 ((s.regions.map (slV' true 4 canonV)).set j (.own 2 0))⟩, ⟨.row 43, true, 0, .arr 8 (s.threads.map (viewV true))⟩, ⟨.row 84, true, 0, .arr 4 (s.regions[j]!.map canonV)⟩]) := by
  refine Fnc.intro m_zcopy_ok (by simp) fun W S => ?_
  unfold m_zcopy
  simp only [ents, Nat.zero_add, Nat.reduceAdd]
  refine zst ?_
  refine ev_adoptB 2 0 40 1 rfl rfl (by decide) rfl ?_
  refine ev_toRows 3 rfl ?_
  refine ev_loopK [1, 2, 3] (fun p : {p : Nat // p ≤ s.regions.length} => [(4, .int .i64 p.1)]) (fun p => sJ s j p.1) (fun p => s.regions.length - p.1) (⟨0, by simp⟩) 4 (by simp only [go_sem]; rfl) ?_ (by first | rfl | (simp only [go_sem]; done) | (simp only [go_sem]; simp [sJ_ge (Nat.not_lt_zero j)]; done)) (by simp) (by first | rfl | (simp only [go_sem]; done)) (by first | rfl | (simp only [go_sem]; done)) (by first | rfl | (simp only [go_sem]; done) | (simp only [sJ_ge (Nat.not_lt_zero j)]; (try simp only [go_sem]); first | done | rfl)) ?_
  · (simp only [go_sem]; (try simp [sJ_ge (Nat.not_lt_zero j)]); done)
  intro J hJ
  rintro ⟨k, hk0⟩
  dsimp only
  by_cases hlt : k < s.regions.length
  · have hb := L.c _ (mem_at hlt)
    have hl2 : (s.regions.take k).length = k := by rw [List.length_take]; omega
    rcases Nat.lt_trichotomy k j with c | c | c
    · rw [sJ_ge (by omega)]
      have hq : ((s.regions.take k).map (slV' true 4 canonV) ++ [V.own 4 2]).set k (V.sl true 4 (s.regions[k]!.map canonV)) = (s.regions.take (k + 1)).map (slV' true 4 canonV) := setJ_snoc hlt rfl
      refine zso ?_
      refine ev_draw (fu := fu8) mixed [2, 9] 2 rfl (by kernel_rfl) ?_; simp only [go_sem]
      repeat (first | refine And.intro (by omega) ?_ | refine And.intro rfl ?_ | refine ev_ctl rfl rfl ?_ | refine evr_nil ?_ | refine evw_nil (by kernel_rfl) ?_ | (simp (disch := omega) only [takeAll, Nat.min_eq_left, Nat.min_eq_right, if_pos, if_neg, getD_map, wrapI64, modIn, fdivE, tmodE, tdivE, decT, decF, beqT, beqF, bneT, bneF, Int.toNat_natCast]; try simp only [go_sem]) | (refine ev_condTb rfl ?_ ?_; · (simp <;> omega)) | (refine ev_condFb rfl ?_ ?_; · (simp <;> omega)) | ((first | refine ev_region ?_ | refine evr_go rfl ?_ | refine evw_gom [2, 9] rfl ?_ | refine ev_dr0 mixed rfl (by kernel_rfl) ?_ | refine ev_dr1 mixed rfl (by kernel_rfl) ?_ | refine ev_dr2 mixed rfl (by kernel_rfl) ?_); simp only [go_sem]))
      refine ev_frzIn 3 k 4 rfl rfl (snoc_get (by rw [List.length_map, hl2])) ?_
      simp only [go_sem]
      refine ev_next 4 (hJ _ (⟨k + 1, hlt⟩) (by first | omega | (dsimp only; omega) | (simp; omega))) rfl (by simp) ?_ (by first | rfl | (simp only [go_sem]; done)) (by first | rfl | (simp only [go_sem]; done) | (simp only [sJ_ge (show ¬ j < k + 1 by omega), hq]; (try simp only [go_sem]); first | done | rfl)) ?_
      · (first | rfl | (simp only [go_sem]; done) | (simp only [go_sem]; simp only [sJ_ge (show ¬ j < k + 1 by omega), hq]; done) | (simp only [sJ_ge (show ¬ j < k + 1 by omega), hq]; done) | (simp only [go_sem]; simp [sJ_ge (show ¬ j < k + 1 by omega), hq]; done) | (simp [sJ_ge (show ¬ j < k + 1 by omega), hq]; done))
      · (simp only [go_sem]; (repeat' (refine And.intro ?_ ?_)) <;> first | exact trivial | with_reducible rfl | (simp only [sJ_ge (show ¬ j < k + 1 by omega), hq]; done) | (simp only [sJ_ge (show ¬ j < k + 1 by omega), hq]; with_reducible rfl) | (simp [sJ_ge (show ¬ j < k + 1 by omega), hq]; done) | (simp [sJ_ge (show ¬ j < k + 1 by omega), hq]; omega) | (simp only [sJ_ge (show ¬ j < k + 1 by omega), hq]; rfl) | skip)
    · subst c
      rw [sJ_ge (by omega)]
      have hs2 : (s.regions.take k).map (slV' true 4 canonV) ++ [V.own 4 2] = ((s.regions.take (k + 1)).map (slV' true 4 canonV)).set k (.own 4 2) := setJ_eq hlt
      refine zso ?_
      refine ev_draw (fu := fu8) mixed [2, 9] 2 rfl (by kernel_rfl) ?_; simp only [go_sem]
      repeat (first | refine And.intro (by omega) ?_ | refine And.intro rfl ?_ | refine ev_ctl rfl rfl ?_ | refine evr_nil ?_ | refine evw_nil (by kernel_rfl) ?_ | (simp (disch := omega) only [takeAll, Nat.min_eq_left, Nat.min_eq_right, if_pos, if_neg, getD_map, wrapI64, modIn, fdivE, tmodE, tdivE, decT, decF, beqT, beqF, bneT, bneF, Int.toNat_natCast]; try simp only [go_sem]) | (refine ev_condTb rfl ?_ ?_; · (simp <;> omega)) | (refine ev_condFb rfl ?_ ?_; · (simp <;> omega)) | ((first | refine ev_region ?_ | refine evr_go rfl ?_ | refine evw_gom [2, 9] rfl ?_ | refine ev_dr0 mixed rfl (by kernel_rfl) ?_ | refine ev_dr1 mixed rfl (by kernel_rfl) ?_ | refine ev_dr2 mixed rfl (by kernel_rfl) ?_); simp only [go_sem]))
      refine ev_next 5 (hJ _ (⟨k + 1, hlt⟩) (by first | omega | (dsimp only; omega) | (simp; omega))) rfl (by simp) ?_ (by first | rfl | (simp only [go_sem]; done)) (by first | rfl | (simp only [go_sem]; done) | (simp only [sJ_lt (show k < k + 1 by omega), hs2, List.cons_append, List.nil_append]; (try simp only [go_sem]); first | done | rfl)) ?_
      · (first | rfl | (simp only [go_sem]; done) | (simp only [go_sem]; simp only [sJ_lt (show k < k + 1 by omega), hs2, List.cons_append, List.nil_append]; done) | (simp only [sJ_lt (show k < k + 1 by omega), hs2, List.cons_append, List.nil_append]; done) | (simp only [go_sem]; simp [sJ_lt (show k < k + 1 by omega), hs2, List.cons_append, List.nil_append]; done) | (simp [sJ_lt (show k < k + 1 by omega), hs2, List.cons_append, List.nil_append]; done))
      · (simp only [go_sem]; (repeat' (refine And.intro ?_ ?_)) <;> first | exact trivial | with_reducible rfl | (simp only [sJ_lt (show k < k + 1 by omega), hs2, List.cons_append, List.nil_append]; done) | (simp only [sJ_lt (show k < k + 1 by omega), hs2, List.cons_append, List.nil_append]; with_reducible rfl) | (simp [sJ_lt (show k < k + 1 by omega), hs2, List.cons_append, List.nil_append]; done) | (simp [sJ_lt (show k < k + 1 by omega), hs2, List.cons_append, List.nil_append]; omega) | (simp only [sJ_lt (show k < k + 1 by omega), hs2, List.cons_append, List.nil_append]; rfl) | skip)
    · rw [sJ_lt c]
      have hq : (((s.regions.take k).map (slV' true 4 canonV)).set j (V.own 4 2) ++ [V.own 5 2]).set k (V.sl true 4 (s.regions[k]!.map canonV)) = ((s.regions.take (k + 1)).map (slV' true 4 canonV)).set j (.own 4 2) := setJ_snoc2 hlt c rfl
      refine zso ?_
      refine ev_draw (fu := fu8) mixed [2, 9] 2 rfl (by kernel_rfl) ?_; simp only [go_sem]
      repeat (first | refine And.intro (by omega) ?_ | refine And.intro rfl ?_ | refine ev_ctl rfl rfl ?_ | refine evr_nil ?_ | refine evw_nil (by kernel_rfl) ?_ | (simp (disch := omega) only [takeAll, Nat.min_eq_left, Nat.min_eq_right, if_pos, if_neg, getD_map, wrapI64, modIn, fdivE, tmodE, tdivE, decT, decF, beqT, beqF, bneT, bneF, Int.toNat_natCast]; try simp only [go_sem]) | (refine ev_condTb rfl ?_ ?_; · (simp <;> omega)) | (refine ev_condFb rfl ?_ ?_; · (simp <;> omega)) | ((first | refine ev_region ?_ | refine evr_go rfl ?_ | refine evw_gom [2, 9] rfl ?_ | refine ev_dr0 mixed rfl (by kernel_rfl) ?_ | refine ev_dr1 mixed rfl (by kernel_rfl) ?_ | refine ev_dr2 mixed rfl (by kernel_rfl) ?_); simp only [go_sem]))
      refine ev_frzIn 3 k 5 rfl rfl (snoc_get (by rw [List.length_set, List.length_map, hl2])) ?_
      simp only [go_sem]
      refine ev_next 5 (hJ _ (⟨k + 1, hlt⟩) (by first | omega | (dsimp only; omega) | (simp; omega))) rfl (by simp) ?_ (by first | rfl | (simp only [go_sem]; done)) (by first | rfl | (simp only [go_sem]; done) | (simp only [sJ_lt (show j < k + 1 by omega), hq]; (try simp only [go_sem]); first | done | rfl)) ?_
      · (first | rfl | (simp only [go_sem]; done) | (simp only [go_sem]; simp only [sJ_lt (show j < k + 1 by omega), hq]; done) | (simp only [sJ_lt (show j < k + 1 by omega), hq]; done) | (simp only [go_sem]; simp [sJ_lt (show j < k + 1 by omega), hq]; done) | (simp [sJ_lt (show j < k + 1 by omega), hq]; done))
      · (simp only [go_sem]; (repeat' (refine And.intro ?_ ?_)) <;> first | exact trivial | with_reducible rfl | (simp only [sJ_lt (show j < k + 1 by omega), hq]; done) | (simp only [sJ_lt (show j < k + 1 by omega), hq]; with_reducible rfl) | (simp [sJ_lt (show j < k + 1 by omega), hq]; done) | (simp [sJ_lt (show j < k + 1 by omega), hq]; omega) | (simp only [sJ_lt (show j < k + 1 by omega), hq]; rfl) | skip)
  · obtain rfl : k = s.regions.length := by omega
    rw [sJ_lt hj]
    refine zst ?_
    refine ev_adoptB 2 1 43 8 rfl rfl (by decide) rfl ?_
    refine ev_loopK [1, 2, 3] (fun p : {p : Nat // p ≤ s.threads.length} => [(5, .int .i64 p.1)]) (fun p => [⟨.box false 30, true, 0, staV s⟩, ⟨.box false 30, true, 0, .agg [.nilS, .nilS]⟩, ⟨.box false 30, true, 0, .agg [.own 3 s.regions.length, .own 5 p.1]⟩, ⟨.rows 40, true, s.regions.length, .arr 1 ((s.regions.map (slV' true 4 canonV)).set j (.own 4 2))⟩, ⟨.row 84, true, 2, .arr 4 (s.regions[j]!.map canonV)⟩, ⟨.row 43, true, p.1, .arr 8 ((s.threads.take p.1).map (viewV true))⟩]) (fun p => s.threads.length - p.1) (⟨0, by simp⟩) 6 (by simp only [go_sem]; rfl) ?_ (by first | rfl | (simp only [go_sem]; done)) (by simp) (by first | rfl | (simp only [go_sem]; done)) (by first | rfl | (simp only [go_sem]; done)) (by first | rfl | (simp only [go_sem]; done)) ?_
    · (simp only [go_sem]; (try simp []); done)
    intro J hJ
    rintro ⟨k, hk0⟩
    by_cases hlt : k < s.threads.length
    · have hb := L.g _ (mem_at hlt)
      have hl2 : (s.threads.take k).length = k := by rw [List.length_take]; omega
      have hs : (s.threads.take k).map (viewV true) ++ [viewV true s.threads[k]!] = (s.threads.take (k + 1)).map (viewV true) := by rw [take_snoc hlt, List.map_append]; rfl
      refine zst ?_
      (first | refine callD (zcopied_fn s.threads[k]! hb) ?_ | refine callDw (zcopied_fn s.threads[k]! hb) ?_); simp only [go_sem]
      refine zst ?_
      refine ev_next 6 (hJ _ (⟨k + 1, hlt⟩) (by first | omega | (dsimp only; omega) | (simp; omega))) rfl (by simp) ?_ (by first | rfl | (simp only [go_sem]; done)) (by first | rfl | (simp only [go_sem]; done) | (simp only [hs]; (try simp only [go_sem]); first | done | rfl)) ?_
      · (first | rfl | (simp only [go_sem]; done) | (simp only [go_sem]; simp only [hs]; done) | (simp only [hs]; done) | (simp only [go_sem]; simp [hs]; done) | (simp [hs]; done))
      · (simp only [go_sem]; (repeat' (refine And.intro ?_ ?_)) <;> first | exact trivial | with_reducible rfl | (simp only [hs]; done) | (simp only [hs]; with_reducible rfl) | (simp [hs]; done) | (simp [hs]; omega) | (simp only [hs]; rfl) | skip)
    · obtain rfl : k = s.threads.length := by omega
      dsimp only
      rw [List.take_length]
      refine zst ?_
      refine retN m_zcopy_ok [3, 5, 4] ?_; simp only [go_sem]
      exact V.oksW_set (V.oksW_pure _ _ _ (pures_lo _ _)) _ (by simp only [go_sem])
set_option maxHeartbeats 8000000 in
theorem build_fr (l : List Int) (h1 : 1 ≤ l.length) (h2 : l.length ≤ 20) : Fnc Try.prog 28 [dsV l] (fun x obs => x = .tup [.agg [.sl true 1 ((bld l).map dtV)], .int .i64 0] ∧ obs = []) := by
  refine Fnc.intro m_build_ok (by simp) fun W S => ?_
  unfold m_build
  simp only [ents, Nat.zero_add, Nat.reduceAdd]
  refine zst ?_
  (first | refine callD (cln_fn l (by omega)) ?_ | refine callDw (cln_fn l (by omega)) ?_); simp only [go_sem]
  refine zst ?_
  refine ev_loopK [2, 4] (fun p : {p : Nat // p ≤ dep l.length} => [(5, dtV (lev l p.1))]) (fun p => [⟨.box false 57, true, 0, .agg [.nilS]⟩, ⟨.row 53, true, p.1, .arr 1 ((blk' l p.1).map dtV)⟩, ⟨.box false 57, true, 0, .agg [.own 1 p.1]⟩]) (fun p => dep l.length - p.1) (⟨0, by simp⟩) 3 (by simp only [go_sem]; rfl) ?_ (by first | rfl | (simp only [go_sem]; done) | (simp only [go_sem]; simp [lev]; done)) (by simp) (by first | rfl | (simp only [go_sem]; done)) (by first | rfl | (simp only [go_sem]; done)) (by first | rfl | (simp only [go_sem]; done) | (simp only [lev]; (try simp only [go_sem]); first | done | rfl)) ?_
  · (simp only [go_sem]; (try simp [lev]); done)
  intro J hJ
  rintro ⟨k, hk0⟩
  have hll := lev_len l k
  have hd := hl_dep h1 h2 hk0
  have hle := hl_le h1 k
  rw [← hll] at hd hle
  by_cases hlt : k < dep l.length
  · have hs := blk_snoc l k
    have hbl := blk_len l k
    have h5 := dep_le l.length
    have hlv : up (lev l k) = lev l (k + 1) := rfl
    refine zst ?_
    refine evr_cloB 30 rfl rfl rfl ?_
    (first | refine callX (above_fn (lev l k) (by omega)) ?_ | refine callXw (above_fn (lev l k) (by omega)) ?_); refine zev ?_
    refine evr_freeze 5 rfl rfl ?_
    refine zst ?_
    refine ev_next 3 (hJ _ (⟨k + 1, hlt⟩) (by first | omega | (dsimp only; omega) | (simp; omega))) rfl (by simp) ?_ (by first | rfl | (simp only [go_sem]; done)) (by first | rfl | (simp only [go_sem]; done) | (simp only [hlv, hs]; (try simp only [go_sem]); first | done | rfl)) ?_
    · (first | rfl | (simp only [go_sem]; done) | (simp only [go_sem]; simp only [hlv, hs]; done) | (simp only [hlv, hs]; done) | (simp only [go_sem]; simp [hlv, hs]; done) | (simp [hlv, hs]; done))
    · (simp only [go_sem]; (repeat' (refine And.intro ?_ ?_)) <;> first | exact trivial | with_reducible rfl | (simp only [hlv, hs]; done) | (simp only [hlv, hs]; with_reducible rfl) | (simp [hlv, hs]; done) | (simp [hlv, hs]; omega) | (simp only [hlv, hs]; rfl) | skip)
  · obtain rfl : k = dep l.length := by omega
    refine zst ?_
    refine ret m_build_ok [] ?_; (first | (simp only [go_sem]; done) | (simp only [go_sem]; ((try dsimp only); (repeat' (refine And.intro ?_ ?_)) <;> first | with_reducible rfl | (simp only [go_sem]; done) | (simp only [go_sem]; rfl) | (simp only [go_sem, bld]; done) | (simp only [bld]; (try simp only [go_sem]); first | done | rfl) | (simp only [go_sem]; simp [bld]; done) | (simp [bld]; done) | rfl)))
theorem tof_fr (s : State) (L : LowS s) (h : shp s = true) (h1 : 1 ≤ (dls s).length) (h2 : (dls s).length ≤ 20) : Fnc Try.prog 48 [staV s] (fun x obs => x = .tup [.agg [.sl true 1 ((bld (dls s)).map dtV)], .int .i64 0] ∧ obs = []) :=
  tof_to s L h _ 0 (build_fr (dls s) h1 h2) (.inr (.inr ⟨_, rfl⟩))
theorem dp1_pureV {σ : AS} {x : V} (h : x.pure = true) : dp1 σ x = x.low := by cases x <;> first | rfl | cases h
theorem dp1_map {α : Type} (σ : AS) (f : α → V) {g : α → V} [h : Lo f g] (l : List α) : (l.map f).map (dp1 σ) = l.map g := by
  rw [List.map_map]
  exact List.map_congr_left fun a _ => (dp1_pureV (h.pure a)).trans (h.low a)
theorem dp1Ok_pure {σ : AS} {x : V} (h : x.pure = true) : dp1Ok σ x := by cases x <;> first | exact h | cases h
theorem dp1Ok_map {α : Type} (σ : AS) (f : α → V) {g : α → V} [h : Lo f g] (l : List α) : ∀ y ∈ l.map f, dp1Ok σ y := fun y hy => by
  obtain ⟨a, _, rfl⟩ := List.mem_map.1 hy
  exact dp1Ok_pure (h.pure a)
/-- A row of rows one of which is another row of one's own. -/
theorem dp1_set {α : Type} {σ : AS} {f : α → V} [h : Lo f f] {l : List (List α)} {r q gq s e : Nat} {m : List α} (hq : σ.ob[q]? = some ⟨.row e, true, gq, .arr s (m.map f)⟩) : ((l.map (slV' true s f)).set r (.own q gq)).map (dp1 σ) = (l.set r m).map (slV' false s f) := by
  rw [List.map_set, dp1_map, List.map_set]
  congr 1
  simp only [dp1, rowV, hq, slV', lows_lo]
theorem dp1Ok_set {α : Type} {σ : AS} {f : α → V} [h : Lo f f] {l : List (List α)} {r q gq s e : Nat} {m : List α} (hq : σ.ob[q]? = some ⟨.row e, true, gq, .arr s (m.map f)⟩) : ∀ y ∈ (l.map (slV' true s f)).set r (.own q gq), dp1Ok σ y := fun y hy => by
  rcases List.mem_or_eq_of_mem_set hy with hy | rfl
  · exact dp1Ok_map σ (slV' true s f) l y hy
  · simp only [dp1Ok, rowV, hq]
theorem sta_deep {σ : AS} {r1 g1 r2 g2 q gq r e1 e2 e3 : Nat} {s : State} {m : List Canon}
    (h1 : σ.ob[r1]? = some ⟨.rows e1, true, g1, .arr 1 ((s.regions.map (slV' true 4 canonV)).set r (.own q gq))⟩) (h2 : σ.ob[r2]? = some ⟨.row e2, true, g2, .arr 8 (s.threads.map (viewV true))⟩) (h3 : σ.ob[q]? = some ⟨.row e3, true, gq, .arr 4 (m.map canonV)⟩) :
    (∀ y ∈ [V.agg [.own r1 g1, .own r2 g2]], dp3Ok σ y) ∧ [V.agg [.own r1 g1, .own r2 g2]].map (dp3 σ) = [staV ⟨s.regions.set r m, s.threads⟩] := by
  refine ⟨fun y hy => ?_, ?_⟩
  · obtain rfl := List.mem_singleton.1 hy
    intro z hz
    simp only [List.mem_cons, List.not_mem_nil, or_false] at hz
    rcases hz with rfl | rfl
    · simp only [dp2Ok, rowW, h1]
      exact ⟨trivial, dp1Ok_set h3⟩
    · simp only [dp2Ok, rowW, h2]
      exact ⟨trivial, dp1Ok_map σ (viewV true) s.threads⟩
  · simp only [List.map_cons, List.map_nil, dp3, dp2, rowW, h1, h2]
    rw [dp1_set h3, dp1_map]
end Go.Proofs.Ytcphobeommkgeaa
/- Trees of states of which one cell differs; plain. -/
namespace Go.Proofs.Ytcphobeommkgeaa
open Go Go.RowKit Rdn Rdn.Dp
set_option linter.unusedVariables false
set_option linter.unusedSimpArgs false
theorem sc1_ok (l : List Int) (k : Nat) : Canon.ok (sc1 l k).1 := by
  have h1 := dnx_ge (l := l) (k := dkx l k) (n := 40) (by omega)
  have h2 := dnx_lt (l := l) (k := dkx l k) (n := 40) (by omega)
  unfold sc1
  split
  · exact ⟨by dsimp only; omega, by dsimp only; omega, by dsimp only; omega, by dsimp only; omega⟩
  · exact ⟨by dsimp only; omega, by dsimp only; omega, h1, by dsimp only; omega⟩
theorem srg_ok (l : List Int) (k : Nat) : ∀ c ∈ (srg l k).1, Canon.ok c := drw_all (sc1_ok l) _ _
theorem ssd_ok (l : List Int) (k : Nat) : ∀ x ∈ (ssd l k).1.regions, ∀ c ∈ x, Canon.ok c := drw_all (p := fun x : List Canon => ∀ c ∈ x, Canon.ok c) (srg_ok l) _ _
/-- A state of which one cell is another one. -/
def setC (s : State) (r k : Nat) (c : Canon) : State := ⟨s.regions.set r (s.regions[r]!.set k c), s.threads⟩
theorem setC_len (s : State) (r k : Nat) (c : Canon) {j : Nat} (h : j < s.regions.length) : (setC s r k c).regions[j]!.length = s.regions[j]!.length := by
  have h' : j < (s.regions.set r (s.regions[r]!.set k c)).length := by rw [List.length_set]; exact h
  show (s.regions.set r (s.regions[r]!.set k c))[j]!.length = _
  rw [getElem!_pos (s.regions.set r (s.regions[r]!.set k c)) j h', List.getElem_set]
  split
  · rename_i e
    subst e
    rw [List.length_set]
  · rw [getElem!_pos s.regions j h]
theorem setC_szs (s : State) (r k : Nat) (c : Canon) : szs (setC s r k c) = szs s := by
  refine List.ext_getElem (by simp [szs, setC]) fun j h1 h2 => ?_
  have h3 : j < s.regions.length := by rw [szs_len] at h2; exact h2
  have h4 : j < (setC s r k c).regions.length := by simp [setC]; exact h3
  have e1 := szs_at h4
  have e2 := szs_at h3
  rw [getElem!_pos (szs (setC s r k c)) j h1] at e1
  rw [getElem!_pos (szs s) j h2] at e2
  rw [e1, e2, setC_len s r k c h3]
theorem setC_shp {s : State} (r k : Nat) (c : Canon) (H : Shp s) : Shp (setC s r k c) := by
  refine ⟨by have := H.r; simp [setC]; exact this, H.t, fun j hj => ?_⟩
  have hj' : j < s.regions.length := by simpa [setC] using hj
  rw [setC_len s r k c hj']
  exact H.z j hj'
theorem prt_set {l : List Canon} {k i : Nat} {c : Canon} (hi : i ≤ 32) : prt (l.set k c) i = if i = k / 8 then (prt l i).set (k % 8) c else prt l i := by
  rw [prt_region hi, prt_region hi, List.drop_set]
  split
  · rw [if_neg (by omega)]
  · rw [List.take_set]
    split
    · rw [show k - 8 * i = k % 8 by omega]
    · rw [List.set_eq_of_length_le (by simp; omega)]
theorem at_set_self {α : Type} [Inhabited α] {l : List α} {r : Nat} {x : α} (h : r < l.length) : (l.set r x)[r]! = x := by simp [h]
theorem at_set_ne {α : Type} [Inhabited α] {l : List α} {r j : Nat} {x : α} (h : r ≠ j) : (l.set r x)[j]! = l[j]! := by
  simp only [List.getElem!_eq_getElem?_getD]
  rw [List.getElem?_set_ne h]
/-- The cell that is changed: its value's lowest bit. -/
def flip1 (c : Canon) : Canon := ⟨c.tag, bxor .u16 c.val 1, c.region, c.offset⟩
attribute [local irreducible] lbytes tbytes dadd
theorem dgP_cells {p : Page} (h : p.id.region ≠ -1) : dgP p = dadd 2166136261 (lbytes p.cells) := by unfold dgP; rw [if_neg h]
theorem dgP_view {p : Page} (h : p.id.region = -1) : dgP p = dadd 2166136261 (tbytes p.view) := by unfold dgP; rw [if_pos h]
theorem getP_diff {s : State} (hok : ∀ x ∈ s.regions, ∀ c ∈ x, Canon.ok c) {r k : Nat} (hr : r < s.regions.length) (hk : k < s.regions[r]!.length) {d : PageID} (hd : There s d) : (dgP (getP s d) ≠ dgP (getP (setC s r k (flip1 s.regions[r]![k]!)) d)) ↔ (d.region = r ∧ d.index = (k : Int) / 8) := by
  by_cases c0 : d.region = -1
  · have e : getP (setC s r k (flip1 s.regions[r]![k]!)) d = getP s d := by unfold getP; rw [if_pos c0, if_pos c0]; rfl
    rw [e]
    exact ⟨fun h => absurd rfl h, fun h => by omega⟩
  have hd' : 0 ≤ d.region ∧ d.region < s.regions.length ∧ 0 ≤ d.index ∧ d.index ≤ 32 ∧ 8 * d.index < s.regions[d.region.toNat]!.length := by unfold There at hd; omega
  obtain ⟨q, hq⟩ : ∃ q : Nat, d.region = q := ⟨d.region.toNat, by omega⟩
  obtain ⟨i, hi⟩ : ∃ i : Nat, d.index = i := ⟨d.index.toNat, by omega⟩
  have e1 : dgP (getP s d) = dadd 2166136261 (lbytes (prt s.regions[q]! i)) := by
    rw [dgP_cells (by rw [getP_id]; exact c0)]
    unfold getP; rw [if_neg c0, hq, hi, Int.toNat_natCast]
  have e2 : dgP (getP (setC s r k (flip1 s.regions[r]![k]!)) d) = dadd 2166136261 (lbytes (prt (s.regions.set r (s.regions[r]!.set k (flip1 s.regions[r]![k]!)))[q]! i)) := by
    rw [dgP_cells (by rw [getP_id]; exact c0)]
    unfold getP; rw [if_neg c0, hq, hi, Int.toNat_natCast]; rfl
  rw [e1, e2]
  rw [hq, hi, Int.toNat_natCast] at hd'
  by_cases c1 : r = q
  · subst c1
    rw [at_set_self hr, prt_set (by omega)]
    by_cases c2 : i = k / 8
    · rw [if_pos c2]
      have hpl : k % 8 < (prt s.regions[r]! i).length := by rw [prt_region (by omega), List.length_take, List.length_drop]; omega
      have hat : (prt s.regions[r]! i)[k % 8]! = s.regions[r]![k]! := by
        rw [getElem!_pos (prt s.regions[r]! i) (k % 8) hpl, getElem!_pos s.regions[r]! k hk]
        simp only [prt_region (show i ≤ 32 by omega)]
        rw [List.getElem_take, List.getElem_drop]
        congr 1; omega
      have hne := cells_ne (l := prt s.regions[r]! i) (k := k % 8) (y := 1) (fun c hc => by
        rw [prt_region (by omega)] at hc
        exact hok _ (mem_at hr) c (List.mem_of_mem_drop (List.mem_of_mem_take hc))) hpl (by omega) (by omega)
      rw [hat] at hne
      exact ⟨fun _ => ⟨by omega, by omega⟩, fun _ => hne⟩
    · rw [if_neg c2]
      exact ⟨fun h => absurd rfl h, fun h => by omega⟩
  · rw [at_set_ne c1]
    exact ⟨fun h => absurd rfl h, fun h => by omega⟩
theorem dls_diff {s : State} (h : shp s = true) (hok : ∀ x ∈ s.regions, ∀ c ∈ x, Canon.ok c) {r k : Nat} (hr : r < s.regions.length) (hk : k < s.regions[r]!.length) {i : Nat} (hi : i < (pgs s).length) : ((dls s)[i]! ≠ (dls (setC s r k (flip1 s.regions[r]![k]!)))[i]!) ↔ ((pgs s)[i]!.id.region = r ∧ (pgs s)[i]!.id.index = (k : Int) / 8) := by
  have hi' : i < (idsF (szs s) s.threads.length).length := by unfold pgs at hi; rwa [List.length_map] at hi
  have hp : pgs (setC s r k (flip1 s.regions[r]![k]!)) = (idsF (szs s) s.threads.length).map (getP (setC s r k (flip1 s.regions[r]![k]!))) := by
    unfold pgs; rw [setC_szs]; rfl
  have e1 : (dls s)[i]! = dgP (getP s (idsF (szs s) s.threads.length)[i]!) := by
    unfold dls; rw [map_at' _ _ hi, pgs_at hi]
  have e2 : (dls (setC s r k (flip1 s.regions[r]![k]!)))[i]! = dgP (getP (setC s r k (flip1 s.regions[r]![k]!)) (idsF (szs s) s.threads.length)[i]!) := by
    unfold dls
    rw [hp, map_at' _ _ (by rw [List.length_map]; exact hi'), map_at' _ _ hi']
  rw [e1, e2, pgs_at hi, getP_id]
  exact getP_diff hok hr hk (mem_idsF (mem_at hi') (shp_to h))
theorem dls_setC_len (s : State) (r k : Nat) (c : Canon) : (dls (setC s r k c)).length = (dls s).length := by
  rw [dls_len, dls_len]; unfold pgs; rw [setC_szs]; simp [setC]
end Go.Proofs.Ytcphobeommkgeaa
/- The law TreeStates. -/
namespace Go.Proofs.Ytcphobeommkgeaa
open Go Go.RowKit Rdn Rdn.Dp
set_option linter.unusedVariables false
set_option linter.unusedSimpArgs false
def m_few26 : MC := .seq (.reg [⟨(some 2), none, (.p (.mov (.c (.bool false))))⟩])
 (.seq (.reg [⟨(some 3), none, (.p (.mov (.t 0)))⟩, ⟨(some 4), none, (.p (.len (.t 3)))⟩, ⟨(some 5), none, (.p (.bin 0 .leq (.t 4) (.c (.int .i64 400))))⟩, ⟨(some 2), none, (.p (.mov (.t 5)))⟩])
 (.ret))
theorem m_few26_ok : compF Try.prog 13 = some (6, m_few26, [.mov (.t 2)]) := by kernel_rfl
def m_tst : MC := .seq (.reg [⟨(some 6), none, (.p (.mov (.c (.bool false))))⟩])
 (.seq (.seq (.reg [⟨(some 21), none, (.p (.mov (.t 0)))⟩, ⟨(some 22), none, (.call 13 [(.t 21)])⟩, ⟨(some 23), none, (.p (.un .not (.t 22)))⟩])
 (.cond (.t 23) (.seq (.reg [⟨(some 24), none, (.call 25 [])⟩, ⟨(some 6), none, (.p (.mov (.t 24)))⟩])
 (.ret)) (.skip)))
 (.seq (.reg [⟨(some 25), none, (.p (.mov (.t 0)))⟩, ⟨(some 26), none, (.call 15 [(.t 25)])⟩, ⟨(some 27), none, (.call 16 [(.t 26)])⟩, ⟨(some 7), none, (.m (.alloc 30 (.agg [.nilS, .nilS])))⟩, ⟨none, none, (.m (.store 2 (.t 7) (.t 27)))⟩])
 (.seq (.reg [⟨(some 28), none, (.p (.load true 2 (.t 7)))⟩, ⟨(some 29), none, (.call 47 [(.t 28)])⟩, ⟨(some 8), none, (.m (.alloc 30 (.agg [.nilS, .nilS])))⟩, ⟨none, none, (.m (.store 2 (.t 8) (.t 29)))⟩])
 (.seq (.reg [⟨(some 30), none, (.p (.mov (.t 1)))⟩, ⟨(some 31), none, (.p (.fieldA 0 0 (.t 8)))⟩, ⟨(some 32), none, (.p (.load false 1 (.t 31)))⟩, ⟨(some 33), none, (.p (.len (.t 32)))⟩, ⟨(some 34), none, (.call 20 [(.t 30), (.t 33)])⟩, ⟨(some 9), none, (.p (.mov (.t 34)))⟩])
 (.seq (.reg [⟨(some 35), none, (.p (.mov (.t 2)))⟩, ⟨(some 36), none, (.p (.fieldA 0 0 (.t 8)))⟩, ⟨(some 37), none, (.p (.load false 1 (.t 36)))⟩, ⟨(some 38), none, (.p (.mov (.t 9)))⟩, ⟨(some 39), none, (.p (.idxA 1 (.t 37) (.t 38)))⟩, ⟨(some 40), none, (.p (.load false 1 (.t 39)))⟩, ⟨(some 41), none, (.p (.len (.t 40)))⟩, ⟨(some 42), none, (.call 20 [(.t 35), (.t 41)])⟩, ⟨(some 10), none, (.p (.mov (.t 42)))⟩])
 (.seq (.reg [⟨(some 44), none, (.p (.load true 2 (.t 7)))⟩, ⟨(some 45), none, (.call 48 [(.t 44)])⟩, ⟨(some 43), none, (.p (.mov (.t 45)))⟩, ⟨(some 46), none, (.p (.ext (.t 43) 0))⟩, ⟨(some 47), none, (.p (.ext (.t 43) 1))⟩, ⟨(some 11), none, (.m (.alloc 57 (.agg [.nilS])))⟩, ⟨none, none, (.m (.store 1 (.t 11) (.t 46)))⟩, ⟨(some 12), none, (.p (.mov (.t 47)))⟩])
 (.seq (.reg [⟨(some 49), none, (.p (.load true 2 (.t 8)))⟩, ⟨(some 50), none, (.call 48 [(.t 49)])⟩, ⟨(some 48), none, (.p (.mov (.t 50)))⟩, ⟨(some 51), none, (.p (.ext (.t 48) 0))⟩, ⟨(some 52), none, (.p (.ext (.t 48) 1))⟩, ⟨(some 13), none, (.m (.alloc 57 (.agg [.nilS])))⟩, ⟨none, none, (.m (.store 1 (.t 13) (.t 51)))⟩, ⟨(some 14), none, (.p (.mov (.t 52)))⟩])
 (.seq (.reg [⟨(some 53), none, (.p (.fieldA 0 0 (.t 8)))⟩, ⟨(some 54), none, (.p (.load false 1 (.t 53)))⟩, ⟨(some 55), none, (.p (.mov (.t 9)))⟩, ⟨(some 56), none, (.p (.idxA 1 (.t 54) (.t 55)))⟩, ⟨(some 57), none, (.p (.load false 1 (.t 56)))⟩, ⟨(some 58), none, (.p (.mov (.t 10)))⟩, ⟨(some 59), none, (.p (.idxA 4 (.t 57) (.t 58)))⟩, ⟨(some 60), none, (.p (.fieldA 1 1 (.t 59)))⟩, ⟨(some 61), none, (.p (.load false 1 (.t 60)))⟩, ⟨(some 62), none, (.p (.bin 0 .xor (.t 61) (.c (.int .u16 1))))⟩, ⟨(some 63), none, (.p (.idxA 4 (.t 57) (.t 58)))⟩, ⟨(some 64), none, (.p (.fieldA 1 1 (.t 63)))⟩, ⟨none, none, (.m (.store 1 (.t 64) (.t 62)))⟩])
 (.seq (.reg [⟨(some 66), none, (.p (.load true 2 (.t 8)))⟩, ⟨(some 67), none, (.call 48 [(.t 66)])⟩, ⟨(some 65), none, (.p (.mov (.t 67)))⟩, ⟨(some 68), none, (.p (.ext (.t 65) 0))⟩, ⟨(some 69), none, (.p (.ext (.t 65) 1))⟩, ⟨(some 15), none, (.m (.alloc 57 (.agg [.nilS])))⟩, ⟨none, none, (.m (.store 1 (.t 15) (.t 68)))⟩, ⟨(some 16), none, (.p (.mov (.t 69)))⟩])
 (.seq (.reg [⟨(some 71), none, (.p (.load true 2 (.t 7)))⟩, ⟨(some 72), none, (.call 17 [(.t 71)])⟩, ⟨(some 70), none, (.p (.mov (.t 72)))⟩, ⟨(some 73), none, (.p (.ext (.t 70) 0))⟩, ⟨(some 74), none, (.p (.ext (.t 70) 1))⟩, ⟨(some 17), none, (.p (.mov (.t 73)))⟩, ⟨(some 18), none, (.p (.mov (.t 74)))⟩])
 (.seq (.seq (.reg [⟨(some 75), none, (.p (.mov (.t 12)))⟩, ⟨(some 76), none, (.p (.bin 0 .neq (.t 75) (.c (.int .i64 0))))⟩, ⟨(some 77), none, (.p (.mov (.t 76)))⟩, ⟨(some 78), (some (77, false)), (.p (.mov (.t 14)))⟩, ⟨(some 79), (some (77, false)), (.p (.bin 0 .neq (.t 78) (.c (.int .i64 0))))⟩, ⟨(some 80), none, (.p (.pick (.t 77) (.c (.bool true)) (.t 79)))⟩, ⟨(some 81), none, (.p (.mov (.t 80)))⟩, ⟨(some 82), (some (81, false)), (.p (.mov (.t 16)))⟩, ⟨(some 83), (some (81, false)), (.p (.bin 0 .neq (.t 82) (.c (.int .i64 0))))⟩, ⟨(some 84), none, (.p (.pick (.t 81) (.c (.bool true)) (.t 83)))⟩, ⟨(some 85), none, (.p (.mov (.t 84)))⟩, ⟨(some 86), (some (85, false)), (.p (.load true 1 (.t 11)))⟩, ⟨(some 87), (some (85, false)), (.p (.load true 1 (.t 13)))⟩, ⟨(some 88), (some (85, false)), (.call 31 [(.t 86), (.t 87)])⟩, ⟨(some 89), (some (85, false)), (.p (.un .not (.t 88)))⟩, ⟨(some 90), none, (.p (.pick (.t 85) (.c (.bool true)) (.t 89)))⟩, ⟨(some 91), none, (.p (.mov (.t 90)))⟩, ⟨(some 92), (some (91, false)), (.p (.fieldA 0 0 (.t 11)))⟩, ⟨(some 93), (some (91, false)), (.p (.load false 1 (.t 92)))⟩, ⟨(some 94), (some (91, false)), (.p (.len (.t 93)))⟩, ⟨(some 95), (some (91, false)), (.p (.bin 0 .eql (.t 94) (.c (.int .i64 0))))⟩, ⟨(some 96), none, (.p (.pick (.t 91) (.c (.bool true)) (.t 95)))⟩, ⟨(some 97), none, (.p (.mov (.t 96)))⟩, ⟨(some 98), (some (97, false)), (.p (.fieldA 0 0 (.t 11)))⟩, ⟨(some 99), (some (97, false)), (.p (.load false 1 (.t 98)))⟩, ⟨(some 100), (some (97, false)), (.p (.idxA 1 (.t 99) (.c (.int .i64 0))))⟩, ⟨(some 101), (some (97, false)), (.p (.load false 1 (.t 100)))⟩, ⟨(some 102), (some (97, false)), (.p (.len (.t 101)))⟩, ⟨(some 103), (some (97, false)), (.p (.mov (.t 17)))⟩, ⟨(some 104), (some (97, false)), (.p (.len (.t 103)))⟩, ⟨(some 105), (some (97, false)), (.p (.bin 0 .neq (.t 102) (.t 104)))⟩, ⟨(some 106), none, (.p (.pick (.t 97) (.c (.bool true)) (.t 105)))⟩, ⟨(some 107), none, (.p (.mov (.t 106)))⟩, ⟨(some 108), (some (107, false)), (.p (.fieldA 0 0 (.t 15)))⟩, ⟨(some 109), (some (107, false)), (.p (.load false 1 (.t 108)))⟩, ⟨(some 110), (some (107, false)), (.p (.len (.t 109)))⟩, ⟨(some 111), (some (107, false)), (.p (.fieldA 0 0 (.t 11)))⟩, ⟨(some 112), (some (107, false)), (.p (.load false 1 (.t 111)))⟩, ⟨(some 113), (some (107, false)), (.p (.len (.t 112)))⟩, ⟨(some 114), (some (107, false)), (.p (.bin 0 .neq (.t 110) (.t 113)))⟩, ⟨(some 115), none, (.p (.pick (.t 107) (.c (.bool true)) (.t 114)))⟩, ⟨(some 116), none, (.p (.mov (.t 115)))⟩, ⟨(some 117), (some (116, false)), (.p (.fieldA 0 0 (.t 15)))⟩, ⟨(some 118), (some (116, false)), (.p (.load false 1 (.t 117)))⟩, ⟨(some 119), (some (116, false)), (.p (.idxA 1 (.t 118) (.c (.int .i64 0))))⟩, ⟨(some 120), (some (116, false)), (.p (.load false 1 (.t 119)))⟩, ⟨(some 121), (some (116, false)), (.p (.len (.t 120)))⟩, ⟨(some 122), (some (116, false)), (.p (.mov (.t 17)))⟩, ⟨(some 123), (some (116, false)), (.p (.len (.t 122)))⟩, ⟨(some 124), (some (116, false)), (.p (.bin 0 .neq (.t 121) (.t 123)))⟩, ⟨(some 125), none, (.p (.pick (.t 116) (.c (.bool true)) (.t 124)))⟩])
 (.cond (.t 125) (.seq (.reg [⟨(some 6), none, (.p (.mov (.c (.bool false))))⟩])
 (.ret)) (.skip)))
 (.seq (.seq (.reg [⟨(some 19), none, (.p (.mov (.c (.int .i64 0))))⟩])
 (.block 0 (.loop (.seq (.seq (.reg [⟨(some 126), none, (.p (.mov (.t 19)))⟩, ⟨(some 127), none, (.p (.mov (.t 17)))⟩, ⟨(some 128), none, (.p (.len (.t 127)))⟩, ⟨(some 129), none, (.p (.bin 0 .lss (.t 126) (.t 128)))⟩])
 (.cond (.t 129) (.skip) (.exit 0)))
 (.seq (.block 1 (.seq (.reg [⟨(some 132), none, (.p (.mov (.t 17)))⟩, ⟨(some 133), none, (.p (.mov (.t 19)))⟩, ⟨(some 134), none, (.p (.idxA 11 (.t 132) (.t 133)))⟩, ⟨(some 135), none, (.p (.fieldA 0 0 (.t 134)))⟩, ⟨(some 136), none, (.p (.load true 2 (.t 135)))⟩, ⟨(some 20), none, (.m (.alloc 39 (.agg [.int .i64 0, .int .i64 0])))⟩, ⟨none, none, (.m (.store 2 (.t 20) (.t 136)))⟩])
 (.seq (.dreg [⟨(some 137), none, (.p (.fieldA 0 0 (.t 11)))⟩, ⟨(some 138), none, (.p (.load false 1 (.t 137)))⟩, ⟨(some 139), none, (.p (.idxA 1 (.t 138) (.c (.int .i64 0))))⟩, ⟨(some 140), none, (.p (.load false 1 (.t 139)))⟩, ⟨(some 141), none, (.p (.mov (.t 19)))⟩, ⟨(some 142), none, (.p (.idxA 1 (.t 140) (.t 141)))⟩, ⟨(some 143), none, (.p (.load false 1 (.t 142)))⟩, ⟨(some 144), none, (.p (.fieldA 0 0 (.t 15)))⟩, ⟨(some 145), none, (.p (.load false 1 (.t 144)))⟩, ⟨(some 146), none, (.p (.idxA 1 (.t 145) (.c (.int .i64 0))))⟩, ⟨(some 147), none, (.p (.load false 1 (.t 146)))⟩, ⟨(some 148), none, (.p (.mov (.t 19)))⟩, ⟨(some 149), none, (.p (.idxA 1 (.t 147) (.t 148)))⟩, ⟨(some 150), none, (.p (.load false 1 (.t 149)))⟩, ⟨(some 151), none, (.p (.bin 0 .neq (.t 143) (.t 150)))⟩, ⟨(some 152), none, (.p (.fieldA 0 0 (.t 20)))⟩, ⟨(some 153), none, (.p (.load false 1 (.t 152)))⟩, ⟨(some 154), none, (.p (.mov (.t 9)))⟩, ⟨(some 155), none, (.p (.bin 0 .eql (.t 153) (.t 154)))⟩, ⟨(some 156), none, (.p (.mov (.t 155)))⟩, ⟨(some 157), (some (156, true)), (.p (.fieldA 1 1 (.t 20)))⟩, ⟨(some 158), (some (156, true)), (.p (.load false 1 (.t 157)))⟩, ⟨(some 159), (some (156, true)), (.p (.mov (.t 10)))⟩, ⟨(some 160), (some (156, true)), (.p (.bin 0 .quo (.t 159) (.c (.int .i64 8))))⟩, ⟨(some 161), (some (156, true)), (.p (.bin 0 .eql (.t 158) (.t 160)))⟩, ⟨(some 162), none, (.p (.pick (.t 156) (.t 161) (.c (.bool false))))⟩, ⟨(some 163), none, (.p (.bin 1 .neq (.t 151) (.t 162)))⟩] [[], [0], [0, 1], [0, 1, 2], [], [0, 1, 2, 3, 4], [0, 1, 2, 3, 4, 5], [], [7], [7, 8], [7, 8, 9], [], [7, 8, 9, 10, 11], [7, 8, 9, 10, 11, 12], [0, 1, 2, 3, 4, 5, 6, 7, 8, 9, 10, 11, 12, 13], [], [15], [], [15, 16, 17], [15, 16, 17, 18], [15, 16, 17, 18, 19], [15, 16, 17, 18, 19, 20], [15, 16, 17, 18, 19], [15, 16, 17, 18, 19, 22], [15, 16, 17, 18, 19, 20, 21, 22, 23], [15, 16, 17, 18, 19, 20, 21, 22, 23, 24], [0, 1, 2, 3, 4, 5, 6, 7, 8, 9, 10, 11, 12, 13, 14, 15, 16, 17, 18, 19, 20, 21, 22, 23, 24, 25]])
 (.cond (.t 163) (.seq (.reg [⟨(some 6), none, (.p (.mov (.c (.bool false))))⟩])
 (.ret)) (.skip)))))
 (.reg [⟨(some 130), none, (.p (.mov (.t 19)))⟩, ⟨(some 131), none, (.p (.bin 0 .add (.t 130) (.c (.int .i64 1))))⟩, ⟨(some 19), none, (.p (.mov (.t 131)))⟩]))))))
 (.seq (.reg [⟨(some 164), none, (.call 25 [])⟩, ⟨(some 6), none, (.p (.mov (.t 164)))⟩])
 (.ret))))))))))))))
theorem m_tst_ok : compF Try.prog 11 = some (165, m_tst, [.mov (.t 6)]) := by kernel_rfl
set_option maxHeartbeats 4000000 in
theorem few26_fn (l : List Int) : Fnc Try.prog 13 [.sl false 1 (i64s l)] (fun x obs => x = .bool (decide (l.length ≤ 400)) ∧ obs = []) := by
  refine Fnc.wf fun hw => ?_
  simp only [V.wfs, V.wf, wfs_map, List.length_map] at hw
  have hm := hw.1.2
  clear hw
  by_cases h : l.length ≤ 400
  · skip
    refine Fnc.intro m_few26_ok (by simp) fun W S => ?_
    unfold m_few26
    simp only [ents, Nat.zero_add, Nat.reduceAdd]
    refine zst ?_
    refine ret m_few26_ok [] ?_; (first | (simp only [go_sem]; done) | (simp only [go_sem]; ((try dsimp only); (repeat' (refine And.intro ?_ ?_)) <;> first | with_reducible rfl | (simp only [go_sem]; done) | (simp only [go_sem]; rfl) | (simp only []; (try simp only [go_sem]); first | done | rfl) | (simp only [go_sem]; simp []; done) | (simp []; done) | rfl)))
  · skip
    refine Fnc.intro m_few26_ok (by simp) fun W S => ?_
    unfold m_few26
    simp only [ents, Nat.zero_add, Nat.reduceAdd]
    refine zst ?_
    refine ret m_few26_ok [] ?_; (first | (simp only [go_sem]; done) | (simp only [go_sem]; ((try dsimp only); (repeat' (refine And.intro ?_ ?_)) <;> first | with_reducible rfl | (simp only [go_sem]; done) | (simp only [go_sem]; rfl) | (simp only []; (try simp only [go_sem]); first | done | rfl) | (simp only [go_sem]; simp []; done) | (simp []; done) | rfl)))
theorem fine_low {s : State} (F : Fine s) : LowS s := ⟨by have := F.shp.r; omega, fun x hx => by have := F.len x hx; omega, by have := F.shp.t; omega, fun x hx => by have := F.reg x hx; omega⟩
theorem setC_low {s : State} (L : LowS s) (F : Fine s) (r k : Nat) (c : Canon) : LowS (setC s r k c) := ⟨by have := F.shp.r; simp [setC]; omega, fun x hx => by
  obtain ⟨j, hj, rfl⟩ := List.getElem_of_mem hx
  have hj' : j < s.regions.length := by simpa [setC] using hj
  have e := setC_len s r k c hj'
  rw [getElem!_pos (setC s r k c).regions j hj] at e
  have := F.shp.z j hj'
  omega, L.t, L.g⟩
theorem setC_eq (s : State) (r k : Nat) : (⟨s.regions.set r (s.regions[r]!.set k ⟨s.regions[r]![k]!.tag, bxor .u16 s.regions[r]![k]!.val 1, s.regions[r]![k]!.region, s.regions[r]![k]!.offset⟩), s.threads⟩ : State) = setC s r k (flip1 s.regions[r]![k]!) := rfl
attribute [local go_sem] List.length_set
attribute [local irreducible] bld lev vld dls pgs setC flip1
set_option maxHeartbeats 16000000 in
theorem tst_fn (l : List Int) (rg at_ : Int) : Fnc Try.prog 11 [.sl false 1 (i64s l), .int .i64 rg, .int .i64 at_] (fun x obs => x = .bool true) := by
  have f0 := few26_fn l
  have fa := awake26_fn
  by_cases c0 : l.length ≤ 400
  rotate_left
  · rw [decF c0] at f0
    refine Fnc.intro m_tst_ok (by simp) fun W S => ?_
    unfold m_tst
    simp only [ents, Nat.zero_add, Nat.reduceAdd]
    refine zst ?_
    (first | refine callD (f0) ?_ | refine callDw (f0) ?_); simp only [go_sem]
    refine zst ?_
    (first | refine callD (fa) ?_ | refine callDw (fa) ?_); simp only [go_sem]
    refine zst ?_
    refine ret m_tst_ok [] ?_; (first | (simp only [go_sem]; done) | (simp only [go_sem]; ((try dsimp only); (repeat' (refine And.intro ?_ ?_)) <;> first | with_reducible rfl | (simp only [go_sem]; done) | (simp only [go_sem]; rfl) | (simp only []; (try simp only [go_sem]); first | done | rfl) | (simp only [go_sem]; simp []; done) | (simp []; done) | rfl)))
  rw [decT c0] at f0
  have fs := sstate_fn l 0 (by omega)
  have F := ssd_fine l 0
  have hok := ssd_ok l 0
  generalize ssd l 0 = q at fs F hok
  obtain ⟨s, kk⟩ := q
  dsimp only at fs F hok
  have L := fine_low F
  have hsh := F.shp.of
  have hr4 := F.shp.r
  have ht4 := F.shp.t
  have h1 := F.one
  obtain ⟨r, hrr⟩ : ∃ r : Nat, rg % (s.regions.length : Int) = r := ⟨(rg % (s.regions.length : Int)).toNat, by have := Int.emod_nonneg rg (b := (s.regions.length : Int)) (by omega); omega⟩
  have hr : r < s.regions.length := by have := Int.emod_lt_of_pos rg (b := (s.regions.length : Int)) (by omega); omega
  have hzr := F.shp.z r hr
  obtain ⟨k, hkk⟩ : ∃ k : Nat, at_ % (s.regions[r]!.length : Int) = k := ⟨(at_ % (s.regions[r]!.length : Int)).toNat, by have := Int.emod_nonneg at_ (b := (s.regions[r]!.length : Int)) (by omega); omega⟩
  have hk : k < s.regions[r]!.length := by have := Int.emod_lt_of_pos at_ (b := (s.regions[r]!.length : Int)) (by omega); omega
  have fc := zcopyJ_fn s L r hr (by omega) (by omega)
  have g1 := mmod_fn rg s.regions.length (by omega)
  have g2 := mmod_fn at_ s.regions[r]!.length (by omega)
  rw [hrr] at g1
  rw [hkk] at g2
  have hln : 1 ≤ (dls s).length ∧ (dls s).length ≤ 20 := by
    rw [dls_len]
    refine ⟨?_, pgs_le hsh⟩
    rw [pgs_len]
    have : psum s s.regions.length = psum s (s.regions.length - 1) + (s.regions[s.regions.length - 1]!.length + 7) / 8 := by
      obtain ⟨m, hm⟩ : ∃ m, s.regions.length = m + 1 := ⟨s.regions.length - 1, by omega⟩
      rw [hm]; rfl
    have := F.shp.z (s.regions.length - 1) (by omega)
    omega
  have t1 := tof_fr s L hsh hln.1 hln.2
  have hsh' := (setC_shp r k (flip1 s.regions[r]![k]!) F.shp).of
  have L' := setC_low L F r k (flip1 s.regions[r]![k]!)
  have hdl := dls_setC_len s r k (flip1 s.regions[r]![k]!)
  have t3 := tof_fr (setC s r k (flip1 s.regions[r]![k]!)) L' hsh' (by omega) (by omega)
  have fA := zall_fn s L
  rw [sAll_0 hsh] at fA
  have fS := rsameT_fn (bld (dls s)) (bld (dls s))
  rw [decT rfl] at fS
  have hz1 := bld_zero (dls s)
  have hz2 := bld_zero (dls (setC s r k (flip1 s.regions[r]![k]!)))
  have hl1 := bld_len (dls s)
  have hl2 := bld_len (dls (setC s r k (flip1 s.regions[r]![k]!)))
  rw [hdl] at hl2
  have hpl : (pgs s).length = (dls s).length := (dls_len s).symm
  refine Fnc.intro m_tst_ok (by simp) fun W S => ?_
  unfold m_tst
  simp only [ents, Nat.zero_add, Nat.reduceAdd]
  refine zst ?_
  (first | refine callD (f0) ?_ | refine callDw (f0) ?_); simp only [go_sem]
  refine zst ?_
  (first | refine callX (new_fn l) ?_ | refine callXw (new_fn l) ?_); simp only [go_sem]
  refine zst ?_
  (first | apply st_callMD (fs) rfl | apply evw_callM (fs) rfl)
  · (simp only [go_sem]; rfl)
  · rfl
  · (first | rfl | (simp only [go_sem]; done))
  · (first | rfl | (simp only [go_sem]; done) | (simp only [go_sem]; rfl))
  · (first | rfl | (simp only [go_sem]; done))
  · (first | rfl | (simp only [go_sem]; done) | (simp only [go_sem]; rfl))
  · (first | rfl | simp [V.pureT, V.pure, V.pures, pures_lo, pures_sls])
  (first | refine ev_all (fu := [(), (), (), (), (), (), (), ()]) ?_ | refine evw_all (md := []) (fu := [(), (), (), (), (), (), (), ()]) ?_); refine zev ?_
  refine zst ?_
  (first | refine callX (fc) ?_ | refine callXw (fc) ?_); simp only [go_sem]
  refine zst ?_
  have hget : ((s.regions.map (slV' true 4 canonV)).set r (.own 4 0)).getD r V.junk = .own 4 0 := by simp [List.getD_eq_getElem?_getD, hr]
  have hself : (⟨s.regions.set r s.regions[r]!, s.threads⟩ : State) = s := by
    have : s.regions.set r s.regions[r]! = s.regions := by rw [getElem!_pos s.regions r hr]; exact List.set_getElem_self hr
    rw [this]
  have hfr : ∀ M : List (List Int), V.fresh (.tup [.agg [.sl true 1 (M.map dtV)], .int .i64 0]) = true := fun M => by
    have : V.freshs (M.map dtV) = true := freshs_map _ _ (fun x => by simp [dtV, V.fresh, freshs_ints])
    simp [V.fresh, V.freshs, this]
  (first | refine callD (g1) ?_ | refine callDw (g1) ?_); refine zev ?_
  repeat (first | (simp only [hget]; try simp only [go_sem]) | refine And.intro (by omega) ?_ | refine And.intro rfl ?_ | refine ev_ctl rfl rfl ?_ | refine evr_nil ?_ | refine evw_nil (by kernel_rfl) ?_ | (simp (disch := omega) only [takeAll, Nat.min_eq_left, Nat.min_eq_right, if_pos, if_neg, getD_map, wrapI64, modIn, fdivE, tmodE, tdivE, decT, decF, beqT, beqF, bneT, bneF, Int.toNat_natCast]; try simp only [go_sem]) | (refine ev_condTb rfl ?_ ?_; · (simp <;> omega)) | (refine ev_condFb rfl ?_ ?_; · (simp <;> omega)) | ((first | refine ev_region ?_ | refine evr_go rfl ?_ | refine evw_go rfl ?_ | refine ev_dr0 mixed rfl (by kernel_rfl) ?_ | refine ev_dr1 mixed rfl (by kernel_rfl) ?_ | refine ev_dr2 mixed rfl (by kernel_rfl) ?_); simp only [go_sem]))
  (first | refine callD (g2) ?_ | refine callDw (g2) ?_); simp only [go_sem]
  refine zst ?_
  (first | refine callD (t1) ?_ | refine callDw (t1) ?_); simp only [go_sem]
  refine zst ?_
  refine callN t1 ⟨rfl, (sta_deep (s := s) (r := r) (m := s.regions[r]!) rfl rfl rfl).1, (sta_deep (s := s) (r := r) (m := s.regions[r]!) rfl rfl rfl).2.trans (by rw [hself]), rfl, hfr _, ?_⟩
  simp only [go_sem]
  repeat (first | (simp only [hget]; try simp only [go_sem]) | refine And.intro (by omega) ?_ | refine And.intro rfl ?_ | refine ev_ctl rfl rfl ?_ | refine evr_nil ?_ | refine evw_nil (by kernel_rfl) ?_ | (simp (disch := omega) only [takeAll, Nat.min_eq_left, Nat.min_eq_right, if_pos, if_neg, getD_map, wrapI64, modIn, fdivE, tmodE, tdivE, decT, decF, beqT, beqF, bneT, bneF, Int.toNat_natCast]; try simp only [go_sem]) | (refine ev_condTb rfl ?_ ?_; · (simp <;> omega)) | (refine ev_condFb rfl ?_ ?_; · (simp <;> omega)) | ((first | refine ev_region ?_ | refine evr_go rfl ?_ | refine evw_go rfl ?_ | refine ev_dr0 mixed rfl (by kernel_rfl) ?_ | refine ev_dr1 mixed rfl (by kernel_rfl) ?_ | refine ev_dr2 mixed rfl (by kernel_rfl) ?_); simp only [go_sem]))
  refine callN t3 ⟨rfl, (sta_deep (s := s) (r := r) (m := s.regions[r]!.set k ⟨s.regions[r]![k]!.tag, bxor .u16 s.regions[r]![k]!.val 1, s.regions[r]![k]!.region, s.regions[r]![k]!.offset⟩) rfl rfl rfl).1, (sta_deep (s := s) (r := r) (m := s.regions[r]!.set k ⟨s.regions[r]![k]!.tag, bxor .u16 s.regions[r]![k]!.val 1, s.regions[r]![k]!.region, s.regions[r]![k]!.offset⟩) rfl rfl rfl).2.trans (by rw [setC_eq]), rfl, hfr _, ?_⟩
  simp only [go_sem]
  refine zst ?_
  (first | refine callD (fA) ?_ | refine callDw (fA) ?_); simp only [go_sem]
  refine zst ?_
  (first | refine callD (fS) ?_ | refine callDw (fS) ?_); refine zev ?_
  repeat (first | (simp only [hz1, hz2, hl1, hl2, hdl, hpl]; try simp only [go_sem]) | refine And.intro (by omega) ?_ | refine And.intro rfl ?_ | refine ev_ctl rfl rfl ?_ | refine evr_nil ?_ | refine evw_nil (by kernel_rfl) ?_ | (simp (disch := omega) only [takeAll, Nat.min_eq_left, Nat.min_eq_right, if_pos, if_neg, getD_map, wrapI64, modIn, fdivE, tmodE, tdivE, decT, decF, beqT, beqF, bneT, bneF, Int.toNat_natCast]; try simp only [go_sem]) | (refine ev_condTb rfl ?_ ?_; · (simp <;> omega)) | (refine ev_condFb rfl ?_ ?_; · (simp <;> omega)) | ((first | refine ev_region ?_ | refine evr_go rfl ?_ | refine evw_go rfl ?_ | refine ev_dr0 mixed rfl (by kernel_rfl) ?_ | refine ev_dr1 mixed rfl (by kernel_rfl) ?_ | refine ev_dr2 mixed rfl (by kernel_rfl) ?_); simp only [go_sem]))
  refine ev_loopK [9, 10, 11, 15, 17] (fun p : {p : Nat // p ≤ (pgs s).length} => [(19, .int .i64 p.1)]) (fun _ => [⟨.box false 91, true, 0, deckV l kk⟩, ⟨.box false 30, true, 0, staV s⟩, ⟨.rows 40, true, 0, .arr 1 ((s.regions.map (slV' true 4 canonV)).set r (.own 4 0))⟩, ⟨.row 43, true, 0, .arr 8 (s.threads.map (viewV true))⟩, ⟨.row 84, true, 0, .arr 4 ((s.regions[r]!.set k ⟨s.regions[r]![k]!.tag, bxor .u16 s.regions[r]![k]!.val 1, s.regions[r]![k]!.region, s.regions[r]![k]!.offset⟩).map canonV)⟩, ⟨.box false 30, true, 0, .agg [.own 2 0, .own 3 0]⟩, ⟨.box false 57, true, 0, .agg [.sl true 1 ((bld (dls s)).map dtV)]⟩, ⟨.box false 57, true, 0, .agg [.sl true 1 ((bld (dls s)).map dtV)]⟩, ⟨.box false 57, true, 0, .agg [.sl true 1 ((bld (dls (setC s r k (flip1 s.regions[r]![k]!)))).map dtV)]⟩]) (fun p => (pgs s).length - p.1) (⟨0, by simp⟩) 9 (by simp only [go_sem]; rfl) ?_ (by first | rfl | (simp only [go_sem]; done)) (by simp) (by first | rfl | (simp only [go_sem]; done)) (by first | rfl | (simp only [go_sem]; done)) (by first | rfl | (simp only [go_sem]; done)) ?_
  · (simp only [go_sem]; (try simp []); done)
  intro J hJ
  rintro ⟨p, hp⟩
  by_cases hlt : p < (pgs s).length
  · have hdf := dls_diff hsh hok hr hk hlt
    by_cases c1 : (pgs s)[p]!.id.region = r
    · by_cases c2 : (pgs s)[p]!.id.index = (k : Int) / 8
      · have hne := hdf.2 ⟨c1, c2⟩
        repeat (first | (simp only [hz1, hz2, hl1, hl2, hdl, hpl]; try simp only [go_sem]) | refine And.intro (by omega) ?_ | refine And.intro rfl ?_ | refine ev_ctl rfl rfl ?_ | refine evr_nil ?_ | refine evw_nil (by kernel_rfl) ?_ | (simp (disch := omega) only [takeAll, Nat.min_eq_left, Nat.min_eq_right, if_pos, if_neg, getD_map, wrapI64, modIn, fdivE, tmodE, tdivE, decT, decF, beqT, beqF, bneT, bneF, Int.toNat_natCast]; try simp only [go_sem]) | (refine ev_condTb rfl ?_ ?_; · (simp <;> omega)) | (refine ev_condFb rfl ?_ ?_; · (simp <;> omega)) | ((first | refine ev_region ?_ | refine evr_go rfl ?_ | refine evw_go rfl ?_ | refine ev_dr0 mixed rfl (by kernel_rfl) ?_ | refine ev_dr1 mixed rfl (by kernel_rfl) ?_ | refine ev_dr2 mixed rfl (by kernel_rfl) ?_); simp only [go_sem]))
        refine ev_next 9 (hJ _ (⟨p + 1, hlt⟩) (by first | omega | (dsimp only; omega) | (simp; omega))) rfl (by simp) ?_ (by first | rfl | (simp only [go_sem]; done)) (by first | rfl | (simp only [go_sem]; done)) ?_
        · (first | rfl | (simp only [go_sem]; done) | (simp only [go_sem]; simp only []; done) | (simp only []; done) | (simp only [go_sem]; simp []; done) | (simp []; done))
        · (simp only [go_sem]; (repeat' (refine And.intro ?_ ?_)) <;> first | exact trivial | with_reducible rfl | (simp only []; done) | (simp only []; with_reducible rfl) | (simp []; done) | (simp []; omega) | (simp only []; rfl) | skip)
      · have heq : (dls s)[p]! = (dls (setC s r k (flip1 s.regions[r]![k]!)))[p]! := Decidable.byContradiction fun h => c2 (hdf.1 h).2
        repeat (first | (simp only [hz1, hz2, hl1, hl2, hdl, hpl]; try simp only [go_sem]) | refine And.intro (by omega) ?_ | refine And.intro rfl ?_ | refine ev_ctl rfl rfl ?_ | refine evr_nil ?_ | refine evw_nil (by kernel_rfl) ?_ | (simp (disch := omega) only [takeAll, Nat.min_eq_left, Nat.min_eq_right, if_pos, if_neg, getD_map, wrapI64, modIn, fdivE, tmodE, tdivE, decT, decF, beqT, beqF, bneT, bneF, Int.toNat_natCast]; try simp only [go_sem]) | (refine ev_condTb rfl ?_ ?_; · (simp <;> omega)) | (refine ev_condFb rfl ?_ ?_; · (simp <;> omega)) | ((first | refine ev_region ?_ | refine evr_go rfl ?_ | refine evw_go rfl ?_ | refine ev_dr0 mixed rfl (by kernel_rfl) ?_ | refine ev_dr1 mixed rfl (by kernel_rfl) ?_ | refine ev_dr2 mixed rfl (by kernel_rfl) ?_); simp only [go_sem]))
        refine ev_next 9 (hJ _ (⟨p + 1, hlt⟩) (by first | omega | (dsimp only; omega) | (simp; omega))) rfl (by simp) ?_ (by first | rfl | (simp only [go_sem]; done)) (by first | rfl | (simp only [go_sem]; done)) ?_
        · (first | rfl | (simp only [go_sem]; done) | (simp only [go_sem]; simp only []; done) | (simp only []; done) | (simp only [go_sem]; simp []; done) | (simp []; done))
        · (simp only [go_sem]; (repeat' (refine And.intro ?_ ?_)) <;> first | exact trivial | with_reducible rfl | (simp only []; done) | (simp only []; with_reducible rfl) | (simp []; done) | (simp []; omega) | (simp only []; rfl) | skip)
    · have heq : (dls s)[p]! = (dls (setC s r k (flip1 s.regions[r]![k]!)))[p]! := Decidable.byContradiction fun h => c1 (hdf.1 h).1
      repeat (first | (simp only [hz1, hz2, hl1, hl2, hdl, hpl]; try simp only [go_sem]) | refine And.intro (by omega) ?_ | refine And.intro rfl ?_ | refine ev_ctl rfl rfl ?_ | refine evr_nil ?_ | refine evw_nil (by kernel_rfl) ?_ | (simp (disch := omega) only [takeAll, Nat.min_eq_left, Nat.min_eq_right, if_pos, if_neg, getD_map, wrapI64, modIn, fdivE, tmodE, tdivE, decT, decF, beqT, beqF, bneT, bneF, Int.toNat_natCast]; try simp only [go_sem]) | (refine ev_condTb rfl ?_ ?_; · (simp <;> omega)) | (refine ev_condFb rfl ?_ ?_; · (simp <;> omega)) | ((first | refine ev_region ?_ | refine evr_go rfl ?_ | refine evw_go rfl ?_ | refine ev_dr0 mixed rfl (by kernel_rfl) ?_ | refine ev_dr1 mixed rfl (by kernel_rfl) ?_ | refine ev_dr2 mixed rfl (by kernel_rfl) ?_); simp only [go_sem]))
      refine ev_next 9 (hJ _ (⟨p + 1, hlt⟩) (by first | omega | (dsimp only; omega) | (simp; omega))) rfl (by simp) ?_ (by first | rfl | (simp only [go_sem]; done)) (by first | rfl | (simp only [go_sem]; done)) ?_
      · (first | rfl | (simp only [go_sem]; done) | (simp only [go_sem]; simp only []; done) | (simp only []; done) | (simp only [go_sem]; simp []; done) | (simp []; done))
      · (simp only [go_sem]; (repeat' (refine And.intro ?_ ?_)) <;> first | exact trivial | with_reducible rfl | (simp only []; done) | (simp only []; with_reducible rfl) | (simp []; done) | (simp []; omega) | (simp only []; rfl) | skip)
  · obtain rfl : p = (pgs s).length := by omega
    refine zst ?_
    (first | refine callD (fa) ?_ | refine callDw (fa) ?_); simp only [go_sem]
    refine zst ?_
    refine ret m_tst_ok [] ?_; (first | (simp only [go_sem]; done) | (simp only [go_sem]; ((try dsimp only); (repeat' (refine And.intro ?_ ?_)) <;> first | with_reducible rfl | (simp only [go_sem]; done) | (simp only [go_sem]; rfl) | (simp only []; (try simp only [go_sem]); first | done | rfl) | (simp only [go_sem]; simp []; done) | (simp []; done) | rfl)))
theorem tst_law {a0 : List Int} {v0 : Value} {a1 : Int} {v1 : Value} {a2 : Int} {v2 : Value} (W : World) (e0 : (Sh.slice (Sh.int .i64)).rd (old W) W a0 [v0]) (e1 : (Sh.int .i64).rd (old W) W a1 [v1]) (e2 : (Sh.int .i64).rd (old W) W a2 [v2]) :
    Calls Try.prog 11 #[v0, v1, v2] W fun e w' => e = .returned (.bool true) ∧ Below W.heap.size W w' :=
  Fnc.law (tst_fn a0 a1 a2) (RdTs.slice enc_i64s e0 (RdTs.int e1 (RdTs.int e2 RdTs.nil')))
end Go.Proofs.Ytcphobeommkgeaa
