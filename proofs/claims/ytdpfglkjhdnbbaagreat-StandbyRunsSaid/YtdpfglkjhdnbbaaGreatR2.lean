/- Standby: outputs read out of notes. -/
import Derived.Test.YtdpfglkjhdnbbaaGreatR1
import Derived.Test.YtdpfglkjhdnbbaaGreatC5
import Derived.Test.YtdpfglkjhdnbbaaGreatRGH
import Derived.Test.YtdpfglkjhdnbbaaGreatGJ
namespace Go.Proofs.YtdpfglkjhdnbbaaGreat
open Go Go.RowKit Rdn Rdn.Dp
set_option linter.unusedVariables false
set_option linter.unusedSimpArgs false
theorem m_snum_ok : compF Tryz.prog 105 = some (19, Qr ([Qp 2 (.mov (Qi 0))])
 (Qr ([Qp 3 (.mov (.c (.int .u64 0)))])
 (.seq (Qr ([Qp 4 (.mov (Qi 7))])
 (.block 0 (.loop (.seq (Qr ([Qm 5 4, Qk 6 .geq 5 0])
 (.cond (.t 6) (.skip) (.exit 0)))
 (.seq (.block 1 (.reg [Qm 9 3, Qp 10 (.bin 0 .shl (.t 9) (.c (.int .u64 8))), Qm 11 0, Qm 12 4, Qx 13 1 11 12, Ql 14 1 13, Qp 15 (.conv .u64 (.t 14)), Qb 16 .or 10 15, Qm 3 16]))
 (.reg [Qm 7 4, Qk 8 .sub 7 1, Qm 4 8]))))))
 (Qr ([Qm 17 3, Qp 18 (.conv .i64 (.t 17)), Qm 2 18])
 (.ret)))), [.mov (.t 2)]) := by kernel_rfl
def nm (b : List Int) (at' : Nat) : Nat → Int
  | 0 => 0
  | j + 1 => nm b at' j * 256 + b[at' + 7 - j]!
theorem nm_b {b : List Int} {at' : Nat} (hb : ∀ x ∈ b, inK .u8 x) (hl : at' + 8 ≤ b.length) : ∀ j, j ≤ 8 → 0 ≤ nm b at' j ∧ nm b at' j < 256 ^ j
  | 0, _ => by simp [nm]
  | j + 1, h => by
    have ih := nm_b hb hl j (by omega)
    have hx := wfs_at hb (k := at' + 7 - j) (by omega)
    have e : (256 : Int) ^ (j + 1) = 256 ^ j * 256 := by rw [Int.pow_succ]
    rw [nm, e]
    omega
theorem bor_hi {y x : Int} (h0 : 0 ≤ y) (h1 : y < 72057594037927936) (h2 : 0 ≤ x) (h3 : x < 256) : bor .u64 (y * 256) x = y * 256 + x := by
  obtain ⟨a, rfl⟩ := Int.eq_ofNat_of_zero_le h0
  obtain ⟨b, rfl⟩ := Int.eq_ofNat_of_zero_le h2
  have e : a * 2 ^ 8 ||| b = a * 2 ^ 8 + b := by
    rw [← Nat.shiftLeft_eq, ← Nat.shiftLeft_add_eq_or_of_lt (by omega)]
  show IntKind.u64.wrap ((BitVec.ofInt 64 _ ||| BitVec.ofInt 64 _).toNat : Int) = _
  rw [show ((a : Int) * 256) = ((a * 2 ^ 8 : Nat) : Int) by simp, BitVec.toNat_or, ofInt_nat (Int.natCast_nonneg _) (by exact_mod_cast (by omega : a * 2 ^ 8 < 2 ^ 64)), ofInt_nat (Int.natCast_nonneg _) (by exact_mod_cast (by omega : b < 2 ^ 64))]
  show ((((a * 2 ^ 8 : Nat) : Int).toNat ||| (b : Int).toNat : Nat) : Int) % 18446744073709551616 = _
  rw [Int.toNat_natCast, Int.toNat_natCast, e]
  omega
theorem p256 : ∀ j : Nat, j < 8 → (256 : Int) ^ j ≤ 72057594037927936 := by decide
theorem nm_or {b : List Int} {at' j : Nat} (hb : ∀ x ∈ b, inK .u8 x) (hl : at' + 8 ≤ b.length) (hj : j < 8) : bor .u64 (nm b at' j * 256 % 18446744073709551616) (b[at' + 7 - j]! % 18446744073709551616) = nm b at' (j + 1) := by
  have h1 := nm_b hb hl j (by omega)
  have h2 := p256 j hj
  have hx := wfs_at hb (k := at' + 7 - j) (by omega)
  rw [Int.emod_eq_of_lt (by omega) (by omega), Int.emod_eq_of_lt (by omega) (by omega), bor_hi h1.1 (by omega) hx.1 (by omega), nm]
def rd8 (b : List Int) (at' : Nat) : Int := IntKind.i64.wrap (nm b at' 8)
set_option maxHeartbeats 4000000 in
theorem snum_fn (b : List Int) (hl : 8 ≤ b.length) : Fnc Tryz.prog 105 [.sl false 1 (u8s b)] (fun x obs => x = .int .i64 (rd8 b 0) ∧ obs = []) := by
  refine Fnc.wf fun hw => ?_
  simp only [V.wfs, V.wf, wfs_map, List.length_map] at hw
  have hb := hw.1.1
  have hm := hw.1.2
  clear hw
  have z0 : nm b 0 0 = 0 := rfl
  refine zgo m_snum_ok fun W S => ?_
  refine ev_loopK [0] (fun p : {p : Nat // p ≤ 8} => [(3, .int .u64 (nm b 0 p.1)), (4, .int .i64 (7 - (p.1 : Int)))]) (fun _ => []) (fun p => 8 - p.1) (⟨0, by simp⟩) 0 (by simp only [go_sem]; rfl) ?_ (by first | rfl | (simp only [go_sem]; done) | (simp only [go_sem]; simp [z0]; done)) (by simp) (by first | rfl | (simp only [go_sem]; done)) (by first | rfl | (simp only [go_sem]; done)) (by first | rfl | (simp only [go_sem]; done) | (simp only [z0]; (try simp only [go_sem]); first | done | rfl)) ?_
  · (simp only [go_sem]; (try simp [z0]); done)
  intro J hJ
  rintro ⟨j, hj0⟩
  by_cases hlt : j < 8
  · have hN := nm_b hb (at' := 0) (by omega) j (by omega)
    have e7 : (7 - (j : Int)).toNat = 0 + 7 - j := by omega
    have hx := wfs_at hb (k := 7 - j) (by omega)
    have hor := nm_or hb (at' := 0) (j := j) (by omega) hlt
    have e8 : 7 - (j : Int) - 1 = 7 - ((j + 1 : Nat) : Int) := by omega
    refine zst ?_
    exact zn0 (hJ _ (⟨j + 1, hlt⟩) (by first | omega | (dsimp only; omega) | (simp; omega))) (And.intro e7 (And.intro hor (e8)))
  · obtain rfl : j = 8 := by omega
    refine zst ?_
    refine ret m_snum_ok [] ?_; (first | (simp only [go_sem]; done) | (simp only [go_sem]; ((try dsimp only); (repeat' (refine And.intro ?_ ?_)) <;> first | with_reducible rfl | (simp only [go_sem]; done) | (simp only [go_sem]; rfl) | (simp only [go_sem, rd8]; done) | (simp only [rd8]; (try simp only [go_sem]); first | done | rfl) | (simp only [go_sem]; simp [rd8]; done) | (simp [rd8]; done) | rfl)))
end Go.Proofs.YtdpfglkjhdnbbaaGreat
