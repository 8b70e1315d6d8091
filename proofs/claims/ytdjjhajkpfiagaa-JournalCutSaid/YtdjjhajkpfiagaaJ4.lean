/- Journals: a note is read. -/
import Derived.Test.YtdjjhajkpfiagaaJ3
namespace Go.Proofs.Ytdjjhajkpfiagaa
open Go Go.RowKit Rdn Rdn.Dp
set_option linter.unusedVariables false
set_option linter.unusedSimpArgs false
def m_num : MC := .seq (.reg [⟨(some 2), none, (.p (.mov (.c (.int .u32 0))))⟩])
 (.seq (.dreg [⟨(some 3), none, (.p (.mov (.t 0)))⟩, ⟨(some 4), none, (.p (.idxA 1 (.t 3) (.c (.int .i64 0))))⟩, ⟨(some 5), none, (.p (.load false 1 (.t 4)))⟩, ⟨(some 6), none, (.p (.conv .u32 (.t 5)))⟩, ⟨(some 7), none, (.p (.mov (.t 0)))⟩, ⟨(some 8), none, (.p (.idxA 1 (.t 7) (.c (.int .i64 1))))⟩, ⟨(some 9), none, (.p (.load false 1 (.t 8)))⟩, ⟨(some 10), none, (.p (.conv .u32 (.t 9)))⟩, ⟨(some 11), none, (.p (.bin 0 .shl (.t 10) (.c (.int .u64 8))))⟩, ⟨(some 12), none, (.p (.bin 0 .or (.t 6) (.t 11)))⟩, ⟨(some 13), none, (.p (.mov (.t 0)))⟩, ⟨(some 14), none, (.p (.idxA 1 (.t 13) (.c (.int .i64 2))))⟩, ⟨(some 15), none, (.p (.load false 1 (.t 14)))⟩, ⟨(some 16), none, (.p (.conv .u32 (.t 15)))⟩, ⟨(some 17), none, (.p (.bin 0 .shl (.t 16) (.c (.int .u64 16))))⟩, ⟨(some 18), none, (.p (.bin 0 .or (.t 12) (.t 17)))⟩, ⟨(some 19), none, (.p (.mov (.t 0)))⟩, ⟨(some 20), none, (.p (.idxA 1 (.t 19) (.c (.int .i64 3))))⟩, ⟨(some 21), none, (.p (.load false 1 (.t 20)))⟩, ⟨(some 22), none, (.p (.conv .u32 (.t 21)))⟩, ⟨(some 23), none, (.p (.bin 0 .shl (.t 22) (.c (.int .u64 24))))⟩, ⟨(some 24), none, (.p (.bin 0 .or (.t 18) (.t 23)))⟩, ⟨(some 2), none, (.p (.mov (.t 24)))⟩] [[], [0], [0, 1], [0, 1, 2], [], [4], [4, 5], [4, 5, 6], [4, 5, 6, 7], [0, 1, 2, 3, 4, 5, 6, 7, 8], [], [10], [10, 11], [10, 11, 12], [10, 11, 12, 13], [0, 1, 2, 3, 4, 5, 6, 7, 8, 9, 10, 11, 12, 13, 14], [], [16], [16, 17], [16, 17, 18], [16, 17, 18, 19], [0, 1, 2, 3, 4, 5, 6, 7, 8, 9, 10, 11, 12, 13, 14, 15, 16, 17, 18, 19, 20], [0, 1, 2, 3, 4, 5, 6, 7, 8, 9, 10, 11, 12, 13, 14, 15, 16, 17, 18, 19, 20, 21]])
 (.ret))
theorem m_num_ok : compF Try.prog 48 = some (25, m_num, [.mov (.t 2)]) := by kernel_rfl
theorem bor_nat2 {k : IntKind} (hk : k = .u32 ∨ k = .i64) {a m : Nat} (ha : a < 4294967296) (hm : m < 4294967296) (e : a ||| m = a + m) (hs : a + m < 4294967296) : bor k (a : Int) (m : Int) = (a : Int) + (m : Int) := by
  have key : ∀ n : Nat, 32 ≤ n → (BitVec.ofInt n (a : Int) ||| BitVec.ofInt n (m : Int)).toNat = a + m := by
    intro n hn
    have hn' : 2 ^ 32 ≤ 2 ^ n := Nat.pow_le_pow_right (by omega) hn
    rw [BitVec.toNat_or, ofInt_nat (Int.natCast_nonneg _) (by exact_mod_cast (by omega : a < 2 ^ n)), ofInt_nat (Int.natCast_nonneg _) (by exact_mod_cast (by omega : m < 2 ^ n))]
    exact e
  rcases hk with rfl | rfl
  · show IntKind.u32.wrap ((BitVec.ofInt 32 _ ||| BitVec.ofInt 32 _).toNat : Int) = _
    rw [key 32 (by omega)]
    show ((a + m : Nat) : Int) % 4294967296 = _
    omega
  · show IntKind.i64.wrap ((BitVec.ofInt 64 _ ||| BitVec.ofInt 64 _).toNat : Int) = _
    rw [key 64 (by omega), wrapI64 (by omega) (by omega)]
    omega
theorem bor_sum {k : IntKind} (hk : k = .u32 ∨ k = .i64) (i P : Nat) (hi : i ≤ 24) (hP : 2 ^ i = P) {x y : Int} (h0 : 0 ≤ x) (h1 : x < P) (h2 : 0 ≤ y) (h3 : y < 256) : bor k x (y * P) = x + y * P := by
  obtain ⟨a, rfl⟩ := Int.eq_ofNat_of_zero_le h0
  obtain ⟨b, rfl⟩ := Int.eq_ofNat_of_zero_le h2
  have h1' : a < 2 ^ i := by rw [hP]; exact Int.ofNat_lt.1 h1
  have h3' : b < 256 := by omega
  have hpi : 2 ^ i ≤ 2 ^ 24 := Nat.pow_le_pow_right (by omega) hi
  have e : a ||| b * 2 ^ i = a + b * 2 ^ i := by
    rw [Nat.or_comm, ← Nat.shiftLeft_eq, ← Nat.shiftLeft_add_eq_or_of_lt h1', Nat.add_comm]
  rw [hP] at h1' hpi e
  have hb : b * P ≤ 255 * P := Nat.mul_le_mul_right _ (by omega)
  rw [show ((b : Int) * (P : Int)) = ((b * P : Nat) : Int) from (Int.natCast_mul b P).symm]
  generalize b * P = M at hb e
  exact bor_nat2 hk (by omega) (by omega) e (by omega)
/-- The number of four bytes. -/
def num4 (a b c d : Int) : Int := a + b * 256 + c * 65536 + d * 16777216
theorem num4_or {k : IntKind} (hk : k = .u32 ∨ k = .i64) {a b c d : Int} (ha : 0 ≤ a ∧ a ≤ 255) (hb : 0 ≤ b ∧ b ≤ 255) (hc : 0 ≤ c ∧ c ≤ 255) (hd : 0 ≤ d ∧ d ≤ 255) : bor k (bor k (bor k a (b * 256)) (c * 65536)) (d * 16777216) = num4 a b c d := by
  have e1 := bor_sum hk 8 256 (by omega) rfl ha.1 (by omega) hb.1 (by omega)
  have e2 := bor_sum hk 16 65536 (by omega) rfl (x := a + b * 256) (by omega) (by omega) hc.1 (by omega)
  have e3 := bor_sum hk 24 16777216 (by omega) rfl (x := a + b * 256 + c * 65536) (by omega) (by omega) hd.1 (by omega)
  have e1 : bor k a (b * 256) = a + b * 256 := e1
  have e2 : bor k (a + b * 256) (c * 65536) = a + b * 256 + c * 65536 := e2
  have e3 : bor k (a + b * 256 + c * 65536) (d * 16777216) = a + b * 256 + c * 65536 + d * 16777216 := e3
  rw [e1, e2, e3]
  rfl
theorem wfs_at {l : List Int} (h : ∀ x ∈ l, inK .u8 x) {k : Nat} (hk : k < l.length) : 0 ≤ l[k]! ∧ l[k]! ≤ 255 := inK_u8' (h _ (mem_at hk))
set_option maxHeartbeats 4000000 in
theorem num_fn (l : List Int) (hl : 4 ≤ l.length) : Fnc Try.prog 48 [.sl false 1 (u8s l)] (fun x obs => x = .int .u32 (num4 l[0]! l[1]! l[2]! l[3]!) ∧ obs = []) := by
  refine Fnc.wf fun hw => ?_
  simp only [V.wfs, V.wf, wfs_map, List.length_map] at hw
  have b0 := wfs_at hw.1.1 (k := 0) (by omega)
  have b1 := wfs_at hw.1.1 (k := 1) (by omega)
  have b2 := wfs_at hw.1.1 (k := 2) (by omega)
  have b3 := wfs_at hw.1.1 (k := 3) (by omega)
  have e := num4_or (k := .u32) (.inl rfl) b0 b1 b2 b3
  refine Fnc.intro m_num_ok (by simp) fun W S => ?_
  unfold m_num
  simp only [ents, Nat.zero_add, Nat.reduceAdd]
  repeat (first | refine And.intro (by omega) ?_ | refine And.intro rfl ?_ | refine ev_ctl rfl rfl ?_ | refine evr_nil ?_ | refine evw_nil (by kernel_rfl) ?_ | (simp (disch := omega) only [takeAll, Nat.min_eq_left, Nat.min_eq_right, if_pos, if_neg, getD_map, wrapI64, modIn, fdivE, tmodE, tdivE, decT, decF, beqT, beqF, bneT, bneF, Int.toNat_natCast]; try simp only [go_sem]) | refine ev_condTb rfl (by simp <;> omega) ?_ | refine ev_condFb rfl (by simp <;> omega) ?_ | ((first | refine ev_region ?_ | refine evr_go rfl ?_ | refine evw_go rfl ?_ | refine ev_dr0 mixed rfl (by kernel_rfl) ?_ | refine ev_dr1 mixed rfl (by kernel_rfl) ?_ | refine ev_dr2 mixed rfl (by kernel_rfl) ?_); simp only [go_sem]))
  refine ret m_num_ok [] ?_; (first | (simp only [go_sem]; done) | (simp only [go_sem]; ((try dsimp only); (repeat' (refine And.intro ?_ ?_)) <;> first | with_reducible rfl | (simp only [go_sem]; done) | (simp only [go_sem]; rfl) | (simp only [e]; (try simp only [go_sem]); first | done | rfl) | (simp only [go_sem]; simp [e]; done) | (simp [e]; done) | rfl)))
end Go.Proofs.Ytdjjhajkpfiagaa
