/- The bytes of cells. -/
import Derived.Test.YtdpfglkjhdnbbaaGreatC5
namespace Go.Proofs.YtdpfglkjhdnbbaaGreat
open Go Go.RowKit Rdn Rdn.Dp
set_option linter.unusedVariables false
set_option linter.unusedSimpArgs false
theorem m_long_ok : compF Tryz.prog 71 = some (20, Qr ([Qw 2 (.alloc 101 (.arr 1 [.int .u8 0, .int .u8 0, .int .u8 0, .int .u8 0, .int .u8 0, .int .u8 0, .int .u8 0, .int .u8 0]))])
 (Qr ([Qw 3 (.alloc 101 (.arr 1 [.int .u8 0, .int .u8 0, .int .u8 0, .int .u8 0, .int .u8 0, .int .u8 0, .int .u8 0, .int .u8 0]))])
 (Qr ([Qm 6 0, Qp 7 (.conv .u64 (.t 6)), Qm 4 7])
 (.seq (Qr ([Qp 8 (.mov (Qi 0))])
 (.block 0 (.loop (Qr ([Qk 9 .lss 8 8])
 (.seq (.cond (.t 9) (.skip) (.exit 0))
 (.seq (.block 1 (Qr ([Qm 10 8, Qm 5 10])
 (.reg [Qm 11 5, Qm 12 4, Qm 13 5, Qp 14 (.bin 0 .mul (Qi 8) (.t 13)), Qb 15 .shr 12 14, Qp 16 (.conv .u8 (.t 15)), Qp 17 (.idxAA 8 1 (.t 3) (.t 11)), Qs 1 17 16])))
 (.reg [Qk 18 .add 8 1, Qm 8 18])))))))
 (Qr ([QL 19 8 3, Qs 8 2 19])
 (.ret))))), [.load true 8 (.t 2)]) := by kernel_rfl
theorem m_rnum_ok : compF Tryz.prog 86 = some (23, Qr ([Qp 2 (.mov (.c (.nilS)))])
 (Qr ([Qm 6 0, Qp 7 (.conv .u64 (.t 6)), Qm 3 7])
 (Qr ([Qw 8 (.mkS 5 1 1 (.int .u8 0) (Qi 8) (Qi 8)), Qm 4 8])
 (.seq (Qr ([Qp 5 (.mov (Qi 0))])
 (.block 0 (.loop (.seq (Qr ([Qm 9 5, Qk 10 .lss 9 8])
 (.cond (.t 10) (.skip) (.exit 0)))
 (.seq (.block 1 (.reg [Qm 13 4, Qm 14 5, Qm 15 3, Qm 16 5, Qp 17 (.bin 0 .mul (Qi 8) (.t 16)), Qp 18 (.conv .u64 (.t 17)), Qb 19 .shr 15 18, Qp 20 (.conv .u8 (.t 19)), Qx 21 1 13 14, Qs 1 21 20]))
 (.reg [Qm 11 5, Qk 12 .add 11 1, Qm 5 12]))))))
 (Qr ([Qm 22 4, Qm 2 22])
 (.ret))))), [.mov (.t 2)]) := by kernel_rfl
theorem m_bytes_ok : compF Tryz.prog 36 = some (27, Qr ([Qw 1 (.box 69 (.t 0)), Qp 2 (.mov (.c (.nilS)))])
 (.seq (.dreg [Qf 6 2 2 1, Ql 7 1 6, Qq 8 71 [(.t 7)], Qf 9 3 3 1, Ql 10 1 9, Qq 11 71 [(.t 10)], Qw 3 (.alloc 101 (.arr 1 [.int .u8 0, .int .u8 0, .int .u8 0, .int .u8 0, .int .u8 0, .int .u8 0, .int .u8 0, .int .u8 0])), Qw 4 (.alloc 101 (.arr 1 [.int .u8 0, .int .u8 0, .int .u8 0, .int .u8 0, .int .u8 0, .int .u8 0, .int .u8 0, .int .u8 0])), Qs 8 3 8, Qs 8 4 11] [[], [0], [0, 1], [], [3], [0, 1, 2, 3, 4], [], [], [0, 1, 2, 3, 4, 5, 6, 7], [0, 1, 2, 3, 4, 5, 6, 7, 8]])
 (Qr ([Qf 12 0 0 1, Ql 13 1 12, Qf 14 1 1 1, Ql 15 1 14, Qp 16 (.conv .u8 (.t 15)), Qf 17 1 1 1, Ql 18 1 17, Qp 19 (.bin 0 .shr (.t 18) (.c (.int .u64 8))), Qp 20 (.conv .u8 (.t 19)), Qw 21 (.buildS 5 1 (.int .u8 0) 3 [(0, (.t 13)), (1, (.t 16)), (2, (.t 20))]), Qm 5 21])
 (.seq (.dreg [Qm 22 5, Qw 23 (.slA 8 1 (.t 3) none none none), Qw 24 (.app 5 1 1 (.t 22) (.t 23)), Qw 25 (.slA 8 1 (.t 4) none none none), Qw 26 (.app 5 1 1 (.t 24) (.t 25)), Qm 2 26] [[], [], [0, 1], [], [0, 1, 2, 3], [0, 1, 2, 3, 4]])
 (.ret)))), [.mov (.t 2)]) := by kernel_rfl
theorem m_rBytes_ok : compF Tryz.prog 47 = some (24, Qr ([Qw 1 (.box 69 (.t 0)), Qp 2 (.mov (.c (.nilS)))])
 (Qr ([Qf 4 0 0 1, Ql 5 1 4, Qf 6 1 1 1, Ql 7 1 6, Qp 8 (.conv .u8 (.t 7)), Qf 9 1 1 1, Ql 10 1 9, Qp 11 (.bin 0 .shr (.t 10) (.c (.int .u64 8))), Qp 12 (.conv .u8 (.t 11)), Qw 13 (.buildS 5 1 (.int .u8 0) 3 [(0, (.t 5)), (1, (.t 8)), (2, (.t 12))]), Qm 3 13])
 (Qr ([Qm 14 3, Qf 15 2 2 1, Ql 16 1 15, Qq 17 86 [(.t 16)], Qw 18 (.app 5 1 1 (.t 14) (.t 17)), Qm 3 18])
 (Qr ([Qm 19 3, Qf 20 3 3 1, Ql 21 1 20, Qq 22 86 [(.t 21)], Qw 23 (.app 5 1 1 (.t 19) (.t 22)), Qm 2 23])
 (.ret)))), [.mov (.t 2)]) := by kernel_rfl
def le8 (n : Int) : List Int := [n % 18446744073709551616 % 256, n % 18446744073709551616 / 256 % 256, n % 18446744073709551616 / 65536 % 256, n % 18446744073709551616 / 16777216 % 256, n % 18446744073709551616 / 4294967296 % 256, n % 18446744073709551616 / 1099511627776 % 256, n % 18446744073709551616 / 281474976710656 % 256, n % 18446744073709551616 / 72057594037927936]
theorem le8_len (n : Int) : (le8 n).length = 8 := rfl
theorem le8_take {α : Type} (f : Int → α) (n : Int) : ((le8 n).map f).take 8 = (le8 n).map f := rfl
def cbytes (c : Canon) : List Int := [c.tag, c.val % 256, c.val / 256] ++ (le8 c.region ++ le8 c.offset)
theorem cbytes_len (c : Canon) : (cbytes c).length = 19 := rfl
theorem flat_len : ∀ l : List Canon, (l.flatMap cbytes).length = 19 * l.length
  | [] => rfl
  | c :: l => by rw [List.flatMap_cons, List.length_append, cbytes_len, flat_len l, List.length_cons]; omega
attribute [local go_sem] le8_len le8_take cbytes_len
set_option maxHeartbeats 4000000 in
theorem long_fn (n : Int) : Fnc Tryz.prog 71 [.int .i64 n] (fun x obs => x = .arr 1 (u8s (le8 n)) ∧ obs = []) := by
  refine zgo m_long_ok fun W S => ?_
  refine ev_unroll 9 ?_
  refine zst ?_
  refine ret m_long_ok [] ?_; (first | (simp only [go_sem]; done) | (simp only [go_sem]; ((try dsimp only); (repeat' (refine And.intro ?_ ?_)) <;> first | with_reducible rfl | (simp only [go_sem]; done) | (simp only [go_sem]; rfl) | (simp only [go_sem, le8]; done) | (simp only [le8]; (try simp only [go_sem]); first | done | rfl) | (simp only [go_sem]; simp [le8]; done) | (simp [le8]; done) | rfl)))
set_option maxHeartbeats 4000000 in
theorem rnum_fn (n : Int) : Fnc Tryz.prog 86 [.int .i64 n] (fun x obs => x = .sl true 1 (u8s (le8 n)) ∧ obs = []) := by
  refine zgo m_rnum_ok fun W S => ?_
  refine ev_unroll 9 ?_
  refine zst ?_
  refine ret m_rnum_ok [] ?_; (first | (simp only [go_sem]; done) | (simp only [go_sem]; ((try dsimp only); (repeat' (refine And.intro ?_ ?_)) <;> first | with_reducible rfl | (simp only [go_sem]; done) | (simp only [go_sem]; rfl) | (simp only [go_sem, le8]; done) | (simp only [le8]; (try simp only [go_sem]); first | done | rfl) | (simp only [go_sem]; simp [le8]; done) | (simp [le8]; done) | rfl)))
attribute [local irreducible] le8
set_option maxHeartbeats 4000000 in
theorem bytes_fn (c : Canon) : Fnc Tryz.prog 36 [canonV c] (fun x obs => x = .sl true 1 (u8s (cbytes c)) ∧ obs = []) := by
  refine Fnc.wf fun hw => ?_
  simp only [V.wfs, V.wf, wfs_map, List.length_map] at hw
  have hv := inK_u16' hw.1.2.1
  refine zgo m_bytes_ok fun W S => ?_
  refine zcd (long_fn c.region) ?_
  refine zcd (long_fn c.offset) ?_
  refine ret m_bytes_ok [] ?_; (first | (simp only [go_sem]; done) | (simp only [go_sem]; ((try dsimp only); (repeat' (refine And.intro ?_ ?_)) <;> first | with_reducible rfl | (simp only [go_sem]; done) | (simp only [go_sem]; rfl) | (simp only [go_sem, cbytes]; done) | (simp only [cbytes]; (try simp only [go_sem]); first | done | rfl) | (simp only [go_sem]; simp [cbytes]; done) | (simp [cbytes]; done) | rfl)))
set_option maxHeartbeats 4000000 in
theorem rBytes_fn (c : Canon) : Fnc Tryz.prog 47 [canonV c] (fun x obs => x = .sl true 1 (u8s (cbytes c)) ∧ obs = []) := by
  refine Fnc.wf fun hw => ?_
  simp only [V.wfs, V.wf, wfs_map, List.length_map] at hw
  have hv := inK_u16' hw.1.2.1
  refine zgo m_rBytes_ok fun W S => ?_
  refine zcd (rnum_fn c.region) ?_
  refine zcd (rnum_fn c.offset) ?_
  refine ret m_rBytes_ok [] ?_; (first | (simp only [go_sem]; done) | (simp only [go_sem]; ((try dsimp only); (repeat' (refine And.intro ?_ ?_)) <;> first | with_reducible rfl | (simp only [go_sem]; done) | (simp only [go_sem]; rfl) | (simp only [go_sem, cbytes]; done) | (simp only [cbytes]; (try simp only [go_sem]); first | done | rfl) | (simp only [go_sem]; simp [cbytes]; done) | (simp [cbytes]; done) | rfl)))
end Go.Proofs.YtdpfglkjhdnbbaaGreat
