/- U4, U5, U6, U7, in one text. -/
import Derived.Test.YtkfpcgkmemfdaaaGreatUO
import Derived.Test.YtkfpcgkmemfdaaaGreatC5
/- Requests: what calls take. -/
namespace Go.Proofs.YtkfpcgkmemfdaaaGreat
open Go Go.RowKit Rdn Rdn.Dp
set_option linter.unusedVariables false
set_option linter.unusedSimpArgs false
theorem m_wkin_ok : compF Tryz.prog 92 = some (32, Qr ([Qp 2 (.mov (.c (.str ByteArray.empty))), Qp 3 (.mov (Qi 0)), Qc 4 (.bool false)])
 (.seq (Qr ([Qm 5 0])
 (.block 0 (.seq (Qr ([Qk 7 .eql 5 0, Qm 6 7])
 (.cond (.t 6) (.skip) (Qr ([Qk 8 .eql 5 8, Qm 6 8])
 (.cond (.t 6) (.skip) (Qr ([Qk 9 .eql 5 9, Qm 6 9])
 (.cond (.t 6) (.skip) (Qr ([Qk 10 .eql 5 11, Qm 6 10])
 (.cond (.t 6) (.skip) (.reg [Qk 11 .eql 5 12, Qm 6 11])))))))))
 (.cond (.t 6) (Qr ([Qp 2 (.mov (.c (.str ⟨#[78]⟩))), Qp 3 (.mov (Qi 0)), Qc 4 (.bool true)])
 (.ret)) (Qr ([Qk 13 .eql 5 1, Qm 12 13])
 (.cond (.t 12) (Qr ([Qp 2 (.mov (.c (.str ⟨#[72, 80, 78]⟩))), Qp 3 (.mov (Qi 1)), Qc 4 (.bool true)])
 (.ret)) (Qr ([Qk 15 .eql 5 2, Qm 14 15])
 (.cond (.t 14) (Qr ([Qp 2 (.mov (.c (.str ⟨#[72, 80, 78]⟩))), Qp 3 (.mov (Qi 2)), Qc 4 (.bool true)])
 (.ret)) (Qr ([Qk 17 .eql 5 3, Qm 16 17])
 (.cond (.t 16) (Qr ([Qp 2 (.mov (.c (.str ⟨#[78, 78]⟩))), Qp 3 (.mov (Qi 0)), Qc 4 (.bool true)])
 (.ret)) (Qr ([Qk 19 .eql 5 4, Qm 18 19])
 (.cond (.t 18) (Qr ([Qp 2 (.mov (.c (.str ⟨#[72]⟩))), Qp 3 (.mov (Qi 0)), Qc 4 (.bool true)])
 (.ret)) (Qr ([Qk 21 .eql 5 5, Qm 20 21])
 (.cond (.t 20) (Qr ([Qp 2 (.mov (.c (.str ⟨#[72, 78]⟩))), Qp 3 (.mov (Qi 0)), Qc 4 (.bool true)])
 (.ret)) (.seq (Qr ([Qk 23 .eql 5 6, Qm 22 23])
 (.cond (.t 22) (.skip) (Qr ([Qk 24 .eql 5 7, Qm 22 24])
 (.cond (.t 22) (.skip) (.reg [Qk 25 .eql 5 15, Qm 22 25])))))
 (.cond (.t 22) (Qr ([Qp 2 (.mov (.c (.str ByteArray.empty))), Qp 3 (.mov (Qi 0)), Qc 4 (.bool true)])
 (.ret)) (Qr ([Qk 27 .eql 5 10, Qm 26 27])
 (.cond (.t 26) (Qr ([Qp 2 (.mov (.c (.str ⟨#[78, 88]⟩))), Qp 3 (.mov (Qi 0)), Qc 4 (.bool true)])
 (.ret)) (Qr ([Qk 29 .eql 5 13, Qm 28 29])
 (.cond (.t 28) (Qr ([Qp 2 (.mov (.c (.str ⟨#[78, 80, 78]⟩))), Qp 3 (.mov (Qi 1)), Qc 4 (.bool true)])
 (.ret)) (Qr ([Qk 31 .eql 5 14, Qm 30 31])
 (.cond (.t 30) (Qr ([Qp 2 (.mov (.c (.str ⟨#[78, 80, 78]⟩))), Qp 3 (.mov (Qi 2)), Qc 4 (.bool true)])
 (.ret)) (.skip)))))))))))))))))))))))
 (Qr ([Qp 2 (.mov (.c (.str ByteArray.empty))), Qp 3 (.mov (Qi 0)), Qc 4 (.bool false)])
 (.ret))), [.mov (.t 2), .mov (.t 3), .mov (.t 4)]) := by kernel_rfl
theorem m_wbuf_ok : compF Tryz.prog 48 = some (15, Qr ([Qp 2 (.mov (Qi 0))])
 (Qr ([Qm 7 0, Qq 8 92 [(.t 7)], Qm 6 8, Qe 9 6 0, Qe 10 6 1, Qe 11 6 2, Qm 3 9, Qm 4 10, Qm 5 11])
 (.seq (Qr ([Qm 12 5, Qp 13 (.un .not (.t 12))])
 (.cond (.t 13) (Qr ([Qp 2 (.mov (Qi (-1)))])
 (.ret)) (.skip)))
 (Qr ([Qm 14 4, Qm 2 14])
 (.ret)))), [.mov (.t 2)]) := by kernel_rfl
theorem m_wfit_ok : compF Tryz.prog 91 = some (58, Qr ([Qc 4 (.bool false)])
 (Qr ([Qm 11 0, Qq 12 92 [(.t 11)], Qm 10 12, Qe 13 10 0, Qe 14 10 1, Qe 15 10 2, Qm 5 13, Qm 6 14, Qm 7 15])
 (.seq (Qr ([Qm 16 7, Qp 17 (.un .not (.t 16)), Qm 18 17, Q0 19 18 (.mov (.t 1)), Q0 20 18 (.len (.t 19)), Q0 21 18 (.mov (.t 5)), Q0 22 18 (.lenS (.t 21)), Q0 23 18 (.bin 0 .neq (.t 20) (.t 22)), Qt 24 18 23])
 (.cond (.t 24) (Qr ([Qc 4 (.bool false)])
 (.ret)) (.skip)))
 (.seq (Qr ([Qm 25 1, Qn 26 25, Qp 27 (.mov (Qi 0))])
 (.block 0 (.loop (Qr ([Qb 28 .lss 27 26])
 (.seq (.cond (.t 28) (.skip) (.exit 0))
 (.seq (.block 1 (Qr ([Qm 29 27, Qx 30 1 25 27, Ql 31 1 30, Qm 8 29, Qm 9 31])
 (Qr ([Qm 32 5, Qm 33 8, Qp 34 (.idxS (.t 32) (.t 33))])
 (.block 2 (Qr ([Qp 36 (.bin 0 .eql (.t 34) (.c (.int .u8 78))), Qm 35 36])
 (.cond (.t 35) (.reg [Qm 37 7, Qm 38 37, Q1 39 38 (.mov (.t 9)), Q1 40 38 (.bin 0 .eql (.t 39) (.c (.int .u8 0))), Qu 41 38 40, Qm 7 41]) (Qr ([Qp 43 (.bin 0 .eql (.t 34) (.c (.int .u8 72))), Qm 42 43])
 (.cond (.t 42) (.reg [Qm 44 7, Qm 45 44, Q1 46 45 (.mov (.t 9)), Q1 47 45 (.bin 0 .eql (.t 46) (.c (.int .u8 2))), Qu 48 45 47, Qm 7 48]) (Qr ([Qp 50 (.bin 0 .eql (.t 34) (.c (.int .u8 80))), Qm 49 50])
 (.cond (.t 49) (.reg [Qm 51 7, Qm 52 51, Q1 53 52 (.mov (.t 9)), Q1 54 52 (.bin 0 .eql (.t 53) (.c (.int .u8 1))), Qu 55 52 54, Qm 7 55]) (.skip)))))))))))
 (.reg [Qk 56 .add 27 1, Qm 27 56])))))))
 (Qr ([Qm 57 7, Qm 4 57])
 (.ret))))), [.mov (.t 4)]) := by kernel_rfl
theorem m_wact_ok : compF Tryz.prog 17 = some (14, Qr ([Qc 2 (.bool false)])
 (.seq (Qr ([Qm 3 0])
 (.block 0 (.seq (Qr ([Qk 5 .eql 3 1, Qm 4 5])
 (.cond (.t 4) (.skip) (Qr ([Qk 6 .eql 3 2, Qm 4 6])
 (.cond (.t 4) (.skip) (Qr ([Qk 7 .eql 3 3, Qm 4 7])
 (.cond (.t 4) (.skip) (Qr ([Qk 8 .eql 3 4, Qm 4 8])
 (.cond (.t 4) (.skip) (Qr ([Qk 9 .eql 3 5, Qm 4 9])
 (.cond (.t 4) (.skip) (Qr ([Qk 10 .eql 3 6, Qm 4 10])
 (.cond (.t 4) (.skip) (Qr ([Qk 11 .eql 3 7, Qm 4 11])
 (.cond (.t 4) (.skip) (Qr ([Qk 12 .eql 3 13, Qm 4 12])
 (.cond (.t 4) (.skip) (.reg [Qk 13 .eql 3 14, Qm 4 13])))))))))))))))))
 (.cond (.t 4) (Qr ([Qc 2 (.bool true)])
 (.ret)) (.skip)))))
 (Qr ([Qc 2 (.bool false)])
 (.ret))), [.mov (.t 2)]) := by kernel_rfl
theorem m_rkin_ok : compF Tryz.prog 101 = some (24, Qr ([Qp 2 (.mov (.c (.str ByteArray.empty)))])
 (.seq (Qr ([Qm 3 0])
 (.block 0 (.seq (Qr ([Qk 5 .eql 3 0, Qm 4 5])
 (.cond (.t 4) (.skip) (Qr ([Qk 6 .eql 3 8, Qm 4 6])
 (.cond (.t 4) (.skip) (Qr ([Qk 7 .eql 3 9, Qm 4 7])
 (.cond (.t 4) (.skip) (Qr ([Qk 8 .eql 3 11, Qm 4 8])
 (.cond (.t 4) (.skip) (.reg [Qk 9 .eql 3 12, Qm 4 9])))))))))
 (.cond (.t 4) (Qr ([Qp 2 (.mov (.c (.str ⟨#[78]⟩)))])
 (.ret)) (.seq (Qr ([Qk 11 .eql 3 1, Qm 10 11])
 (.cond (.t 10) (.skip) (.reg [Qk 12 .eql 3 2, Qm 10 12])))
 (.cond (.t 10) (Qr ([Qp 2 (.mov (.c (.str ⟨#[72, 80, 78]⟩)))])
 (.ret)) (Qr ([Qk 14 .eql 3 3, Qm 13 14])
 (.cond (.t 13) (Qr ([Qp 2 (.mov (.c (.str ⟨#[78, 78]⟩)))])
 (.ret)) (Qr ([Qk 16 .eql 3 4, Qm 15 16])
 (.cond (.t 15) (Qr ([Qp 2 (.mov (.c (.str ⟨#[72]⟩)))])
 (.ret)) (Qr ([Qk 18 .eql 3 5, Qm 17 18])
 (.cond (.t 17) (Qr ([Qp 2 (.mov (.c (.str ⟨#[72, 78]⟩)))])
 (.ret)) (Qr ([Qk 20 .eql 3 10, Qm 19 20])
 (.cond (.t 19) (Qr ([Qp 2 (.mov (.c (.str ⟨#[78, 88]⟩)))])
 (.ret)) (.seq (Qr ([Qk 22 .eql 3 13, Qm 21 22])
 (.cond (.t 21) (.skip) (.reg [Qk 23 .eql 3 14, Qm 21 23])))
 (.cond (.t 21) (Qr ([Qp 2 (.mov (.c (.str ⟨#[78, 80, 78]⟩)))])
 (.ret)) (.skip)))))))))))))))))
 (Qr ([Qp 2 (.mov (.c (.str ByteArray.empty)))])
 (.ret))), [.mov (.t 2)]) := by kernel_rfl
theorem m_rfit_ok : compF Tryz.prog 102 = some (18, Qr ([Qc 4 (.bool false)])
 (.seq (Qr ([Qm 5 0])
 (.block 0 (Qr ([Qp 7 (.bin 0 .eql (.t 5) (.c (.int .u8 78))), Qm 6 7])
 (.cond (.t 6) (Qr ([Qm 8 1, Qp 9 (.bin 0 .eql (.t 8) (.c (.int .u8 0))), Qm 4 9])
 (.ret)) (Qr ([Qp 11 (.bin 0 .eql (.t 5) (.c (.int .u8 72))), Qm 10 11])
 (.cond (.t 10) (Qr ([Qm 12 1, Qp 13 (.bin 0 .eql (.t 12) (.c (.int .u8 2))), Qm 4 13])
 (.ret)) (Qr ([Qp 15 (.bin 0 .eql (.t 5) (.c (.int .u8 80))), Qm 14 15])
 (.cond (.t 14) (Qr ([Qm 16 1, Qp 17 (.bin 0 .eql (.t 16) (.c (.int .u8 1))), Qm 4 17])
 (.ret)) (.skip)))))))))
 (Qr ([Qc 4 (.bool true)])
 (.ret))), [.mov (.t 4)]) := by kernel_rfl
theorem m_rbuf_ok : compF Tryz.prog 62 = some (24, Qr ([Qp 2 (.mov (Qi 0))])
 (.seq (.block 0 (Qr ([Qm 4 0, Qk 5 .lss 4 0, Qm 6 5, Q0 7 6 (.mov (.t 0)), Q0 8 6 (.bin 0 .gtr (.t 7) (Qi 15)), Qt 9 6 8, Qm 3 9])
 (.cond (.t 3) (Qr ([Qp 2 (.mov (Qi (-1)))])
 (.ret)) (Qr ([Qm 11 0, Qk 12 .eql 11 1, Qm 13 12, Q0 14 13 (.mov (.t 0)), Q0 15 13 (.bin 0 .eql (.t 14) (Qi 13)), Qt 16 13 15, Qm 10 16])
 (.cond (.t 10) (Qr ([Qp 2 (.mov (Qi 1))])
 (.ret)) (Qr ([Qm 18 0, Qk 19 .eql 18 2, Qm 20 19, Q0 21 20 (.mov (.t 0)), Q0 22 20 (.bin 0 .eql (.t 21) (Qi 14)), Qt 23 20 22, Qm 17 23])
 (.cond (.t 17) (Qr ([Qp 2 (.mov (Qi 2))])
 (.ret)) (.skip))))))))
 (Qr ([Qp 2 (.mov (Qi 0))])
 (.ret))), [.mov (.t 2)]) := by kernel_rfl
theorem m_ract_ok : compF Tryz.prog 18 = some (17, Qr ([Qc 2 (.bool false)])
 (Qr ([Qm 3 0, Qk 4 .geq 3 1, Qm 5 4, Q1 6 5 (.mov (.t 0)), Q1 7 5 (.bin 0 .leq (.t 6) (Qi 7)), Qu 8 5 7, Qm 9 8, Q0 10 9 (.mov (.t 0)), Q0 11 9 (.bin 0 .eql (.t 10) (Qi 13)), Qt 12 9 11, Qm 13 12, Q0 14 13 (.mov (.t 0)), Q0 15 13 (.bin 0 .eql (.t 14) (Qi 14)), Qt 16 13 15, Qm 2 16])
 (.ret)), [.mov (.t 2)]) := by kernel_rfl
/-- The kinds of the arguments of a call. -/
def kb (c : Int) : ByteArray := if c = 0 ∨ c = 8 ∨ c = 9 ∨ c = 11 ∨ c = 12 then ⟨#[78]⟩ else if c = 1 ∨ c = 2 then ⟨#[72, 80, 78]⟩ else if c = 3 then ⟨#[78, 78]⟩ else if c = 4 then ⟨#[72]⟩ else if c = 5 then ⟨#[72, 78]⟩ else if c = 10 then ⟨#[78, 88]⟩ else if c = 13 ∨ c = 14 then ⟨#[78, 80, 78]⟩ else ByteArray.empty
def kl (c : Int) : List Int := if c = 0 ∨ c = 8 ∨ c = 9 ∨ c = 11 ∨ c = 12 then [78] else if c = 1 ∨ c = 2 then [72, 80, 78] else if c = 3 then [78, 78] else if c = 4 then [72] else if c = 5 then [72, 78] else if c = 10 then [78, 88] else if c = 13 ∨ c = 14 then [78, 80, 78] else []
def bufS (c : Int) : Int := if c = 1 ∨ c = 13 then 1 else if c = 2 ∨ c = 14 then 2 else 0
def isCall (c : Int) : Bool := decide (0 ≤ c ∧ c ≤ 15)
def actB (c : Int) : Bool := decide (1 ≤ c ∧ c ≤ 7 ∨ c = 13 ∨ c = 14)
theorem call_cases {c : Int} (h0 : 0 ≤ c) (h1 : c ≤ 15) : c = 0 ∨ c = 1 ∨ c = 2 ∨ c = 3 ∨ c = 4 ∨ c = 5 ∨ c = 6 ∨ c = 7 ∨ c = 8 ∨ c = 9 ∨ c = 10 ∨ c = 11 ∨ c = 12 ∨ c = 13 ∨ c = 14 ∨ c = 15 := by omega
set_option maxHeartbeats 16000000 in
theorem wkin_fn (c : Int) (h0 : 0 ≤ c) (h1 : c ≤ 15) : Fnc Tryz.prog 92 [.int .i64 c] (fun x obs => x = .tup [.str (kb c), .int .i64 (bufS c), .bool true] ∧ obs = []) := by
  rcases call_cases h0 h1 with rfl | rfl | rfl | rfl | rfl | rfl | rfl | rfl | rfl | rfl | rfl | rfl | rfl | rfl | rfl | rfl <;> clear h0 h1
  all_goals
    refine zgo m_wkin_ok fun W S => ?_
    exact zrt m_wkin_ok
set_option maxHeartbeats 16000000 in
theorem wkin_no (c : Int) (h : ¬ (0 ≤ c ∧ c ≤ 15)) : Fnc Tryz.prog 92 [.int .i64 c] (fun x obs => x = .tup [.str ByteArray.empty, .int .i64 0, .bool false] ∧ obs = []) := by
  refine zgo m_wkin_ok fun W S => ?_
  exact zrt m_wkin_ok
set_option maxHeartbeats 16000000 in
theorem wbuf_fn (c : Int) (h0 : 0 ≤ c) (h1 : c ≤ 15) : Fnc Tryz.prog 48 [.int .i64 c] (fun x obs => x = .int .i64 (bufS c) ∧ obs = []) := by
  have f := wkin_fn c h0 h1
  refine zgo m_wbuf_ok fun W S => ?_
  refine zcd (f) ?_
  exact zrt m_wbuf_ok
set_option maxHeartbeats 16000000 in
theorem wact_fn (c : Int) : Fnc Tryz.prog 17 [.int .i64 c] (fun x obs => x = .bool (actB c) ∧ obs = []) := by
  by_cases h : 0 ≤ c ∧ c ≤ 15
  · rcases call_cases h.1 h.2 with rfl | rfl | rfl | rfl | rfl | rfl | rfl | rfl | rfl | rfl | rfl | rfl | rfl | rfl | rfl | rfl <;> clear h
    all_goals
      refine zgo m_wact_ok fun W S => ?_
      exact zrt m_wact_ok
  · rw [show actB c = false from decF (by omega)]
    refine zgo m_wact_ok fun W S => ?_
    exact zrt m_wact_ok
set_option maxHeartbeats 16000000 in
theorem rkin_fn (c : Int) : Fnc Tryz.prog 101 [.int .i64 c] (fun x obs => x = .str (kb c) ∧ obs = []) := by
  by_cases h : 0 ≤ c ∧ c ≤ 15
  · rcases call_cases h.1 h.2 with rfl | rfl | rfl | rfl | rfl | rfl | rfl | rfl | rfl | rfl | rfl | rfl | rfl | rfl | rfl | rfl <;> clear h
    all_goals
      refine zgo m_rkin_ok fun W S => ?_
      exact zrt m_rkin_ok
  · rw [show kb c = ByteArray.empty by
      unfold kb
      rw [if_neg (by omega), if_neg (by omega), if_neg (by omega), if_neg (by omega), if_neg (by omega), if_neg (by omega), if_neg (by omega)]]
    refine zgo m_rkin_ok fun W S => ?_
    exact zrt m_rkin_ok
set_option maxHeartbeats 16000000 in
theorem rbuf_fn (c : Int) (h0 : 0 ≤ c) (h1 : c ≤ 15) : Fnc Tryz.prog 62 [.int .i64 c] (fun x obs => x = .int .i64 (bufS c) ∧ obs = []) := by
  rcases call_cases h0 h1 with rfl | rfl | rfl | rfl | rfl | rfl | rfl | rfl | rfl | rfl | rfl | rfl | rfl | rfl | rfl | rfl <;> clear h0 h1
  all_goals
    refine zgo m_rbuf_ok fun W S => ?_
    exact zrt m_rbuf_ok
set_option maxHeartbeats 16000000 in
theorem ract_fn (c : Int) : Fnc Tryz.prog 18 [.int .i64 c] (fun x obs => x = .bool (actB c) ∧ obs = []) := by
  by_cases h : 0 ≤ c ∧ c ≤ 15
  · rcases call_cases h.1 h.2 with rfl | rfl | rfl | rfl | rfl | rfl | rfl | rfl | rfl | rfl | rfl | rfl | rfl | rfl | rfl | rfl <;> clear h
    all_goals
      refine zgo m_ract_ok fun W S => ?_
      exact zrt m_ract_ok
  · rw [show actB c = false from decF (by omega)]
    by_cases h1 : c < 0
    · skip
      refine zgo m_ract_ok fun W S => ?_
      exact zrt m_ract_ok
    · skip
      refine zgo m_ract_ok fun W S => ?_
      exact zrt m_ract_ok
end Go.Proofs.YtkfpcgkmemfdaaaGreat
/- Requests: which ones are valid. -/
namespace Go.Proofs.YtkfpcgkmemfdaaaGreat
open Go Go.RowKit Rdn Rdn.Dp
set_option linter.unusedVariables false
set_option linter.unusedSimpArgs false
theorem m_wth_ok : compF Tryz.prog 108 = some (15, Qr ([Qc 6 (.bool false)])
 (Qr ([Qm 7 0, Qm 8 1, Qb 9 .geq 7 8, Qm 10 9, Q1 11 10 (.mov (.t 0)), Q1 12 10 (.mov (.t 2)), Q1 13 10 (.bin 0 .leq (.t 11) (.t 12)), Qu 14 10 13, Qm 6 14])
 (.ret)), [.mov (.t 6)]) := by kernel_rfl
theorem m_wrval_ok : compF Tryz.prog 90 = some (48, Qr ([Qw 1 (.box 24 (.t 0)), Qc 2 (.bool false)])
 (Qr ([Qp 3 (.mov (.c (.fn 108)))])
 (Qr ([Qm 4 3, Qf 5 0 0 1, Ql 6 1 5, ⟨(some 7), none, (.callv (.t 4) [(.t 6), (Qi 0), (Qi 3)])⟩, Qm 8 7, Q1 9 8 (.mov (.t 3)), Q1 10 8 (.fieldA 1 1 (.t 1)), Q1 11 8 (.load false 1 (.t 10)), ⟨(some 12), (some (8, true)), (.callv (.t 9) [(.t 11), (Qi 0), (Qi 3)])⟩, Qu 13 8 12, Qm 14 13, Q1 15 14 (.mov (.t 3)), Q1 16 14 (.fieldA 2 2 (.t 1)), Q1 17 14 (.load false 1 (.t 16)), ⟨(some 18), (some (14, true)), (.callv (.t 15) [(.t 17), (Qi 0), (Qi 6)])⟩, Qu 19 14 18, Qm 20 19, Q1 21 20 (.mov (.t 3)), Q1 22 20 (.fieldA 3 3 (.t 1)), Q1 23 20 (.load false 1 (.t 22)), ⟨(some 24), (some (20, true)), (.callv (.t 21) [(.t 23), (Qi 0), (Qi 1099511627776)])⟩, Qu 25 20 24, Qm 26 25, Q1 27 26 (.mov (.t 3)), Q1 28 26 (.fieldA 4 4 (.t 1)), Q1 29 26 (.load false 1 (.t 28)), ⟨(some 30), (some (26, true)), (.callv (.t 27) [(.t 29), (Qi 0), (Qi 255)])⟩, Qu 31 26 30, Qm 32 31, Q1 33 32 (.mov (.t 3)), Q1 34 32 (.fieldA 5 5 (.t 1)), Q1 35 32 (.load false 1 (.t 34)), ⟨(some 36), (some (32, true)), (.callv (.t 33) [(.t 35), (Qi 0), (Qi 15)])⟩, Qu 37 32 36, Qm 38 37, Q1 39 38 (.fieldA 6 6 (.t 1)), Q1 40 38 (.load false 1 (.t 39)), ⟨(some 41), (some (38, true)), (.call 28 [(.t 40), (Qi 3)])⟩, Qu 42 38 41, Qm 43 42, Q1 44 43 (.fieldA 7 7 (.t 1)), Q1 45 43 (.load false 1 (.t 44)), ⟨(some 46), (some (43, true)), (.call 28 [(.t 45), (Qi 16)])⟩, Qu 47 43 46, Qm 2 47])
 (.ret))), [.mov (.t 2)]) := by kernel_rfl
theorem m_rrval_ok : compF Tryz.prog 60 = some (71, Qr ([Qw 1 (.box 24 (.t 0)), Qc 2 (.bool false)])
 (Qr ([Qf 3 0 0 1, Ql 4 1 3, Qk 5 .geq 4 0, Qm 6 5, Q1 7 6 (.fieldA 0 0 (.t 1)), Q1 8 6 (.load false 1 (.t 7)), Q1 9 6 (.bin 0 .lss (.t 8) (Qi 4)), Qu 10 6 9, Qm 11 10, Q1 12 11 (.fieldA 1 1 (.t 1)), Q1 13 11 (.load false 1 (.t 12)), Q1 14 11 (.bin 0 .geq (.t 13) (Qi 0)), Qu 15 11 14, Qm 16 15, Q1 17 16 (.fieldA 1 1 (.t 1)), Q1 18 16 (.load false 1 (.t 17)), Q1 19 16 (.bin 0 .leq (.t 18) (Qi 3)), Qu 20 16 19, Qm 21 20, Q1 22 21 (.fieldA 2 2 (.t 1)), Q1 23 21 (.load false 1 (.t 22)), Q1 24 21 (.bin 0 .geq (.t 23) (Qi 0)), Qu 25 21 24, Qm 26 25, Q1 27 26 (.fieldA 2 2 (.t 1)), Q1 28 26 (.load false 1 (.t 27)), Q1 29 26 (.bin 0 .leq (.t 28) (Qi 6)), Qu 30 26 29, Qm 31 30, Q1 32 31 (.fieldA 3 3 (.t 1)), Q1 33 31 (.load false 1 (.t 32)), Q1 34 31 (.bin 0 .geq (.t 33) (Qi 0)), Qu 35 31 34, Qm 36 35, Q1 37 36 (.fieldA 3 3 (.t 1)), Q1 38 36 (.load false 1 (.t 37)), Q1 39 36 (.bin 0 .leq (.t 38) (Qi 1099511627776)), Qu 40 36 39, Qm 41 40, Q1 42 41 (.fieldA 4 4 (.t 1)), Q1 43 41 (.load false 1 (.t 42)), Q1 44 41 (.bin 0 .geq (.t 43) (Qi 0)), Qu 45 41 44, Qm 46 45, Q1 47 46 (.fieldA 4 4 (.t 1)), Q1 48 46 (.load false 1 (.t 47)), Q1 49 46 (.bin 0 .leq (.t 48) (Qi 255)), Qu 50 46 49, Qm 51 50, Q1 52 51 (.fieldA 5 5 (.t 1)), Q1 53 51 (.load false 1 (.t 52)), Q1 54 51 (.bin 0 .geq (.t 53) (Qi 0)), Qu 55 51 54, Qm 56 55, Q1 57 56 (.fieldA 5 5 (.t 1)), Q1 58 56 (.load false 1 (.t 57)), Q1 59 56 (.bin 0 .leq (.t 58) (Qi 15)), Qu 60 56 59, Qm 61 60, Q1 62 61 (.fieldA 6 6 (.t 1)), Q1 63 61 (.load false 1 (.t 62)), ⟨(some 64), (some (61, true)), (.call 33 [(.t 63), (Qi 3)])⟩, Qu 65 61 64, Qm 66 65, Q1 67 66 (.fieldA 7 7 (.t 1)), Q1 68 66 (.load false 1 (.t 67)), ⟨(some 69), (some (66, true)), (.call 33 [(.t 68), (Qi 16)])⟩, Qu 70 66 69, Qm 2 70])
 (.ret)), [.mov (.t 2)]) := by kernel_rfl
abbrev reqV (q : Request) : V := .agg [.int .i64 q.thread, .int .i64 q.stop, .int .i64 q.trap, .int .i64 q.count, .int .i64 q.pc, .int .i64 q.call, .sl false 4 (q.args.map canonV), .sl false 4 (q.data.map canonV)]
structure FitQ (q : Request) : Prop where
  thread : 0 ≤ q.thread ∧ q.thread ≤ 3
  stop : 0 ≤ q.stop ∧ q.stop ≤ 3
  trap : 0 ≤ q.trap ∧ q.trap ≤ 6
  count : 0 ≤ q.count ∧ q.count ≤ 1099511627776
  pc : 0 ≤ q.pc ∧ q.pc ≤ 255
  call : 0 ≤ q.call ∧ q.call ≤ 15
  args : cellsB q.args 3 = true
  data : cellsB q.data 16 = true
noncomputable def valQ (q : Request) : Bool := @decide (FitQ q) (Classical.propDecidable _)
theorem valQ_T {q : Request} (h : FitQ q) : valQ q = true := by unfold valQ; exact @decide_eq_true _ (Classical.propDecidable _) h
theorem valQ_F {q : Request} (h : ¬ FitQ q) : valQ q = false := by unfold valQ; exact @decide_eq_false _ (Classical.propDecidable _) h
theorem valQ_to {q : Request} (h : valQ q = true) : FitQ q := by
  unfold valQ at h
  exact @of_decide_eq_true _ (Classical.propDecidable _) h
set_option maxHeartbeats 4000000 in
theorem wth_T (v a b : Int) (h1 : a ≤ v) (h2 : v ≤ b) : Fnc Tryz.prog 108 [.int .i64 v, .int .i64 a, .int .i64 b] (fun x obs => x = .bool true ∧ obs = []) := by
  refine zgo m_wth_ok fun W S => ?_
  exact zrt m_wth_ok
set_option maxHeartbeats 4000000 in
theorem wth_F (v a b : Int) (h : ¬ (a ≤ v ∧ v ≤ b)) : Fnc Tryz.prog 108 [.int .i64 v, .int .i64 a, .int .i64 b] (fun x obs => x = .bool false ∧ obs = []) := by
  by_cases h1 : a ≤ v
  · have h2 : ¬ v ≤ b := fun h2 => h ⟨h1, h2⟩
    refine zgo m_wth_ok fun W S => ?_
    exact zrt m_wth_ok
  · skip
    refine zgo m_wth_ok fun W S => ?_
    exact zrt m_wth_ok
set_option maxHeartbeats 16000000 in
theorem wrval_fn (q : Request) : Fnc Tryz.prog 90 [reqV q] (fun x obs => x = .bool (valQ q) ∧ obs = []) := by
  have fa := wcels_fn q.args 3
  have fd := wcels_fn q.data 16
  by_cases hthread : 0 ≤ q.thread ∧ q.thread ≤ 3
  rotate_left
  · rw [valQ_F (fun F => hthread F.thread)]
    refine zgo m_wrval_ok fun W S => ?_
    refine zcv (wth_F q.thread 0 3 hthread) ?_
    exact zrt m_wrval_ok
  by_cases hstop : 0 ≤ q.stop ∧ q.stop ≤ 3
  rotate_left
  · rw [valQ_F (fun F => hstop F.stop)]
    refine zgo m_wrval_ok fun W S => ?_
    refine zcv (wth_T q.thread 0 3 hthread.1 hthread.2) ?_
    refine zcv (wth_F q.stop 0 3 hstop) ?_
    exact zrt m_wrval_ok
  by_cases htrap : 0 ≤ q.trap ∧ q.trap ≤ 6
  rotate_left
  · rw [valQ_F (fun F => htrap F.trap)]
    refine zgo m_wrval_ok fun W S => ?_
    refine zcv (wth_T q.thread 0 3 hthread.1 hthread.2) ?_
    refine zcv (wth_T q.stop 0 3 hstop.1 hstop.2) ?_
    refine zcv (wth_F q.trap 0 6 htrap) ?_
    exact zrt m_wrval_ok
  by_cases hcount : 0 ≤ q.count ∧ q.count ≤ 1099511627776
  rotate_left
  · rw [valQ_F (fun F => hcount F.count)]
    refine zgo m_wrval_ok fun W S => ?_
    refine zcv (wth_T q.thread 0 3 hthread.1 hthread.2) ?_
    refine zcv (wth_T q.stop 0 3 hstop.1 hstop.2) ?_
    refine zcv (wth_T q.trap 0 6 htrap.1 htrap.2) ?_
    refine zcv (wth_F q.count 0 1099511627776 hcount) ?_
    exact zrt m_wrval_ok
  by_cases hpc : 0 ≤ q.pc ∧ q.pc ≤ 255
  rotate_left
  · rw [valQ_F (fun F => hpc F.pc)]
    refine zgo m_wrval_ok fun W S => ?_
    refine zcv (wth_T q.thread 0 3 hthread.1 hthread.2) ?_
    refine zcv (wth_T q.stop 0 3 hstop.1 hstop.2) ?_
    refine zcv (wth_T q.trap 0 6 htrap.1 htrap.2) ?_
    refine zcv (wth_T q.count 0 1099511627776 hcount.1 hcount.2) ?_
    refine zcv (wth_F q.pc 0 255 hpc) ?_
    exact zrt m_wrval_ok
  by_cases hcall : 0 ≤ q.call ∧ q.call ≤ 15
  rotate_left
  · rw [valQ_F (fun F => hcall F.call)]
    refine zgo m_wrval_ok fun W S => ?_
    refine zcv (wth_T q.thread 0 3 hthread.1 hthread.2) ?_
    refine zcv (wth_T q.stop 0 3 hstop.1 hstop.2) ?_
    refine zcv (wth_T q.trap 0 6 htrap.1 htrap.2) ?_
    refine zcv (wth_T q.count 0 1099511627776 hcount.1 hcount.2) ?_
    refine zcv (wth_T q.pc 0 255 hpc.1 hpc.2) ?_
    refine zcv (wth_F q.call 0 15 hcall) ?_
    exact zrt m_wrval_ok
  cases ea : cellsB q.args 3 with
  | false =>
    rw [ea] at fa
    rw [valQ_F (fun F => by rw [F.args] at ea; cases ea)]
    refine zgo m_wrval_ok fun W S => ?_
    refine zcv (wth_T q.thread 0 3 hthread.1 hthread.2) ?_
    refine zcv (wth_T q.stop 0 3 hstop.1 hstop.2) ?_
    refine zcv (wth_T q.trap 0 6 htrap.1 htrap.2) ?_
    refine zcv (wth_T q.count 0 1099511627776 hcount.1 hcount.2) ?_
    refine zcv (wth_T q.pc 0 255 hpc.1 hpc.2) ?_
    refine zcv (wth_T q.call 0 15 hcall.1 hcall.2) ?_
    refine zcd (fa) ?_
    exact zrt m_wrval_ok
  | true =>
    rw [ea] at fa
    cases ed : cellsB q.data 16 with
    | false =>
      rw [ed] at fd
      rw [valQ_F (fun F => by rw [F.data] at ed; cases ed)]
      refine zgo m_wrval_ok fun W S => ?_
      refine zcv (wth_T q.thread 0 3 hthread.1 hthread.2) ?_
      refine zcv (wth_T q.stop 0 3 hstop.1 hstop.2) ?_
      refine zcv (wth_T q.trap 0 6 htrap.1 htrap.2) ?_
      refine zcv (wth_T q.count 0 1099511627776 hcount.1 hcount.2) ?_
      refine zcv (wth_T q.pc 0 255 hpc.1 hpc.2) ?_
      refine zcv (wth_T q.call 0 15 hcall.1 hcall.2) ?_
      refine zcd (fa) ?_
      refine zcd (fd) ?_
      exact zrt m_wrval_ok
    | true =>
      rw [ed] at fd
      rw [valQ_T ⟨hthread, hstop, htrap, hcount, hpc, hcall, ea, ed⟩]
      refine zgo m_wrval_ok fun W S => ?_
      refine zcv (wth_T q.thread 0 3 hthread.1 hthread.2) ?_
      refine zcv (wth_T q.stop 0 3 hstop.1 hstop.2) ?_
      refine zcv (wth_T q.trap 0 6 htrap.1 htrap.2) ?_
      refine zcv (wth_T q.count 0 1099511627776 hcount.1 hcount.2) ?_
      refine zcv (wth_T q.pc 0 255 hpc.1 hpc.2) ?_
      refine zcv (wth_T q.call 0 15 hcall.1 hcall.2) ?_
      refine zcd (fa) ?_
      refine zcd (fd) ?_
      exact zrt m_wrval_ok
set_option maxHeartbeats 16000000 in
theorem rrval_fn (q : Request) : Fnc Tryz.prog 60 [reqV q] (fun x obs => x = .bool (valQ q) ∧ obs = []) := by
  have fa := rcels_fn q.args 3
  have fd := rcels_fn q.data 16
  by_cases thread0 : 0 ≤ q.thread
  rotate_left
  · rw [valQ_F (fun F => thread0 F.thread.1)]
    refine zgo m_rrval_ok fun W S => ?_
    exact zrt m_rrval_ok
  by_cases thread1 : q.thread ≤ 3
  rotate_left
  · rw [valQ_F (fun F => thread1 F.thread.2)]
    refine zgo m_rrval_ok fun W S => ?_
    exact zrt m_rrval_ok
  by_cases stop0 : 0 ≤ q.stop
  rotate_left
  · rw [valQ_F (fun F => stop0 F.stop.1)]
    refine zgo m_rrval_ok fun W S => ?_
    exact zrt m_rrval_ok
  by_cases stop1 : q.stop ≤ 3
  rotate_left
  · rw [valQ_F (fun F => stop1 F.stop.2)]
    refine zgo m_rrval_ok fun W S => ?_
    exact zrt m_rrval_ok
  by_cases trap0 : 0 ≤ q.trap
  rotate_left
  · rw [valQ_F (fun F => trap0 F.trap.1)]
    refine zgo m_rrval_ok fun W S => ?_
    exact zrt m_rrval_ok
  by_cases trap1 : q.trap ≤ 6
  rotate_left
  · rw [valQ_F (fun F => trap1 F.trap.2)]
    refine zgo m_rrval_ok fun W S => ?_
    exact zrt m_rrval_ok
  by_cases count0 : 0 ≤ q.count
  rotate_left
  · rw [valQ_F (fun F => count0 F.count.1)]
    refine zgo m_rrval_ok fun W S => ?_
    exact zrt m_rrval_ok
  by_cases count1 : q.count ≤ 1099511627776
  rotate_left
  · rw [valQ_F (fun F => count1 F.count.2)]
    refine zgo m_rrval_ok fun W S => ?_
    exact zrt m_rrval_ok
  by_cases pc0 : 0 ≤ q.pc
  rotate_left
  · rw [valQ_F (fun F => pc0 F.pc.1)]
    refine zgo m_rrval_ok fun W S => ?_
    exact zrt m_rrval_ok
  by_cases pc1 : q.pc ≤ 255
  rotate_left
  · rw [valQ_F (fun F => pc1 F.pc.2)]
    refine zgo m_rrval_ok fun W S => ?_
    exact zrt m_rrval_ok
  by_cases call0 : 0 ≤ q.call
  rotate_left
  · rw [valQ_F (fun F => call0 F.call.1)]
    refine zgo m_rrval_ok fun W S => ?_
    exact zrt m_rrval_ok
  by_cases call1 : q.call ≤ 15
  rotate_left
  · rw [valQ_F (fun F => call1 F.call.2)]
    refine zgo m_rrval_ok fun W S => ?_
    exact zrt m_rrval_ok
  cases ea : cellsB q.args 3 with
  | false =>
    rw [ea] at fa
    rw [valQ_F (fun F => by rw [F.args] at ea; cases ea)]
    refine zgo m_rrval_ok fun W S => ?_
    refine zcd (fa) ?_
    exact zrt m_rrval_ok
  | true =>
    rw [ea] at fa
    cases ed : cellsB q.data 16 with
    | false =>
      rw [ed] at fd
      rw [valQ_F (fun F => by rw [F.data] at ed; cases ed)]
      refine zgo m_rrval_ok fun W S => ?_
      refine zcd (fa) ?_
      refine zcd (fd) ?_
      exact zrt m_rrval_ok
    | true =>
      rw [ed] at fd
      rw [valQ_T ⟨⟨thread0, thread1⟩, ⟨stop0, stop1⟩, ⟨trap0, trap1⟩, ⟨count0, count1⟩, ⟨pc0, pc1⟩, ⟨call0, call1⟩, ea, ed⟩]
      refine zgo m_rrval_ok fun W S => ?_
      refine zcd (fa) ?_
      refine zcd (fd) ?_
      exact zrt m_rrval_ok
end Go.Proofs.YtkfpcgkmemfdaaaGreat
/- Requests: whether a call has the arguments that it takes. -/
namespace Go.Proofs.YtkfpcgkmemfdaaaGreat
open Go Go.RowKit Rdn Rdn.Dp
set_option linter.unusedVariables false
set_option linter.unusedSimpArgs false
theorem m_wasks_ok : compF Tryz.prog 47 = some (32, Qr ([Qw 1 (.box 24 (.t 0)), Qc 2 (.bool false)])
 (Qr ([Qp 3 (.mov (.c (.nilS)))])
 (.seq (Qr ([Qf 6 6 6 1, Ql 7 1 6, Qn 8 7, Qp 9 (.mov (Qi 0))])
 (.block 0 (.loop (Qr ([Qb 10 .lss 9 8])
 (.seq (.cond (.t 10) (.skip) (.exit 0))
 (.seq (.block 1 (Qr ([Qx 11 4 7 9, QL 12 4 11, Qw 5 (.alloc 43 (.agg [.int .u8 0, .int .u16 0, .int .i64 0, .int .i64 0])), Qs 4 5 12])
 (.reg [Qm 13 3, Qf 14 0 0 5, Ql 15 1 14, Qw 16 (.buildS 5 1 (.int .u8 0) 1 [(0, (.t 15))]), Qw 17 (.app 5 1 1 (.t 13) (.t 16)), Qm 3 17])))
 (.reg [Qk 18 .add 9 1, Qm 9 18])))))))
 (Qr ([QL 19 8 1, Qq 20 90 [(.t 19)], Qm 21 20, Q1 22 21 (.fieldA 1 1 (.t 1)), Q1 23 21 (.load false 1 (.t 22)), Q1 24 21 (.bin 0 .eql (.t 23) (Qi 1)), Qu 25 21 24, Qm 26 25, Q1 27 26 (.fieldA 5 5 (.t 1)), Q1 28 26 (.load false 1 (.t 27)), Q1 29 26 (.mov (.t 3)), ⟨(some 30), (some (26, true)), (.call 91 [(.t 28), (.t 29)])⟩, Qu 31 26 30, Qm 2 31])
 (.ret)))), [.mov (.t 2)]) := by kernel_rfl
theorem m_rkinds_ok : compF Tryz.prog 61 = some (31, Qr ([Qw 1 (.box 24 (.t 0)), Qc 2 (.bool false)])
 (Qr ([Qf 6 5 5 1, Ql 7 1 6, Qq 8 101 [(.t 7)], Qm 3 8])
 (.seq (Qr ([Qm 9 3, Qp 10 (.lenS (.t 9)), Qf 11 6 6 1, Ql 12 1 11, Qn 13 12, Qb 14 .neq 10 13])
 (.cond (.t 14) (Qr ([Qc 2 (.bool false)])
 (.ret)) (.skip)))
 (.seq (Qr ([Qf 15 6 6 1, Ql 16 1 15, Qn 17 16, Qp 18 (.mov (Qi 0))])
 (.block 0 (.loop (Qr ([Qb 19 .lss 18 17])
 (.seq (.cond (.t 19) (.skip) (.exit 0))
 (.seq (.block 1 (Qr ([Qm 20 18, Qx 21 4 16 18, QL 22 4 21, Qw 5 (.alloc 43 (.agg [.int .u8 0, .int .u16 0, .int .i64 0, .int .i64 0])), Qm 4 20, Qs 4 5 22])
 (.seq (.dreg [Qm 23 3, Qm 24 4, Qp 25 (.idxS (.t 23) (.t 24)), Qf 26 0 0 5, Ql 27 1 26, Qq 28 102 [(.t 25), (.t 27)], Qp 29 (.un .not (.t 28))] [[], [], [0, 1], [], [3], [0, 1, 2, 3, 4], [0, 1, 2, 3, 4, 5]])
 (.cond (.t 29) (Qr ([Qc 2 (.bool false)])
 (.ret)) (.skip)))))
 (.reg [Qk 30 .add 18 1, Qm 18 30])))))))
 (Qr ([Qc 2 (.bool true)])
 (.ret))))), [.mov (.t 2)]) := by kernel_rfl
def kfit (k t : Int) : Bool := if k = 78 then decide (t = 0) else if k = 72 then decide (t = 2) else if k = 80 then decide (t = 1) else true
def fitsN (ks ts : List Int) : Nat → Bool
  | 0 => true
  | n + 1 => fitsN ks ts n && kfit ks[n]! ts[n]!
def fitsL (ks ts : List Int) : Bool := decide (ks.length = ts.length) && fitsN ks ts ts.length
def tagsQ (q : Request) : List Int := q.args.map Canon.tag
noncomputable def asksB (q : Request) : Bool := valQ q && decide (q.stop = 1) && fitsL (kl q.call) (tagsQ q)
theorem kfit_NT {k t : Int} (h : k = 78) (h2 : t = 0) : kfit k t = true := by subst h; subst h2; rfl
theorem kfit_NF {k t : Int} (h : k = 78) (h2 : ¬ t = 0) : kfit k t = false := by subst h; unfold kfit; rw [if_pos rfl, decF h2]
theorem kfit_HT {k t : Int} (h : k = 72) (h2 : t = 2) : kfit k t = true := by subst h; subst h2; rfl
theorem kfit_HF {k t : Int} (h : k = 72) (h2 : ¬ t = 2) : kfit k t = false := by subst h; unfold kfit; rw [if_neg (by decide), if_pos rfl, decF h2]
theorem kfit_PT {k t : Int} (h : k = 80) (h2 : t = 1) : kfit k t = true := by subst h; subst h2; rfl
theorem kfit_PF {k t : Int} (h : k = 80) (h2 : ¬ t = 1) : kfit k t = false := by subst h; unfold kfit; rw [if_neg (by decide), if_neg (by decide), if_pos rfl, decF h2]
theorem kfit_X {k t : Int} (h1 : ¬ k = 78) (h2 : ¬ k = 72) (h3 : ¬ k = 80) : kfit k t = true := by unfold kfit; rw [if_neg h1, if_neg h2, if_neg h3]
theorem fitsN_T {ks ts : List Int} {n : Nat} (h : fitsN ks ts n = true) (h2 : kfit ks[n]! ts[n]! = true) : fitsN ks ts (n + 1) = true := by show (fitsN ks ts n && kfit ks[n]! ts[n]!) = true; rw [h, h2]; rfl
theorem fitsN_F {ks ts : List Int} {n : Nat} (h2 : kfit ks[n]! ts[n]! = false) : fitsN ks ts (n + 1) = false := by show (fitsN ks ts n && kfit ks[n]! ts[n]!) = false; rw [h2, Bool.and_false]
theorem fitsN_G {ks ts : List Int} {n : Nat} (h : fitsN ks ts n = false) : fitsN ks ts (n + 1) = false := by show (fitsN ks ts n && kfit ks[n]! ts[n]!) = false; rw [h, Bool.false_and]
theorem fitsN_le {ks ts : List Int} {n m : Nat} (h : fitsN ks ts n = false) (hm : n ≤ m) : fitsN ks ts m = false := by
  induction m with
  | zero => obtain rfl : n = 0 := by omega
            exact h
  | succ m ih =>
    by_cases e : n = m + 1
    · subst e; exact h
    · exact fitsN_G (ih (by omega))
theorem kb_kl (c : Int) : (kb c).size = (kl c).length ∧ ∀ k, k < (kl c).length → ((kb c)[k]?.getD 0).toNat = (kl c)[k]! := by
  by_cases h : 0 ≤ c ∧ c ≤ 15
  · rcases call_cases h.1 h.2 with rfl | rfl | rfl | rfl | rfl | rfl | rfl | rfl | rfl | rfl | rfl | rfl | rfl | rfl | rfl | rfl <;> exact ⟨by decide, by decide⟩
  · have a : kb c = ByteArray.empty := by
      unfold kb
      rw [if_neg (by omega), if_neg (by omega), if_neg (by omega), if_neg (by omega), if_neg (by omega), if_neg (by omega), if_neg (by omega)]
    have b : kl c = [] := by
      unfold kl
      rw [if_neg (by omega), if_neg (by omega), if_neg (by omega), if_neg (by omega), if_neg (by omega), if_neg (by omega), if_neg (by omega)]
    rw [a, b]
    exact ⟨rfl, fun k hk => absurd hk (Nat.not_lt_zero k)⟩
theorem kl_len (c : Int) : (kl c).length ≤ 3 := by
  unfold kl
  repeat' split
  all_goals decide
attribute [local irreducible] kb kl kfit fitsN
set_option maxHeartbeats 16000000 in
theorem wfit_fn (c : Int) (h0 : 0 ≤ c) (h1 : c ≤ 15) (ts : List Int) (hl : ts.length ≤ 1000) : Fnc Tryz.prog 91 [.int .i64 c, .sl false 1 (ts.map (V.int .u8))] (fun x obs => x = .bool (fitsL (kl c) ts) ∧ obs = []) := by
  have f := wkin_fn c h0 h1
  obtain ⟨hs, hk⟩ := kb_kl c
  have h3 := kl_len c
  have hi : inK .i64 ((kl c).length : Int) := inK_i64 (by omega) (by omega)
  by_cases e : (kl c).length = ts.length
  · have hr : fitsL (kl c) ts = fitsN (kl c) ts ts.length := by unfold fitsL; rw [decT e, Bool.true_and]
    rw [hr]
    have hz : fitsN (kl c) ts 0 = true := by unfold fitsN; rfl
    refine zgo m_wfit_ok fun W S => ?_
    (first | refine callD (f) ?_ | refine callDw (f) ?_); refine zev ?_
    repeat (first | (simp only [hi, hs]; try simp only [go_sem]) | refine And.intro (by omega) ?_ | refine And.intro rfl ?_ | refine ev_ctl rfl rfl ?_ | refine evr_nil ?_ | refine evw_nil (by kernel_rfl) ?_ | (simp (disch := omega) only [takeAll, Nat.min_eq_left, Nat.min_eq_right, if_pos, if_neg, getD_map, wrapI64, modIn, fdivE, tmodE, tdivE, decT, decF, beqT, beqF, bneT, bneF, Int.toNat_natCast]; try simp only [go_sem]) | (refine ev_condTb rfl ?_ ?_; · (simp <;> omega)) | (refine ev_condFb rfl ?_ ?_; · (simp <;> omega)) | ((first | refine ev_region ?_ | refine evr_go rfl ?_ | refine evw_go rfl ?_ | refine ev_dr0 mixed rfl (by kernel_rfl) ?_ | refine ev_dr1 mixed rfl (by kernel_rfl) ?_ | refine ev_dr2 mixed rfl (by kernel_rfl) ?_); simp only [go_sem]))
    refine ev_loopK [5, 25, 26] (fun p : {p : Nat // p ≤ ts.length} => [(27, .int .i64 p.1), (7, .bool (fitsN (kl c) ts p.1))]) (fun _ => []) (fun p => ts.length - p.1) (⟨0, by simp⟩) 0 (by simp only [go_sem]; rfl) ?_ (by first | rfl | (simp only [go_sem]; done) | (simp only [go_sem]; simp [hz]; done)) (by simp) (by first | rfl | (simp only [go_sem]; done)) (by first | rfl | (simp only [go_sem]; done)) (by first | rfl | (simp only [go_sem]; done) | (simp only [hz]; (try simp only [go_sem]); first | done | rfl)) ?_
    · (simp only [go_sem]; (try simp [hz]); done)
    intro J hJ
    rintro ⟨k, hk0⟩
    by_cases hlt : k < ts.length
    · have hkk := hk k (by omega)
      cases g : fitsN (kl c) ts k with
      | false =>
        have hS := fitsN_G g
        by_cases c1 : (kl c)[k]! = 78
        · rw [c1] at hkk
          refine zsx (And.intro g (hkk)) ?_
          exact zn0 (hJ _ (⟨k + 1, hlt⟩) (by first | omega | (dsimp only; omega) | (simp; omega))) hS
        by_cases c2 : (kl c)[k]! = 72
        · rw [c2] at hkk
          refine zsx (And.intro g (hkk)) ?_
          exact zn0 (hJ _ (⟨k + 1, hlt⟩) (by first | omega | (dsimp only; omega) | (simp; omega))) hS
        by_cases c3 : (kl c)[k]! = 80
        · rw [c3] at hkk
          refine zsx (And.intro g (hkk)) ?_
          exact zn0 (hJ _ (⟨k + 1, hlt⟩) (by first | omega | (dsimp only; omega) | (simp; omega))) hS
        · skip
          refine zsx (And.intro g (hkk)) ?_
          exact zn0 (hJ _ (⟨k + 1, hlt⟩) (by first | omega | (dsimp only; omega) | (simp; omega))) hS
      | true =>
        by_cases c1 : (kl c)[k]! = 78
        · rw [c1] at hkk
          by_cases d : ts[k]! = 0
          · have hS := fitsN_T g (kfit_NT c1 d)
            refine zsx (And.intro g (hkk)) ?_
            exact zn0 (hJ _ (⟨k + 1, hlt⟩) (by first | omega | (dsimp only; omega) | (simp; omega))) hS
          · have hS := fitsN_F (ts := ts) (kfit_NF c1 d)
            refine zsx (And.intro g (hkk)) ?_
            exact zn0 (hJ _ (⟨k + 1, hlt⟩) (by first | omega | (dsimp only; omega) | (simp; omega))) hS
        by_cases c2 : (kl c)[k]! = 72
        · rw [c2] at hkk
          by_cases d : ts[k]! = 2
          · have hS := fitsN_T g (kfit_HT c2 d)
            refine zsx (And.intro g (hkk)) ?_
            exact zn0 (hJ _ (⟨k + 1, hlt⟩) (by first | omega | (dsimp only; omega) | (simp; omega))) hS
          · have hS := fitsN_F (ts := ts) (kfit_HF c2 d)
            refine zsx (And.intro g (hkk)) ?_
            exact zn0 (hJ _ (⟨k + 1, hlt⟩) (by first | omega | (dsimp only; omega) | (simp; omega))) hS
        by_cases c3 : (kl c)[k]! = 80
        · rw [c3] at hkk
          by_cases d : ts[k]! = 1
          · have hS := fitsN_T g (kfit_PT c3 d)
            refine zsx (And.intro g (hkk)) ?_
            exact zn0 (hJ _ (⟨k + 1, hlt⟩) (by first | omega | (dsimp only; omega) | (simp; omega))) hS
          · have hS := fitsN_F (ts := ts) (kfit_PF c3 d)
            refine zsx (And.intro g (hkk)) ?_
            exact zn0 (hJ _ (⟨k + 1, hlt⟩) (by first | omega | (dsimp only; omega) | (simp; omega))) hS
        · have hS := fitsN_T g (kfit_X (t := ts[k]!) c1 c2 c3)
          refine zsx (And.intro g (hkk)) ?_
          exact zn0 (hJ _ (⟨k + 1, hlt⟩) (by first | omega | (dsimp only; omega) | (simp; omega))) hS
    · obtain rfl : k = ts.length := by omega
      refine zst ?_
      exact zrt m_wfit_ok
  · have hr : fitsL (kl c) ts = false := by unfold fitsL; rw [decF e, Bool.false_and]
    rw [hr]
    refine zgo m_wfit_ok fun W S => ?_
    (first | refine callD (f) ?_ | refine callDw (f) ?_); refine zev ?_
    repeat (first | (simp only [hi, hs]; try simp only [go_sem]) | refine And.intro (by omega) ?_ | refine And.intro rfl ?_ | refine ev_ctl rfl rfl ?_ | refine evr_nil ?_ | refine evw_nil (by kernel_rfl) ?_ | (simp (disch := omega) only [takeAll, Nat.min_eq_left, Nat.min_eq_right, if_pos, if_neg, getD_map, wrapI64, modIn, fdivE, tmodE, tdivE, decT, decF, beqT, beqF, bneT, bneF, Int.toNat_natCast]; try simp only [go_sem]) | (refine ev_condTb rfl ?_ ?_; · (simp <;> omega)) | (refine ev_condFb rfl ?_ ?_; · (simp <;> omega)) | ((first | refine ev_region ?_ | refine evr_go rfl ?_ | refine evw_go rfl ?_ | refine ev_dr0 mixed rfl (by kernel_rfl) ?_ | refine ev_dr1 mixed rfl (by kernel_rfl) ?_ | refine ev_dr2 mixed rfl (by kernel_rfl) ?_); simp only [go_sem]))
    exact zrt m_wfit_ok
end Go.Proofs.YtkfpcgkmemfdaaaGreat
/- Requests: whether they ask. -/
namespace Go.Proofs.YtkfpcgkmemfdaaaGreat
open Go Go.RowKit Rdn Rdn.Dp
set_option linter.unusedVariables false
set_option linter.unusedSimpArgs false
set_option maxHeartbeats 4000000 in
theorem rfit_fn (k t : Int) : Fnc Tryz.prog 102 [.int .u8 k, .int .u8 t] (fun x obs => x = .bool (kfit k t) ∧ obs = []) := by
  by_cases c1 : k = 78
  · by_cases d : t = 0
    · rw [kfit_NT c1 d]
      refine zgo m_rfit_ok fun W S => ?_
      exact zrt m_rfit_ok
    · rw [kfit_NF c1 d]
      refine zgo m_rfit_ok fun W S => ?_
      exact zrt m_rfit_ok
  by_cases c2 : k = 72
  · by_cases d : t = 2
    · rw [kfit_HT c2 d]
      refine zgo m_rfit_ok fun W S => ?_
      exact zrt m_rfit_ok
    · rw [kfit_HF c2 d]
      refine zgo m_rfit_ok fun W S => ?_
      exact zrt m_rfit_ok
  by_cases c3 : k = 80
  · by_cases d : t = 1
    · rw [kfit_PT c3 d]
      refine zgo m_rfit_ok fun W S => ?_
      exact zrt m_rfit_ok
    · rw [kfit_PF c3 d]
      refine zgo m_rfit_ok fun W S => ?_
      exact zrt m_rfit_ok
  · rw [kfit_X c1 c2 c3]
    refine zgo m_rfit_ok fun W S => ?_
    exact zrt m_rfit_ok
theorem tagsQ_at {q : Request} {k : Nat} (h : k < q.args.length) : (tagsQ q)[k]! = q.args[k]!.tag := by
  unfold tagsQ
  rw [getElem!_pos _ k (by rw [List.length_map]; exact h), getElem!_pos _ k h, List.getElem_map]
theorem tagsQ_len (q : Request) : (tagsQ q).length = q.args.length := List.length_map ..
theorem tags_snoc {l : List Canon} {k : Nat} (h : k < l.length) : (l.take k).map Canon.tag ++ [l[k]!.tag] = (l.take (k + 1)).map Canon.tag := by rw [take_snoc h, List.map_append]; rfl
attribute [local irreducible] kb kl kfit fitsN fitsL valQ tagsQ
set_option maxHeartbeats 16000000 in
theorem rkinds_fn (q : Request) (ha : q.args.length ≤ 1000) : Fnc Tryz.prog 61 [reqV q] (fun x obs => x = .bool (fitsL (kl q.call) (tagsQ q)) ∧ obs = []) := by
  have f := rkin_fn q.call
  obtain ⟨hs, hk⟩ := kb_kl q.call
  have h3 := kl_len q.call
  have ht := tagsQ_len q
  have hi : inK .i64 ((kl q.call).length : Int) := inK_i64 (by omega) (by omega)
  by_cases e : (kl q.call).length = q.args.length
  · have hr : fitsL (kl q.call) (tagsQ q) = fitsN (kl q.call) (tagsQ q) q.args.length := by unfold fitsL; rw [decT (by omega), Bool.true_and, ht]
    rw [hr]
    have hz : fitsN (kl q.call) (tagsQ q) 0 = true := by unfold fitsN; rfl
    refine zgo m_rkinds_ok fun W S => ?_
    (first | refine callD (f) ?_ | refine callDw (f) ?_); refine zev ?_
    refine zsx (And.intro hi (hs)) ?_
    refine ev_loopK [3, 16, 17] (fun p : {p : Nat // p ≤ q.args.length ∧ fitsN (kl q.call) (tagsQ q) p = true} => [(18, .int .i64 p.1)]) (fun _ => [⟨.box false 24, true, 0, reqV q⟩]) (fun p => q.args.length - p.1) (⟨0, by simp, hz⟩) 1 (by simp only [go_sem]; rfl) ?_ (by first | rfl | (simp only [go_sem]; done)) (by simp) (by first | rfl | (simp only [go_sem]; done)) (by first | rfl | (simp only [go_sem]; done)) (by first | rfl | (simp only [go_sem]; done)) ?_
    · (simp only [go_sem]; (try simp []); done)
    intro J hJ
    rintro ⟨k, hk0, hk1⟩
    by_cases hlt : k < q.args.length
    · have hkk := hk k (by omega)
      have fk := rfit_fn (kl q.call)[k]! q.args[k]!.tag
      have hta := tagsQ_at hlt
      by_cases g : kfit (kl q.call)[k]! q.args[k]!.tag = true
      · have hS : fitsN (kl q.call) (tagsQ q) (k + 1) = true := fitsN_T hk1 (by rw [hta]; exact g)
        rw [g] at fk
        refine zsx (And.intro hkk (hs)) ?_
        refine zcd (fk) ?_
        exact zn1 (hJ _ (⟨k + 1, hlt, hS⟩) (by first | omega | (dsimp only; omega) | (simp; omega))) hlt
      · rw [Bool.not_eq_true] at g
        rw [g] at fk
        rw [fitsN_le (fitsN_F (n := k) (by rw [hta]; exact g)) hlt]
        refine zsx (And.intro hkk (hs)) ?_
        refine zcd (fk) ?_
        exact zrt m_rkinds_ok
    · obtain rfl : k = q.args.length := by omega
      refine zst ?_
      refine ret m_rkinds_ok [] ?_; (first | (simp only [go_sem]; done) | (simp only [go_sem]; ((try dsimp only); (repeat' (refine And.intro ?_ ?_)) <;> first | with_reducible rfl | (simp only [go_sem]; done) | (simp only [go_sem]; rfl) | (simp only [go_sem, hk1]; done) | (simp only [hk1]; (try simp only [go_sem]); first | done | rfl) | (simp only [go_sem]; simp [hk1]; done) | (simp [hk1]; done) | rfl)))
  · have hr : fitsL (kl q.call) (tagsQ q) = false := by unfold fitsL; rw [decF (by omega), Bool.false_and]
    rw [hr]
    refine zgo m_rkinds_ok fun W S => ?_
    (first | refine callD (f) ?_ | refine callDw (f) ?_); refine zev ?_
    refine zsx (And.intro hi (hs)) ?_
    exact zrt m_rkinds_ok
set_option maxHeartbeats 16000000 in
theorem wasks_fn (q : Request) (ha : q.args.length ≤ 1000) : Fnc Tryz.prog 47 [reqV q] (fun x obs => x = .bool (asksB q) ∧ obs = []) := by
  have fv := wrval_fn q
  have ht : q.args.map Canon.tag = tagsQ q := by unfold tagsQ; rfl
  have hl := tagsQ_len q
  refine zgo m_wasks_ok fun W S => ?_
  refine ev_adopt (i := 3) (e := 5) (s := 1) rfl (by decide) ?_
  refine ev_loopK [1, 7, 8] (fun p : {p : Nat // p ≤ q.args.length} => [(3, .own 1 p.1), (9, .int .i64 p.1)]) (fun p => [⟨.box false 24, true, 0, reqV q⟩, ⟨.row 5, true, p.1, .arr 1 (((q.args.take p.1).map Canon.tag).map (V.int .u8))⟩]) (fun p => q.args.length - p.1) (⟨0, by simp⟩) 2 (by simp only [go_sem]; rfl) ?_ (by first | rfl | (simp only [go_sem]; done)) (by simp) (by first | rfl | (simp only [go_sem]; done)) (by first | rfl | (simp only [go_sem]; done)) (by first | rfl | (simp only [go_sem]; done)) ?_
  · (simp only [go_sem]; (try simp []); done)
  intro J hJ
  rintro ⟨k, hk0⟩
  by_cases hlt : k < q.args.length
  · have hs := tags_snoc hlt
    have h2 : ((q.args.take k).map Canon.tag).length = k := by rw [List.length_map, List.length_take]; omega
    refine zst ?_
    exact zn2 (hJ _ (⟨k + 1, hlt⟩) (by first | omega | (dsimp only; omega) | (simp; omega))) hs
  · obtain rfl : k = q.args.length := by omega
    cases e : valQ q with
    | false =>
      rw [e] at fv
      rw [show asksB q = false by unfold asksB; rw [e]; rfl]
      repeat (first | (simp only [List.take_length, ht]; try simp only [go_sem]) | refine And.intro (by omega) ?_ | refine And.intro rfl ?_ | refine ev_ctl rfl rfl ?_ | refine evr_nil ?_ | refine evw_nil (by kernel_rfl) ?_ | (simp (disch := omega) only [takeAll, Nat.min_eq_left, Nat.min_eq_right, if_pos, if_neg, getD_map, wrapI64, modIn, fdivE, tmodE, tdivE, decT, decF, beqT, beqF, bneT, bneF, Int.toNat_natCast]; try simp only [go_sem]) | (refine ev_condTb rfl ?_ ?_; · (simp <;> omega)) | (refine ev_condFb rfl ?_ ?_; · (simp <;> omega)) | ((first | refine ev_region ?_ | refine evr_go rfl ?_ | refine evw_go rfl ?_ | refine ev_dr0 mixed rfl (by kernel_rfl) ?_ | refine ev_dr1 mixed rfl (by kernel_rfl) ?_ | refine ev_dr2 mixed rfl (by kernel_rfl) ?_); simp only [go_sem]))
      refine zcd (fv) ?_
      exact zrt m_wasks_ok
    | true =>
      rw [e] at fv
      by_cases c : q.stop = 1
      · have F := valQ_to e
        have ff := wfit_fn q.call F.call.1 F.call.2 (tagsQ q) (by omega)
        rw [show asksB q = fitsL (kl q.call) (tagsQ q) by unfold asksB; rw [e, decT c]; rfl]
        repeat (first | (simp only [List.take_length, ht]; try simp only [go_sem]) | refine And.intro (by omega) ?_ | refine And.intro rfl ?_ | refine ev_ctl rfl rfl ?_ | refine evr_nil ?_ | refine evw_nil (by kernel_rfl) ?_ | (simp (disch := omega) only [takeAll, Nat.min_eq_left, Nat.min_eq_right, if_pos, if_neg, getD_map, wrapI64, modIn, fdivE, tmodE, tdivE, decT, decF, beqT, beqF, bneT, bneF, Int.toNat_natCast]; try simp only [go_sem]) | (refine ev_condTb rfl ?_ ?_; · (simp <;> omega)) | (refine ev_condFb rfl ?_ ?_; · (simp <;> omega)) | ((first | refine ev_region ?_ | refine evr_go rfl ?_ | refine evw_go rfl ?_ | refine ev_dr0 mixed rfl (by kernel_rfl) ?_ | refine ev_dr1 mixed rfl (by kernel_rfl) ?_ | refine ev_dr2 mixed rfl (by kernel_rfl) ?_); simp only [go_sem]))
        refine zcd (fv) ?_
        refine evr_calmA ?_; refine zev ?_
        refine zcd (ff) ?_
        exact zrt m_wasks_ok
      · rw [show asksB q = false by unfold asksB; rw [e, decF c]; rfl]
        repeat (first | (simp only [List.take_length, ht]; try simp only [go_sem]) | refine And.intro (by omega) ?_ | refine And.intro rfl ?_ | refine ev_ctl rfl rfl ?_ | refine evr_nil ?_ | refine evw_nil (by kernel_rfl) ?_ | (simp (disch := omega) only [takeAll, Nat.min_eq_left, Nat.min_eq_right, if_pos, if_neg, getD_map, wrapI64, modIn, fdivE, tmodE, tdivE, decT, decF, beqT, beqF, bneT, bneF, Int.toNat_natCast]; try simp only [go_sem]) | (refine ev_condTb rfl ?_ ?_; · (simp <;> omega)) | (refine ev_condFb rfl ?_ ?_; · (simp <;> omega)) | ((first | refine ev_region ?_ | refine evr_go rfl ?_ | refine evw_go rfl ?_ | refine ev_dr0 mixed rfl (by kernel_rfl) ?_ | refine ev_dr1 mixed rfl (by kernel_rfl) ?_ | refine ev_dr2 mixed rfl (by kernel_rfl) ?_); simp only [go_sem]))
        refine zcd (fv) ?_
        exact zrt m_wasks_ok
end Go.Proofs.YtkfpcgkmemfdaaaGreat
