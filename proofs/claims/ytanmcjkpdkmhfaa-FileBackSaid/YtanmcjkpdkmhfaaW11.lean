/- Files: opening for writing empties (FileEmpties). -/
import Derived.Test.YtanmcjkpdkmhfaaW10
import Derived.Test.YtanmcjkpdkmhfaaZt
namespace Go.Proofs.Ytanmcjkpdkmhfaa
open Go Go.RowKit Rdn Rdn.Dp
set_option linter.unusedVariables false
set_option linter.unusedSimpArgs false
def m_fem : MC := .seq (.reg [⟨(some 4), none, (.p (.mov (.c (.bool false))))⟩])
 (.seq (.reg [⟨(some 13), none, (.p (.mov (.t 0)))⟩, ⟨(some 14), none, (.call 9 [(.t 13)])⟩, ⟨(some 15), none, (.call 8 [(.t 14)])⟩, ⟨(some 5), none, (.m (.alloc 26 (.agg [.nilS, .nilS])))⟩, ⟨none, none, (.m (.store 2 (.t 5) (.t 15)))⟩])
 (.seq (.reg [⟨(some 16), none, (.p (.mov (.t 1)))⟩, ⟨(some 17), none, (.p (.fieldA 0 0 (.t 5)))⟩, ⟨(some 18), none, (.p (.load false 1 (.t 17)))⟩, ⟨(some 19), none, (.p (.len (.t 18)))⟩, ⟨(some 20), none, (.call 10 [(.t 16), (.t 19)])⟩, ⟨(some 6), none, (.p (.mov (.t 20)))⟩])
 (.seq (.seq (.reg [⟨(some 21), none, (.p (.mov (.c (.int .i64 0))))⟩])
 (.block 0 (.loop (.seq (.reg [⟨(some 22), none, (.p (.bin 0 .lss (.t 21) (.c (.int .i64 3))))⟩])
 (.seq (.cond (.t 22) (.skip) (.exit 0))
 (.seq (.block 1 (.seq (.reg [⟨(some 23), none, (.p (.mov (.t 21)))⟩, ⟨(some 7), none, (.p (.mov (.t 23)))⟩])
 (.seq (.reg [⟨(some 25), none, (.p (.load true 2 (.t 5)))⟩, ⟨(some 26), none, (.p (.mov (.t 6)))⟩, ⟨(some 27), none, (.p (.mov (.t 7)))⟩, ⟨(some 28), none, (.call 11 [(.t 25), (.t 26), (.t 27)])⟩, ⟨(some 24), none, (.p (.mov (.t 28)))⟩, ⟨(some 29), none, (.p (.ext (.t 24) 0))⟩, ⟨(some 30), none, (.p (.ext (.t 24) 1))⟩, ⟨(some 8), none, (.m (.alloc 26 (.agg [.nilS, .nilS])))⟩, ⟨none, none, (.m (.store 2 (.t 8) (.t 29)))⟩, ⟨(some 9), none, (.p (.mov (.t 30)))⟩])
 (.seq (.seq (.reg [⟨(some 31), none, (.p (.mov (.t 9)))⟩, ⟨(some 32), none, (.p (.bin 0 .lss (.t 31) (.c (.int .i64 0))))⟩])
 (.cond (.t 32) (.exit 1) (.skip)))
 (.seq (.seq (.reg [⟨(some 33), none, (.p (.fieldA 0 0 (.t 8)))⟩, ⟨(some 34), none, (.p (.load false 1 (.t 33)))⟩, ⟨(some 35), none, (.p (.len (.t 34)))⟩, ⟨(some 36), none, (.p (.fieldA 0 0 (.t 5)))⟩, ⟨(some 37), none, (.p (.load false 1 (.t 36)))⟩, ⟨(some 38), none, (.p (.len (.t 37)))⟩, ⟨(some 39), none, (.p (.bin 0 .neq (.t 35) (.t 38)))⟩, ⟨(some 40), none, (.p (.mov (.t 39)))⟩, ⟨(some 41), (some (40, false)), (.p (.fieldA 1 1 (.t 8)))⟩, ⟨(some 42), (some (40, false)), (.p (.load false 1 (.t 41)))⟩, ⟨(some 43), (some (40, false)), (.p (.len (.t 42)))⟩, ⟨(some 44), (some (40, false)), (.p (.bin 0 .neq (.t 43) (.c (.int .i64 8))))⟩, ⟨(some 45), none, (.p (.pick (.t 40) (.c (.bool true)) (.t 44)))⟩])
 (.cond (.t 45) (.seq (.reg [⟨(some 4), none, (.p (.mov (.c (.bool false))))⟩])
 (.ret)) (.skip)))
 (.seq (.seq (.reg [⟨(some 46), none, (.p (.fieldA 0 0 (.t 8)))⟩, ⟨(some 47), none, (.p (.load false 1 (.t 46)))⟩, ⟨(some 48), none, (.p (.len (.t 47)))⟩, ⟨(some 49), none, (.p (.mov (.c (.int .i64 0))))⟩])
 (.block 2 (.loop (.seq (.reg [⟨(some 50), none, (.p (.bin 0 .lss (.t 49) (.t 48)))⟩])
 (.seq (.cond (.t 50) (.skip) (.exit 2))
 (.seq (.block 3 (.seq (.reg [⟨(some 51), none, (.p (.mov (.t 49)))⟩, ⟨(some 10), none, (.p (.mov (.t 51)))⟩])
 (.seq (.reg [⟨(some 52), none, (.p (.mov (.t 10)))⟩, ⟨(some 53), none, (.p (.mov (.t 6)))⟩, ⟨(some 54), none, (.p (.bin 0 .eql (.t 52) (.t 53)))⟩, ⟨(some 55), none, (.p (.mov (.t 54)))⟩, ⟨(some 56), (some (55, true)), (.p (.mov (.t 7)))⟩, ⟨(some 57), (some (55, true)), (.p (.bin 0 .eql (.t 56) (.c (.int .i64 1))))⟩, ⟨(some 58), none, (.p (.pick (.t 55) (.t 57) (.c (.bool false))))⟩])
 (.cond (.t 58) (.seq (.reg [⟨(some 59), none, (.p (.fieldA 0 0 (.t 8)))⟩, ⟨(some 60), none, (.p (.load false 1 (.t 59)))⟩, ⟨(some 61), none, (.p (.mov (.t 10)))⟩, ⟨(some 62), none, (.p (.idxA 1 (.t 60) (.t 61)))⟩, ⟨(some 63), none, (.p (.load false 1 (.t 62)))⟩, ⟨(some 64), none, (.p (.len (.t 63)))⟩, ⟨(some 65), none, (.p (.bin 0 .neq (.t 64) (.c (.int .i64 0))))⟩])
 (.cond (.t 65) (.seq (.reg [⟨(some 4), none, (.p (.mov (.c (.bool false))))⟩])
 (.ret)) (.skip))) (.seq (.dreg [⟨(some 66), none, (.p (.fieldA 0 0 (.t 8)))⟩, ⟨(some 67), none, (.p (.load false 1 (.t 66)))⟩, ⟨(some 68), none, (.p (.mov (.t 10)))⟩, ⟨(some 69), none, (.p (.idxA 1 (.t 67) (.t 68)))⟩, ⟨(some 70), none, (.p (.load false 1 (.t 69)))⟩, ⟨(some 71), none, (.p (.fieldA 0 0 (.t 5)))⟩, ⟨(some 72), none, (.p (.load false 1 (.t 71)))⟩, ⟨(some 73), none, (.p (.mov (.t 10)))⟩, ⟨(some 74), none, (.p (.idxA 1 (.t 72) (.t 73)))⟩, ⟨(some 75), none, (.p (.load false 1 (.t 74)))⟩, ⟨(some 76), none, (.call 12 [(.t 70), (.t 75)])⟩, ⟨(some 77), none, (.p (.un .not (.t 76)))⟩] [[], [0], [], [0, 1, 2], [0, 1, 2, 3], [], [5], [], [5, 6, 7], [5, 6, 7, 8], [0, 1, 2, 3, 4, 5, 6, 7, 8, 9], [0, 1, 2, 3, 4, 5, 6, 7, 8, 9, 10]])
 (.cond (.t 77) (.seq (.reg [⟨(some 4), none, (.p (.mov (.c (.bool false))))⟩])
 (.ret)) (.skip)))))))
 (.reg [⟨(some 78), none, (.p (.bin 0 .add (.t 49) (.c (.int .i64 1))))⟩, ⟨(some 49), none, (.p (.mov (.t 78)))⟩])))))))
 (.seq (.reg [⟨(some 79), none, (.p (.fieldA 1 1 (.t 8)))⟩, ⟨(some 80), none, (.p (.load false 1 (.t 79)))⟩, ⟨(some 81), none, (.p (.len (.t 80)))⟩, ⟨(some 82), none, (.p (.mov (.c (.int .i64 0))))⟩])
 (.block 4 (.loop (.seq (.reg [⟨(some 83), none, (.p (.bin 0 .lss (.t 82) (.t 81)))⟩])
 (.seq (.cond (.t 83) (.skip) (.exit 4))
 (.seq (.block 5 (.seq (.reg [⟨(some 84), none, (.p (.mov (.t 82)))⟩, ⟨(some 85), none, (.p (.idxA 3 (.t 80) (.t 82)))⟩, ⟨(some 86), none, (.p (.load true 3 (.t 85)))⟩, ⟨(some 12), none, (.m (.alloc 36 (.agg [.int .i64 0, .int .i64 0, .bool false])))⟩, ⟨(some 11), none, (.p (.mov (.t 84)))⟩, ⟨none, none, (.m (.store 3 (.t 12) (.t 86)))⟩])
 (.seq (.dreg [⟨(some 87), none, (.p (.mov (.t 11)))⟩, ⟨(some 88), none, (.p (.mov (.t 9)))⟩, ⟨(some 89), none, (.p (.bin 0 .neq (.t 87) (.t 88)))⟩, ⟨(some 90), none, (.p (.mov (.t 89)))⟩, ⟨(some 91), (some (90, true)), (.p (.fieldA 0 0 (.t 12)))⟩, ⟨(some 92), (some (90, true)), (.p (.load false 1 (.t 91)))⟩, ⟨(some 93), (some (90, true)), (.p (.mov (.t 6)))⟩, ⟨(some 94), (some (90, true)), (.p (.bin 0 .eql (.t 92) (.t 93)))⟩, ⟨(some 95), none, (.p (.pick (.t 90) (.t 94) (.c (.bool false))))⟩, ⟨(some 96), none, (.p (.mov (.t 95)))⟩, ⟨(some 97), (some (96, true)), (.p (.mov (.t 7)))⟩, ⟨(some 98), (some (96, true)), (.p (.bin 0 .eql (.t 97) (.c (.int .i64 1))))⟩, ⟨(some 99), none, (.p (.pick (.t 96) (.t 98) (.c (.bool false))))⟩, ⟨(some 100), none, (.p (.mov (.t 99)))⟩, ⟨(some 101), (some (100, true)), (.p (.fieldA 1 1 (.t 12)))⟩, ⟨(some 102), (some (100, true)), (.p (.load false 1 (.t 101)))⟩, ⟨(some 103), (some (100, true)), (.p (.bin 0 .neq (.t 102) (.c (.int .i64 0))))⟩, ⟨(some 104), none, (.p (.pick (.t 100) (.t 103) (.c (.bool false))))⟩, ⟨(some 105), none, (.p (.mov (.t 104)))⟩, ⟨(some 106), (some (105, false)), (.p (.mov (.t 11)))⟩, ⟨(some 107), (some (105, false)), (.p (.mov (.t 9)))⟩, ⟨(some 108), (some (105, false)), (.p (.bin 0 .neq (.t 106) (.t 107)))⟩, ⟨(some 109), (some (105, false)), (.p (.mov (.t 108)))⟩, ⟨(some 110), (some (109, true)), (.p (.fieldA 0 0 (.t 12)))⟩, ⟨(some 111), (some (109, true)), (.p (.load false 1 (.t 110)))⟩, ⟨(some 112), (some (109, true)), (.p (.mov (.t 6)))⟩, ⟨(some 113), (some (109, true)), (.p (.bin 0 .neq (.t 111) (.t 112)))⟩, ⟨(some 114), (some (109, true)), (.p (.mov (.t 113)))⟩, ⟨(some 115), (some (114, false)), (.p (.mov (.t 7)))⟩, ⟨(some 116), (some (114, false)), (.p (.bin 0 .neq (.t 115) (.c (.int .i64 1))))⟩, ⟨(some 117), (some (109, true)), (.p (.pick (.t 114) (.c (.bool true)) (.t 116)))⟩, ⟨(some 118), (some (105, false)), (.p (.pick (.t 109) (.t 117) (.c (.bool false))))⟩, ⟨(some 119), (some (105, false)), (.p (.mov (.t 118)))⟩, ⟨(some 120), (some (119, true)), (.p (.load true 3 (.t 12)))⟩, ⟨(some 121), (some (119, true)), (.p (.fieldA 1 1 (.t 5)))⟩, ⟨(some 122), (some (119, true)), (.p (.load false 1 (.t 121)))⟩, ⟨(some 123), (some (119, true)), (.p (.mov (.t 11)))⟩, ⟨(some 124), (some (119, true)), (.p (.idxA 3 (.t 122) (.t 123)))⟩, ⟨(some 125), (some (119, true)), (.p (.load true 3 (.t 124)))⟩, ⟨(some 126), (some (119, true)), (.p (.eqs true [(some .i64), (some .i64), none] (.t 120) (.t 125)))⟩, ⟨(some 127), (some (105, false)), (.p (.pick (.t 119) (.t 126) (.c (.bool false))))⟩, ⟨(some 128), none, (.p (.pick (.t 105) (.c (.bool true)) (.t 127)))⟩] [[], [], [0, 1], [0, 1, 2], [0, 1, 2, 3], [0, 1, 2, 3, 4], [0, 1, 2, 3], [0, 1, 2, 3, 4, 5, 6], [0, 1, 2, 3, 4, 5, 6, 7], [0, 1, 2, 3, 4, 5, 6, 7, 8], [0, 1, 2, 3, 4, 5, 6, 7, 8, 9], [0, 1, 2, 3, 4, 5, 6, 7, 8, 9, 10], [0, 1, 2, 3, 4, 5, 6, 7, 8, 9, 10, 11], [0, 1, 2, 3, 4, 5, 6, 7, 8, 9, 10, 11, 12], [0, 1, 2, 3, 4, 5, 6, 7, 8, 9, 10, 11, 12, 13], [0, 1, 2, 3, 4, 5, 6, 7, 8, 9, 10, 11, 12, 13, 14], [0, 1, 2, 3, 4, 5, 6, 7, 8, 9, 10, 11, 12, 13, 14, 15], [0, 1, 2, 3, 4, 5, 6, 7, 8, 9, 10, 11, 12, 13, 14, 15, 16], [0, 1, 2, 3, 4, 5, 6, 7, 8, 9, 10, 11, 12, 13, 14, 15, 16, 17], [0, 1, 2, 3, 4, 5, 6, 7, 8, 9, 10, 11, 12, 13, 14, 15, 16, 17, 18], [0, 1, 2, 3, 4, 5, 6, 7, 8, 9, 10, 11, 12, 13, 14, 15, 16, 17, 18], [0, 1, 2, 3, 4, 5, 6, 7, 8, 9, 10, 11, 12, 13, 14, 15, 16, 17, 18, 19, 20], [0, 1, 2, 3, 4, 5, 6, 7, 8, 9, 10, 11, 12, 13, 14, 15, 16, 17, 18, 19, 20, 21], [0, 1, 2, 3, 4, 5, 6, 7, 8, 9, 10, 11, 12, 13, 14, 15, 16, 17, 18, 19, 20, 21, 22], [0, 1, 2, 3, 4, 5, 6, 7, 8, 9, 10, 11, 12, 13, 14, 15, 16, 17, 18, 19, 20, 21, 22, 23], [0, 1, 2, 3, 4, 5, 6, 7, 8, 9, 10, 11, 12, 13, 14, 15, 16, 17, 18, 19, 20, 21, 22], [0, 1, 2, 3, 4, 5, 6, 7, 8, 9, 10, 11, 12, 13, 14, 15, 16, 17, 18, 19, 20, 21, 22, 23, 24, 25], [0, 1, 2, 3, 4, 5, 6, 7, 8, 9, 10, 11, 12, 13, 14, 15, 16, 17, 18, 19, 20, 21, 22, 23, 24, 25, 26], [0, 1, 2, 3, 4, 5, 6, 7, 8, 9, 10, 11, 12, 13, 14, 15, 16, 17, 18, 19, 20, 21, 22, 23, 24, 25, 26, 27], [0, 1, 2, 3, 4, 5, 6, 7, 8, 9, 10, 11, 12, 13, 14, 15, 16, 17, 18, 19, 20, 21, 22, 23, 24, 25, 26, 27, 28], [0, 1, 2, 3, 4, 5, 6, 7, 8, 9, 10, 11, 12, 13, 14, 15, 16, 17, 18, 19, 20, 21, 22, 23, 24, 25, 26, 27, 28, 29], [0, 1, 2, 3, 4, 5, 6, 7, 8, 9, 10, 11, 12, 13, 14, 15, 16, 17, 18, 19, 20, 21, 22, 23, 24, 25, 26, 27, 28, 29, 30], [0, 1, 2, 3, 4, 5, 6, 7, 8, 9, 10, 11, 12, 13, 14, 15, 16, 17, 18, 19, 20, 21, 22, 23, 24, 25, 26, 27, 28, 29, 30, 31], [0, 1, 2, 3, 4, 5, 6, 7, 8, 9, 10, 11, 12, 13, 14, 15, 16, 17, 18, 19, 20, 21, 22, 23, 24, 25, 26, 27, 28, 29, 30, 31, 32], [0, 1, 2, 3, 4, 5, 6, 7, 8, 9, 10, 11, 12, 13, 14, 15, 16, 17, 18, 19, 20, 21, 22, 23, 24, 25, 26, 27, 28, 29, 30, 31, 32], [0, 1, 2, 3, 4, 5, 6, 7, 8, 9, 10, 11, 12, 13, 14, 15, 16, 17, 18, 19, 20, 21, 22, 23, 24, 25, 26, 27, 28, 29, 30, 31, 32, 34], [0, 1, 2, 3, 4, 5, 6, 7, 8, 9, 10, 11, 12, 13, 14, 15, 16, 17, 18, 19, 20, 21, 22, 23, 24, 25, 26, 27, 28, 29, 30, 31, 32], [0, 1, 2, 3, 4, 5, 6, 7, 8, 9, 10, 11, 12, 13, 14, 15, 16, 17, 18, 19, 20, 21, 22, 23, 24, 25, 26, 27, 28, 29, 30, 31, 32, 34, 35, 36], [0, 1, 2, 3, 4, 5, 6, 7, 8, 9, 10, 11, 12, 13, 14, 15, 16, 17, 18, 19, 20, 21, 22, 23, 24, 25, 26, 27, 28, 29, 30, 31, 32, 34, 35, 36, 37], [0, 1, 2, 3, 4, 5, 6, 7, 8, 9, 10, 11, 12, 13, 14, 15, 16, 17, 18, 19, 20, 21, 22, 23, 24, 25, 26, 27, 28, 29, 30, 31, 32, 33, 34, 35, 36, 37, 38], [0, 1, 2, 3, 4, 5, 6, 7, 8, 9, 10, 11, 12, 13, 14, 15, 16, 17, 18, 19, 20, 21, 22, 23, 24, 25, 26, 27, 28, 29, 30, 31, 32, 33, 34, 35, 36, 37, 38, 39], [0, 1, 2, 3, 4, 5, 6, 7, 8, 9, 10, 11, 12, 13, 14, 15, 16, 17, 18, 19, 20, 21, 22, 23, 24, 25, 26, 27, 28, 29, 30, 31, 32, 33, 34, 35, 36, 37, 38, 39, 40]])
 (.cond (.t 128) (.seq (.reg [⟨(some 4), none, (.p (.mov (.c (.bool false))))⟩])
 (.ret)) (.skip)))))
 (.reg [⟨(some 129), none, (.p (.bin 0 .add (.t 82) (.c (.int .i64 1))))⟩, ⟨(some 82), none, (.p (.mov (.t 129)))⟩])))))))))))))
 (.reg [⟨(some 130), none, (.p (.bin 0 .add (.t 21) (.c (.int .i64 1))))⟩, ⟨(some 21), none, (.p (.mov (.t 130)))⟩])))))))
 (.seq (.reg [⟨(some 131), none, (.call 13 [])⟩, ⟨(some 4), none, (.p (.mov (.t 131)))⟩])
 (.ret)))))
theorem m_fem_ok : compF Try.prog 3 = some (132, m_fem, [.mov (.t 4)]) := by kernel_rfl
theorem stF_dlen (l : List Int) (f : Files) (k : Nat) : (stF l f k).1.data.length = f.data.length := by
  unfold stF sOpen sClose sSeek sRead sWrite
  repeat' split
  all_goals simp
theorem stsF_dlen (l : List Int) (f : Files) (k : Nat) : ∀ n, (stsF l f k n).1.data.length = f.data.length
  | 0 => rfl
  | n + 1 => (stF_dlen _ _ _).trans (stsF_dlen l f k n)
theorem fls_dlen (l : List Int) (k : Nat) : (fls l k).1.data.length = 2 := stsF_dlen _ _ _ _
theorem map_at {α β : Type} [Inhabited α] [Inhabited β] (g : α → β) (l : List α) {i : Nat} (h : i < l.length) : (l.map g)[i]! = g l[i]! := by
  rw [getElem!_pos _ i (by simpa using h), getElem!_pos l i h, List.getElem_map]
/-- What an opening may have done. -/
theorem open_no {f : Files} (F : FitF f) {k m : Int} (h : (sOpen f k m).2 < 0) : (sOpen f k m) = (f, -1) := by
  unfold sOpen at h ⊢
  split at h
  · rename_i c; rw [if_pos c]
  · rename_i c
    repeat' split at h
    all_goals (simp only at h; omega)
structure Opd (f a : Files) (k : Nat) (m h : Int) : Prop where
  h0 : 0 ≤ h
  h1 : h < 8
  dl : a.data.length = f.data.length
  ol : a.opens.length = 8
  d1 : m = 1 → a.data[k]! = []
  d2 : ∀ i : Nat, i < f.data.length → (i : Int) ≠ k ∨ m ≠ 1 → a.data[i]! = f.data[i]!
  o1 : ∀ i : Nat, i < 8 → (i : Int) ≠ h → m = 1 → a.opens[i]!.file = k → a.opens[i]!.offset = 0
  o2 : ∀ i : Nat, i < 8 → (i : Int) ≠ h → (a.opens[i]!.file ≠ k ∨ m ≠ 1) → a.opens[i]! = f.opens[i]!
theorem open_yes {f : Files} (F : FitF f) {k : Nat} {m : Int} (h : 0 ≤ (sOpen f k m).2) : Opd f (sOpen f k m).1 k m (sOpen f k m).2 := by
  have hO := F.o
  have hh := hdl_le f
  unfold sOpen at h ⊢
  split
  · rename_i c; rw [if_pos c] at h; exact absurd h (fun h => by simp only at h; omega)
  rename_i c
  have hlt : hdl f < 8 := by omega
  have hk : k < f.data.length := by omega
  split
  · rename_i m0
    refine ⟨by dsimp only; omega, by dsimp only; omega, rfl, by simp [hO], fun h => by omega, fun i hi _ => rfl, fun i _ _ h => by omega, fun i hi hne _ => ?_⟩
    dsimp only at hne ⊢
    rw [set_at (by omega), if_neg (by omega)]
  split
  · rename_i m1
    refine ⟨by dsimp only; omega, by dsimp only; omega, by simp, by simp [hO], fun _ => ?_, fun i hi hc => ?_, fun i hi hne _ hf => ?_, fun i hi hne hc => ?_⟩
    · dsimp only
      rw [set_at (by omega), if_pos (by omega)]
    · dsimp only
      rw [set_at (by omega), if_neg (by omega)]
    · dsimp only at hne hf ⊢
      rw [set_at (by simp [hO]; omega), if_neg (by omega)] at hf ⊢
      rw [map_at _ _ (by omega)] at hf ⊢
      unfold zr at hf ⊢
      split
      · rfl
      · rename_i hx; rw [if_neg hx] at hf; exact absurd hf hx
    · dsimp only at hne hc ⊢
      rw [set_at (by simp [hO]; omega), if_neg (by omega)] at hc ⊢
      rw [map_at _ _ (by omega)] at hc ⊢
      unfold zr at hc ⊢
      split
      · rename_i hx
        rw [if_pos hx] at hc
        rcases hc with hc | hc
        · exact absurd hx hc
        · omega
      · rfl
  · rename_i m0 m1
    refine ⟨by dsimp only; omega, by dsimp only; omega, rfl, by simp [hO], fun h => by omega, fun i hi _ => rfl, fun i _ _ h => by omega, fun i hi hne _ => ?_⟩
    dsimp only at hne ⊢
    rw [set_at (by omega), if_neg (by omega)]
attribute [local irreducible] fls sOpen
set_option maxHeartbeats 16000000 in
theorem fem_fn (l : List Int) (num : Int) : Fnc Try.prog 3 [.sl false 1 (i64s l), .int .i64 num] (fun x obs => x = .bool true) := by
  have fo := files_fn l 0 (by omega)
  obtain ⟨F, hk⟩ := fls_fit (l := l) (k := 0) (by omega)
  have hd := fls_dlen l 0
  generalize fls l 0 = q at fo F hk hd
  obtain ⟨f, kk⟩ := q
  dsimp only at fo F hk hd
  have fm := mmod_fn num f.data.length (by omega)
  have hb := Int.emod_nonneg num (b := (f.data.length : Int)) (by omega)
  have hb2 := Int.emod_lt_of_pos num (b := (f.data.length : Int)) (by omega)
  generalize num % (f.data.length : Int) = K0 at fm hb hb2
  obtain ⟨K, rfl⟩ : ∃ K : Nat, (K : Int) = K0 := ⟨K0.toNat, by omega⟩
  have hfo := F.o
  refine Fnc.intro m_fem_ok (by simp) fun W S => ?_
  unfold m_fem
  simp only [ents, Nat.zero_add, Nat.reduceAdd]
  refine zst ?_
  (first | refine callX (new_fn l) ?_ | refine callXw (new_fn l) ?_); simp only [go_sem]
  refine zst ?_
  (first | apply st_callMD (fo) rfl | apply evw_callM (fo) rfl)
  · (simp only [go_sem]; rfl)
  · rfl
  · (first | rfl | (simp only [go_sem]; done))
  · (first | rfl | (simp only [go_sem]; done) | (simp only [go_sem]; rfl))
  · (first | rfl | (simp only [go_sem]; done))
  · (first | rfl | (simp only [go_sem]; done) | (simp only [go_sem]; rfl))
  · (first | rfl | simp [V.pureT, V.pure, V.pures, pures_lo, pures_sls])
  (first | refine ev_all (fu := [(), (), (), (), (), (), (), ()]) ?_ | refine evw_all (md := []) (fu := [(), (), (), (), (), (), (), ()]) ?_); refine zev ?_
  refine zst ?_
  (first | refine callD (fm) ?_ | refine callDw (fm) ?_); simp only [go_sem]
  refine zst ?_
  refine ev_loopK [5, 6] (fun p : {p : Nat // p ≤ 3} => [(21, .int .i64 p.1)]) (fun _ => [⟨.box false 66, true, 0, deckV l kk⟩, ⟨.box false 26, true, 0, filV f⟩]) (fun p => 3 - p.1) (⟨0, by omega⟩) 2 (by simp only [go_sem]; rfl) ?_ (by first | rfl | (simp only [go_sem]; done)) (by simp) (by first | rfl | (simp only [go_sem]; done)) (by first | rfl | (simp only [go_sem]; done)) (by first | rfl | (simp only [go_sem]; done)) ?_
  · (simp only [go_sem]; (try simp []); done)
  intro J hJ
  rintro ⟨m, hm⟩
  by_cases hlt : m < 3
  · have fO := wopen_fn f F K m
    by_cases c : (sOpen f K m).2 < 0
    · rw [open_no F c] at fO
      refine zst ?_
      (first | refine callD (fO) ?_ | refine callDw (fO) ?_); simp only [go_sem]
      refine zst ?_
      refine ev_next 2 (hJ _ (⟨m + 1, hlt⟩) (by first | omega | (dsimp only; omega) | (simp; omega))) rfl (by simp) ?_ (by first | rfl | (simp only [go_sem]; done)) (by first | rfl | (simp only [go_sem]; done) | (simp only [hlt]; (try simp only [go_sem]); first | done | rfl)) ?_
      · (first | rfl | (simp only [go_sem]; done) | (simp only [go_sem]; simp only [hlt]; done) | (simp only [hlt]; done) | (simp only [go_sem]; simp [hlt]; done) | (simp [hlt]; done))
      · (simp only [go_sem]; (repeat' (refine And.intro ?_ ?_)) <;> first | exact trivial | with_reducible rfl | (simp only [hlt]; done) | (simp only [hlt]; with_reducible rfl) | (simp [hlt]; done) | (simp [hlt]; omega) | (simp only [hlt]; rfl) | skip)
    · have hO := open_yes F (k := K) (m := m) (by omega)
      generalize sOpen f K m = r at fO c hO
      obtain ⟨a, h⟩ := r
      dsimp only at fO c hO
      have hO1 := hO.h1
      have hO2 := hO.dl
      have hO3 := hO.ol
      refine zst ?_
      (first | refine callD (fO) ?_ | refine callDw (fO) ?_); simp only [go_sem]
      refine zst ?_
      have hJ0 := hJ
      refine ev_loopK [5, 6, 7, 8, 9, 21, 48] (fun p : {p : Nat // p ≤ 2} => [(49, .int .i64 p.1)]) (fun _ => [⟨.box false 66, true, 0, deckV l kk⟩, ⟨.box false 26, true, 0, filV f⟩, ⟨.box false 26, true, 0, filV a⟩]) (fun p => 2 - p.1) (⟨0, by omega⟩) 3 (by simp only [go_sem]; rfl) ?_ (by first | rfl | (simp only [go_sem]; done)) (by simp) (by first | rfl | (simp only [go_sem]; done)) (by first | rfl | (simp only [go_sem]; done)) (by first | rfl | (simp only [go_sem]; done)) ?_
      · (simp only [go_sem]; (try simp []); done)
      intro J hJ
      rintro ⟨i, hi⟩
      by_cases hl2 : i < 2
      · by_cases c1 : i = K
        · subst c1
          by_cases c2 : m = 1
          · have he : a.data[i]!.length = 0 := by rw [hO.d1 (by omega)]; rfl
            refine zst ?_
            refine ev_next 3 (hJ _ (⟨i + 1, hl2⟩) (by first | omega | (dsimp only; omega) | (simp; omega))) rfl (by simp) ?_ (by first | rfl | (simp only [go_sem]; done)) (by first | rfl | (simp only [go_sem]; done) | (simp only [hl2]; (try simp only [go_sem]); first | done | rfl)) ?_
            · (first | rfl | (simp only [go_sem]; done) | (simp only [go_sem]; simp only [hl2]; done) | (simp only [hl2]; done) | (simp only [go_sem]; simp [hl2]; done) | (simp [hl2]; done))
            · (simp only [go_sem]; (repeat' (refine And.intro ?_ ?_)) <;> first | exact trivial | with_reducible rfl | (simp only [hl2]; done) | (simp only [hl2]; with_reducible rfl) | (simp [hl2]; done) | (simp [hl2]; omega) | (simp only [hl2]; rfl) | skip)
          · have he := hO.d2 i (by omega) (.inr (by omega))
            have hd2 : decide (a.data[i]! = f.data[i]!) = true := decT he
            refine zst ?_
            (first | refine callD (samec_fn a.data[i]! f.data[i]!) ?_ | refine callDw (samec_fn a.data[i]! f.data[i]!) ?_); simp only [go_sem, hd2]
            refine zst ?_
            refine ev_next 3 (hJ _ (⟨i + 1, hl2⟩) (by first | omega | (dsimp only; omega) | (simp; omega))) rfl (by simp) ?_ (by first | rfl | (simp only [go_sem]; done)) (by first | rfl | (simp only [go_sem]; done) | (simp only [hl2]; (try simp only [go_sem]); first | done | rfl)) ?_
            · (first | rfl | (simp only [go_sem]; done) | (simp only [go_sem]; simp only [hl2]; done) | (simp only [hl2]; done) | (simp only [go_sem]; simp [hl2]; done) | (simp [hl2]; done))
            · (simp only [go_sem]; (repeat' (refine And.intro ?_ ?_)) <;> first | exact trivial | with_reducible rfl | (simp only [hl2]; done) | (simp only [hl2]; with_reducible rfl) | (simp [hl2]; done) | (simp [hl2]; omega) | (simp only [hl2]; rfl) | skip)
        · have he := hO.d2 i (by omega) (.inl (by omega))
          have hd2 : decide (a.data[i]! = f.data[i]!) = true := decT he
          refine zst ?_
          (first | refine callD (samec_fn a.data[i]! f.data[i]!) ?_ | refine callDw (samec_fn a.data[i]! f.data[i]!) ?_); simp only [go_sem, hd2]
          refine zst ?_
          refine ev_next 3 (hJ _ (⟨i + 1, hl2⟩) (by first | omega | (dsimp only; omega) | (simp; omega))) rfl (by simp) ?_ (by first | rfl | (simp only [go_sem]; done)) (by first | rfl | (simp only [go_sem]; done) | (simp only [hl2]; (try simp only [go_sem]); first | done | rfl)) ?_
          · (first | rfl | (simp only [go_sem]; done) | (simp only [go_sem]; simp only [hl2]; done) | (simp only [hl2]; done) | (simp only [go_sem]; simp [hl2]; done) | (simp [hl2]; done))
          · (simp only [go_sem]; (repeat' (refine And.intro ?_ ?_)) <;> first | exact trivial | with_reducible rfl | (simp only [hl2]; done) | (simp only [hl2]; with_reducible rfl) | (simp [hl2]; done) | (simp [hl2]; omega) | (simp only [hl2]; rfl) | skip)
      · skip
        refine zst ?_
        refine ev_loopK [5, 6, 7, 9, 21, 80, 81] (fun p : {p : Nat // p ≤ 8} => [(82, .int .i64 p.1)]) (fun _ => [⟨.box false 66, true, 0, deckV l kk⟩, ⟨.box false 26, true, 0, filV f⟩, ⟨.box false 26, true, 0, filV a⟩]) (fun p => 8 - p.1) (⟨0, by omega⟩) 3 (by simp only [go_sem]; rfl) ?_ (by first | rfl | (simp only [go_sem]; done)) (by simp) (by first | rfl | (simp only [go_sem]; done)) (by first | rfl | (simp only [go_sem]; done)) (by first | rfl | (simp only [go_sem]; done)) ?_
        · (simp only [go_sem]; (try simp []); done)
        intro J hJ
        rintro ⟨j, hj⟩
        by_cases hl3 : j < 8
        · by_cases c1 : (j : Int) = h
          · skip
            refine zst ?_
            refine ev_next 3 (hJ _ (⟨j + 1, hl3⟩) (by first | omega | (dsimp only; omega) | (simp; omega))) rfl (by simp) ?_ (by first | rfl | (simp only [go_sem]; done)) (by first | rfl | (simp only [go_sem]; done) | (simp only [hl3]; (try simp only [go_sem]); first | done | rfl)) ?_
            · (first | rfl | (simp only [go_sem]; done) | (simp only [go_sem]; simp only [hl3]; done) | (simp only [hl3]; done) | (simp only [go_sem]; simp [hl3]; done) | (simp [hl3]; done))
            · (simp only [go_sem]; (repeat' (refine And.intro ?_ ?_)) <;> first | exact trivial | with_reducible rfl | (simp only [hl3]; done) | (simp only [hl3]; with_reducible rfl) | (simp [hl3]; done) | (simp [hl3]; omega) | (simp only [hl3]; rfl) | skip)
          · by_cases c2 : m = 1
            · by_cases c3 : a.opens[j]!.file = K
              · have he := hO.o1 j hl3 c1 (by omega) c3
                refine zst ?_
                refine ev_next 3 (hJ _ (⟨j + 1, hl3⟩) (by first | omega | (dsimp only; omega) | (simp; omega))) rfl (by simp) ?_ (by first | rfl | (simp only [go_sem]; done)) (by first | rfl | (simp only [go_sem]; done) | (simp only [hl3]; (try simp only [go_sem]); first | done | rfl)) ?_
                · (first | rfl | (simp only [go_sem]; done) | (simp only [go_sem]; simp only [hl3]; done) | (simp only [hl3]; done) | (simp only [go_sem]; simp [hl3]; done) | (simp [hl3]; done))
                · (simp only [go_sem]; (repeat' (refine And.intro ?_ ?_)) <;> first | exact trivial | with_reducible rfl | (simp only [hl3]; done) | (simp only [hl3]; with_reducible rfl) | (simp [hl3]; done) | (simp [hl3]; omega) | (simp only [hl3]; rfl) | skip)
              · have he := hO.o2 j hl3 c1 (.inl c3)
                have hd3 : decide (a.opens[j]! = f.opens[j]!) = true := decT he
                repeat (first | (simp only [opn_eqs, hd3]; try simp only [go_sem]) | refine And.intro (by omega) ?_ | refine And.intro rfl ?_ | refine ev_ctl rfl rfl ?_ | refine evr_nil ?_ | refine evw_nil (by kernel_rfl) ?_ | (simp (disch := omega) only [takeAll, Nat.min_eq_left, Nat.min_eq_right, if_pos, if_neg, getD_map, wrapI64, modIn, fdivE, tmodE, tdivE, decT, decF, beqT, beqF, bneT, bneF, Int.toNat_natCast]; try simp only [go_sem]) | (refine ev_condTb rfl ?_ ?_; · (simp <;> omega)) | (refine ev_condFb rfl ?_ ?_; · (simp <;> omega)) | ((first | refine ev_region ?_ | refine evr_go rfl ?_ | refine evw_go rfl ?_ | refine ev_dr0 mixed rfl (by kernel_rfl) ?_ | refine ev_dr1 mixed rfl (by kernel_rfl) ?_ | refine ev_dr2 mixed rfl (by kernel_rfl) ?_); simp only [go_sem]))
                refine ev_next 3 (hJ _ (⟨j + 1, hl3⟩) (by first | omega | (dsimp only; omega) | (simp; omega))) rfl (by simp) ?_ (by first | rfl | (simp only [go_sem]; done)) (by first | rfl | (simp only [go_sem]; done) | (simp only [hl3]; (try simp only [go_sem]); first | done | rfl)) ?_
                · (first | rfl | (simp only [go_sem]; done) | (simp only [go_sem]; simp only [hl3]; done) | (simp only [hl3]; done) | (simp only [go_sem]; simp [hl3]; done) | (simp [hl3]; done))
                · (simp only [go_sem]; (repeat' (refine And.intro ?_ ?_)) <;> first | exact trivial | with_reducible rfl | (simp only [hl3]; done) | (simp only [hl3]; with_reducible rfl) | (simp [hl3]; done) | (simp [hl3]; omega) | (simp only [hl3]; rfl) | skip)
            · have he := hO.o2 j hl3 c1 (.inr (by omega))
              have hd3 : decide (a.opens[j]! = f.opens[j]!) = true := decT he
              by_cases c3 : a.opens[j]!.file = K
              · skip
                repeat (first | (simp only [opn_eqs, hd3]; try simp only [go_sem]) | refine And.intro (by omega) ?_ | refine And.intro rfl ?_ | refine ev_ctl rfl rfl ?_ | refine evr_nil ?_ | refine evw_nil (by kernel_rfl) ?_ | (simp (disch := omega) only [takeAll, Nat.min_eq_left, Nat.min_eq_right, if_pos, if_neg, getD_map, wrapI64, modIn, fdivE, tmodE, tdivE, decT, decF, beqT, beqF, bneT, bneF, Int.toNat_natCast]; try simp only [go_sem]) | (refine ev_condTb rfl ?_ ?_; · (simp <;> omega)) | (refine ev_condFb rfl ?_ ?_; · (simp <;> omega)) | ((first | refine ev_region ?_ | refine evr_go rfl ?_ | refine evw_go rfl ?_ | refine ev_dr0 mixed rfl (by kernel_rfl) ?_ | refine ev_dr1 mixed rfl (by kernel_rfl) ?_ | refine ev_dr2 mixed rfl (by kernel_rfl) ?_); simp only [go_sem]))
                refine ev_next 3 (hJ _ (⟨j + 1, hl3⟩) (by first | omega | (dsimp only; omega) | (simp; omega))) rfl (by simp) ?_ (by first | rfl | (simp only [go_sem]; done)) (by first | rfl | (simp only [go_sem]; done) | (simp only [hl3]; (try simp only [go_sem]); first | done | rfl)) ?_
                · (first | rfl | (simp only [go_sem]; done) | (simp only [go_sem]; simp only [hl3]; done) | (simp only [hl3]; done) | (simp only [go_sem]; simp [hl3]; done) | (simp [hl3]; done))
                · (simp only [go_sem]; (repeat' (refine And.intro ?_ ?_)) <;> first | exact trivial | with_reducible rfl | (simp only [hl3]; done) | (simp only [hl3]; with_reducible rfl) | (simp [hl3]; done) | (simp [hl3]; omega) | (simp only [hl3]; rfl) | skip)
              · skip
                repeat (first | (simp only [opn_eqs, hd3]; try simp only [go_sem]) | refine And.intro (by omega) ?_ | refine And.intro rfl ?_ | refine ev_ctl rfl rfl ?_ | refine evr_nil ?_ | refine evw_nil (by kernel_rfl) ?_ | (simp (disch := omega) only [takeAll, Nat.min_eq_left, Nat.min_eq_right, if_pos, if_neg, getD_map, wrapI64, modIn, fdivE, tmodE, tdivE, decT, decF, beqT, beqF, bneT, bneF, Int.toNat_natCast]; try simp only [go_sem]) | (refine ev_condTb rfl ?_ ?_; · (simp <;> omega)) | (refine ev_condFb rfl ?_ ?_; · (simp <;> omega)) | ((first | refine ev_region ?_ | refine evr_go rfl ?_ | refine evw_go rfl ?_ | refine ev_dr0 mixed rfl (by kernel_rfl) ?_ | refine ev_dr1 mixed rfl (by kernel_rfl) ?_ | refine ev_dr2 mixed rfl (by kernel_rfl) ?_); simp only [go_sem]))
                refine ev_next 3 (hJ _ (⟨j + 1, hl3⟩) (by first | omega | (dsimp only; omega) | (simp; omega))) rfl (by simp) ?_ (by first | rfl | (simp only [go_sem]; done)) (by first | rfl | (simp only [go_sem]; done) | (simp only [hl3]; (try simp only [go_sem]); first | done | rfl)) ?_
                · (first | rfl | (simp only [go_sem]; done) | (simp only [go_sem]; simp only [hl3]; done) | (simp only [hl3]; done) | (simp only [go_sem]; simp [hl3]; done) | (simp [hl3]; done))
                · (simp only [go_sem]; (repeat' (refine And.intro ?_ ?_)) <;> first | exact trivial | with_reducible rfl | (simp only [hl3]; done) | (simp only [hl3]; with_reducible rfl) | (simp [hl3]; done) | (simp [hl3]; omega) | (simp only [hl3]; rfl) | skip)
        · have hJ := hJ0
          refine zst ?_
          refine ev_next 2 (hJ _ (⟨m + 1, hlt⟩) (by first | omega | (dsimp only; omega) | (simp; omega))) rfl (by simp) ?_ (by first | rfl | (simp only [go_sem]; done)) (by first | rfl | (simp only [go_sem]; done) | (simp only [hlt]; (try simp only [go_sem]); first | done | rfl)) ?_
          · (first | rfl | (simp only [go_sem]; done) | (simp only [go_sem]; simp only [hlt]; done) | (simp only [hlt]; done) | (simp only [go_sem]; simp [hlt]; done) | (simp [hlt]; done))
          · (simp only [go_sem]; (repeat' (refine And.intro ?_ ?_)) <;> first | exact trivial | with_reducible rfl | (simp only [hlt]; done) | (simp only [hlt]; with_reducible rfl) | (simp [hlt]; done) | (simp [hlt]; omega) | (simp only [hlt]; rfl) | skip)
  · skip
    refine zst ?_
    (first | refine callD (awake17_fn) ?_ | refine callDw (awake17_fn) ?_); simp only [go_sem]
    refine zst ?_
    refine ret m_fem_ok [] ?_; (first | (simp only [go_sem]; done) | (simp only [go_sem]; ((try dsimp only); (repeat' (refine And.intro ?_ ?_)) <;> first | with_reducible rfl | (simp only [go_sem]; done) | (simp only [go_sem]; rfl) | (simp only []; (try simp only [go_sem]); first | done | rfl) | (simp only [go_sem]; simp []; done) | (simp []; done) | rfl)))
theorem fem_law {a0 : List Int} {v0 : Value} {a1 : Int} {v1 : Value} (W : World) (e0 : (Sh.slice (Sh.int .i64)).rd (old W) W a0 [v0]) (e1 : (Sh.int .i64).rd (old W) W a1 [v1]) :
    Calls Try.prog 3 #[v0, v1] W fun e w' => e = .returned (.bool true) ∧ Below W.heap.size W w' :=
  Fnc.law (fem_fn a0 a1) (RdTs.slice enc_i64s e0 (RdTs.int e1 RdTs.nil'))
end Go.Proofs.Ytanmcjkpdkmhfaa
