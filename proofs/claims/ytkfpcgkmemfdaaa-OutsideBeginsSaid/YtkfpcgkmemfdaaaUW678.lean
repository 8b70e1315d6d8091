/- W6, W7, W8, in one text. -/
import Derived.Test.YtkfpcgkmemfdaaaWMa
import Derived.Test.YtkfpcgkmemfdaaaZt
import Derived.Test.YtkfpcgkmemfdaaaGr
import Derived.Test.YtkfpcgkmemfdaaaUK
/- Files: which cells are valid; lists joined. -/
namespace Go.Proofs.Ytkfpcgkmemfdaaa
open Go Go.RowKit Rdn Rdn.Dp
set_option linter.unusedVariables false
set_option linter.unusedSimpArgs false
def m_wcel : MC := .seq (.reg [⟨(some 1), none, (.m (.box 47 (.t 0)))⟩, ⟨(some 2), none, (.p (.mov (.c (.bool false))))⟩])
 (.seq (.seq (.reg [⟨(some 4), none, (.p (.fieldA 0 0 (.t 1)))⟩, ⟨(some 5), none, (.p (.load false 1 (.t 4)))⟩])
 (.block 0 (.seq (.seq (.reg [⟨(some 7), none, (.p (.bin 0 .eql (.t 5) (.c (.int .u8 0))))⟩, ⟨(some 6), none, (.p (.mov (.t 7)))⟩])
 (.cond (.t 6) (.skip) (.reg [⟨(some 8), none, (.p (.bin 0 .eql (.t 5) (.c (.int .u8 2))))⟩, ⟨(some 6), none, (.p (.mov (.t 8)))⟩])))
 (.cond (.t 6) (.seq (.reg [⟨(some 9), none, (.p (.fieldA 2 2 (.t 1)))⟩, ⟨(some 10), none, (.p (.load false 1 (.t 9)))⟩, ⟨(some 11), none, (.p (.bin 0 .eql (.t 10) (.c (.int .i64 0))))⟩, ⟨(some 12), none, (.p (.mov (.t 11)))⟩, ⟨(some 13), (some (12, true)), (.p (.fieldA 3 3 (.t 1)))⟩, ⟨(some 14), (some (12, true)), (.p (.load false 1 (.t 13)))⟩, ⟨(some 15), (some (12, true)), (.p (.bin 0 .eql (.t 14) (.c (.int .i64 0))))⟩, ⟨(some 16), none, (.p (.pick (.t 12) (.t 15) (.c (.bool false))))⟩, ⟨(some 2), none, (.p (.mov (.t 16)))⟩])
 (.ret)) (.seq (.reg [⟨(some 18), none, (.p (.bin 0 .eql (.t 5) (.c (.int .u8 1))))⟩, ⟨(some 17), none, (.p (.mov (.t 18)))⟩])
 (.cond (.t 17) (.seq (.reg [⟨(some 19), none, (.p (.fieldA 2 2 (.t 1)))⟩, ⟨(some 20), none, (.p (.load false 1 (.t 19)))⟩, ⟨(some 21), none, (.p (.bin 0 .eql (.t 20) (.c (.int .i64 (-1)))))⟩, ⟨(some 22), none, (.p (.mov (.t 21)))⟩, ⟨(some 23), (some (22, true)), (.p (.fieldA 3 3 (.t 1)))⟩, ⟨(some 24), (some (22, true)), (.p (.load false 1 (.t 23)))⟩, ⟨(some 25), (some (22, true)), (.p (.bin 0 .geq (.t 24) (.c (.int .i64 0))))⟩, ⟨(some 26), none, (.p (.pick (.t 22) (.t 25) (.c (.bool false))))⟩, ⟨(some 27), none, (.p (.mov (.t 26)))⟩, ⟨(some 28), (some (27, true)), (.p (.fieldA 3 3 (.t 1)))⟩, ⟨(some 29), (some (27, true)), (.p (.load false 1 (.t 28)))⟩, ⟨(some 30), (some (27, true)), (.p (.bin 0 .leq (.t 29) (.c (.int .i64 65535))))⟩, ⟨(some 31), none, (.p (.pick (.t 27) (.t 30) (.c (.bool false))))⟩, ⟨(some 3), none, (.p (.mov (.t 31)))⟩])
 (.seq (.reg [⟨(some 32), none, (.p (.fieldA 1 1 (.t 1)))⟩, ⟨(some 33), none, (.p (.load false 1 (.t 32)))⟩, ⟨(some 34), none, (.p (.bin 0 .eql (.t 33) (.c (.int .u16 0))))⟩, ⟨(some 35), none, (.p (.mov (.t 34)))⟩, ⟨(some 36), (some (35, true)), (.p (.mov (.t 3)))⟩, ⟨(some 37), (some (35, true)), (.p (.mov (.t 36)))⟩, ⟨(some 38), (some (37, false)), (.p (.fieldA 2 2 (.t 1)))⟩, ⟨(some 39), (some (37, false)), (.p (.load false 1 (.t 38)))⟩, ⟨(some 40), (some (37, false)), (.p (.bin 0 .geq (.t 39) (.c (.int .i64 0))))⟩, ⟨(some 41), (some (37, false)), (.p (.mov (.t 40)))⟩, ⟨(some 42), (some (41, true)), (.p (.fieldA 2 2 (.t 1)))⟩, ⟨(some 43), (some (41, true)), (.p (.load false 1 (.t 42)))⟩, ⟨(some 44), (some (41, true)), (.p (.bin 0 .lss (.t 43) (.c (.int .i64 4))))⟩, ⟨(some 45), (some (37, false)), (.p (.pick (.t 41) (.t 44) (.c (.bool false))))⟩, ⟨(some 46), (some (37, false)), (.p (.mov (.t 45)))⟩, ⟨(some 47), (some (46, true)), (.p (.fieldA 3 3 (.t 1)))⟩, ⟨(some 48), (some (46, true)), (.p (.load false 1 (.t 47)))⟩, ⟨(some 49), (some (46, true)), (.p (.bin 0 .geq (.t 48) (.c (.int .i64 0))))⟩, ⟨(some 50), (some (37, false)), (.p (.pick (.t 46) (.t 49) (.c (.bool false))))⟩, ⟨(some 51), (some (37, false)), (.p (.mov (.t 50)))⟩, ⟨(some 52), (some (51, true)), (.p (.fieldA 3 3 (.t 1)))⟩, ⟨(some 53), (some (51, true)), (.p (.load false 1 (.t 52)))⟩, ⟨(some 54), (some (51, true)), (.p (.bin 0 .lss (.t 53) (.c (.int .i64 32))))⟩, ⟨(some 55), (some (37, false)), (.p (.pick (.t 51) (.t 54) (.c (.bool false))))⟩, ⟨(some 56), (some (35, true)), (.p (.pick (.t 37) (.c (.bool true)) (.t 55)))⟩, ⟨(some 57), none, (.p (.pick (.t 35) (.t 56) (.c (.bool false))))⟩, ⟨(some 2), none, (.p (.mov (.t 57)))⟩])
 (.ret))) (.skip)))))))
 (.seq (.reg [⟨(some 2), none, (.p (.mov (.c (.bool false))))⟩])
 (.ret)))
theorem m_wcel_ok : compF Try.prog 92 = some (58, m_wcel, [.mov (.t 2)]) := by kernel_rfl
def m_rcel : MC := .seq (.reg [⟨(some 1), none, (.m (.box 47 (.t 0)))⟩, ⟨(some 2), none, (.p (.mov (.c (.bool false))))⟩])
 (.seq (.seq (.reg [⟨(some 3), none, (.p (.fieldA 0 0 (.t 1)))⟩, ⟨(some 4), none, (.p (.load false 1 (.t 3)))⟩])
 (.block 0 (.seq (.seq (.reg [⟨(some 6), none, (.p (.bin 0 .eql (.t 4) (.c (.int .u8 0))))⟩, ⟨(some 5), none, (.p (.mov (.t 6)))⟩])
 (.cond (.t 5) (.skip) (.reg [⟨(some 7), none, (.p (.bin 0 .eql (.t 4) (.c (.int .u8 2))))⟩, ⟨(some 5), none, (.p (.mov (.t 7)))⟩])))
 (.cond (.t 5) (.seq (.reg [⟨(some 8), none, (.p (.fieldA 2 2 (.t 1)))⟩, ⟨(some 9), none, (.p (.load false 1 (.t 8)))⟩, ⟨(some 10), none, (.p (.bin 0 .eql (.t 9) (.c (.int .i64 0))))⟩, ⟨(some 11), none, (.p (.mov (.t 10)))⟩, ⟨(some 12), (some (11, true)), (.p (.fieldA 3 3 (.t 1)))⟩, ⟨(some 13), (some (11, true)), (.p (.load false 1 (.t 12)))⟩, ⟨(some 14), (some (11, true)), (.p (.bin 0 .eql (.t 13) (.c (.int .i64 0))))⟩, ⟨(some 15), none, (.p (.pick (.t 11) (.t 14) (.c (.bool false))))⟩, ⟨(some 2), none, (.p (.mov (.t 15)))⟩])
 (.ret)) (.seq (.reg [⟨(some 17), none, (.p (.bin 0 .eql (.t 4) (.c (.int .u8 1))))⟩, ⟨(some 16), none, (.p (.mov (.t 17)))⟩])
 (.cond (.t 16) (.seq (.seq (.reg [⟨(some 18), none, (.p (.fieldA 2 2 (.t 1)))⟩, ⟨(some 19), none, (.p (.load false 1 (.t 18)))⟩, ⟨(some 20), none, (.p (.bin 0 .eql (.t 19) (.c (.int .i64 (-1)))))⟩])
 (.cond (.t 20) (.seq (.reg [⟨(some 21), none, (.p (.fieldA 1 1 (.t 1)))⟩, ⟨(some 22), none, (.p (.load false 1 (.t 21)))⟩, ⟨(some 23), none, (.p (.bin 0 .eql (.t 22) (.c (.int .u16 0))))⟩, ⟨(some 24), none, (.p (.mov (.t 23)))⟩, ⟨(some 25), (some (24, true)), (.p (.fieldA 3 3 (.t 1)))⟩, ⟨(some 26), (some (24, true)), (.p (.load false 1 (.t 25)))⟩, ⟨(some 27), (some (24, true)), (.p (.bin 0 .geq (.t 26) (.c (.int .i64 0))))⟩, ⟨(some 28), none, (.p (.pick (.t 24) (.t 27) (.c (.bool false))))⟩, ⟨(some 29), none, (.p (.mov (.t 28)))⟩, ⟨(some 30), (some (29, true)), (.p (.fieldA 3 3 (.t 1)))⟩, ⟨(some 31), (some (29, true)), (.p (.load false 1 (.t 30)))⟩, ⟨(some 32), (some (29, true)), (.p (.bin 0 .leq (.t 31) (.c (.int .i64 65535))))⟩, ⟨(some 33), none, (.p (.pick (.t 29) (.t 32) (.c (.bool false))))⟩, ⟨(some 2), none, (.p (.mov (.t 33)))⟩])
 (.ret)) (.skip)))
 (.seq (.reg [⟨(some 34), none, (.p (.fieldA 1 1 (.t 1)))⟩, ⟨(some 35), none, (.p (.load false 1 (.t 34)))⟩, ⟨(some 36), none, (.p (.bin 0 .eql (.t 35) (.c (.int .u16 0))))⟩, ⟨(some 37), none, (.p (.mov (.t 36)))⟩, ⟨(some 38), (some (37, true)), (.p (.fieldA 2 2 (.t 1)))⟩, ⟨(some 39), (some (37, true)), (.p (.load false 1 (.t 38)))⟩, ⟨(some 40), (some (37, true)), (.p (.bin 0 .geq (.t 39) (.c (.int .i64 0))))⟩, ⟨(some 41), none, (.p (.pick (.t 37) (.t 40) (.c (.bool false))))⟩, ⟨(some 42), none, (.p (.mov (.t 41)))⟩, ⟨(some 43), (some (42, true)), (.p (.fieldA 2 2 (.t 1)))⟩, ⟨(some 44), (some (42, true)), (.p (.load false 1 (.t 43)))⟩, ⟨(some 45), (some (42, true)), (.p (.bin 0 .lss (.t 44) (.c (.int .i64 4))))⟩, ⟨(some 46), none, (.p (.pick (.t 42) (.t 45) (.c (.bool false))))⟩, ⟨(some 47), none, (.p (.mov (.t 46)))⟩, ⟨(some 48), (some (47, true)), (.p (.fieldA 3 3 (.t 1)))⟩, ⟨(some 49), (some (47, true)), (.p (.load false 1 (.t 48)))⟩, ⟨(some 50), (some (47, true)), (.p (.bin 0 .geq (.t 49) (.c (.int .i64 0))))⟩, ⟨(some 51), none, (.p (.pick (.t 47) (.t 50) (.c (.bool false))))⟩, ⟨(some 52), none, (.p (.mov (.t 51)))⟩, ⟨(some 53), (some (52, true)), (.p (.fieldA 3 3 (.t 1)))⟩, ⟨(some 54), (some (52, true)), (.p (.load false 1 (.t 53)))⟩, ⟨(some 55), (some (52, true)), (.p (.bin 0 .lss (.t 54) (.c (.int .i64 32))))⟩, ⟨(some 56), none, (.p (.pick (.t 52) (.t 55) (.c (.bool false))))⟩, ⟨(some 2), none, (.p (.mov (.t 56)))⟩])
 (.ret))) (.skip)))))))
 (.seq (.reg [⟨(some 2), none, (.p (.mov (.c (.bool false))))⟩])
 (.ret)))
theorem m_rcel_ok : compF Try.prog 51 = some (57, m_rcel, [.mov (.t 2)]) := by kernel_rfl
def m_rcels : MC := .seq (.reg [⟨(some 4), none, (.p (.mov (.c (.bool false))))⟩])
 (.seq (.seq (.reg [⟨(some 7), none, (.p (.mov (.t 0)))⟩, ⟨(some 8), none, (.p (.len (.t 7)))⟩, ⟨(some 9), none, (.p (.mov (.c (.int .i64 0))))⟩])
 (.block 0 (.loop (.seq (.reg [⟨(some 10), none, (.p (.bin 0 .lss (.t 9) (.t 8)))⟩])
 (.seq (.cond (.t 10) (.skip) (.exit 0))
 (.seq (.block 1 (.seq (.reg [⟨(some 11), none, (.p (.idxA 4 (.t 7) (.t 9)))⟩, ⟨(some 12), none, (.p (.load true 4 (.t 11)))⟩, ⟨(some 6), none, (.m (.alloc 47 (.agg [.int .u8 0, .int .u16 0, .int .i64 0, .int .i64 0])))⟩, ⟨none, none, (.m (.store 4 (.t 6) (.t 12)))⟩])
 (.seq (.reg [⟨(some 13), none, (.p (.load true 4 (.t 6)))⟩, ⟨(some 14), none, (.call 51 [(.t 13)])⟩, ⟨(some 15), none, (.p (.un .not (.t 14)))⟩])
 (.cond (.t 15) (.seq (.reg [⟨(some 4), none, (.p (.mov (.c (.bool false))))⟩])
 (.ret)) (.skip)))))
 (.reg [⟨(some 16), none, (.p (.bin 0 .add (.t 9) (.c (.int .i64 1))))⟩, ⟨(some 9), none, (.p (.mov (.t 16)))⟩])))))))
 (.seq (.reg [⟨(some 17), none, (.p (.mov (.t 0)))⟩, ⟨(some 18), none, (.p (.len (.t 17)))⟩, ⟨(some 19), none, (.p (.mov (.t 1)))⟩, ⟨(some 20), none, (.p (.bin 0 .leq (.t 18) (.t 19)))⟩, ⟨(some 4), none, (.p (.mov (.t 20)))⟩])
 (.ret)))
theorem m_rcels_ok : compF Try.prog 48 = some (21, m_rcels, [.mov (.t 4)]) := by kernel_rfl
def m_cel1 : MC := .seq (.reg [⟨(some 1), none, (.m (.box 47 (.t 0)))⟩, ⟨(some 2), none, (.p (.mov (.c (.bool false))))⟩])
 (.seq (.reg [⟨(some 3), none, (.p (.load true 4 (.t 1)))⟩, ⟨(some 4), none, (.call 92 [(.t 3)])⟩, ⟨(some 5), none, (.p (.un .not (.t 4)))⟩, ⟨(some 2), none, (.p (.mov (.t 5)))⟩])
 (.ret))
theorem m_cel1_ok : compF Try.prog 91 = some (6, m_cel1, [.mov (.t 2)]) := by kernel_rfl
def m_idxc : MC := .seq (.reg [⟨(some 4), none, (.p (.mov (.c (.int .i64 0))))⟩])
 (.seq (.seq (.reg [⟨(some 6), none, (.p (.mov (.t 0)))⟩, ⟨(some 7), none, (.p (.len (.t 6)))⟩, ⟨(some 8), none, (.p (.mov (.c (.int .i64 0))))⟩])
 (.block 0 (.loop (.seq (.reg [⟨(some 9), none, (.p (.bin 0 .lss (.t 8) (.t 7)))⟩])
 (.seq (.cond (.t 9) (.skip) (.exit 0))
 (.seq (.block 1 (.seq (.reg [⟨(some 10), none, (.p (.mov (.t 8)))⟩, ⟨(some 5), none, (.p (.mov (.t 10)))⟩])
 (.seq (.reg [⟨(some 11), none, (.p (.mov (.t 1)))⟩, ⟨(some 12), none, (.p (.mov (.t 0)))⟩, ⟨(some 13), none, (.p (.mov (.t 5)))⟩, ⟨(some 14), none, (.p (.idxA 4 (.t 12) (.t 13)))⟩, ⟨(some 15), none, (.p (.load true 4 (.t 14)))⟩, ⟨(some 16), none, (.callv (.t 11) [(.t 15)])⟩])
 (.cond (.t 16) (.seq (.reg [⟨(some 17), none, (.p (.mov (.t 5)))⟩, ⟨(some 4), none, (.p (.mov (.t 17)))⟩])
 (.ret)) (.skip)))))
 (.reg [⟨(some 18), none, (.p (.bin 0 .add (.t 8) (.c (.int .i64 1))))⟩, ⟨(some 8), none, (.p (.mov (.t 18)))⟩])))))))
 (.seq (.reg [⟨(some 4), none, (.p (.mov (.c (.int .i64 (-1)))))⟩])
 (.ret)))
theorem m_idxc_ok : compF Try.prog 105 = some (19, m_idxc, [.mov (.t 4)]) := by kernel_rfl
def m_conc : MC := .seq (.reg [⟨(some 4), none, (.p (.mov (.c (.bool false))))⟩])
 (.seq (.reg [⟨(some 5), none, (.p (.mov (.t 0)))⟩, ⟨(some 6), none, (.p (.mov (.t 1)))⟩, ⟨(some 7), none, (.call 105 [(.t 5), (.t 6)])⟩, ⟨(some 8), none, (.p (.bin 0 .geq (.t 7) (.c (.int .i64 0))))⟩, ⟨(some 4), none, (.p (.mov (.t 8)))⟩])
 (.ret))
theorem m_conc_ok : compF Try.prog 90 = some (9, m_conc, [.mov (.t 4)]) := by kernel_rfl
def m_wcels : MC := .seq (.reg [⟨(some 4), none, (.p (.mov (.c (.bool false))))⟩])
 (.seq (.reg [⟨(some 5), none, (.p (.mov (.t 0)))⟩, ⟨(some 6), none, (.p (.len (.t 5)))⟩, ⟨(some 7), none, (.p (.mov (.t 1)))⟩, ⟨(some 8), none, (.p (.bin 0 .leq (.t 6) (.t 7)))⟩, ⟨(some 9), none, (.p (.mov (.t 8)))⟩, ⟨(some 10), (some (9, true)), (.p (.mov (.t 0)))⟩, ⟨(some 11), (some (9, true)), (.call 90 [(.t 10), (.c (.fn 91))])⟩, ⟨(some 12), (some (9, true)), (.p (.un .not (.t 11)))⟩, ⟨(some 13), none, (.p (.pick (.t 9) (.t 12) (.c (.bool false))))⟩, ⟨(some 4), none, (.p (.mov (.t 13)))⟩])
 (.ret))
theorem m_wcels_ok : compF Try.prog 59 = some (14, m_wcels, [.mov (.t 4)]) := by kernel_rfl
def m_concat : MC := .seq (.reg [⟨(some 2), none, (.p (.mov (.c (.nilS))))⟩])
 (.seq (.reg [⟨(some 3), none, (.p (.mov (.c (.int .i64 0))))⟩])
 (.seq (.seq (.reg [⟨(some 9), none, (.p (.mov (.t 0)))⟩, ⟨(some 10), none, (.p (.len (.t 9)))⟩, ⟨(some 11), none, (.p (.mov (.c (.int .i64 0))))⟩])
 (.block 0 (.loop (.seq (.reg [⟨(some 12), none, (.p (.bin 0 .lss (.t 11) (.t 10)))⟩])
 (.seq (.cond (.t 12) (.skip) (.exit 0))
 (.seq (.block 1 (.seq (.reg [⟨(some 13), none, (.p (.idxA 1 (.t 9) (.t 11)))⟩, ⟨(some 14), none, (.p (.load false 1 (.t 13)))⟩, ⟨(some 5), none, (.p (.mov (.t 14)))⟩])
 (.seq (.reg [⟨(some 15), none, (.p (.mov (.t 3)))⟩, ⟨(some 16), none, (.p (.mov (.t 5)))⟩, ⟨(some 17), none, (.p (.len (.t 16)))⟩, ⟨(some 18), none, (.p (.bin 0 .add (.t 15) (.t 17)))⟩, ⟨(some 3), none, (.p (.mov (.t 18)))⟩])
 (.seq (.reg [⟨(some 19), none, (.p (.mov (.t 3)))⟩, ⟨(some 20), none, (.p (.bin 0 .lss (.t 19) (.c (.int .i64 0))))⟩])
 (.cond (.t 20) (.reg [⟨(some 21), none, (.p (.bad))⟩, ⟨none, none, (.p (.bad))⟩]) (.skip))))))
 (.reg [⟨(some 22), none, (.p (.bin 0 .add (.t 11) (.c (.int .i64 1))))⟩, ⟨(some 11), none, (.p (.mov (.t 22)))⟩])))))))
 (.seq (.reg [⟨(some 23), none, (.p (.mov (.t 3)))⟩, ⟨(some 24), none, (.call 104 [(.c (.nilS)), (.t 23)])⟩, ⟨(some 6), none, (.p (.mov (.t 24)))⟩])
 (.seq (.seq (.reg [⟨(some 25), none, (.p (.mov (.t 0)))⟩, ⟨(some 26), none, (.p (.len (.t 25)))⟩, ⟨(some 27), none, (.p (.mov (.c (.int .i64 0))))⟩])
 (.block 2 (.loop (.seq (.reg [⟨(some 28), none, (.p (.bin 0 .lss (.t 27) (.t 26)))⟩])
 (.seq (.cond (.t 28) (.skip) (.exit 2))
 (.seq (.block 3 (.seq (.reg [⟨(some 29), none, (.p (.idxA 1 (.t 25) (.t 27)))⟩, ⟨(some 30), none, (.p (.load false 1 (.t 29)))⟩, ⟨(some 8), none, (.p (.mov (.t 30)))⟩])
 (.reg [⟨(some 31), none, (.p (.mov (.t 6)))⟩, ⟨(some 32), none, (.p (.mov (.t 8)))⟩, ⟨(some 33), none, (.m (.app 47 4 24 (.t 31) (.t 32)))⟩, ⟨(some 6), none, (.p (.mov (.t 33)))⟩])))
 (.reg [⟨(some 34), none, (.p (.bin 0 .add (.t 27) (.c (.int .i64 1))))⟩, ⟨(some 27), none, (.p (.mov (.t 34)))⟩])))))))
 (.seq (.reg [⟨(some 35), none, (.p (.mov (.t 6)))⟩, ⟨(some 2), none, (.p (.mov (.t 35)))⟩])
 (.ret))))))
theorem m_concat_ok : compF Try.prog 86 = some (36, m_concat, [.mov (.t 2)]) := by kernel_rfl
theorem cell_split (c : Canon) {M : Prop} (a0 : c.tag = 0 → c.region ≠ 0 → M) (a1 : c.tag = 0 → c.region = 0 → c.offset ≠ 0 → M) (a2 : c.tag = 0 → c.region = 0 → c.offset = 0 → M) (a3 : c.tag = 2 → c.region ≠ 0 → M) (a4 : c.tag = 2 → c.region = 0 → c.offset ≠ 0 → M) (a5 : c.tag = 2 → c.region = 0 → c.offset = 0 → M) (a6 : c.tag ≠ 0 → c.tag ≠ 1 → c.tag ≠ 2 → M) (a7 : c.tag = 1 → c.region = -1 → c.offset < 0 → c.val ≠ 0 → M) (a8 : c.tag = 1 → c.region = -1 → c.offset < 0 → c.val = 0 → M) (a9 : c.tag = 1 → c.region = -1 → 0 ≤ c.offset → 65535 < c.offset → c.val ≠ 0 → M) (a10 : c.tag = 1 → c.region = -1 → 0 ≤ c.offset → 65535 < c.offset → c.val = 0 → M) (a11 : c.tag = 1 → c.region = -1 → 0 ≤ c.offset → c.offset ≤ 65535 → c.val ≠ 0 → M) (a12 : c.tag = 1 → c.region = -1 → 0 ≤ c.offset → c.offset ≤ 65535 → c.val = 0 → M) (a13 : c.tag = 1 → c.region ≠ -1 → c.val ≠ 0 → M) (a14 : c.tag = 1 → c.region ≠ -1 → c.region < 0 → c.val = 0 → M) (a15 : c.tag = 1 → 4 ≤ c.region → c.val = 0 → M) (a16 : c.tag = 1 → 0 ≤ c.region → c.region < 4 → c.offset < 0 → c.val = 0 → M) (a17 : c.tag = 1 → 0 ≤ c.region → c.region < 4 → 0 ≤ c.offset → 32 ≤ c.offset → c.val = 0 → M) (a18 : c.tag = 1 → 0 ≤ c.region → c.region < 4 → 0 ≤ c.offset → c.offset < 32 → c.val = 0 → M) : M := by
  by_cases t0 : c.tag = 0
  · by_cases r : c.region = 0
    · by_cases o : c.offset = 0
      · exact a2 (by omega) (by omega) (by omega)
      · exact a1 (by omega) (by omega) (by omega)
    · exact a0 (by omega) (by omega)
  by_cases t2 : c.tag = 2
  · by_cases r : c.region = 0
    · by_cases o : c.offset = 0
      · exact a5 (by omega) (by omega) (by omega)
      · exact a4 (by omega) (by omega) (by omega)
    · exact a3 (by omega) (by omega)
  by_cases t1 : c.tag = 1
  · by_cases r : c.region = -1
    · by_cases o : c.offset < 0
      · by_cases v : c.val = 0
        · exact a8 (by omega) (by omega) (by omega) (by omega)
        · exact a7 (by omega) (by omega) (by omega) (by omega)
      by_cases o2 : c.offset ≤ 65535
      · by_cases v : c.val = 0
        · exact a12 (by omega) (by omega) (by omega) (by omega) (by omega)
        · exact a11 (by omega) (by omega) (by omega) (by omega) (by omega)
      · by_cases v : c.val = 0
        · exact a10 (by omega) (by omega) (by omega) (by omega) (by omega)
        · exact a9 (by omega) (by omega) (by omega) (by omega) (by omega)
    by_cases v : c.val = 0
    · by_cases r1 : c.region < 0
      · exact a14 (by omega) (by omega) (by omega) (by omega)
      by_cases r2 : c.region < 4
      · by_cases o : c.offset < 0
        · exact a16 (by omega) (by omega) (by omega) (by omega) (by omega)
        by_cases o2 : c.offset < 32
        · exact a18 (by omega) (by omega) (by omega) (by omega) (by omega) (by omega)
        · exact a17 (by omega) (by omega) (by omega) (by omega) (by omega) (by omega)
      · exact a15 (by omega) (by omega) (by omega)
    · exact a13 (by omega) (by omega) (by omega)
  · exact a6 (by omega) (by omega) (by omega)
set_option maxHeartbeats 16000000 in
theorem wcel_fn (c : Canon) : Fnc Try.prog 92 [canonV c] (fun x obs => x = .bool (cellB c) ∧ obs = []) := by
  refine cell_split c ?_ ?_ ?_ ?_ ?_ ?_ ?_ ?_ ?_ ?_ ?_ ?_ ?_ ?_ ?_ ?_ ?_ ?_ ?_
  all_goals
    intros
    first
      | rw [show cellB c = true from decT (by unfold okC; omega)]
      | rw [show cellB c = false from decF (by unfold okC; omega)]
    refine Fnc.intro m_wcel_ok (by simp) fun W S => ?_
    unfold m_wcel
    simp only [ents, Nat.zero_add, Nat.reduceAdd]
    refine zst ?_
    refine ret m_wcel_ok [] ?_; exact zfn
set_option maxHeartbeats 16000000 in
theorem rcel_fn (c : Canon) : Fnc Try.prog 51 [canonV c] (fun x obs => x = .bool (cellB c) ∧ obs = []) := by
  refine cell_split c ?_ ?_ ?_ ?_ ?_ ?_ ?_ ?_ ?_ ?_ ?_ ?_ ?_ ?_ ?_ ?_ ?_ ?_ ?_
  all_goals
    intros
    first
      | rw [show cellB c = true from decT (by unfold okC; omega)]
      | rw [show cellB c = false from decF (by unfold okC; omega)]
    refine Fnc.intro m_rcel_ok (by simp) fun W S => ?_
    unfold m_rcel
    simp only [ents, Nat.zero_add, Nat.reduceAdd]
    refine zst ?_
    refine ret m_rcel_ok [] ?_; exact zfn
def badC (c : Canon) : Bool := !cellB c
set_option maxHeartbeats 4000000 in
theorem cel1_fn (c : Canon) : Fnc Try.prog 91 [canonV c] (fun x obs => x = .bool (badC c) ∧ obs = []) := by
  have hr : badC c = !cellB c := rfl
  refine Fnc.intro m_cel1_ok (by simp) fun W S => ?_
  unfold m_cel1
  simp only [ents, Nat.zero_add, Nat.reduceAdd]
  refine zst ?_
  (first | refine callD (wcel_fn c) ?_ | refine callDw (wcel_fn c) ?_); simp only [go_sem]
  refine zst ?_
  refine ret m_cel1_ok [] ?_; exact zfh hr
set_option maxHeartbeats 4000000 in
theorem idxc_fn (l : List Canon) : Fnc Try.prog 105 [.sl false 4 (l.map canonV), .fn 91] (fun x obs => x = .int .i64 (fnd badC l) ∧ obs = []) := by
  refine Fnc.wf fun hw => ?_
  have hm : l.length ≤ 140737488355328 := by
    have := hw.1
    simp only [V.wf, List.length_map] at this
    exact this.2
  clear hw
  refine Fnc.intro m_idxc_ok (by simp) fun W S => ?_
  unfold m_idxc
  simp only [ents, Nat.zero_add, Nat.reduceAdd]
  refine zst ?_
  refine ev_loopK [0, 1, 7] (fun p : {p : Nat // p ≤ l.length ∧ ∀ j, j < p → badC l[j]! = false} => [(8, .int .i64 p.1)]) (fun _ => []) (fun p => l.length - p.1) (⟨0, by simp⟩) 0 (by simp only [go_sem]; rfl) ?_ (by first | rfl | (simp only [go_sem]; done)) (by simp) (by first | rfl | (simp only [go_sem]; done)) (by first | rfl | (simp only [go_sem]; done)) (by first | rfl | (simp only [go_sem]; done)) ?_
  · (simp only [go_sem]; (try simp []); done)
  intro J hJ
  rintro ⟨k, hk0, hk1⟩
  by_cases hlt : k < l.length
  · have hc := cel1_fn l[k]!
    cases hb : badC l[k]! with
    | true =>
      rw [hb] at hc
      have hr := fnd_at (p := badC) hlt hk1 hb
      refine zst ?_
      refine callDv (hc) (by kernel_rfl) rfl ?_; simp only [go_sem]
      refine zst ?_
      refine ret m_idxc_ok [] ?_; exact zfh hr
    | false =>
      rw [hb] at hc
      have hS : ∀ j, j < k + 1 → badC l[j]! = false := fun j hj => by
        by_cases e : j = k
        · subst e; exact hb
        · exact hk1 j (by omega)
      refine zst ?_
      refine callDv (hc) (by kernel_rfl) rfl ?_; simp only [go_sem]
      refine zst ?_
      refine ev_next 0 (hJ _ (⟨k + 1, hlt, hS⟩) (by first | omega | (dsimp only; omega) | (simp; omega))) rfl (by simp) ?_ (by first | rfl | (simp only [go_sem]; done)) (by first | rfl | (simp only [go_sem]; done) | (simp only [hlt]; (try simp only [go_sem]); first | done | rfl)) ?_
      · exact zna hlt
      · exact znb hlt
  · obtain rfl : k = l.length := by omega
    have hr := fnd_no (p := badC) hk1
    refine zst ?_
    refine ret m_idxc_ok [] ?_; exact zfh hr
set_option maxHeartbeats 4000000 in
theorem conc_fn (l : List Canon) : Fnc Try.prog 90 [.sl false 4 (l.map canonV), .fn 91] (fun x obs => x = .bool (l.any badC) ∧ obs = []) := by
  have hr := fnd_ge badC l
  refine Fnc.intro m_conc_ok (by simp) fun W S => ?_
  unfold m_conc
  simp only [ents, Nat.zero_add, Nat.reduceAdd]
  refine zst ?_
  (first | refine callD (idxc_fn l) ?_ | refine callDw (idxc_fn l) ?_); simp only [go_sem]
  refine zst ?_
  refine ret m_conc_ok [] ?_; exact zfh hr
theorem any_bad (l : List Canon) : l.any badC = !l.all cellB := by
  induction l with
  | nil => rfl
  | cons a l ih => simp only [List.any_cons, List.all_cons, ih, badC, Bool.not_and]
set_option maxHeartbeats 4000000 in
theorem wcels_fn (l : List Canon) (n : Int) : Fnc Try.prog 59 [.sl false 4 (l.map canonV), .int .i64 n] (fun x obs => x = .bool (cellsB l n) ∧ obs = []) := by
  have hc := conc_fn l
  rw [any_bad] at hc
  by_cases c : (l.length : Int) ≤ n
  · have hr : cellsB l n = !!l.all cellB := by unfold cellsB; rw [decT c]; simp
    refine Fnc.intro m_wcels_ok (by simp) fun W S => ?_
    unfold m_wcels
    simp only [ents, Nat.zero_add, Nat.reduceAdd]
    refine zst ?_
    (first | refine callD (hc) ?_ | refine callDw (hc) ?_); simp only [go_sem]
    refine zst ?_
    refine ret m_wcels_ok [] ?_; exact zfh hr
  · have hr : cellsB l n = false := by unfold cellsB; rw [decF c]; simp
    refine Fnc.intro m_wcels_ok (by simp) fun W S => ?_
    unfold m_wcels
    simp only [ents, Nat.zero_add, Nat.reduceAdd]
    refine zst ?_
    refine ret m_wcels_ok [] ?_; exact zfh hr
set_option maxHeartbeats 4000000 in
theorem rcels_fn (l : List Canon) (n : Int) : Fnc Try.prog 48 [.sl false 4 (l.map canonV), .int .i64 n] (fun x obs => x = .bool (cellsB l n) ∧ obs = []) := by
  refine Fnc.wf fun hw => ?_
  have hm : l.length ≤ 140737488355328 := by
    have := hw.1
    simp only [V.wf, List.length_map] at this
    exact this.2
  clear hw
  refine Fnc.intro m_rcels_ok (by simp) fun W S => ?_
  unfold m_rcels
  simp only [ents, Nat.zero_add, Nat.reduceAdd]
  refine zst ?_
  refine ev_loopK [0, 1, 7, 8] (fun p : {p : Nat // p ≤ l.length ∧ ∀ j, j < p → cellB l[j]! = true} => [(9, .int .i64 p.1)]) (fun _ => []) (fun p => l.length - p.1) (⟨0, by simp⟩) 0 (by simp only [go_sem]; rfl) ?_ (by first | rfl | (simp only [go_sem]; done)) (by simp) (by first | rfl | (simp only [go_sem]; done)) (by first | rfl | (simp only [go_sem]; done)) (by first | rfl | (simp only [go_sem]; done)) ?_
  · (simp only [go_sem]; (try simp []); done)
  intro J hJ
  rintro ⟨k, hk0, hk1⟩
  by_cases hlt : k < l.length
  · have hc := rcel_fn l[k]!
    cases hb : cellB l[k]! with
    | true =>
      rw [hb] at hc
      have hS : ∀ j, j < k + 1 → cellB l[j]! = true := fun j hj => by
        by_cases e : j = k
        · subst e; exact hb
        · exact hk1 j (by omega)
      refine zst ?_
      (first | refine callD (hc) ?_ | refine callDw (hc) ?_); simp only [go_sem]
      refine zst ?_
      refine ev_next 0 (hJ _ (⟨k + 1, hlt, hS⟩) (by first | omega | (dsimp only; omega) | (simp; omega))) rfl (by simp) ?_ (by first | rfl | (simp only [go_sem]; done)) (by first | rfl | (simp only [go_sem]; done) | (simp only [hlt]; (try simp only [go_sem]); first | done | rfl)) ?_
      · exact zna hlt
      · exact znb hlt
    | false =>
      rw [hb] at hc
      have hr : cellsB l n = false := by
        unfold cellsB
        have : l.all cellB = false := List.all_eq_false.2 ⟨_, mem_at hlt, by rw [hb]; simp⟩
        rw [this]; rfl
      refine zst ?_
      (first | refine callD (hc) ?_ | refine callDw (hc) ?_); simp only [go_sem]
      refine zst ?_
      refine ret m_rcels_ok [] ?_; exact zfh hr
  · obtain rfl : k = l.length := by omega
    have ha : l.all cellB = true := List.all_eq_true.2 fun x hx => by
      obtain ⟨j, hj, rfl⟩ := at_mem hx
      exact hk1 j hj
    have hr : cellsB l n = decide ((l.length : Int) ≤ n) := by unfold cellsB; rw [ha]; rfl
    refine zst ?_
    refine ret m_rcels_ok [] ?_; exact zfh hr
theorem flatC_snoc {l : List (List Canon)} {k : Nat} (h : k < l.length) : (l.take (k + 1)).flatten = (l.take k).flatten ++ l[k]! := by
  rw [take_snoc h, List.flatten_append]; simp
theorem flatC_le (l : List (List Canon)) (k : Nat) : (l.take k).flatten.length ≤ l.flatten.length := by
  have : l.flatten = (l.take k).flatten ++ (l.drop k).flatten := by rw [← List.flatten_append, List.take_append_drop]
  rw [this, List.length_append]; omega
set_option maxHeartbeats 4000000 in
theorem concatC_fn (l : List (List Canon)) (hb : l.flatten.length ≤ 1000000) : Fnc Try.prog 86 [.sl false 1 (l.map (slV' false 4 canonV))] (fun x obs => x = .sl true 4 (l.flatten.map canonV) ∧ obs = []) := by
  refine Fnc.wf fun hw => ?_
  simp only [V.wfs, V.wf, List.length_map] at hw
  have hm := hw.1.2
  clear hw
  refine Fnc.intro m_concat_ok (by simp) fun W S => ?_
  unfold m_concat
  simp only [ents, Nat.zero_add, Nat.reduceAdd]
  refine zst ?_
  refine ev_loopK [0, 9, 10] (fun p : {p : Nat // p ≤ l.length} => [(3, .int .i64 ((l.take p.1).flatten.length : Nat)), (11, .int .i64 p.1)]) (fun _ => []) (fun p => l.length - p.1) (⟨0, by simp⟩) 0 (by simp only [go_sem]; rfl) ?_ (by first | rfl | (simp only [go_sem]; done)) (by simp) (by first | rfl | (simp only [go_sem]; done)) (by first | rfl | (simp only [go_sem]; done)) (by first | rfl | (simp only [go_sem]; done)) ?_
  · (simp only [go_sem]; (try simp []); done)
  intro J hJ
  rintro ⟨k, hk0⟩
  by_cases hlt : k < l.length
  · have h1 := flatC_le l k
    have h2 := flatC_le l (k + 1)
    have h3 := flatC_snoc hlt
    rw [h3, List.length_append] at h2
    have h4 : ((l.take (k + 1)).flatten.length : Int) = ((l.take k).flatten.length : Int) + (l[k]!.length : Int) := by rw [h3, List.length_append]; omega
    refine zst ?_
    refine ev_next 0 (hJ _ (⟨k + 1, hlt⟩) (by first | omega | (dsimp only; omega) | (simp; omega))) rfl (by simp) ?_ (by first | rfl | (simp only [go_sem]; done)) (by first | rfl | (simp only [go_sem]; done) | (simp only [h4]; (try simp only [go_sem]); first | done | rfl)) ?_
    · exact zna h4
    · exact znb h4
  · obtain rfl : k = l.length := by omega
    have hg := growC_fn l.flatten.length hb
    refine zst ?_
    (first | refine callX (hg) ?_ | refine callXw (hg) ?_); simp only [go_sem]
    refine zst ?_
    refine ev_loopK [25, 26] (fun p : {p : Nat // p ≤ l.length} => [(6, .own 0 p.1), (27, .int .i64 p.1)]) (fun p => [⟨.row 47, true, p.1, .arr 4 ((l.take p.1).flatten.map canonV)⟩]) (fun p => l.length - p.1) (⟨0, by simp⟩) 1 (by simp only [go_sem]; rfl) ?_ (by first | rfl | (simp only [go_sem]; done)) (by simp) (by first | rfl | (simp only [go_sem]; done)) (by first | rfl | (simp only [go_sem]; done)) (by first | rfl | (simp only [go_sem]; done)) ?_
    · (simp only [go_sem]; (try simp []); done)
    intro J hJ
    rintro ⟨k, hk0⟩
    by_cases hlt : k < l.length
    · have h1 := flatC_le l (k + 1)
      have h3 := flatC_snoc hlt
      rw [h3, List.length_append] at h1
      refine zst ?_
      refine ev_next 1 (hJ _ (⟨k + 1, hlt⟩) (by first | omega | (dsimp only; omega) | (simp; omega))) rfl (by simp) ?_ (by first | rfl | (simp only [go_sem]; done)) (by first | rfl | (simp only [go_sem]; done) | (simp only [h3, List.map_append]; (try simp only [go_sem]); first | done | rfl)) ?_
      · (first | rfl | (simp only [go_sem]; done) | (simp only [go_sem]; simp only [h3, List.map_append]; done) | (simp only [h3, List.map_append]; done) | (simp only [go_sem]; simp [h3, List.map_append]; done) | (simp [h3, List.map_append]; done))
      · (simp only [go_sem]; (repeat' (refine And.intro ?_ ?_)) <;> first | exact trivial | with_reducible rfl | (simp only [h3, List.map_append]; done) | (simp only [h3, List.map_append]; with_reducible rfl) | (simp [h3, List.map_append]; done) | (simp [h3, List.map_append]; omega) | (simp only [h3, List.map_append]; rfl) | skip)
    · obtain rfl : k = l.length := by omega
      refine zst ?_
      refine ret m_concat_ok [] ?_; (first | (simp only [go_sem]; done) | (simp only [go_sem]; ((try dsimp only); (repeat' (refine And.intro ?_ ?_)) <;> first | with_reducible rfl | (simp only [go_sem]; done) | (simp only [go_sem]; rfl) | (simp only [go_sem, List.take_length]; done) | (simp only [List.take_length]; (try simp only [go_sem]); first | done | rfl) | (simp only [go_sem]; simp [List.take_length]; done) | (simp [List.take_length]; done) | rfl)))
end Go.Proofs.Ytkfpcgkmemfdaaa
/- Files: Write. -/
namespace Go.Proofs.Ytkfpcgkmemfdaaa
open Go Go.RowKit Rdn Rdn.Dp
set_option linter.unusedVariables false
set_option linter.unusedSimpArgs false
def m_wwrite : MC := .seq (.reg [⟨(some 3), none, (.m (.box 28 (.t 0)))⟩, ⟨(some 6), none, (.m (.alloc 28 (.agg [.nilS, .nilS])))⟩, ⟨(some 7), none, (.p (.mov (.c (.int .i64 0))))⟩, ⟨(some 8), none, (.p (.mov (.c (.bool false))))⟩])
 (.seq (.reg [⟨(some 14), none, (.p (.load true 2 (.t 3)))⟩, ⟨(some 15), none, (.call 65 [(.t 14)])⟩, ⟨(some 9), none, (.m (.alloc 28 (.agg [.nilS, .nilS])))⟩, ⟨none, none, (.m (.store 2 (.t 9) (.t 15)))⟩])
 (.seq (.seq (.reg [⟨(some 16), none, (.p (.load true 2 (.t 3)))⟩, ⟨(some 17), none, (.p (.mov (.t 1)))⟩, ⟨(some 18), none, (.call 85 [(.t 16), (.t 17)])⟩, ⟨(some 19), none, (.p (.un .not (.t 18)))⟩, ⟨(some 20), none, (.p (.mov (.t 19)))⟩, ⟨(some 21), (some (20, false)), (.p (.fieldA 1 1 (.t 3)))⟩, ⟨(some 22), (some (20, false)), (.p (.load false 1 (.t 21)))⟩, ⟨(some 23), (some (20, false)), (.p (.mov (.t 1)))⟩, ⟨(some 24), (some (20, false)), (.p (.idxA 3 (.t 22) (.t 23)))⟩, ⟨(some 25), (some (20, false)), (.p (.fieldA 2 2 (.t 24)))⟩, ⟨(some 26), (some (20, false)), (.p (.load false 1 (.t 25)))⟩, ⟨(some 27), (some (20, false)), (.p (.un .not (.t 26)))⟩, ⟨(some 28), none, (.p (.pick (.t 20) (.c (.bool true)) (.t 27)))⟩, ⟨(some 29), none, (.p (.mov (.t 28)))⟩, ⟨(some 30), (some (29, false)), (.p (.mov (.t 2)))⟩, ⟨(some 31), (some (29, false)), (.p (.mov (.t 2)))⟩, ⟨(some 32), (some (29, false)), (.p (.len (.t 31)))⟩, ⟨(some 33), (some (29, false)), (.call 59 [(.t 30), (.t 32)])⟩, ⟨(some 34), (some (29, false)), (.p (.un .not (.t 33)))⟩, ⟨(some 35), none, (.p (.pick (.t 29) (.c (.bool true)) (.t 34)))⟩])
 (.cond (.t 35) (.seq (.reg [⟨(some 36), none, (.p (.load true 2 (.t 9)))⟩, ⟨none, none, (.m (.store 2 (.t 6) (.t 36)))⟩, ⟨(some 7), none, (.p (.mov (.c (.int .i64 0))))⟩, ⟨(some 8), none, (.p (.mov (.c (.bool false))))⟩])
 (.ret)) (.skip)))
 (.seq (.reg [⟨(some 37), none, (.p (.fieldA 1 1 (.t 9)))⟩, ⟨(some 38), none, (.p (.load false 1 (.t 37)))⟩, ⟨(some 39), none, (.p (.mov (.t 1)))⟩, ⟨(some 40), none, (.p (.idxA 3 (.t 38) (.t 39)))⟩, ⟨(some 10), none, (.p (.mov (.t 40)))⟩])
 (.seq (.reg [⟨(some 41), none, (.p (.mov (.t 2)))⟩, ⟨(some 42), none, (.p (.len (.t 41)))⟩, ⟨(some 43), none, (.p (.mov (.t 10)))⟩, ⟨(some 44), none, (.p (.nilc (.t 43)))⟩, ⟨(some 45), none, (.p (.fieldA 1 1 (.t 44)))⟩, ⟨(some 46), none, (.p (.load false 1 (.t 45)))⟩, ⟨(some 47), none, (.p (.bin 0 .sub (.c (.int .i64 64)) (.t 46)))⟩, ⟨(some 48), none, (.p (.mn (.t 42) (.t 47)))⟩, ⟨(some 49), none, (.p (.mx (.c (.int .i64 0)) (.t 48)))⟩, ⟨(some 11), none, (.p (.mov (.t 49)))⟩])
 (.seq (.dreg [⟨(some 50), none, (.p (.fieldA 0 0 (.t 9)))⟩, ⟨(some 51), none, (.p (.load false 1 (.t 50)))⟩, ⟨(some 52), none, (.p (.mov (.t 10)))⟩, ⟨(some 53), none, (.p (.nilc (.t 52)))⟩, ⟨(some 54), none, (.p (.fieldA 0 0 (.t 53)))⟩, ⟨(some 55), none, (.p (.load false 1 (.t 54)))⟩, ⟨(some 56), none, (.p (.idxA 1 (.t 51) (.t 55)))⟩, ⟨(some 57), none, (.p (.load false 1 (.t 56)))⟩, ⟨(some 12), none, (.p (.mov (.t 57)))⟩] [[], [0], [], [2], [2, 3], [2, 3, 4], [0, 1, 2, 3, 4, 5], [0, 1, 2, 3, 4, 5, 6], [0, 1, 2, 3, 4, 5, 6, 7]])
 (.seq (.reg [⟨(some 58), none, (.p (.mov (.t 12)))⟩, ⟨(some 59), none, (.p (.mov (.t 12)))⟩, ⟨(some 60), none, (.p (.len (.t 59)))⟩, ⟨(some 61), none, (.p (.mov (.t 10)))⟩, ⟨(some 62), none, (.p (.nilc (.t 61)))⟩, ⟨(some 63), none, (.p (.fieldA 1 1 (.t 62)))⟩, ⟨(some 64), none, (.p (.load false 1 (.t 63)))⟩, ⟨(some 65), none, (.p (.mov (.t 11)))⟩, ⟨(some 66), none, (.p (.bin 0 .add (.t 64) (.t 65)))⟩, ⟨(some 67), none, (.p (.mn (.t 60) (.t 66)))⟩, ⟨(some 68), none, (.m (.sl 4 (.t 58) (some (.t 67)) none none))⟩, ⟨(some 13), none, (.p (.mov (.t 68)))⟩])
 (.seq (.dreg [⟨(some 69), none, (.p (.fieldA 0 0 (.t 9)))⟩, ⟨(some 70), none, (.p (.load false 1 (.t 69)))⟩, ⟨(some 71), none, (.p (.mov (.t 10)))⟩, ⟨(some 72), none, (.p (.nilc (.t 71)))⟩, ⟨(some 73), none, (.p (.fieldA 0 0 (.t 72)))⟩, ⟨(some 74), none, (.p (.load false 1 (.t 73)))⟩, ⟨(some 75), none, (.p (.mov (.t 12)))⟩, ⟨(some 76), none, (.p (.mov (.t 10)))⟩, ⟨(some 77), none, (.p (.nilc (.t 76)))⟩, ⟨(some 78), none, (.p (.fieldA 1 1 (.t 77)))⟩, ⟨(some 79), none, (.p (.load false 1 (.t 78)))⟩, ⟨(some 80), none, (.m (.sl 4 (.t 75) none (some (.t 79)) none))⟩, ⟨(some 81), none, (.p (.mov (.t 2)))⟩, ⟨(some 82), none, (.p (.mov (.t 11)))⟩, ⟨(some 83), none, (.m (.sl 4 (.t 81) none (some (.t 82)) none))⟩, ⟨(some 84), none, (.p (.mov (.t 13)))⟩, ⟨(some 85), none, (.m (.buildS 41 1 (.nilS) 3 [(0, (.t 80)), (1, (.t 83)), (2, (.t 84))]))⟩, ⟨(some 86), none, (.call 86 [(.t 85)])⟩, ⟨(some 87), none, (.p (.idxA 1 (.t 70) (.t 74)))⟩, ⟨none, none, (.m (.store 1 (.t 87) (.t 86)))⟩] [[], [0], [], [2], [2, 3], [2, 3, 4], [], [], [7], [7, 8], [7, 8, 9], [6, 7, 8, 9, 10], [], [], [12, 13], [], [6, 7, 8, 9, 10, 11, 12, 13, 14, 15], [6, 7, 8, 9, 10, 11, 12, 13, 14, 15, 16], [0, 1, 2, 3, 4, 5, 6, 7, 8, 9, 10, 11, 12, 13, 14, 15, 16, 17], [0, 1, 2, 3, 4, 5, 6, 7, 8, 9, 10, 11, 12, 13, 14, 15, 16, 17, 18]])
 (.seq (.reg [⟨(some 88), none, (.p (.mov (.t 10)))⟩, ⟨(some 89), none, (.p (.nilc (.t 88)))⟩, ⟨(some 90), none, (.p (.fieldA 1 1 (.t 89)))⟩, ⟨(some 91), none, (.p (.load false 1 (.t 90)))⟩, ⟨(some 92), none, (.p (.mov (.t 11)))⟩, ⟨(some 93), none, (.p (.bin 0 .add (.t 91) (.t 92)))⟩, ⟨(some 94), none, (.p (.nilc (.t 88)))⟩, ⟨(some 95), none, (.p (.fieldA 1 1 (.t 94)))⟩, ⟨none, none, (.m (.store 1 (.t 95) (.t 93)))⟩])
 (.seq (.reg [⟨(some 96), none, (.p (.load true 2 (.t 9)))⟩, ⟨(some 97), none, (.p (.mov (.t 11)))⟩, ⟨none, none, (.m (.store 2 (.t 6) (.t 96)))⟩, ⟨(some 7), none, (.p (.mov (.t 97)))⟩, ⟨(some 8), none, (.p (.mov (.c (.bool true))))⟩])
 (.ret))))))))))
theorem m_wwrite_ok : compF Try.prog 40 = some (98, m_wwrite, [.load true 2 (.t 6), .mov (.t 7), .mov (.t 8)]) := by kernel_rfl
def m_rwrite : MC := .seq (.reg [⟨(some 3), none, (.m (.box 28 (.t 0)))⟩, ⟨(some 6), none, (.m (.alloc 28 (.agg [.nilS, .nilS])))⟩, ⟨(some 7), none, (.p (.mov (.c (.int .i64 0))))⟩, ⟨(some 8), none, (.p (.mov (.c (.bool false))))⟩])
 (.seq (.reg [⟨(some 14), none, (.p (.load true 2 (.t 3)))⟩, ⟨(some 15), none, (.call 100 [(.t 14)])⟩, ⟨(some 9), none, (.m (.alloc 28 (.agg [.nilS, .nilS])))⟩, ⟨none, none, (.m (.store 2 (.t 9) (.t 15)))⟩])
 (.seq (.seq (.reg [⟨(some 16), none, (.p (.load true 2 (.t 3)))⟩, ⟨(some 17), none, (.p (.mov (.t 1)))⟩, ⟨(some 18), none, (.call 102 [(.t 16), (.t 17)])⟩, ⟨(some 19), none, (.p (.un .not (.t 18)))⟩, ⟨(some 20), none, (.p (.mov (.t 19)))⟩, ⟨(some 21), (some (20, false)), (.p (.fieldA 1 1 (.t 3)))⟩, ⟨(some 22), (some (20, false)), (.p (.load false 1 (.t 21)))⟩, ⟨(some 23), (some (20, false)), (.p (.mov (.t 1)))⟩, ⟨(some 24), (some (20, false)), (.p (.idxA 3 (.t 22) (.t 23)))⟩, ⟨(some 25), (some (20, false)), (.p (.fieldA 2 2 (.t 24)))⟩, ⟨(some 26), (some (20, false)), (.p (.load false 1 (.t 25)))⟩, ⟨(some 27), (some (20, false)), (.p (.un .not (.t 26)))⟩, ⟨(some 28), none, (.p (.pick (.t 20) (.c (.bool true)) (.t 27)))⟩, ⟨(some 29), none, (.p (.mov (.t 28)))⟩, ⟨(some 30), (some (29, false)), (.p (.mov (.t 2)))⟩, ⟨(some 31), (some (29, false)), (.p (.mov (.t 2)))⟩, ⟨(some 32), (some (29, false)), (.p (.len (.t 31)))⟩, ⟨(some 33), (some (29, false)), (.call 48 [(.t 30), (.t 32)])⟩, ⟨(some 34), (some (29, false)), (.p (.un .not (.t 33)))⟩, ⟨(some 35), none, (.p (.pick (.t 29) (.c (.bool true)) (.t 34)))⟩])
 (.cond (.t 35) (.seq (.reg [⟨(some 36), none, (.p (.load true 2 (.t 9)))⟩, ⟨none, none, (.m (.store 2 (.t 6) (.t 36)))⟩, ⟨(some 7), none, (.p (.mov (.c (.int .i64 0))))⟩, ⟨(some 8), none, (.p (.mov (.c (.bool false))))⟩])
 (.ret)) (.skip)))
 (.seq (.reg [⟨(some 37), none, (.p (.fieldA 1 1 (.t 9)))⟩, ⟨(some 38), none, (.p (.load false 1 (.t 37)))⟩, ⟨(some 39), none, (.p (.mov (.t 1)))⟩, ⟨(some 40), none, (.p (.idxA 3 (.t 38) (.t 39)))⟩, ⟨(some 10), none, (.p (.mov (.t 40)))⟩])
 (.seq (.reg [⟨(some 41), none, (.p (.mov (.t 2)))⟩, ⟨(some 42), none, (.p (.len (.t 41)))⟩, ⟨(some 43), none, (.p (.mov (.t 10)))⟩, ⟨(some 44), none, (.p (.nilc (.t 43)))⟩, ⟨(some 45), none, (.p (.fieldA 1 1 (.t 44)))⟩, ⟨(some 46), none, (.p (.load false 1 (.t 45)))⟩, ⟨(some 47), none, (.p (.bin 0 .sub (.c (.int .i64 64)) (.t 46)))⟩, ⟨(some 48), none, (.p (.mn (.t 42) (.t 47)))⟩, ⟨(some 11), none, (.p (.mov (.t 48)))⟩])
 (.seq (.dreg [⟨(some 49), none, (.p (.fieldA 0 0 (.t 9)))⟩, ⟨(some 50), none, (.p (.load false 1 (.t 49)))⟩, ⟨(some 51), none, (.p (.mov (.t 10)))⟩, ⟨(some 52), none, (.p (.nilc (.t 51)))⟩, ⟨(some 53), none, (.p (.fieldA 0 0 (.t 52)))⟩, ⟨(some 54), none, (.p (.load false 1 (.t 53)))⟩, ⟨(some 55), none, (.p (.idxA 1 (.t 50) (.t 54)))⟩, ⟨(some 56), none, (.p (.load false 1 (.t 55)))⟩, ⟨(some 12), none, (.p (.mov (.t 56)))⟩] [[], [0], [], [2], [2, 3], [2, 3, 4], [0, 1, 2, 3, 4, 5], [0, 1, 2, 3, 4, 5, 6], [0, 1, 2, 3, 4, 5, 6, 7]])
 (.seq (.seq (.reg [⟨(some 57), none, (.p (.mov (.t 11)))⟩, ⟨(some 58), none, (.p (.mov (.c (.int .i64 0))))⟩])
 (.block 0 (.loop (.seq (.reg [⟨(some 59), none, (.p (.bin 0 .lss (.t 58) (.t 57)))⟩])
 (.seq (.cond (.t 59) (.skip) (.exit 0))
 (.seq (.block 1 (.seq (.reg [⟨(some 60), none, (.p (.mov (.t 58)))⟩, ⟨(some 13), none, (.p (.mov (.t 60)))⟩])
 (.seq (.reg [⟨(some 61), none, (.p (.mov (.t 10)))⟩, ⟨(some 62), none, (.p (.nilc (.t 61)))⟩, ⟨(some 63), none, (.p (.fieldA 1 1 (.t 62)))⟩, ⟨(some 64), none, (.p (.load false 1 (.t 63)))⟩, ⟨(some 65), none, (.p (.mov (.t 13)))⟩, ⟨(some 66), none, (.p (.bin 0 .add (.t 64) (.t 65)))⟩, ⟨(some 67), none, (.p (.mov (.t 12)))⟩, ⟨(some 68), none, (.p (.len (.t 67)))⟩, ⟨(some 69), none, (.p (.bin 0 .lss (.t 66) (.t 68)))⟩])
 (.cond (.t 69) (.dreg [⟨(some 70), none, (.p (.mov (.t 12)))⟩, ⟨(some 71), none, (.p (.mov (.t 10)))⟩, ⟨(some 72), none, (.p (.nilc (.t 71)))⟩, ⟨(some 73), none, (.p (.fieldA 1 1 (.t 72)))⟩, ⟨(some 74), none, (.p (.load false 1 (.t 73)))⟩, ⟨(some 75), none, (.p (.mov (.t 13)))⟩, ⟨(some 76), none, (.p (.bin 0 .add (.t 74) (.t 75)))⟩, ⟨(some 77), none, (.p (.mov (.t 2)))⟩, ⟨(some 78), none, (.p (.mov (.t 13)))⟩, ⟨(some 79), none, (.p (.idxA 4 (.t 77) (.t 78)))⟩, ⟨(some 80), none, (.p (.load true 4 (.t 79)))⟩, ⟨(some 81), none, (.p (.idxA 4 (.t 70) (.t 76)))⟩, ⟨none, none, (.m (.store 4 (.t 81) (.t 80)))⟩] [[], [], [1], [1, 2], [1, 2, 3], [], [1, 2, 3, 4, 5], [], [], [7, 8], [7, 8, 9], [0, 1, 2, 3, 4, 5, 6, 7, 8, 9, 10], [0, 1, 2, 3, 4, 5, 6, 7, 8, 9, 10, 11]]) (.reg [⟨(some 82), none, (.p (.mov (.t 12)))⟩, ⟨(some 83), none, (.p (.mov (.t 2)))⟩, ⟨(some 84), none, (.p (.mov (.t 13)))⟩, ⟨(some 85), none, (.p (.idxA 4 (.t 83) (.t 84)))⟩, ⟨(some 86), none, (.p (.load true 4 (.t 85)))⟩, ⟨(some 87), none, (.m (.buildS 47 4 (.agg [.int .u8 0, .int .u16 0, .int .i64 0, .int .i64 0]) 1 [(0, (.t 86))]))⟩, ⟨(some 88), none, (.m (.app 47 4 24 (.t 82) (.t 87)))⟩, ⟨(some 12), none, (.p (.mov (.t 88)))⟩])))))
 (.reg [⟨(some 89), none, (.p (.bin 0 .add (.t 58) (.c (.int .i64 1))))⟩, ⟨(some 58), none, (.p (.mov (.t 89)))⟩])))))))
 (.seq (.dreg [⟨(some 90), none, (.p (.fieldA 0 0 (.t 9)))⟩, ⟨(some 91), none, (.p (.load false 1 (.t 90)))⟩, ⟨(some 92), none, (.p (.mov (.t 10)))⟩, ⟨(some 93), none, (.p (.nilc (.t 92)))⟩, ⟨(some 94), none, (.p (.fieldA 0 0 (.t 93)))⟩, ⟨(some 95), none, (.p (.load false 1 (.t 94)))⟩, ⟨(some 96), none, (.p (.mov (.t 12)))⟩, ⟨(some 97), none, (.p (.idxA 1 (.t 91) (.t 95)))⟩, ⟨none, none, (.m (.store 1 (.t 97) (.t 96)))⟩] [[], [0], [], [2], [2, 3], [2, 3, 4], [], [0, 1, 2, 3, 4, 5, 6], [0, 1, 2, 3, 4, 5, 6, 7]])
 (.seq (.reg [⟨(some 98), none, (.p (.mov (.t 10)))⟩, ⟨(some 99), none, (.p (.nilc (.t 98)))⟩, ⟨(some 100), none, (.p (.fieldA 1 1 (.t 99)))⟩, ⟨(some 101), none, (.p (.load false 1 (.t 100)))⟩, ⟨(some 102), none, (.p (.mov (.t 11)))⟩, ⟨(some 103), none, (.p (.bin 0 .add (.t 101) (.t 102)))⟩, ⟨(some 104), none, (.p (.nilc (.t 98)))⟩, ⟨(some 105), none, (.p (.fieldA 1 1 (.t 104)))⟩, ⟨none, none, (.m (.store 1 (.t 105) (.t 103)))⟩])
 (.seq (.reg [⟨(some 106), none, (.p (.load true 2 (.t 9)))⟩, ⟨(some 107), none, (.p (.mov (.t 11)))⟩, ⟨none, none, (.m (.store 2 (.t 6) (.t 106)))⟩, ⟨(some 7), none, (.p (.mov (.t 107)))⟩, ⟨(some 8), none, (.p (.mov (.c (.bool true))))⟩])
 (.ret))))))))))
theorem m_rwrite_ok : compF Try.prog 72 = some (108, m_rwrite, [.load true 2 (.t 6), .mov (.t 7), .mov (.t 8)]) := by kernel_rfl
theorem cellsB_all (l : List Canon) : cellsB l l.length = l.all cellB := by unfold cellsB; rw [decT (Int.le_refl _), Bool.and_true]
theorem over_set {D c : List Canon} {a i : Nat} (ha : a ≤ D.length) (hi : i < c.length) (h : a + i < D.length) : (over D a (c.take i)).set (a + i) c[i]! = over D a (c.take (i + 1)) := by
  have h1 : (D.take a).length = a := by rw [List.length_take]; omega
  have h2 : (c.take i).length = i := by rw [List.length_take]; omega
  have h3 : (c.take (i + 1)).length = i + 1 := by rw [List.length_take]; omega
  unfold over
  rw [List.set_append_right _ _ (by rw [List.length_append]; omega), h2, h3, List.length_append, h1, h2, Nat.sub_self, take_snoc hi]
  have e : D.drop (a + i) = D[a + i]! :: D.drop (a + (i + 1)) := by rw [getElem!_pos D (a + i) h]; exact (List.getElem_cons_drop h).symm
  rw [e, List.set_cons_zero]
  simp
theorem over_app {D c : List Canon} {a i : Nat} (ha : a ≤ D.length) (hi : i < c.length) (h : ¬ a + i < D.length) : over D a (c.take i) ++ [c[i]!] = over D a (c.take (i + 1)) := by
  unfold over
  rw [take_snoc hi, List.drop_of_length_le (by rw [List.length_take]; omega), List.drop_of_length_le (by simp; omega)]
  simp
theorem over_zero (D : List Canon) (c : List Canon) (a : Nat) : over D a (c.take 0) = D := by simp [over]
theorem over_nil (D : List Canon) (a : Nat) : over D a [] = D := by simp [over]
theorem over_flat (D c : List Canon) (a n : Nat) (ha : a ≤ D.length) (hn : n ≤ c.length) : [D.take a, c.take n, D.drop (min D.length (a + n))].flatten = over D a (c.take n) := by
  have h2 : (c.take n).length = n := by rw [List.length_take]; omega
  unfold over
  rw [h2]
  simp only [List.flatten_cons, List.flatten_nil, List.append_nil, List.append_assoc]
  congr 2
  by_cases e : a + n ≤ D.length
  · rw [Nat.min_eq_right e]
  · rw [Nat.min_eq_left (by omega), List.drop_length, List.drop_of_length_le (by omega)]
theorem sWrite_T {f : Files} {h : Int} {c : List Canon} (k : opd f h) (c1 : f.opens[h.toNat]!.write = true) (c2 : c.all cellB = true) : sWrite f h c = (⟨f.data.set f.opens[h.toNat]!.file.toNat (over (dat f h) f.opens[h.toNat]!.offset.toNat (c.take (wrn f h c).toNat)), setOff f h (f.opens[h.toNat]!.offset + wrn f h c)⟩, wrn f h c, true) := by unfold sWrite; exact if_pos ⟨k, c1, c2⟩
theorem sWrite_F {f : Files} {h : Int} {c : List Canon} (k : ¬ (opd f h ∧ f.opens[h.toNat]!.write = true ∧ c.all cellB = true)) : sWrite f h c = (f, 0, false) := by unfold sWrite; exact if_neg k
attribute [local irreducible] sWrite setOff dat wrn over
set_option maxHeartbeats 8000000 in
theorem wwrite_fn (f : Files) (F : FitF f) (h : Int) (c : List Canon) (hc : c.length ≤ 100000) : Fnc Try.prog 40 [filV f, .int .i64 h, .sl false 4 (c.map canonV)] (fun y obs => y = .tup [filV (sWrite f h c).1, .int .i64 (sWrite f h c).2.1, .bool (sWrite f h c).2.2] ∧ obs = []) := by
  refine Fnc.low ?_
  have fO := opened_fn f F h
  have fC := wcels_fn c c.length
  rw [cellsB_all] at fC
  by_cases k : opd f h
  · have ha := F.at k
    rw [decT k] at fO
    obtain ⟨i, hi⟩ : ∃ i : Nat, h = i := ⟨h.toNat, by have := k.1; omega⟩
    subst hi
    have hT := @sWrite_T f i c k
    have hF := @sWrite_F f i c
    rw [Int.toNat_natCast] at ha hT hF
    have hd := dat_nat f i
    obtain ⟨c2, c3⟩ := opd_nat k
    cases c5 : f.opens[i]!.write with
    | false =>
      rw [hF (fun k => by rw [c5] at k; cases k.2.1)]
      refine Fnc.intro m_wwrite_ok (by simp) fun W S => ?_
      unfold m_wwrite
      simp only [ents, Nat.zero_add, Nat.reduceAdd]
      refine zst ?_
      (first | refine callX (wcopy_fn f F.low) ?_ | refine callXw (wcopy_fn f F.low) ?_); simp only [go_sem]
      refine zst ?_
      (first | refine callD (fO) ?_ | refine callDw (fO) ?_); refine zev ?_
      refine zsx c5 ?_
      refine ret m_wwrite_ok [] ?_; exact zfn
    | true =>
      cases c6 : c.all cellB with
      | false =>
        rw [c6] at fC
        rw [hF (fun k => by rw [c6] at k; cases k.2.2)]
        refine Fnc.intro m_wwrite_ok (by simp) fun W S => ?_
        unfold m_wwrite
        simp only [ents, Nat.zero_add, Nat.reduceAdd]
        refine zst ?_
        (first | refine callX (wcopy_fn f F.low) ?_ | refine callXw (wcopy_fn f F.low) ?_); simp only [go_sem]
        refine zst ?_
        (first | refine callD (fO) ?_ | refine callDw (fO) ?_); refine zev ?_
        refine zsx c5 ?_
        (first | refine callD (fC) ?_ | refine callDw (fC) ?_); simp only [go_sem]
        refine zst ?_
        refine ret m_wwrite_ok [] ?_; exact zfn
      | true =>
        rw [c6] at fC
        rw [hT c5 c6]
        obtain ⟨D, hD⟩ : ∃ D, f.data[f.opens[i]!.file.toNat]! = D := ⟨_, rfl⟩
        rw [hD] at hd
        rw [hd] at ha ⊢
        have hm : (if 64 - f.opens[i]!.offset < (c.length : Int) then 64 - f.opens[i]!.offset else (c.length : Int)) = wrn f i c := by
          unfold wrn
          rw [Int.toNat_natCast]
          split <;> omega
        obtain ⟨K, hK⟩ : ∃ K : Nat, wrn f i c = K := ⟨(wrn f i c).toNat, by rw [← hm]; split <;> omega⟩
        have hKc : K ≤ c.length := by rw [hK] at hm; split at hm <;> omega
        have hK64 : f.opens[i]!.offset + K ≤ 64 := by rw [hK] at hm; split at hm <;> omega
        have hmx : (if (K : Int) > 0 then (K : Int) else 0) = K := by split <;> omega
        have ho := setOff_nat f i (f.opens[i]!.offset + K)
        have hfl := over_flat D c f.opens[i]!.offset.toNat K (by omega) hKc
        have hmn : (if f.opens[i]!.offset + (K : Int) < (D.length : Int) then f.opens[i]!.offset + (K : Int) else (D.length : Int)).toNat = min D.length (f.opens[i]!.offset.toNat + K) := by split <;> omega
        have hlo := over_len (d := D) (c := c.take K) (a := f.opens[i]!.offset.toNat) (by omega)
        rw [List.length_take] at hlo
        have hCC := concatC_fn [D.take f.opens[i]!.offset.toNat, c.take K, D.drop (min D.length (f.opens[i]!.offset.toNat + K))] (by rw [hfl]; omega)
        rw [hfl] at hCC
        rw [hK, Int.toNat_natCast]
        rw [hK] at hm
        refine Fnc.intro m_wwrite_ok (by simp) fun W S => ?_
        unfold m_wwrite
        simp only [ents, Nat.zero_add, Nat.reduceAdd]
        refine zst ?_
        (first | refine callX (wcopy_fn f F.low) ?_ | refine callXw (wcopy_fn f F.low) ?_); simp only [go_sem]
        refine zst ?_
        (first | refine callD (fO) ?_ | refine callDw (fO) ?_); refine zev ?_
        refine zsx c5 ?_
        (first | refine callD (fC) ?_ | refine callDw (fC) ?_); refine zev ?_
        repeat (first | (simp only [c5, hD, hm, hmx, hmn]; try simp only [go_sem]) | refine And.intro (by omega) ?_ | refine And.intro rfl ?_ | refine ev_ctl rfl rfl ?_ | refine evr_nil ?_ | refine evw_nil (by kernel_rfl) ?_ | (simp (disch := omega) only [takeAll, Nat.min_eq_left, Nat.min_eq_right, if_pos, if_neg, getD_map, wrapI64, modIn, fdivE, tmodE, tdivE, decT, decF, beqT, beqF, bneT, bneF, Int.toNat_natCast]; try simp only [go_sem]) | (refine ev_condTb rfl ?_ ?_; · (simp <;> omega)) | (refine ev_condFb rfl ?_ ?_; · (simp <;> omega)) | ((first | refine ev_region ?_ | refine evr_go rfl ?_ | refine evw_go rfl ?_ | refine ev_dr0 mixed rfl (by kernel_rfl) ?_ | refine ev_dr1 mixed rfl (by kernel_rfl) ?_ | refine ev_dr2 mixed rfl (by kernel_rfl) ?_); simp only [go_sem]))
        (first | refine callD (hCC) ?_ | refine callDw (hCC) ?_); simp only [go_sem]
        refine zst ?_
        refine ret m_wwrite_ok [] ?_; exact zfh ho
  · rw [decF k] at fO
    rw [sWrite_F (fun q => k q.1)]
    refine Fnc.intro m_wwrite_ok (by simp) fun W S => ?_
    unfold m_wwrite
    simp only [ents, Nat.zero_add, Nat.reduceAdd]
    refine zst ?_
    (first | refine callX (wcopy_fn f F.low) ?_ | refine callXw (wcopy_fn f F.low) ?_); simp only [go_sem]
    refine zst ?_
    (first | refine callD (fO) ?_ | refine callDw (fO) ?_); simp only [go_sem]
    refine zst ?_
    refine ret m_wwrite_ok [] ?_; exact zfn
set_option maxHeartbeats 8000000 in
theorem rwrite_fn (f : Files) (F : FitF f) (h : Int) (c : List Canon) (hc : c.length ≤ 100000) : Fnc Try.prog 72 [filV f, .int .i64 h, .sl false 4 (c.map canonV)] (fun y obs => y = .tup [filV (sWrite f h c).1, .int .i64 (sWrite f h c).2.1, .bool (sWrite f h c).2.2] ∧ obs = []) := by
  refine Fnc.low ?_
  have fO := ropen_fn f F h
  have fC := rcels_fn c c.length
  rw [cellsB_all] at fC
  by_cases k : opd f h
  · have ha := F.at k
    rw [decT k] at fO
    obtain ⟨i, hi⟩ : ∃ i : Nat, h = i := ⟨h.toNat, by have := k.1; omega⟩
    subst hi
    have hT := @sWrite_T f i c k
    have hF := @sWrite_F f i c
    rw [Int.toNat_natCast] at ha hT hF
    have hd := dat_nat f i
    obtain ⟨c2, c3⟩ := opd_nat k
    cases c5 : f.opens[i]!.write with
    | false =>
      rw [hF (fun k => by rw [c5] at k; cases k.2.1)]
      refine Fnc.intro m_rwrite_ok (by simp) fun W S => ?_
      unfold m_rwrite
      simp only [ents, Nat.zero_add, Nat.reduceAdd]
      refine zst ?_
      (first | refine callX (rcopy_fn f F.low) ?_ | refine callXw (rcopy_fn f F.low) ?_); simp only [go_sem]
      refine zst ?_
      (first | refine callD (fO) ?_ | refine callDw (fO) ?_); refine zev ?_
      refine zsx c5 ?_
      refine ret m_rwrite_ok [] ?_; exact zfn
    | true =>
      cases c6 : c.all cellB with
      | false =>
        rw [c6] at fC
        rw [hF (fun k => by rw [c6] at k; cases k.2.2)]
        refine Fnc.intro m_rwrite_ok (by simp) fun W S => ?_
        unfold m_rwrite
        simp only [ents, Nat.zero_add, Nat.reduceAdd]
        refine zst ?_
        (first | refine callX (rcopy_fn f F.low) ?_ | refine callXw (rcopy_fn f F.low) ?_); simp only [go_sem]
        refine zst ?_
        (first | refine callD (fO) ?_ | refine callDw (fO) ?_); refine zev ?_
        refine zsx c5 ?_
        (first | refine callD (fC) ?_ | refine callDw (fC) ?_); simp only [go_sem]
        refine zst ?_
        refine ret m_rwrite_ok [] ?_; exact zfn
      | true =>
        rw [c6] at fC
        rw [hT c5 c6]
        obtain ⟨D, hD⟩ : ∃ D, f.data[f.opens[i]!.file.toNat]! = D := ⟨_, rfl⟩
        have hRJ := rcopyJ_fn f F.low f.opens[i]!.file.toNat (by omega)
        rw [hD] at hd hRJ
        rw [hd] at ha ⊢
        have hm : (if 64 - f.opens[i]!.offset < (c.length : Int) then 64 - f.opens[i]!.offset else (c.length : Int)) = wrn f i c := by
          unfold wrn
          rw [Int.toNat_natCast]
          split <;> omega
        obtain ⟨K, hK⟩ : ∃ K : Nat, wrn f i c = K := ⟨(wrn f i c).toNat, by rw [← hm]; split <;> omega⟩
        have hKc : K ≤ c.length := by rw [hK] at hm; split at hm <;> omega
        have hK64 : f.opens[i]!.offset + K ≤ 64 := by rw [hK] at hm; split at hm <;> omega
        have ho := setOff_nat f i (f.opens[i]!.offset + K)
        rw [hK, Int.toNat_natCast]
        rw [hK] at hm
        obtain ⟨j, hj⟩ : ∃ j : Nat, f.opens[i]!.file = j := ⟨f.opens[i]!.file.toNat, by omega⟩
        obtain ⟨a, haa⟩ : ∃ a : Nat, f.opens[i]!.offset = a := ⟨f.opens[i]!.offset.toNat, by omega⟩
        rw [hj] at hRJ ha ho
        rw [haa] at ha ho hm hK64
        rw [hj, haa, Int.toNat_natCast, Int.toNat_natCast]
        rw [Int.toNat_natCast] at hRJ
        have hjl : j < f.data.length := by omega
        have hget : ((f.data.map (slV' true 4 canonV)).set j (.own 4 0)).getD j V.junk = .own 4 0 := by simp [List.getD_eq_getElem?_getD, hjl]
        have hsl : ((f.data.map (slV' true 4 canonV)).set j (.own 4 0)).length = f.data.length := by simp
        refine Fnc.intro m_rwrite_ok (by simp) fun W S => ?_
        unfold m_rwrite
        simp only [ents, Nat.zero_add, Nat.reduceAdd]
        refine zst ?_
        (first | refine callX (hRJ) ?_ | refine callXw (hRJ) ?_); simp only [go_sem]
        refine zst ?_
        (first | refine callD (fO) ?_ | refine callDw (fO) ?_); refine zev ?_
        refine zsx c5 ?_
        (first | refine callD (fC) ?_ | refine callDw (fC) ?_); refine zev ?_
        repeat (first | (simp only [c5, hj, haa, hm, hget, hsl]; try simp only [go_sem]) | refine And.intro (by omega) ?_ | refine And.intro rfl ?_ | refine ev_ctl rfl rfl ?_ | refine evr_nil ?_ | refine evw_nil (by kernel_rfl) ?_ | (simp (disch := omega) only [takeAll, Nat.min_eq_left, Nat.min_eq_right, if_pos, if_neg, getD_map, wrapI64, modIn, fdivE, tmodE, tdivE, decT, decF, beqT, beqF, bneT, bneF, Int.toNat_natCast]; try simp only [go_sem]) | (refine ev_condTb rfl ?_ ?_; · (simp <;> omega)) | (refine ev_condFb rfl ?_ ?_; · (simp <;> omega)) | ((first | refine ev_region ?_ | refine evr_go rfl ?_ | refine evw_go rfl ?_ | refine ev_dr0 mixed rfl (by kernel_rfl) ?_ | refine ev_dr1 mixed rfl (by kernel_rfl) ?_ | refine ev_dr2 mixed rfl (by kernel_rfl) ?_); simp only [go_sem]))
        refine ev_loopK [2, 6, 9, 10, 11, 57] (fun p : {p : Nat // p ≤ K} => [(12, .own 4 ((over D a (c.take p.1)).length - D.length)), (58, .int .i64 p.1)]) (fun p => [⟨.box false 28, true, 0, filV f⟩, ⟨.box false 28, true, 0, .agg [.nilS, .nilS]⟩, ⟨.rows 41, true, 0, .arr 1 ((f.data.map (slV' true 4 canonV)).set j (.own 4 0))⟩, ⟨.row 102, true, 0, .arr 3 (f.opens.map opnV)⟩, ⟨.row 47, true, (over D a (c.take p.1)).length - D.length, .arr 4 ((over D a (c.take p.1)).map canonV)⟩, ⟨.box false 28, true, 0, .agg [.own 2 0, .own 3 0]⟩]) (fun p => K - p.1) (⟨0, by simp⟩) 6 (by simp only [go_sem]; rfl) ?_ (by first | rfl | (simp only [go_sem]; done) | (simp only [go_sem]; simp [over_nil, Nat.sub_self]; done)) (by simp) (by first | rfl | (simp only [go_sem]; done)) (by first | rfl | (simp only [go_sem]; done)) (by first | rfl | (simp only [go_sem]; done) | (simp only [over_nil, Nat.sub_self]; (try simp only [go_sem]); first | done | rfl)) ?_
        · (simp only [go_sem]; (try simp [over_nil, Nat.sub_self]); done)
        intro J hJ
        rintro ⟨p, hp⟩
        have hlo := over_len (d := D) (c := c.take p) (a := a) (by omega)
        rw [List.length_take, Nat.min_eq_left (by omega)] at hlo
        by_cases hlt : p < K
        · have hlo1 := over_len (d := D) (c := c.take (p + 1)) (a := a) (by omega)
          rw [List.length_take, Nat.min_eq_left (by omega)] at hlo1
          by_cases cb : a + p < D.length
          · have hs := over_set (c := c) (i := p) (D := D) (a := a) (by omega) (by omega) cb
            have hg : (over D a (c.take (p + 1))).length - D.length = (over D a (c.take p)).length - D.length := by omega
            have hap : ((a : Int) + (p : Int)).toNat = a + p := by omega
            repeat (first | (simp only [hj, haa, hap]; try simp only [go_sem]) | refine And.intro (by omega) ?_ | refine And.intro rfl ?_ | refine ev_ctl rfl rfl ?_ | refine evr_nil ?_ | refine evw_nil (by kernel_rfl) ?_ | (simp (disch := omega) only [takeAll, Nat.min_eq_left, Nat.min_eq_right, if_pos, if_neg, getD_map, wrapI64, modIn, fdivE, tmodE, tdivE, decT, decF, beqT, beqF, bneT, bneF, Int.toNat_natCast]; try simp only [go_sem]) | (refine ev_condTb rfl ?_ ?_; · (simp <;> omega)) | (refine ev_condFb rfl ?_ ?_; · (simp <;> omega)) | ((first | refine ev_region ?_ | refine evr_go rfl ?_ | refine evw_go rfl ?_ | refine ev_dr0 mixed rfl (by kernel_rfl) ?_ | refine ev_dr1 mixed rfl (by kernel_rfl) ?_ | refine ev_dr2 mixed rfl (by kernel_rfl) ?_); simp only [go_sem]))
            refine ev_next 6 (hJ _ (⟨p + 1, hlt⟩) (by first | omega | (dsimp only; omega) | (simp; omega))) rfl (by simp) ?_ (by first | rfl | (simp only [go_sem]; done)) (by first | rfl | (simp only [go_sem]; done) | (simp only [hs, hg]; (try simp only [go_sem]); first | done | rfl)) ?_
            · exact zna (And.intro hs (hg))
            · exact znb (And.intro hs (hg))
          · have hs := over_app (c := c) (i := p) (D := D) (a := a) (by omega) (by omega) cb
            have hg : (over D a (c.take (p + 1))).length - D.length = (over D a (c.take p)).length - D.length + 1 := by omega
            repeat (first | (simp only [hj, haa]; try simp only [go_sem]) | refine And.intro (by omega) ?_ | refine And.intro rfl ?_ | refine ev_ctl rfl rfl ?_ | refine evr_nil ?_ | refine evw_nil (by kernel_rfl) ?_ | (simp (disch := omega) only [takeAll, Nat.min_eq_left, Nat.min_eq_right, if_pos, if_neg, getD_map, wrapI64, modIn, fdivE, tmodE, tdivE, decT, decF, beqT, beqF, bneT, bneF, Int.toNat_natCast]; try simp only [go_sem]) | (refine ev_condTb rfl ?_ ?_; · (simp <;> omega)) | (refine ev_condFb rfl ?_ ?_; · (simp <;> omega)) | ((first | refine ev_region ?_ | refine evr_go rfl ?_ | refine evw_go rfl ?_ | refine ev_dr0 mixed rfl (by kernel_rfl) ?_ | refine ev_dr1 mixed rfl (by kernel_rfl) ?_ | refine ev_dr2 mixed rfl (by kernel_rfl) ?_); simp only [go_sem]))
            refine ev_next 6 (hJ _ (⟨p + 1, hlt⟩) (by first | omega | (dsimp only; omega) | (simp; omega))) rfl (by simp) ?_ (by first | rfl | (simp only [go_sem]; done)) (by first | rfl | (simp only [go_sem]; done) | (simp only [hs, hg]; (try simp only [go_sem]); first | done | rfl)) ?_
            · exact zna (And.intro hs (hg))
            · exact znb (And.intro hs (hg))
        · obtain rfl : p = K := by omega
          repeat (first | (simp only [hj, haa, hsl, hget]; try simp only [go_sem]) | refine And.intro (by omega) ?_ | refine And.intro rfl ?_ | refine ev_ctl rfl rfl ?_ | refine evr_nil ?_ | refine evw_nil (by kernel_rfl) ?_ | (simp (disch := omega) only [takeAll, Nat.min_eq_left, Nat.min_eq_right, if_pos, if_neg, getD_map, wrapI64, modIn, fdivE, tmodE, tdivE, decT, decF, beqT, beqF, bneT, bneF, Int.toNat_natCast]; try simp only [go_sem]) | (refine ev_condTb rfl ?_ ?_; · (simp <;> omega)) | (refine ev_condFb rfl ?_ ?_; · (simp <;> omega)) | ((first | refine ev_region ?_ | refine evr_go rfl ?_ | refine evw_go rfl ?_ | refine ev_dr0 mixed rfl (by kernel_rfl) ?_ | refine ev_dr1 mixed rfl (by kernel_rfl) ?_ | refine ev_dr2 mixed rfl (by kernel_rfl) ?_); simp only [go_sem]))
          have hq : ((((f.data.map (slV' true 4 canonV)).set j (.own 4 0)).set j (.own 4 ((over D a (c.take p)).length - D.length))).set j (V.sl true 4 ((over D a (c.take p)).map canonV))) = (f.data.set j (over D a (c.take p))).map (slV' true 4 canonV) := by rw [List.set_set, List.set_set, set_slV]
          refine ev_frzIn 2 j 4 rfl rfl (by simp [hjl]) ?_
          simp only [hq, List.set_cons_zero, List.set_cons_succ]
          refine ev_toRow 2 rfl (pures_lo _ _) ?_
          refine ret m_rwrite_ok [] ?_; exact zfh ho
  · rw [decF k] at fO
    rw [sWrite_F (fun q => k q.1)]
    refine Fnc.intro m_rwrite_ok (by simp) fun W S => ?_
    unfold m_rwrite
    simp only [ents, Nat.zero_add, Nat.reduceAdd]
    refine zst ?_
    (first | refine callX (rcopy_fn f F.low) ?_ | refine callXw (rcopy_fn f F.low) ?_); simp only [go_sem]
    refine zst ?_
    (first | refine callD (fO) ?_ | refine callDw (fO) ?_); simp only [go_sem]
    refine zst ?_
    refine ret m_rwrite_ok [] ?_; exact zfn
end Go.Proofs.Ytkfpcgkmemfdaaa
/- Files: new ones of the program; the sanity check. -/
namespace Go.Proofs.Ytkfpcgkmemfdaaa
open Go Go.RowKit Rdn Rdn.Dp
set_option linter.unusedVariables false
set_option linter.unusedSimpArgs false
def m_wnum : MC := .seq (.reg [⟨(some 2), none, (.p (.mov (.c (.nilS))))⟩])
 (.seq (.reg [⟨(some 3), none, (.p (.mov (.c (.nilS))))⟩])
 (.seq (.seq (.reg [⟨(some 6), none, (.p (.mov (.t 0)))⟩, ⟨(some 7), none, (.p (.len (.t 6)))⟩, ⟨(some 8), none, (.p (.mov (.c (.int .i64 0))))⟩])
 (.block 0 (.loop (.seq (.reg [⟨(some 9), none, (.p (.bin 0 .lss (.t 8) (.t 7)))⟩])
 (.seq (.cond (.t 9) (.skip) (.exit 0))
 (.seq (.block 1 (.seq (.reg [⟨(some 10), none, (.p (.idxA 1 (.t 6) (.t 8)))⟩, ⟨(some 11), none, (.p (.load false 1 (.t 10)))⟩, ⟨(some 5), none, (.p (.mov (.t 11)))⟩])
 (.reg [⟨(some 12), none, (.p (.mov (.t 3)))⟩, ⟨(some 13), none, (.p (.mov (.t 5)))⟩, ⟨(some 14), none, (.m (.build none [.int .u8 0, .int .u16 0, .int .i64 0, .int .i64 0] [(0, (.c (.int .u8 0))), (1, (.t 13))]))⟩, ⟨(some 15), none, (.m (.buildS 47 4 (.agg [.int .u8 0, .int .u16 0, .int .i64 0, .int .i64 0]) 1 [(0, (.t 14))]))⟩, ⟨(some 16), none, (.m (.app 47 4 24 (.t 12) (.t 15)))⟩, ⟨(some 3), none, (.p (.mov (.t 16)))⟩])))
 (.reg [⟨(some 17), none, (.p (.bin 0 .add (.t 8) (.c (.int .i64 1))))⟩, ⟨(some 8), none, (.p (.mov (.t 17)))⟩])))))))
 (.seq (.reg [⟨(some 18), none, (.p (.mov (.t 3)))⟩, ⟨(some 2), none, (.p (.mov (.t 18)))⟩])
 (.ret))))
theorem m_wnum_ok : compF Try.prog 56 = some (19, m_wnum, [.mov (.t 2)]) := by kernel_rfl
def m_wnew : MC := .seq (.reg [⟨(some 2), none, (.m (.alloc 28 (.agg [.nilS, .nilS])))⟩, ⟨(some 3), none, (.p (.mov (.c (.int .i64 0))))⟩])
 (.seq (.reg [⟨(some 8), none, (.m (.mkS 102 3 24 (.agg [.int .i64 0, .int .i64 0, .bool false]) (.c (.int .i64 8)) (.c (.int .i64 8))))⟩, ⟨(some 9), none, (.m (.build none [.nilS, .nilS] [(1, (.t 8))]))⟩, ⟨(some 4), none, (.m (.alloc 28 (.agg [.nilS, .nilS])))⟩, ⟨none, none, (.m (.store 2 (.t 4) (.t 9)))⟩])
 (.seq (.seq (.reg [⟨(some 10), none, (.p (.fieldA 1 1 (.t 4)))⟩, ⟨(some 11), none, (.p (.load false 1 (.t 10)))⟩, ⟨(some 12), none, (.p (.len (.t 11)))⟩, ⟨(some 13), none, (.p (.mov (.c (.int .i64 0))))⟩])
 (.block 0 (.loop (.seq (.reg [⟨(some 14), none, (.p (.bin 0 .lss (.t 13) (.t 12)))⟩])
 (.seq (.cond (.t 14) (.skip) (.exit 0))
 (.seq (.block 1 (.seq (.reg [⟨(some 15), none, (.p (.mov (.t 13)))⟩, ⟨(some 5), none, (.p (.mov (.t 15)))⟩])
 (.reg [⟨(some 16), none, (.p (.fieldA 1 1 (.t 4)))⟩, ⟨(some 17), none, (.p (.load false 1 (.t 16)))⟩, ⟨(some 18), none, (.p (.mov (.t 5)))⟩, ⟨(some 19), none, (.p (.idxA 3 (.t 17) (.t 18)))⟩, ⟨(some 20), none, (.p (.fieldA 0 0 (.t 19)))⟩, ⟨none, none, (.m (.store 1 (.t 20) (.c (.int .i64 (-1)))))⟩])))
 (.reg [⟨(some 21), none, (.p (.bin 0 .add (.t 13) (.c (.int .i64 1))))⟩, ⟨(some 13), none, (.p (.mov (.t 21)))⟩])))))))
 (.seq (.seq (.reg [⟨(some 22), none, (.p (.mov (.t 0)))⟩, ⟨(some 23), none, (.p (.len (.t 22)))⟩, ⟨(some 24), none, (.p (.mov (.c (.int .i64 0))))⟩])
 (.block 2 (.loop (.seq (.reg [⟨(some 25), none, (.p (.bin 0 .lss (.t 24) (.t 23)))⟩])
 (.seq (.cond (.t 25) (.skip) (.exit 2))
 (.seq (.block 3 (.seq (.reg [⟨(some 26), none, (.p (.idxA 1 (.t 22) (.t 24)))⟩, ⟨(some 27), none, (.p (.load false 1 (.t 26)))⟩, ⟨(some 7), none, (.p (.mov (.t 27)))⟩])
 (.seq (.seq (.reg [⟨(some 28), none, (.p (.mov (.t 0)))⟩, ⟨(some 29), none, (.p (.len (.t 28)))⟩, ⟨(some 30), none, (.p (.bin 0 .gtr (.t 29) (.c (.int .i64 4))))⟩, ⟨(some 31), none, (.p (.mov (.t 30)))⟩, ⟨(some 32), (some (31, false)), (.p (.mov (.t 7)))⟩, ⟨(some 33), (some (31, false)), (.p (.len (.t 32)))⟩, ⟨(some 34), (some (31, false)), (.p (.bin 0 .gtr (.t 33) (.c (.int .i64 64))))⟩, ⟨(some 35), none, (.p (.pick (.t 31) (.c (.bool true)) (.t 34)))⟩])
 (.cond (.t 35) (.seq (.reg [⟨(some 36), none, (.m (.build none [.nilS, .nilS] []))⟩, ⟨none, none, (.m (.store 2 (.t 2) (.t 36)))⟩, ⟨(some 3), none, (.p (.mov (.c (.int .i64 3))))⟩])
 (.ret)) (.skip)))
 (.dreg [⟨(some 37), none, (.p (.fieldA 0 0 (.t 4)))⟩, ⟨(some 38), none, (.p (.load false 1 (.t 37)))⟩, ⟨(some 39), none, (.p (.mov (.t 7)))⟩, ⟨(some 40), none, (.call 56 [(.t 39)])⟩, ⟨(some 41), none, (.m (.buildS 41 1 (.nilS) 1 [(0, (.t 40))]))⟩, ⟨(some 42), none, (.m (.app 41 1 24 (.t 38) (.t 41)))⟩, ⟨(some 43), none, (.p (.fieldA 0 0 (.t 4)))⟩, ⟨none, none, (.m (.store 1 (.t 43) (.t 42)))⟩] [[], [0], [], [2], [2, 3], [0, 1, 2, 3, 4], [0, 1, 2, 3, 4, 5], [0, 1, 2, 3, 4, 5, 6]]))))
 (.reg [⟨(some 44), none, (.p (.bin 0 .add (.t 24) (.c (.int .i64 1))))⟩, ⟨(some 24), none, (.p (.mov (.t 44)))⟩])))))))
 (.seq (.reg [⟨(some 45), none, (.p (.load true 2 (.t 4)))⟩, ⟨none, none, (.m (.store 2 (.t 2) (.t 45)))⟩, ⟨(some 3), none, (.p (.mov (.c (.int .i64 0))))⟩])
 (.ret)))))
theorem m_wnew_ok : compF Try.prog 23 = some (46, m_wnew, [.load true 2 (.t 2), .mov (.t 3)]) := by kernel_rfl
theorem numC_app (l : List Int) (v : Int) : numC (l ++ [v]) = numC l ++ [⟨0, v, 0, 0⟩] := by simp [numC]
set_option maxHeartbeats 4000000 in
theorem wnum_fn (l : List Int) (hl : l.length ≤ 1000000) : Fnc Try.prog 56 [.sl false 1 (u16s l)] (fun x obs => x = .sl true 4 ((numC l).map canonV) ∧ obs = []) := by
  refine Fnc.intro m_wnum_ok (by simp) fun W S => ?_
  unfold m_wnum
  simp only [ents, Nat.zero_add, Nat.reduceAdd]
  refine zst ?_
  refine ev_adopt (i := 3) (e := 47) (s := 4) rfl (by decide) ?_
  refine ev_loopK [6, 7] (fun p : {p : Nat // p ≤ l.length} => [(3, .own 0 p.1), (8, .int .i64 p.1)]) (fun p => [⟨.row 47, true, p.1, .arr 4 ((numC (l.take p.1)).map canonV)⟩]) (fun p => l.length - p.1) (⟨0, by simp⟩) 1 (by simp only [go_sem]; rfl) ?_ (by first | rfl | (simp only [go_sem]; done) | (simp only [go_sem]; simp [numC_zero]; done)) (by simp) (by first | rfl | (simp only [go_sem]; done)) (by first | rfl | (simp only [go_sem]; done)) (by first | rfl | (simp only [go_sem]; done) | (simp only [numC_zero]; (try simp only [go_sem]); first | done | rfl)) ?_
  · (simp only [go_sem]; (try simp [numC_zero]); done)
  intro J hJ
  rintro ⟨k, hk0⟩
  by_cases hlt : k < l.length
  · have h1 := numC_len (l.take k)
    have h2 : (l.take k).length = k := by rw [List.length_take]; omega
    have hs := numC_snoc hlt
    refine zst ?_
    refine ev_next 1 (hJ _ (⟨k + 1, hlt⟩) (by first | omega | (dsimp only; omega) | (simp; omega))) rfl (by simp) ?_ (by first | rfl | (simp only [go_sem]; done)) (by first | rfl | (simp only [go_sem]; done) | (simp only [hs]; (try simp only [go_sem]); first | done | rfl)) ?_
    · exact zna hs
    · exact znb hs
  · obtain rfl : k = l.length := by omega
    refine zst ?_
    refine ret m_wnum_ok [] ?_; (first | (simp only [go_sem]; done) | (simp only [go_sem]; ((try dsimp only); (repeat' (refine And.intro ?_ ?_)) <;> first | with_reducible rfl | (simp only [go_sem]; done) | (simp only [go_sem]; rfl) | (simp only [go_sem, List.take_length]; done) | (simp only [List.take_length]; (try simp only [go_sem]); first | done | rfl) | (simp only [go_sem]; simp [List.take_length]; done) | (simp [List.take_length]; done) | rfl)))
def eight : List Opn := [shut, shut, shut, shut, shut, shut, shut, shut]
theorem eight_V : eight.map opnV = [openN, openN, openN, openN, openN, openN, openN, openN] := rfl
def okNew (data : List (List Int)) : Prop := data = [] ∨ (data.length ≤ 4 ∧ ∀ x ∈ data, x.length ≤ 64)
instance (data : List (List Int)) : Decidable (okNew data) := by unfold okNew; exact inferInstance
def sNew (data : List (List Int)) : Files × Int := if okNew data then (⟨data.map numC, eight⟩, 0) else (⟨[], []⟩, 3)
theorem sNew_T {data : List (List Int)} (h : okNew data) : sNew data = (⟨data.map numC, eight⟩, 0) := if_pos h
theorem sNew_F {data : List (List Int)} (h : ¬ okNew data) : sNew data = (⟨[], []⟩, 3) := if_neg h
attribute [local irreducible] eight numC sNew
set_option maxHeartbeats 16000000 in
theorem wnew_fn (data : List (List Int)) (hd : data.length ≤ 1000) : Fnc Try.prog 23 [.sl false 1 (data.map (slV' false 1 (V.int .u16)))] (fun x obs => x = .tup [filV (sNew data).1, .int .i64 (sNew data).2] ∧ obs = []) := by
  refine Fnc.wf fun hw => ?_
  have hm : ∀ k, k < data.length → data[k]!.length ≤ 140737488355328 := fun k hk => by
    have := hw.1
    simp only [V.wf, wfs_map] at this
    have := this.1 _ (mem_at hk)
    simp only [slV', V.wf, List.length_map] at this
    exact this.2
  clear hw
  refine Fnc.low ?_
  have h8 := eight_V
  refine Fnc.intro m_wnew_ok (by simp) fun W S => ?_
  unfold m_wnew
  simp only [ents, Nat.zero_add, Nat.reduceAdd]
  refine zst ?_
  refine ev_unroll 9 ?_
  refine zst ?_
  refine ev_adoptB 2 0 41 1 rfl rfl (by decide) rfl ?_
  by_cases c : data.length ≤ 4
  · skip
    refine ev_loopK [0, 2, 4, 22, 23] (fun p : {p : Nat // p ≤ data.length ∧ ∀ j, j < p → data[j]!.length ≤ 64} => [(24, .int .i64 p.1)]) (fun p => [⟨.box false 28, true, 0, .agg [.nilS, .nilS]⟩, ⟨.row 102, true, 0, .arr 3 (eight.map opnV)⟩, ⟨.box false 28, true, 0, .agg [.own 3 p.1, .own 1 0]⟩, ⟨.row 41, true, p.1, .arr 1 (((data.take p.1).map numC).map (slV' true 4 canonV))⟩]) (fun p => data.length - p.1) (⟨0, by simp⟩) 4 (by simp only [go_sem]; rfl) ?_ (by first | rfl | (simp only [go_sem]; done) | (simp only [go_sem]; simp [h8]; done)) (by simp) (by first | rfl | (simp only [go_sem]; done)) (by first | rfl | (simp only [go_sem]; done)) (by first | rfl | (simp only [go_sem]; done) | (simp only [h8]; (try simp only [go_sem]); first | done | rfl)) ?_
    · (simp only [go_sem]; (try simp [h8]); done)
    intro J hJ
    rintro ⟨k, hk0, hk1⟩
    by_cases hlt : k < data.length
    · have h3 := hm k hlt
      by_cases c2 : data[k]!.length ≤ 64
      · have fn := wnum_fn data[k]! (by omega)
        have h2 : ((data.take k).map numC).length = k := by rw [List.length_map, List.length_take]; omega
        have hs : ((data.take k).map numC) ++ [numC data[k]!] = (data.take (k + 1)).map numC := by rw [take_snoc hlt, List.map_append]; rfl
        have hS : ∀ j, j < k + 1 → data[j]!.length ≤ 64 := fun j hj => by
          by_cases e : j = k
          · subst e; exact c2
          · exact hk1 j (by omega)
        refine zst ?_
        (first | refine callD (fn) ?_ | refine callDw (fn) ?_); simp only [go_sem]
        refine zst ?_
        refine ev_next 4 (hJ _ (⟨k + 1, hlt, hS⟩) (by first | omega | (dsimp only; omega) | (simp; omega))) rfl (by simp) ?_ (by first | rfl | (simp only [go_sem]; done)) (by first | rfl | (simp only [go_sem]; done) | (simp only [hs]; (try simp only [go_sem]); first | done | rfl)) ?_
        · exact zna hs
        · exact znb hs
      · rw [sNew_F (fun h => by
          rcases h with h | h
          · rw [h] at hlt; simp at hlt
          · exact c2 (h.2 _ (mem_at hlt)))]
        refine zst ?_
        refine ev_obSub 0 (.agg [.sl false 1 [], .sl false 3 []]) rfl (SubV.agg ⟨SubV.nil _ _, SubV.nil _ _, trivial⟩) rfl ?_
        refine ret m_wnew_ok [] ?_; exact zfn
    · obtain rfl : k = data.length := by omega
      rw [sNew_T (.inr ⟨c, fun x hx => by obtain ⟨j, hj, rfl⟩ := at_mem hx; exact hk1 j hj⟩)]
      have hT : data.take data.length = data := List.take_length
      refine zsx hT ?_
      refine ret m_wnew_ok [] ?_; exact zfn
  · rw [sNew_F (fun h => by
      rcases h with h | h
      · rw [h] at c; simp at c
      · exact c h.1)]
    refine ev_unroll 1 ?_
    refine zst ?_
    refine ev_obSub 0 (.agg [.sl false 1 [], .sl false 3 []]) rfl (SubV.agg ⟨SubV.nil _ _, SubV.nil _ _, trivial⟩) rfl ?_
    refine ret m_wnew_ok [] ?_; exact zfn
theorem aw17_1 : sNew [[1, 2, 3]] = (⟨[[⟨0, 1, 0, 0⟩, ⟨0, 2, 0, 0⟩, ⟨0, 3, 0, 0⟩]], eight⟩, 0) := by
  rw [sNew_T (.inr ⟨by decide, by simp⟩)]; unfold numC; rfl
end Go.Proofs.Ytkfpcgkmemfdaaa
