/- U4, U5, U6, U7, in one text. -/
import Derived.Test.YtkfpcgkmemfdaaaUO
import Derived.Test.YtkfpcgkmemfdaaaZt
/- Requests: what calls take. -/
namespace Go.Proofs.Ytkfpcgkmemfdaaa
open Go Go.RowKit Rdn Rdn.Dp
set_option linter.unusedVariables false
set_option linter.unusedSimpArgs false
def m_wkin : MC := .seq (.reg [⟨(some 2), none, (.p (.mov (.c (.str ByteArray.empty))))⟩, ⟨(some 3), none, (.p (.mov (.c (.int .i64 0))))⟩, ⟨(some 4), none, (.p (.mov (.c (.bool false))))⟩])
 (.seq (.seq (.reg [⟨(some 5), none, (.p (.mov (.t 0)))⟩])
 (.block 0 (.seq (.seq (.reg [⟨(some 7), none, (.p (.bin 0 .eql (.t 5) (.c (.int .i64 0))))⟩, ⟨(some 6), none, (.p (.mov (.t 7)))⟩])
 (.cond (.t 6) (.skip) (.seq (.reg [⟨(some 8), none, (.p (.bin 0 .eql (.t 5) (.c (.int .i64 8))))⟩, ⟨(some 6), none, (.p (.mov (.t 8)))⟩])
 (.cond (.t 6) (.skip) (.seq (.reg [⟨(some 9), none, (.p (.bin 0 .eql (.t 5) (.c (.int .i64 9))))⟩, ⟨(some 6), none, (.p (.mov (.t 9)))⟩])
 (.cond (.t 6) (.skip) (.seq (.reg [⟨(some 10), none, (.p (.bin 0 .eql (.t 5) (.c (.int .i64 11))))⟩, ⟨(some 6), none, (.p (.mov (.t 10)))⟩])
 (.cond (.t 6) (.skip) (.reg [⟨(some 11), none, (.p (.bin 0 .eql (.t 5) (.c (.int .i64 12))))⟩, ⟨(some 6), none, (.p (.mov (.t 11)))⟩])))))))))
 (.cond (.t 6) (.seq (.reg [⟨(some 2), none, (.p (.mov (.c (.str ⟨#[78]⟩))))⟩, ⟨(some 3), none, (.p (.mov (.c (.int .i64 0))))⟩, ⟨(some 4), none, (.p (.mov (.c (.bool true))))⟩])
 (.ret)) (.seq (.reg [⟨(some 13), none, (.p (.bin 0 .eql (.t 5) (.c (.int .i64 1))))⟩, ⟨(some 12), none, (.p (.mov (.t 13)))⟩])
 (.cond (.t 12) (.seq (.reg [⟨(some 2), none, (.p (.mov (.c (.str ⟨#[72, 80, 78]⟩))))⟩, ⟨(some 3), none, (.p (.mov (.c (.int .i64 1))))⟩, ⟨(some 4), none, (.p (.mov (.c (.bool true))))⟩])
 (.ret)) (.seq (.reg [⟨(some 15), none, (.p (.bin 0 .eql (.t 5) (.c (.int .i64 2))))⟩, ⟨(some 14), none, (.p (.mov (.t 15)))⟩])
 (.cond (.t 14) (.seq (.reg [⟨(some 2), none, (.p (.mov (.c (.str ⟨#[72, 80, 78]⟩))))⟩, ⟨(some 3), none, (.p (.mov (.c (.int .i64 2))))⟩, ⟨(some 4), none, (.p (.mov (.c (.bool true))))⟩])
 (.ret)) (.seq (.reg [⟨(some 17), none, (.p (.bin 0 .eql (.t 5) (.c (.int .i64 3))))⟩, ⟨(some 16), none, (.p (.mov (.t 17)))⟩])
 (.cond (.t 16) (.seq (.reg [⟨(some 2), none, (.p (.mov (.c (.str ⟨#[78, 78]⟩))))⟩, ⟨(some 3), none, (.p (.mov (.c (.int .i64 0))))⟩, ⟨(some 4), none, (.p (.mov (.c (.bool true))))⟩])
 (.ret)) (.seq (.reg [⟨(some 19), none, (.p (.bin 0 .eql (.t 5) (.c (.int .i64 4))))⟩, ⟨(some 18), none, (.p (.mov (.t 19)))⟩])
 (.cond (.t 18) (.seq (.reg [⟨(some 2), none, (.p (.mov (.c (.str ⟨#[72]⟩))))⟩, ⟨(some 3), none, (.p (.mov (.c (.int .i64 0))))⟩, ⟨(some 4), none, (.p (.mov (.c (.bool true))))⟩])
 (.ret)) (.seq (.reg [⟨(some 21), none, (.p (.bin 0 .eql (.t 5) (.c (.int .i64 5))))⟩, ⟨(some 20), none, (.p (.mov (.t 21)))⟩])
 (.cond (.t 20) (.seq (.reg [⟨(some 2), none, (.p (.mov (.c (.str ⟨#[72, 78]⟩))))⟩, ⟨(some 3), none, (.p (.mov (.c (.int .i64 0))))⟩, ⟨(some 4), none, (.p (.mov (.c (.bool true))))⟩])
 (.ret)) (.seq (.seq (.reg [⟨(some 23), none, (.p (.bin 0 .eql (.t 5) (.c (.int .i64 6))))⟩, ⟨(some 22), none, (.p (.mov (.t 23)))⟩])
 (.cond (.t 22) (.skip) (.seq (.reg [⟨(some 24), none, (.p (.bin 0 .eql (.t 5) (.c (.int .i64 7))))⟩, ⟨(some 22), none, (.p (.mov (.t 24)))⟩])
 (.cond (.t 22) (.skip) (.reg [⟨(some 25), none, (.p (.bin 0 .eql (.t 5) (.c (.int .i64 15))))⟩, ⟨(some 22), none, (.p (.mov (.t 25)))⟩])))))
 (.cond (.t 22) (.seq (.reg [⟨(some 2), none, (.p (.mov (.c (.str ByteArray.empty))))⟩, ⟨(some 3), none, (.p (.mov (.c (.int .i64 0))))⟩, ⟨(some 4), none, (.p (.mov (.c (.bool true))))⟩])
 (.ret)) (.seq (.reg [⟨(some 27), none, (.p (.bin 0 .eql (.t 5) (.c (.int .i64 10))))⟩, ⟨(some 26), none, (.p (.mov (.t 27)))⟩])
 (.cond (.t 26) (.seq (.reg [⟨(some 2), none, (.p (.mov (.c (.str ⟨#[78, 88]⟩))))⟩, ⟨(some 3), none, (.p (.mov (.c (.int .i64 0))))⟩, ⟨(some 4), none, (.p (.mov (.c (.bool true))))⟩])
 (.ret)) (.seq (.reg [⟨(some 29), none, (.p (.bin 0 .eql (.t 5) (.c (.int .i64 13))))⟩, ⟨(some 28), none, (.p (.mov (.t 29)))⟩])
 (.cond (.t 28) (.seq (.reg [⟨(some 2), none, (.p (.mov (.c (.str ⟨#[78, 80, 78]⟩))))⟩, ⟨(some 3), none, (.p (.mov (.c (.int .i64 1))))⟩, ⟨(some 4), none, (.p (.mov (.c (.bool true))))⟩])
 (.ret)) (.seq (.reg [⟨(some 31), none, (.p (.bin 0 .eql (.t 5) (.c (.int .i64 14))))⟩, ⟨(some 30), none, (.p (.mov (.t 31)))⟩])
 (.cond (.t 30) (.seq (.reg [⟨(some 2), none, (.p (.mov (.c (.str ⟨#[78, 80, 78]⟩))))⟩, ⟨(some 3), none, (.p (.mov (.c (.int .i64 2))))⟩, ⟨(some 4), none, (.p (.mov (.c (.bool true))))⟩])
 (.ret)) (.skip)))))))))))))))))))))))
 (.seq (.reg [⟨(some 2), none, (.p (.mov (.c (.str ByteArray.empty))))⟩, ⟨(some 3), none, (.p (.mov (.c (.int .i64 0))))⟩, ⟨(some 4), none, (.p (.mov (.c (.bool false))))⟩])
 (.ret)))
theorem m_wkin_ok : compF Try.prog 84 = some (32, m_wkin, [.mov (.t 2), .mov (.t 3), .mov (.t 4)]) := by kernel_rfl
def m_wbuf : MC := .seq (.reg [⟨(some 2), none, (.p (.mov (.c (.int .i64 0))))⟩])
 (.seq (.reg [⟨(some 7), none, (.p (.mov (.t 0)))⟩, ⟨(some 8), none, (.call 84 [(.t 7)])⟩, ⟨(some 6), none, (.p (.mov (.t 8)))⟩, ⟨(some 9), none, (.p (.ext (.t 6) 0))⟩, ⟨(some 10), none, (.p (.ext (.t 6) 1))⟩, ⟨(some 11), none, (.p (.ext (.t 6) 2))⟩, ⟨(some 3), none, (.p (.mov (.t 9)))⟩, ⟨(some 4), none, (.p (.mov (.t 10)))⟩, ⟨(some 5), none, (.p (.mov (.t 11)))⟩])
 (.seq (.seq (.reg [⟨(some 12), none, (.p (.mov (.t 5)))⟩, ⟨(some 13), none, (.p (.un .not (.t 12)))⟩])
 (.cond (.t 13) (.seq (.reg [⟨(some 2), none, (.p (.mov (.c (.int .i64 (-1)))))⟩])
 (.ret)) (.skip)))
 (.seq (.reg [⟨(some 14), none, (.p (.mov (.t 4)))⟩, ⟨(some 2), none, (.p (.mov (.t 14)))⟩])
 (.ret))))
theorem m_wbuf_ok : compF Try.prog 37 = some (15, m_wbuf, [.mov (.t 2)]) := by kernel_rfl
def m_wfit : MC := .seq (.reg [⟨(some 4), none, (.p (.mov (.c (.bool false))))⟩])
 (.seq (.reg [⟨(some 11), none, (.p (.mov (.t 0)))⟩, ⟨(some 12), none, (.call 84 [(.t 11)])⟩, ⟨(some 10), none, (.p (.mov (.t 12)))⟩, ⟨(some 13), none, (.p (.ext (.t 10) 0))⟩, ⟨(some 14), none, (.p (.ext (.t 10) 1))⟩, ⟨(some 15), none, (.p (.ext (.t 10) 2))⟩, ⟨(some 5), none, (.p (.mov (.t 13)))⟩, ⟨(some 6), none, (.p (.mov (.t 14)))⟩, ⟨(some 7), none, (.p (.mov (.t 15)))⟩])
 (.seq (.seq (.reg [⟨(some 16), none, (.p (.mov (.t 7)))⟩, ⟨(some 17), none, (.p (.un .not (.t 16)))⟩, ⟨(some 18), none, (.p (.mov (.t 17)))⟩, ⟨(some 19), (some (18, false)), (.p (.mov (.t 1)))⟩, ⟨(some 20), (some (18, false)), (.p (.len (.t 19)))⟩, ⟨(some 21), (some (18, false)), (.p (.mov (.t 5)))⟩, ⟨(some 22), (some (18, false)), (.p (.lenS (.t 21)))⟩, ⟨(some 23), (some (18, false)), (.p (.bin 0 .neq (.t 20) (.t 22)))⟩, ⟨(some 24), none, (.p (.pick (.t 18) (.c (.bool true)) (.t 23)))⟩])
 (.cond (.t 24) (.seq (.reg [⟨(some 4), none, (.p (.mov (.c (.bool false))))⟩])
 (.ret)) (.skip)))
 (.seq (.seq (.reg [⟨(some 25), none, (.p (.mov (.t 1)))⟩, ⟨(some 26), none, (.p (.len (.t 25)))⟩, ⟨(some 27), none, (.p (.mov (.c (.int .i64 0))))⟩])
 (.block 0 (.loop (.seq (.reg [⟨(some 28), none, (.p (.bin 0 .lss (.t 27) (.t 26)))⟩])
 (.seq (.cond (.t 28) (.skip) (.exit 0))
 (.seq (.block 1 (.seq (.reg [⟨(some 29), none, (.p (.mov (.t 27)))⟩, ⟨(some 30), none, (.p (.idxA 1 (.t 25) (.t 27)))⟩, ⟨(some 31), none, (.p (.load false 1 (.t 30)))⟩, ⟨(some 8), none, (.p (.mov (.t 29)))⟩, ⟨(some 9), none, (.p (.mov (.t 31)))⟩])
 (.seq (.reg [⟨(some 32), none, (.p (.mov (.t 5)))⟩, ⟨(some 33), none, (.p (.mov (.t 8)))⟩, ⟨(some 34), none, (.p (.idxS (.t 32) (.t 33)))⟩])
 (.block 2 (.seq (.reg [⟨(some 36), none, (.p (.bin 0 .eql (.t 34) (.c (.int .u8 78))))⟩, ⟨(some 35), none, (.p (.mov (.t 36)))⟩])
 (.cond (.t 35) (.reg [⟨(some 37), none, (.p (.mov (.t 7)))⟩, ⟨(some 38), none, (.p (.mov (.t 37)))⟩, ⟨(some 39), (some (38, true)), (.p (.mov (.t 9)))⟩, ⟨(some 40), (some (38, true)), (.p (.bin 0 .eql (.t 39) (.c (.int .u8 0))))⟩, ⟨(some 41), none, (.p (.pick (.t 38) (.t 40) (.c (.bool false))))⟩, ⟨(some 7), none, (.p (.mov (.t 41)))⟩]) (.seq (.reg [⟨(some 43), none, (.p (.bin 0 .eql (.t 34) (.c (.int .u8 72))))⟩, ⟨(some 42), none, (.p (.mov (.t 43)))⟩])
 (.cond (.t 42) (.reg [⟨(some 44), none, (.p (.mov (.t 7)))⟩, ⟨(some 45), none, (.p (.mov (.t 44)))⟩, ⟨(some 46), (some (45, true)), (.p (.mov (.t 9)))⟩, ⟨(some 47), (some (45, true)), (.p (.bin 0 .eql (.t 46) (.c (.int .u8 2))))⟩, ⟨(some 48), none, (.p (.pick (.t 45) (.t 47) (.c (.bool false))))⟩, ⟨(some 7), none, (.p (.mov (.t 48)))⟩]) (.seq (.reg [⟨(some 50), none, (.p (.bin 0 .eql (.t 34) (.c (.int .u8 80))))⟩, ⟨(some 49), none, (.p (.mov (.t 50)))⟩])
 (.cond (.t 49) (.reg [⟨(some 51), none, (.p (.mov (.t 7)))⟩, ⟨(some 52), none, (.p (.mov (.t 51)))⟩, ⟨(some 53), (some (52, true)), (.p (.mov (.t 9)))⟩, ⟨(some 54), (some (52, true)), (.p (.bin 0 .eql (.t 53) (.c (.int .u8 1))))⟩, ⟨(some 55), none, (.p (.pick (.t 52) (.t 54) (.c (.bool false))))⟩, ⟨(some 7), none, (.p (.mov (.t 55)))⟩]) (.skip)))))))))))
 (.reg [⟨(some 56), none, (.p (.bin 0 .add (.t 27) (.c (.int .i64 1))))⟩, ⟨(some 27), none, (.p (.mov (.t 56)))⟩])))))))
 (.seq (.reg [⟨(some 57), none, (.p (.mov (.t 7)))⟩, ⟨(some 4), none, (.p (.mov (.t 57)))⟩])
 (.ret)))))
theorem m_wfit_ok : compF Try.prog 83 = some (58, m_wfit, [.mov (.t 4)]) := by kernel_rfl
def m_wact : MC := .seq (.reg [⟨(some 2), none, (.p (.mov (.c (.bool false))))⟩])
 (.seq (.seq (.reg [⟨(some 3), none, (.p (.mov (.t 0)))⟩])
 (.block 0 (.seq (.seq (.reg [⟨(some 5), none, (.p (.bin 0 .eql (.t 3) (.c (.int .i64 1))))⟩, ⟨(some 4), none, (.p (.mov (.t 5)))⟩])
 (.cond (.t 4) (.skip) (.seq (.reg [⟨(some 6), none, (.p (.bin 0 .eql (.t 3) (.c (.int .i64 2))))⟩, ⟨(some 4), none, (.p (.mov (.t 6)))⟩])
 (.cond (.t 4) (.skip) (.seq (.reg [⟨(some 7), none, (.p (.bin 0 .eql (.t 3) (.c (.int .i64 3))))⟩, ⟨(some 4), none, (.p (.mov (.t 7)))⟩])
 (.cond (.t 4) (.skip) (.seq (.reg [⟨(some 8), none, (.p (.bin 0 .eql (.t 3) (.c (.int .i64 4))))⟩, ⟨(some 4), none, (.p (.mov (.t 8)))⟩])
 (.cond (.t 4) (.skip) (.seq (.reg [⟨(some 9), none, (.p (.bin 0 .eql (.t 3) (.c (.int .i64 5))))⟩, ⟨(some 4), none, (.p (.mov (.t 9)))⟩])
 (.cond (.t 4) (.skip) (.seq (.reg [⟨(some 10), none, (.p (.bin 0 .eql (.t 3) (.c (.int .i64 6))))⟩, ⟨(some 4), none, (.p (.mov (.t 10)))⟩])
 (.cond (.t 4) (.skip) (.seq (.reg [⟨(some 11), none, (.p (.bin 0 .eql (.t 3) (.c (.int .i64 7))))⟩, ⟨(some 4), none, (.p (.mov (.t 11)))⟩])
 (.cond (.t 4) (.skip) (.seq (.reg [⟨(some 12), none, (.p (.bin 0 .eql (.t 3) (.c (.int .i64 13))))⟩, ⟨(some 4), none, (.p (.mov (.t 12)))⟩])
 (.cond (.t 4) (.skip) (.reg [⟨(some 13), none, (.p (.bin 0 .eql (.t 3) (.c (.int .i64 14))))⟩, ⟨(some 4), none, (.p (.mov (.t 13)))⟩])))))))))))))))))
 (.cond (.t 4) (.seq (.reg [⟨(some 2), none, (.p (.mov (.c (.bool true))))⟩])
 (.ret)) (.skip)))))
 (.seq (.reg [⟨(some 2), none, (.p (.mov (.c (.bool false))))⟩])
 (.ret)))
theorem m_wact_ok : compF Try.prog 22 = some (14, m_wact, [.mov (.t 2)]) := by kernel_rfl
def m_rkin : MC := .seq (.reg [⟨(some 2), none, (.p (.mov (.c (.str ByteArray.empty))))⟩])
 (.seq (.seq (.reg [⟨(some 3), none, (.p (.mov (.t 0)))⟩])
 (.block 0 (.seq (.seq (.reg [⟨(some 5), none, (.p (.bin 0 .eql (.t 3) (.c (.int .i64 0))))⟩, ⟨(some 4), none, (.p (.mov (.t 5)))⟩])
 (.cond (.t 4) (.skip) (.seq (.reg [⟨(some 6), none, (.p (.bin 0 .eql (.t 3) (.c (.int .i64 8))))⟩, ⟨(some 4), none, (.p (.mov (.t 6)))⟩])
 (.cond (.t 4) (.skip) (.seq (.reg [⟨(some 7), none, (.p (.bin 0 .eql (.t 3) (.c (.int .i64 9))))⟩, ⟨(some 4), none, (.p (.mov (.t 7)))⟩])
 (.cond (.t 4) (.skip) (.seq (.reg [⟨(some 8), none, (.p (.bin 0 .eql (.t 3) (.c (.int .i64 11))))⟩, ⟨(some 4), none, (.p (.mov (.t 8)))⟩])
 (.cond (.t 4) (.skip) (.reg [⟨(some 9), none, (.p (.bin 0 .eql (.t 3) (.c (.int .i64 12))))⟩, ⟨(some 4), none, (.p (.mov (.t 9)))⟩])))))))))
 (.cond (.t 4) (.seq (.reg [⟨(some 2), none, (.p (.mov (.c (.str ⟨#[78]⟩))))⟩])
 (.ret)) (.seq (.seq (.reg [⟨(some 11), none, (.p (.bin 0 .eql (.t 3) (.c (.int .i64 1))))⟩, ⟨(some 10), none, (.p (.mov (.t 11)))⟩])
 (.cond (.t 10) (.skip) (.reg [⟨(some 12), none, (.p (.bin 0 .eql (.t 3) (.c (.int .i64 2))))⟩, ⟨(some 10), none, (.p (.mov (.t 12)))⟩])))
 (.cond (.t 10) (.seq (.reg [⟨(some 2), none, (.p (.mov (.c (.str ⟨#[72, 80, 78]⟩))))⟩])
 (.ret)) (.seq (.reg [⟨(some 14), none, (.p (.bin 0 .eql (.t 3) (.c (.int .i64 3))))⟩, ⟨(some 13), none, (.p (.mov (.t 14)))⟩])
 (.cond (.t 13) (.seq (.reg [⟨(some 2), none, (.p (.mov (.c (.str ⟨#[78, 78]⟩))))⟩])
 (.ret)) (.seq (.reg [⟨(some 16), none, (.p (.bin 0 .eql (.t 3) (.c (.int .i64 4))))⟩, ⟨(some 15), none, (.p (.mov (.t 16)))⟩])
 (.cond (.t 15) (.seq (.reg [⟨(some 2), none, (.p (.mov (.c (.str ⟨#[72]⟩))))⟩])
 (.ret)) (.seq (.reg [⟨(some 18), none, (.p (.bin 0 .eql (.t 3) (.c (.int .i64 5))))⟩, ⟨(some 17), none, (.p (.mov (.t 18)))⟩])
 (.cond (.t 17) (.seq (.reg [⟨(some 2), none, (.p (.mov (.c (.str ⟨#[72, 78]⟩))))⟩])
 (.ret)) (.seq (.reg [⟨(some 20), none, (.p (.bin 0 .eql (.t 3) (.c (.int .i64 10))))⟩, ⟨(some 19), none, (.p (.mov (.t 20)))⟩])
 (.cond (.t 19) (.seq (.reg [⟨(some 2), none, (.p (.mov (.c (.str ⟨#[78, 88]⟩))))⟩])
 (.ret)) (.seq (.seq (.reg [⟨(some 22), none, (.p (.bin 0 .eql (.t 3) (.c (.int .i64 13))))⟩, ⟨(some 21), none, (.p (.mov (.t 22)))⟩])
 (.cond (.t 21) (.skip) (.reg [⟨(some 23), none, (.p (.bin 0 .eql (.t 3) (.c (.int .i64 14))))⟩, ⟨(some 21), none, (.p (.mov (.t 23)))⟩])))
 (.cond (.t 21) (.seq (.reg [⟨(some 2), none, (.p (.mov (.c (.str ⟨#[78, 80, 78]⟩))))⟩])
 (.ret)) (.skip)))))))))))))))))
 (.seq (.reg [⟨(some 2), none, (.p (.mov (.c (.str ByteArray.empty))))⟩])
 (.ret)))
theorem m_rkin_ok : compF Try.prog 53 = some (24, m_rkin, [.mov (.t 2)]) := by kernel_rfl
def m_rfit : MC := .seq (.reg [⟨(some 4), none, (.p (.mov (.c (.bool false))))⟩])
 (.seq (.seq (.reg [⟨(some 5), none, (.p (.mov (.t 0)))⟩])
 (.block 0 (.seq (.reg [⟨(some 7), none, (.p (.bin 0 .eql (.t 5) (.c (.int .u8 78))))⟩, ⟨(some 6), none, (.p (.mov (.t 7)))⟩])
 (.cond (.t 6) (.seq (.reg [⟨(some 8), none, (.p (.mov (.t 1)))⟩, ⟨(some 9), none, (.p (.bin 0 .eql (.t 8) (.c (.int .u8 0))))⟩, ⟨(some 4), none, (.p (.mov (.t 9)))⟩])
 (.ret)) (.seq (.reg [⟨(some 11), none, (.p (.bin 0 .eql (.t 5) (.c (.int .u8 72))))⟩, ⟨(some 10), none, (.p (.mov (.t 11)))⟩])
 (.cond (.t 10) (.seq (.reg [⟨(some 12), none, (.p (.mov (.t 1)))⟩, ⟨(some 13), none, (.p (.bin 0 .eql (.t 12) (.c (.int .u8 2))))⟩, ⟨(some 4), none, (.p (.mov (.t 13)))⟩])
 (.ret)) (.seq (.reg [⟨(some 15), none, (.p (.bin 0 .eql (.t 5) (.c (.int .u8 80))))⟩, ⟨(some 14), none, (.p (.mov (.t 15)))⟩])
 (.cond (.t 14) (.seq (.reg [⟨(some 16), none, (.p (.mov (.t 1)))⟩, ⟨(some 17), none, (.p (.bin 0 .eql (.t 16) (.c (.int .u8 1))))⟩, ⟨(some 4), none, (.p (.mov (.t 17)))⟩])
 (.ret)) (.skip)))))))))
 (.seq (.reg [⟨(some 4), none, (.p (.mov (.c (.bool true))))⟩])
 (.ret)))
theorem m_rfit_ok : compF Try.prog 54 = some (18, m_rfit, [.mov (.t 4)]) := by kernel_rfl
def m_rbuf : MC := .seq (.reg [⟨(some 2), none, (.p (.mov (.c (.int .i64 0))))⟩])
 (.seq (.block 0 (.seq (.reg [⟨(some 4), none, (.p (.mov (.t 0)))⟩, ⟨(some 5), none, (.p (.bin 0 .lss (.t 4) (.c (.int .i64 0))))⟩, ⟨(some 6), none, (.p (.mov (.t 5)))⟩, ⟨(some 7), (some (6, false)), (.p (.mov (.t 0)))⟩, ⟨(some 8), (some (6, false)), (.p (.bin 0 .gtr (.t 7) (.c (.int .i64 15))))⟩, ⟨(some 9), none, (.p (.pick (.t 6) (.c (.bool true)) (.t 8)))⟩, ⟨(some 3), none, (.p (.mov (.t 9)))⟩])
 (.cond (.t 3) (.seq (.reg [⟨(some 2), none, (.p (.mov (.c (.int .i64 (-1)))))⟩])
 (.ret)) (.seq (.reg [⟨(some 11), none, (.p (.mov (.t 0)))⟩, ⟨(some 12), none, (.p (.bin 0 .eql (.t 11) (.c (.int .i64 1))))⟩, ⟨(some 13), none, (.p (.mov (.t 12)))⟩, ⟨(some 14), (some (13, false)), (.p (.mov (.t 0)))⟩, ⟨(some 15), (some (13, false)), (.p (.bin 0 .eql (.t 14) (.c (.int .i64 13))))⟩, ⟨(some 16), none, (.p (.pick (.t 13) (.c (.bool true)) (.t 15)))⟩, ⟨(some 10), none, (.p (.mov (.t 16)))⟩])
 (.cond (.t 10) (.seq (.reg [⟨(some 2), none, (.p (.mov (.c (.int .i64 1))))⟩])
 (.ret)) (.seq (.reg [⟨(some 18), none, (.p (.mov (.t 0)))⟩, ⟨(some 19), none, (.p (.bin 0 .eql (.t 18) (.c (.int .i64 2))))⟩, ⟨(some 20), none, (.p (.mov (.t 19)))⟩, ⟨(some 21), (some (20, false)), (.p (.mov (.t 0)))⟩, ⟨(some 22), (some (20, false)), (.p (.bin 0 .eql (.t 21) (.c (.int .i64 14))))⟩, ⟨(some 23), none, (.p (.pick (.t 20) (.c (.bool true)) (.t 22)))⟩, ⟨(some 17), none, (.p (.mov (.t 23)))⟩])
 (.cond (.t 17) (.seq (.reg [⟨(some 2), none, (.p (.mov (.c (.int .i64 2))))⟩])
 (.ret)) (.skip))))))))
 (.seq (.reg [⟨(some 2), none, (.p (.mov (.c (.int .i64 0))))⟩])
 (.ret)))
theorem m_rbuf_ok : compF Try.prog 17 = some (24, m_rbuf, [.mov (.t 2)]) := by kernel_rfl
def m_ract : MC := .seq (.reg [⟨(some 2), none, (.p (.mov (.c (.bool false))))⟩])
 (.seq (.reg [⟨(some 3), none, (.p (.mov (.t 0)))⟩, ⟨(some 4), none, (.p (.bin 0 .geq (.t 3) (.c (.int .i64 1))))⟩, ⟨(some 5), none, (.p (.mov (.t 4)))⟩, ⟨(some 6), (some (5, true)), (.p (.mov (.t 0)))⟩, ⟨(some 7), (some (5, true)), (.p (.bin 0 .leq (.t 6) (.c (.int .i64 7))))⟩, ⟨(some 8), none, (.p (.pick (.t 5) (.t 7) (.c (.bool false))))⟩, ⟨(some 9), none, (.p (.mov (.t 8)))⟩, ⟨(some 10), (some (9, false)), (.p (.mov (.t 0)))⟩, ⟨(some 11), (some (9, false)), (.p (.bin 0 .eql (.t 10) (.c (.int .i64 13))))⟩, ⟨(some 12), none, (.p (.pick (.t 9) (.c (.bool true)) (.t 11)))⟩, ⟨(some 13), none, (.p (.mov (.t 12)))⟩, ⟨(some 14), (some (13, false)), (.p (.mov (.t 0)))⟩, ⟨(some 15), (some (13, false)), (.p (.bin 0 .eql (.t 14) (.c (.int .i64 14))))⟩, ⟨(some 16), none, (.p (.pick (.t 13) (.c (.bool true)) (.t 15)))⟩, ⟨(some 2), none, (.p (.mov (.t 16)))⟩])
 (.ret))
theorem m_ract_ok : compF Try.prog 69 = some (17, m_ract, [.mov (.t 2)]) := by kernel_rfl
/-- The kinds of the arguments of a call. -/
def kb (c : Int) : ByteArray := if c = 0 ∨ c = 8 ∨ c = 9 ∨ c = 11 ∨ c = 12 then ⟨#[78]⟩ else if c = 1 ∨ c = 2 then ⟨#[72, 80, 78]⟩ else if c = 3 then ⟨#[78, 78]⟩ else if c = 4 then ⟨#[72]⟩ else if c = 5 then ⟨#[72, 78]⟩ else if c = 10 then ⟨#[78, 88]⟩ else if c = 13 ∨ c = 14 then ⟨#[78, 80, 78]⟩ else ByteArray.empty
def kl (c : Int) : List Int := if c = 0 ∨ c = 8 ∨ c = 9 ∨ c = 11 ∨ c = 12 then [78] else if c = 1 ∨ c = 2 then [72, 80, 78] else if c = 3 then [78, 78] else if c = 4 then [72] else if c = 5 then [72, 78] else if c = 10 then [78, 88] else if c = 13 ∨ c = 14 then [78, 80, 78] else []
def bufS (c : Int) : Int := if c = 1 ∨ c = 13 then 1 else if c = 2 ∨ c = 14 then 2 else 0
def isCall (c : Int) : Bool := decide (0 ≤ c ∧ c ≤ 15)
def actB (c : Int) : Bool := decide (1 ≤ c ∧ c ≤ 7 ∨ c = 13 ∨ c = 14)
theorem call_cases {c : Int} (h0 : 0 ≤ c) (h1 : c ≤ 15) : c = 0 ∨ c = 1 ∨ c = 2 ∨ c = 3 ∨ c = 4 ∨ c = 5 ∨ c = 6 ∨ c = 7 ∨ c = 8 ∨ c = 9 ∨ c = 10 ∨ c = 11 ∨ c = 12 ∨ c = 13 ∨ c = 14 ∨ c = 15 := by omega
set_option maxHeartbeats 16000000 in
theorem wkin_fn (c : Int) (h0 : 0 ≤ c) (h1 : c ≤ 15) : Fnc Try.prog 84 [.int .i64 c] (fun x obs => x = .tup [.str (kb c), .int .i64 (bufS c), .bool true] ∧ obs = []) := by
  rcases call_cases h0 h1 with rfl | rfl | rfl | rfl | rfl | rfl | rfl | rfl | rfl | rfl | rfl | rfl | rfl | rfl | rfl | rfl <;> clear h0 h1
  all_goals
    refine Fnc.intro m_wkin_ok (by simp) fun W S => ?_
    unfold m_wkin
    simp only [ents, Nat.zero_add, Nat.reduceAdd]
    refine zst ?_
    refine ret m_wkin_ok [] ?_; exact zfn
set_option maxHeartbeats 16000000 in
theorem wkin_no (c : Int) (h : ¬ (0 ≤ c ∧ c ≤ 15)) : Fnc Try.prog 84 [.int .i64 c] (fun x obs => x = .tup [.str ByteArray.empty, .int .i64 0, .bool false] ∧ obs = []) := by
  refine Fnc.intro m_wkin_ok (by simp) fun W S => ?_
  unfold m_wkin
  simp only [ents, Nat.zero_add, Nat.reduceAdd]
  refine zst ?_
  refine ret m_wkin_ok [] ?_; exact zfn
set_option maxHeartbeats 16000000 in
theorem wbuf_fn (c : Int) (h0 : 0 ≤ c) (h1 : c ≤ 15) : Fnc Try.prog 37 [.int .i64 c] (fun x obs => x = .int .i64 (bufS c) ∧ obs = []) := by
  have f := wkin_fn c h0 h1
  refine Fnc.intro m_wbuf_ok (by simp) fun W S => ?_
  unfold m_wbuf
  simp only [ents, Nat.zero_add, Nat.reduceAdd]
  refine zst ?_
  (first | refine callD (f) ?_ | refine callDw (f) ?_); simp only [go_sem]
  refine zst ?_
  refine ret m_wbuf_ok [] ?_; exact zfn
set_option maxHeartbeats 16000000 in
theorem wact_fn (c : Int) : Fnc Try.prog 22 [.int .i64 c] (fun x obs => x = .bool (actB c) ∧ obs = []) := by
  by_cases h : 0 ≤ c ∧ c ≤ 15
  · rcases call_cases h.1 h.2 with rfl | rfl | rfl | rfl | rfl | rfl | rfl | rfl | rfl | rfl | rfl | rfl | rfl | rfl | rfl | rfl <;> clear h
    all_goals
      refine Fnc.intro m_wact_ok (by simp) fun W S => ?_
      unfold m_wact
      simp only [ents, Nat.zero_add, Nat.reduceAdd]
      refine zst ?_
      refine ret m_wact_ok [] ?_; exact zfn
  · rw [show actB c = false from decF (by omega)]
    refine Fnc.intro m_wact_ok (by simp) fun W S => ?_
    unfold m_wact
    simp only [ents, Nat.zero_add, Nat.reduceAdd]
    refine zst ?_
    refine ret m_wact_ok [] ?_; exact zfn
set_option maxHeartbeats 16000000 in
theorem rkin_fn (c : Int) : Fnc Try.prog 53 [.int .i64 c] (fun x obs => x = .str (kb c) ∧ obs = []) := by
  by_cases h : 0 ≤ c ∧ c ≤ 15
  · rcases call_cases h.1 h.2 with rfl | rfl | rfl | rfl | rfl | rfl | rfl | rfl | rfl | rfl | rfl | rfl | rfl | rfl | rfl | rfl <;> clear h
    all_goals
      refine Fnc.intro m_rkin_ok (by simp) fun W S => ?_
      unfold m_rkin
      simp only [ents, Nat.zero_add, Nat.reduceAdd]
      refine zst ?_
      refine ret m_rkin_ok [] ?_; exact zfn
  · rw [show kb c = ByteArray.empty by
      unfold kb
      rw [if_neg (by omega), if_neg (by omega), if_neg (by omega), if_neg (by omega), if_neg (by omega), if_neg (by omega), if_neg (by omega)]]
    refine Fnc.intro m_rkin_ok (by simp) fun W S => ?_
    unfold m_rkin
    simp only [ents, Nat.zero_add, Nat.reduceAdd]
    refine zst ?_
    refine ret m_rkin_ok [] ?_; exact zfn
set_option maxHeartbeats 16000000 in
theorem rbuf_fn (c : Int) (h0 : 0 ≤ c) (h1 : c ≤ 15) : Fnc Try.prog 17 [.int .i64 c] (fun x obs => x = .int .i64 (bufS c) ∧ obs = []) := by
  rcases call_cases h0 h1 with rfl | rfl | rfl | rfl | rfl | rfl | rfl | rfl | rfl | rfl | rfl | rfl | rfl | rfl | rfl | rfl <;> clear h0 h1
  all_goals
    refine Fnc.intro m_rbuf_ok (by simp) fun W S => ?_
    unfold m_rbuf
    simp only [ents, Nat.zero_add, Nat.reduceAdd]
    refine zst ?_
    refine ret m_rbuf_ok [] ?_; exact zfn
set_option maxHeartbeats 16000000 in
theorem ract_fn (c : Int) : Fnc Try.prog 69 [.int .i64 c] (fun x obs => x = .bool (actB c) ∧ obs = []) := by
  by_cases h : 0 ≤ c ∧ c ≤ 15
  · rcases call_cases h.1 h.2 with rfl | rfl | rfl | rfl | rfl | rfl | rfl | rfl | rfl | rfl | rfl | rfl | rfl | rfl | rfl | rfl <;> clear h
    all_goals
      refine Fnc.intro m_ract_ok (by simp) fun W S => ?_
      unfold m_ract
      simp only [ents, Nat.zero_add, Nat.reduceAdd]
      refine zst ?_
      refine ret m_ract_ok [] ?_; exact zfn
  · rw [show actB c = false from decF (by omega)]
    by_cases h1 : c < 0
    · skip
      refine Fnc.intro m_ract_ok (by simp) fun W S => ?_
      unfold m_ract
      simp only [ents, Nat.zero_add, Nat.reduceAdd]
      refine zst ?_
      refine ret m_ract_ok [] ?_; exact zfn
    · skip
      refine Fnc.intro m_ract_ok (by simp) fun W S => ?_
      unfold m_ract
      simp only [ents, Nat.zero_add, Nat.reduceAdd]
      refine zst ?_
      refine ret m_ract_ok [] ?_; exact zfn
end Go.Proofs.Ytkfpcgkmemfdaaa
/- Requests: which ones are valid. -/
namespace Go.Proofs.Ytkfpcgkmemfdaaa
open Go Go.RowKit Rdn Rdn.Dp
set_option linter.unusedVariables false
set_option linter.unusedSimpArgs false
def m_wth : MC := .seq (.reg [⟨(some 6), none, (.p (.mov (.c (.bool false))))⟩])
 (.seq (.reg [⟨(some 7), none, (.p (.mov (.t 0)))⟩, ⟨(some 8), none, (.p (.mov (.t 1)))⟩, ⟨(some 9), none, (.p (.bin 0 .geq (.t 7) (.t 8)))⟩, ⟨(some 10), none, (.p (.mov (.t 9)))⟩, ⟨(some 11), (some (10, true)), (.p (.mov (.t 0)))⟩, ⟨(some 12), (some (10, true)), (.p (.mov (.t 2)))⟩, ⟨(some 13), (some (10, true)), (.p (.bin 0 .leq (.t 11) (.t 12)))⟩, ⟨(some 14), none, (.p (.pick (.t 10) (.t 13) (.c (.bool false))))⟩, ⟨(some 6), none, (.p (.mov (.t 14)))⟩])
 (.ret))
theorem m_wth_ok : compF Try.prog 103 = some (15, m_wth, [.mov (.t 6)]) := by kernel_rfl
def m_wrval : MC := .seq (.reg [⟨(some 1), none, (.m (.box 43 (.t 0)))⟩, ⟨(some 2), none, (.p (.mov (.c (.bool false))))⟩])
 (.seq (.reg [⟨(some 3), none, (.p (.mov (.c (.fn 103))))⟩])
 (.seq (.reg [⟨(some 4), none, (.p (.mov (.t 3)))⟩, ⟨(some 5), none, (.p (.fieldA 0 0 (.t 1)))⟩, ⟨(some 6), none, (.p (.load false 1 (.t 5)))⟩, ⟨(some 7), none, (.callv (.t 4) [(.t 6), (.c (.int .i64 0)), (.c (.int .i64 3))])⟩, ⟨(some 8), none, (.p (.mov (.t 7)))⟩, ⟨(some 9), (some (8, true)), (.p (.mov (.t 3)))⟩, ⟨(some 10), (some (8, true)), (.p (.fieldA 1 1 (.t 1)))⟩, ⟨(some 11), (some (8, true)), (.p (.load false 1 (.t 10)))⟩, ⟨(some 12), (some (8, true)), (.callv (.t 9) [(.t 11), (.c (.int .i64 0)), (.c (.int .i64 3))])⟩, ⟨(some 13), none, (.p (.pick (.t 8) (.t 12) (.c (.bool false))))⟩, ⟨(some 14), none, (.p (.mov (.t 13)))⟩, ⟨(some 15), (some (14, true)), (.p (.mov (.t 3)))⟩, ⟨(some 16), (some (14, true)), (.p (.fieldA 2 2 (.t 1)))⟩, ⟨(some 17), (some (14, true)), (.p (.load false 1 (.t 16)))⟩, ⟨(some 18), (some (14, true)), (.callv (.t 15) [(.t 17), (.c (.int .i64 0)), (.c (.int .i64 6))])⟩, ⟨(some 19), none, (.p (.pick (.t 14) (.t 18) (.c (.bool false))))⟩, ⟨(some 20), none, (.p (.mov (.t 19)))⟩, ⟨(some 21), (some (20, true)), (.p (.mov (.t 3)))⟩, ⟨(some 22), (some (20, true)), (.p (.fieldA 3 3 (.t 1)))⟩, ⟨(some 23), (some (20, true)), (.p (.load false 1 (.t 22)))⟩, ⟨(some 24), (some (20, true)), (.callv (.t 21) [(.t 23), (.c (.int .i64 0)), (.c (.int .i64 1099511627776))])⟩, ⟨(some 25), none, (.p (.pick (.t 20) (.t 24) (.c (.bool false))))⟩, ⟨(some 26), none, (.p (.mov (.t 25)))⟩, ⟨(some 27), (some (26, true)), (.p (.mov (.t 3)))⟩, ⟨(some 28), (some (26, true)), (.p (.fieldA 4 4 (.t 1)))⟩, ⟨(some 29), (some (26, true)), (.p (.load false 1 (.t 28)))⟩, ⟨(some 30), (some (26, true)), (.callv (.t 27) [(.t 29), (.c (.int .i64 0)), (.c (.int .i64 255))])⟩, ⟨(some 31), none, (.p (.pick (.t 26) (.t 30) (.c (.bool false))))⟩, ⟨(some 32), none, (.p (.mov (.t 31)))⟩, ⟨(some 33), (some (32, true)), (.p (.mov (.t 3)))⟩, ⟨(some 34), (some (32, true)), (.p (.fieldA 5 5 (.t 1)))⟩, ⟨(some 35), (some (32, true)), (.p (.load false 1 (.t 34)))⟩, ⟨(some 36), (some (32, true)), (.callv (.t 33) [(.t 35), (.c (.int .i64 0)), (.c (.int .i64 15))])⟩, ⟨(some 37), none, (.p (.pick (.t 32) (.t 36) (.c (.bool false))))⟩, ⟨(some 38), none, (.p (.mov (.t 37)))⟩, ⟨(some 39), (some (38, true)), (.p (.fieldA 6 6 (.t 1)))⟩, ⟨(some 40), (some (38, true)), (.p (.load false 1 (.t 39)))⟩, ⟨(some 41), (some (38, true)), (.call 59 [(.t 40), (.c (.int .i64 3))])⟩, ⟨(some 42), none, (.p (.pick (.t 38) (.t 41) (.c (.bool false))))⟩, ⟨(some 43), none, (.p (.mov (.t 42)))⟩, ⟨(some 44), (some (43, true)), (.p (.fieldA 7 7 (.t 1)))⟩, ⟨(some 45), (some (43, true)), (.p (.load false 1 (.t 44)))⟩, ⟨(some 46), (some (43, true)), (.call 59 [(.t 45), (.c (.int .i64 16))])⟩, ⟨(some 47), none, (.p (.pick (.t 43) (.t 46) (.c (.bool false))))⟩, ⟨(some 2), none, (.p (.mov (.t 47)))⟩])
 (.ret)))
theorem m_wrval_ok : compF Try.prog 82 = some (48, m_wrval, [.mov (.t 2)]) := by kernel_rfl
def m_rrval : MC := .seq (.reg [⟨(some 1), none, (.m (.box 43 (.t 0)))⟩, ⟨(some 2), none, (.p (.mov (.c (.bool false))))⟩])
 (.seq (.reg [⟨(some 3), none, (.p (.fieldA 0 0 (.t 1)))⟩, ⟨(some 4), none, (.p (.load false 1 (.t 3)))⟩, ⟨(some 5), none, (.p (.bin 0 .geq (.t 4) (.c (.int .i64 0))))⟩, ⟨(some 6), none, (.p (.mov (.t 5)))⟩, ⟨(some 7), (some (6, true)), (.p (.fieldA 0 0 (.t 1)))⟩, ⟨(some 8), (some (6, true)), (.p (.load false 1 (.t 7)))⟩, ⟨(some 9), (some (6, true)), (.p (.bin 0 .lss (.t 8) (.c (.int .i64 4))))⟩, ⟨(some 10), none, (.p (.pick (.t 6) (.t 9) (.c (.bool false))))⟩, ⟨(some 11), none, (.p (.mov (.t 10)))⟩, ⟨(some 12), (some (11, true)), (.p (.fieldA 1 1 (.t 1)))⟩, ⟨(some 13), (some (11, true)), (.p (.load false 1 (.t 12)))⟩, ⟨(some 14), (some (11, true)), (.p (.bin 0 .geq (.t 13) (.c (.int .i64 0))))⟩, ⟨(some 15), none, (.p (.pick (.t 11) (.t 14) (.c (.bool false))))⟩, ⟨(some 16), none, (.p (.mov (.t 15)))⟩, ⟨(some 17), (some (16, true)), (.p (.fieldA 1 1 (.t 1)))⟩, ⟨(some 18), (some (16, true)), (.p (.load false 1 (.t 17)))⟩, ⟨(some 19), (some (16, true)), (.p (.bin 0 .leq (.t 18) (.c (.int .i64 3))))⟩, ⟨(some 20), none, (.p (.pick (.t 16) (.t 19) (.c (.bool false))))⟩, ⟨(some 21), none, (.p (.mov (.t 20)))⟩, ⟨(some 22), (some (21, true)), (.p (.fieldA 2 2 (.t 1)))⟩, ⟨(some 23), (some (21, true)), (.p (.load false 1 (.t 22)))⟩, ⟨(some 24), (some (21, true)), (.p (.bin 0 .geq (.t 23) (.c (.int .i64 0))))⟩, ⟨(some 25), none, (.p (.pick (.t 21) (.t 24) (.c (.bool false))))⟩, ⟨(some 26), none, (.p (.mov (.t 25)))⟩, ⟨(some 27), (some (26, true)), (.p (.fieldA 2 2 (.t 1)))⟩, ⟨(some 28), (some (26, true)), (.p (.load false 1 (.t 27)))⟩, ⟨(some 29), (some (26, true)), (.p (.bin 0 .leq (.t 28) (.c (.int .i64 6))))⟩, ⟨(some 30), none, (.p (.pick (.t 26) (.t 29) (.c (.bool false))))⟩, ⟨(some 31), none, (.p (.mov (.t 30)))⟩, ⟨(some 32), (some (31, true)), (.p (.fieldA 3 3 (.t 1)))⟩, ⟨(some 33), (some (31, true)), (.p (.load false 1 (.t 32)))⟩, ⟨(some 34), (some (31, true)), (.p (.bin 0 .geq (.t 33) (.c (.int .i64 0))))⟩, ⟨(some 35), none, (.p (.pick (.t 31) (.t 34) (.c (.bool false))))⟩, ⟨(some 36), none, (.p (.mov (.t 35)))⟩, ⟨(some 37), (some (36, true)), (.p (.fieldA 3 3 (.t 1)))⟩, ⟨(some 38), (some (36, true)), (.p (.load false 1 (.t 37)))⟩, ⟨(some 39), (some (36, true)), (.p (.bin 0 .leq (.t 38) (.c (.int .i64 1099511627776))))⟩, ⟨(some 40), none, (.p (.pick (.t 36) (.t 39) (.c (.bool false))))⟩, ⟨(some 41), none, (.p (.mov (.t 40)))⟩, ⟨(some 42), (some (41, true)), (.p (.fieldA 4 4 (.t 1)))⟩, ⟨(some 43), (some (41, true)), (.p (.load false 1 (.t 42)))⟩, ⟨(some 44), (some (41, true)), (.p (.bin 0 .geq (.t 43) (.c (.int .i64 0))))⟩, ⟨(some 45), none, (.p (.pick (.t 41) (.t 44) (.c (.bool false))))⟩, ⟨(some 46), none, (.p (.mov (.t 45)))⟩, ⟨(some 47), (some (46, true)), (.p (.fieldA 4 4 (.t 1)))⟩, ⟨(some 48), (some (46, true)), (.p (.load false 1 (.t 47)))⟩, ⟨(some 49), (some (46, true)), (.p (.bin 0 .leq (.t 48) (.c (.int .i64 255))))⟩, ⟨(some 50), none, (.p (.pick (.t 46) (.t 49) (.c (.bool false))))⟩, ⟨(some 51), none, (.p (.mov (.t 50)))⟩, ⟨(some 52), (some (51, true)), (.p (.fieldA 5 5 (.t 1)))⟩, ⟨(some 53), (some (51, true)), (.p (.load false 1 (.t 52)))⟩, ⟨(some 54), (some (51, true)), (.p (.bin 0 .geq (.t 53) (.c (.int .i64 0))))⟩, ⟨(some 55), none, (.p (.pick (.t 51) (.t 54) (.c (.bool false))))⟩, ⟨(some 56), none, (.p (.mov (.t 55)))⟩, ⟨(some 57), (some (56, true)), (.p (.fieldA 5 5 (.t 1)))⟩, ⟨(some 58), (some (56, true)), (.p (.load false 1 (.t 57)))⟩, ⟨(some 59), (some (56, true)), (.p (.bin 0 .leq (.t 58) (.c (.int .i64 15))))⟩, ⟨(some 60), none, (.p (.pick (.t 56) (.t 59) (.c (.bool false))))⟩, ⟨(some 61), none, (.p (.mov (.t 60)))⟩, ⟨(some 62), (some (61, true)), (.p (.fieldA 6 6 (.t 1)))⟩, ⟨(some 63), (some (61, true)), (.p (.load false 1 (.t 62)))⟩, ⟨(some 64), (some (61, true)), (.call 48 [(.t 63), (.c (.int .i64 3))])⟩, ⟨(some 65), none, (.p (.pick (.t 61) (.t 64) (.c (.bool false))))⟩, ⟨(some 66), none, (.p (.mov (.t 65)))⟩, ⟨(some 67), (some (66, true)), (.p (.fieldA 7 7 (.t 1)))⟩, ⟨(some 68), (some (66, true)), (.p (.load false 1 (.t 67)))⟩, ⟨(some 69), (some (66, true)), (.call 48 [(.t 68), (.c (.int .i64 16))])⟩, ⟨(some 70), none, (.p (.pick (.t 66) (.t 69) (.c (.bool false))))⟩, ⟨(some 2), none, (.p (.mov (.t 70)))⟩])
 (.ret))
theorem m_rrval_ok : compF Try.prog 68 = some (71, m_rrval, [.mov (.t 2)]) := by kernel_rfl
abbrev reqV (q : Request) : V := .agg [.int .i64 q.thread, .int .i64 q.stop, .int .i64 q.trap, .int .i64 q.count, .int .i64 q.pc, .int .i64 q.call, .sl false 4 (q.args.map canonV), .sl false 4 (q.data.map canonV)]
structure FitQ (q : Request) : Prop where
  thread : 0 ≤ q.thread ∧ q.thread ≤ 3
  stop : 0 ≤ q.stop ∧ q.stop ≤ 3
  trap : 0 ≤ q.trap ∧ q.trap ≤ 6
  count : 0 ≤ q.count ∧ q.count ≤ 1099511627776
  pc : 0 ≤ q.pc ∧ q.pc ≤ 255
  call : 0 ≤ q.call ∧ q.call ≤ 15
  args : cellsB q.args 3 = true
  data : cellsB q.data 16 = true
noncomputable def valQ (q : Request) : Bool := @decide (FitQ q) (Classical.propDecidable _)
theorem valQ_T {q : Request} (h : FitQ q) : valQ q = true := by unfold valQ; exact @decide_eq_true _ (Classical.propDecidable _) h
theorem valQ_F {q : Request} (h : ¬ FitQ q) : valQ q = false := by unfold valQ; exact @decide_eq_false _ (Classical.propDecidable _) h
theorem valQ_to {q : Request} (h : valQ q = true) : FitQ q := by
  unfold valQ at h
  exact @of_decide_eq_true _ (Classical.propDecidable _) h
set_option maxHeartbeats 4000000 in
theorem wth_T (v a b : Int) (h1 : a ≤ v) (h2 : v ≤ b) : Fnc Try.prog 103 [.int .i64 v, .int .i64 a, .int .i64 b] (fun x obs => x = .bool true ∧ obs = []) := by
  refine Fnc.intro m_wth_ok (by simp) fun W S => ?_
  unfold m_wth
  simp only [ents, Nat.zero_add, Nat.reduceAdd]
  refine zst ?_
  refine ret m_wth_ok [] ?_; exact zfn
set_option maxHeartbeats 4000000 in
theorem wth_F (v a b : Int) (h : ¬ (a ≤ v ∧ v ≤ b)) : Fnc Try.prog 103 [.int .i64 v, .int .i64 a, .int .i64 b] (fun x obs => x = .bool false ∧ obs = []) := by
  by_cases h1 : a ≤ v
  · have h2 : ¬ v ≤ b := fun h2 => h ⟨h1, h2⟩
    refine Fnc.intro m_wth_ok (by simp) fun W S => ?_
    unfold m_wth
    simp only [ents, Nat.zero_add, Nat.reduceAdd]
    refine zst ?_
    refine ret m_wth_ok [] ?_; exact zfn
  · skip
    refine Fnc.intro m_wth_ok (by simp) fun W S => ?_
    unfold m_wth
    simp only [ents, Nat.zero_add, Nat.reduceAdd]
    refine zst ?_
    refine ret m_wth_ok [] ?_; exact zfn
set_option maxHeartbeats 16000000 in
theorem wrval_fn (q : Request) : Fnc Try.prog 82 [reqV q] (fun x obs => x = .bool (valQ q) ∧ obs = []) := by
  have fa := wcels_fn q.args 3
  have fd := wcels_fn q.data 16
  by_cases hthread : 0 ≤ q.thread ∧ q.thread ≤ 3
  rotate_left
  · rw [valQ_F (fun F => hthread F.thread)]
    refine Fnc.intro m_wrval_ok (by simp) fun W S => ?_
    unfold m_wrval
    simp only [ents, Nat.zero_add, Nat.reduceAdd]
    refine zst ?_
    refine callDv (wth_F q.thread 0 3 hthread) (by kernel_rfl) rfl ?_; simp only [go_sem]
    refine zst ?_
    refine ret m_wrval_ok [] ?_; exact zfn
  by_cases hstop : 0 ≤ q.stop ∧ q.stop ≤ 3
  rotate_left
  · rw [valQ_F (fun F => hstop F.stop)]
    refine Fnc.intro m_wrval_ok (by simp) fun W S => ?_
    unfold m_wrval
    simp only [ents, Nat.zero_add, Nat.reduceAdd]
    refine zst ?_
    refine callDv (wth_T q.thread 0 3 hthread.1 hthread.2) (by kernel_rfl) rfl ?_; simp only [go_sem]
    refine zst ?_
    refine callDv (wth_F q.stop 0 3 hstop) (by kernel_rfl) rfl ?_; simp only [go_sem]
    refine zst ?_
    refine ret m_wrval_ok [] ?_; exact zfn
  by_cases htrap : 0 ≤ q.trap ∧ q.trap ≤ 6
  rotate_left
  · rw [valQ_F (fun F => htrap F.trap)]
    refine Fnc.intro m_wrval_ok (by simp) fun W S => ?_
    unfold m_wrval
    simp only [ents, Nat.zero_add, Nat.reduceAdd]
    refine zst ?_
    refine callDv (wth_T q.thread 0 3 hthread.1 hthread.2) (by kernel_rfl) rfl ?_; simp only [go_sem]
    refine zst ?_
    refine callDv (wth_T q.stop 0 3 hstop.1 hstop.2) (by kernel_rfl) rfl ?_; simp only [go_sem]
    refine zst ?_
    refine callDv (wth_F q.trap 0 6 htrap) (by kernel_rfl) rfl ?_; simp only [go_sem]
    refine zst ?_
    refine ret m_wrval_ok [] ?_; exact zfn
  by_cases hcount : 0 ≤ q.count ∧ q.count ≤ 1099511627776
  rotate_left
  · rw [valQ_F (fun F => hcount F.count)]
    refine Fnc.intro m_wrval_ok (by simp) fun W S => ?_
    unfold m_wrval
    simp only [ents, Nat.zero_add, Nat.reduceAdd]
    refine zst ?_
    refine callDv (wth_T q.thread 0 3 hthread.1 hthread.2) (by kernel_rfl) rfl ?_; simp only [go_sem]
    refine zst ?_
    refine callDv (wth_T q.stop 0 3 hstop.1 hstop.2) (by kernel_rfl) rfl ?_; simp only [go_sem]
    refine zst ?_
    refine callDv (wth_T q.trap 0 6 htrap.1 htrap.2) (by kernel_rfl) rfl ?_; simp only [go_sem]
    refine zst ?_
    refine callDv (wth_F q.count 0 1099511627776 hcount) (by kernel_rfl) rfl ?_; simp only [go_sem]
    refine zst ?_
    refine ret m_wrval_ok [] ?_; exact zfn
  by_cases hpc : 0 ≤ q.pc ∧ q.pc ≤ 255
  rotate_left
  · rw [valQ_F (fun F => hpc F.pc)]
    refine Fnc.intro m_wrval_ok (by simp) fun W S => ?_
    unfold m_wrval
    simp only [ents, Nat.zero_add, Nat.reduceAdd]
    refine zst ?_
    refine callDv (wth_T q.thread 0 3 hthread.1 hthread.2) (by kernel_rfl) rfl ?_; simp only [go_sem]
    refine zst ?_
    refine callDv (wth_T q.stop 0 3 hstop.1 hstop.2) (by kernel_rfl) rfl ?_; simp only [go_sem]
    refine zst ?_
    refine callDv (wth_T q.trap 0 6 htrap.1 htrap.2) (by kernel_rfl) rfl ?_; simp only [go_sem]
    refine zst ?_
    refine callDv (wth_T q.count 0 1099511627776 hcount.1 hcount.2) (by kernel_rfl) rfl ?_; simp only [go_sem]
    refine zst ?_
    refine callDv (wth_F q.pc 0 255 hpc) (by kernel_rfl) rfl ?_; simp only [go_sem]
    refine zst ?_
    refine ret m_wrval_ok [] ?_; exact zfn
  by_cases hcall : 0 ≤ q.call ∧ q.call ≤ 15
  rotate_left
  · rw [valQ_F (fun F => hcall F.call)]
    refine Fnc.intro m_wrval_ok (by simp) fun W S => ?_
    unfold m_wrval
    simp only [ents, Nat.zero_add, Nat.reduceAdd]
    refine zst ?_
    refine callDv (wth_T q.thread 0 3 hthread.1 hthread.2) (by kernel_rfl) rfl ?_; simp only [go_sem]
    refine zst ?_
    refine callDv (wth_T q.stop 0 3 hstop.1 hstop.2) (by kernel_rfl) rfl ?_; simp only [go_sem]
    refine zst ?_
    refine callDv (wth_T q.trap 0 6 htrap.1 htrap.2) (by kernel_rfl) rfl ?_; simp only [go_sem]
    refine zst ?_
    refine callDv (wth_T q.count 0 1099511627776 hcount.1 hcount.2) (by kernel_rfl) rfl ?_; simp only [go_sem]
    refine zst ?_
    refine callDv (wth_T q.pc 0 255 hpc.1 hpc.2) (by kernel_rfl) rfl ?_; simp only [go_sem]
    refine zst ?_
    refine callDv (wth_F q.call 0 15 hcall) (by kernel_rfl) rfl ?_; simp only [go_sem]
    refine zst ?_
    refine ret m_wrval_ok [] ?_; exact zfn
  cases ea : cellsB q.args 3 with
  | false =>
    rw [ea] at fa
    rw [valQ_F (fun F => by rw [F.args] at ea; cases ea)]
    refine Fnc.intro m_wrval_ok (by simp) fun W S => ?_
    unfold m_wrval
    simp only [ents, Nat.zero_add, Nat.reduceAdd]
    refine zst ?_
    refine callDv (wth_T q.thread 0 3 hthread.1 hthread.2) (by kernel_rfl) rfl ?_; simp only [go_sem]
    refine zst ?_
    refine callDv (wth_T q.stop 0 3 hstop.1 hstop.2) (by kernel_rfl) rfl ?_; simp only [go_sem]
    refine zst ?_
    refine callDv (wth_T q.trap 0 6 htrap.1 htrap.2) (by kernel_rfl) rfl ?_; simp only [go_sem]
    refine zst ?_
    refine callDv (wth_T q.count 0 1099511627776 hcount.1 hcount.2) (by kernel_rfl) rfl ?_; simp only [go_sem]
    refine zst ?_
    refine callDv (wth_T q.pc 0 255 hpc.1 hpc.2) (by kernel_rfl) rfl ?_; simp only [go_sem]
    refine zst ?_
    refine callDv (wth_T q.call 0 15 hcall.1 hcall.2) (by kernel_rfl) rfl ?_; simp only [go_sem]
    refine zst ?_
    (first | refine callD (fa) ?_ | refine callDw (fa) ?_); simp only [go_sem]
    refine zst ?_
    refine ret m_wrval_ok [] ?_; exact zfn
  | true =>
    rw [ea] at fa
    cases ed : cellsB q.data 16 with
    | false =>
      rw [ed] at fd
      rw [valQ_F (fun F => by rw [F.data] at ed; cases ed)]
      refine Fnc.intro m_wrval_ok (by simp) fun W S => ?_
      unfold m_wrval
      simp only [ents, Nat.zero_add, Nat.reduceAdd]
      refine zst ?_
      refine callDv (wth_T q.thread 0 3 hthread.1 hthread.2) (by kernel_rfl) rfl ?_; simp only [go_sem]
      refine zst ?_
      refine callDv (wth_T q.stop 0 3 hstop.1 hstop.2) (by kernel_rfl) rfl ?_; simp only [go_sem]
      refine zst ?_
      refine callDv (wth_T q.trap 0 6 htrap.1 htrap.2) (by kernel_rfl) rfl ?_; simp only [go_sem]
      refine zst ?_
      refine callDv (wth_T q.count 0 1099511627776 hcount.1 hcount.2) (by kernel_rfl) rfl ?_; simp only [go_sem]
      refine zst ?_
      refine callDv (wth_T q.pc 0 255 hpc.1 hpc.2) (by kernel_rfl) rfl ?_; simp only [go_sem]
      refine zst ?_
      refine callDv (wth_T q.call 0 15 hcall.1 hcall.2) (by kernel_rfl) rfl ?_; simp only [go_sem]
      refine zst ?_
      (first | refine callD (fa) ?_ | refine callDw (fa) ?_); simp only [go_sem]
      refine zst ?_
      (first | refine callD (fd) ?_ | refine callDw (fd) ?_); simp only [go_sem]
      refine zst ?_
      refine ret m_wrval_ok [] ?_; exact zfn
    | true =>
      rw [ed] at fd
      rw [valQ_T ⟨hthread, hstop, htrap, hcount, hpc, hcall, ea, ed⟩]
      refine Fnc.intro m_wrval_ok (by simp) fun W S => ?_
      unfold m_wrval
      simp only [ents, Nat.zero_add, Nat.reduceAdd]
      refine zst ?_
      refine callDv (wth_T q.thread 0 3 hthread.1 hthread.2) (by kernel_rfl) rfl ?_; simp only [go_sem]
      refine zst ?_
      refine callDv (wth_T q.stop 0 3 hstop.1 hstop.2) (by kernel_rfl) rfl ?_; simp only [go_sem]
      refine zst ?_
      refine callDv (wth_T q.trap 0 6 htrap.1 htrap.2) (by kernel_rfl) rfl ?_; simp only [go_sem]
      refine zst ?_
      refine callDv (wth_T q.count 0 1099511627776 hcount.1 hcount.2) (by kernel_rfl) rfl ?_; simp only [go_sem]
      refine zst ?_
      refine callDv (wth_T q.pc 0 255 hpc.1 hpc.2) (by kernel_rfl) rfl ?_; simp only [go_sem]
      refine zst ?_
      refine callDv (wth_T q.call 0 15 hcall.1 hcall.2) (by kernel_rfl) rfl ?_; simp only [go_sem]
      refine zst ?_
      (first | refine callD (fa) ?_ | refine callDw (fa) ?_); simp only [go_sem]
      refine zst ?_
      (first | refine callD (fd) ?_ | refine callDw (fd) ?_); simp only [go_sem]
      refine zst ?_
      refine ret m_wrval_ok [] ?_; exact zfn
set_option maxHeartbeats 16000000 in
theorem rrval_fn (q : Request) : Fnc Try.prog 68 [reqV q] (fun x obs => x = .bool (valQ q) ∧ obs = []) := by
  have fa := rcels_fn q.args 3
  have fd := rcels_fn q.data 16
  by_cases thread0 : 0 ≤ q.thread
  rotate_left
  · rw [valQ_F (fun F => thread0 F.thread.1)]
    refine Fnc.intro m_rrval_ok (by simp) fun W S => ?_
    unfold m_rrval
    simp only [ents, Nat.zero_add, Nat.reduceAdd]
    refine zst ?_
    refine ret m_rrval_ok [] ?_; exact zfn
  by_cases thread1 : q.thread ≤ 3
  rotate_left
  · rw [valQ_F (fun F => thread1 F.thread.2)]
    refine Fnc.intro m_rrval_ok (by simp) fun W S => ?_
    unfold m_rrval
    simp only [ents, Nat.zero_add, Nat.reduceAdd]
    refine zst ?_
    refine ret m_rrval_ok [] ?_; exact zfn
  by_cases stop0 : 0 ≤ q.stop
  rotate_left
  · rw [valQ_F (fun F => stop0 F.stop.1)]
    refine Fnc.intro m_rrval_ok (by simp) fun W S => ?_
    unfold m_rrval
    simp only [ents, Nat.zero_add, Nat.reduceAdd]
    refine zst ?_
    refine ret m_rrval_ok [] ?_; exact zfn
  by_cases stop1 : q.stop ≤ 3
  rotate_left
  · rw [valQ_F (fun F => stop1 F.stop.2)]
    refine Fnc.intro m_rrval_ok (by simp) fun W S => ?_
    unfold m_rrval
    simp only [ents, Nat.zero_add, Nat.reduceAdd]
    refine zst ?_
    refine ret m_rrval_ok [] ?_; exact zfn
  by_cases trap0 : 0 ≤ q.trap
  rotate_left
  · rw [valQ_F (fun F => trap0 F.trap.1)]
    refine Fnc.intro m_rrval_ok (by simp) fun W S => ?_
    unfold m_rrval
    simp only [ents, Nat.zero_add, Nat.reduceAdd]
    refine zst ?_
    refine ret m_rrval_ok [] ?_; exact zfn
  by_cases trap1 : q.trap ≤ 6
  rotate_left
  · rw [valQ_F (fun F => trap1 F.trap.2)]
    refine Fnc.intro m_rrval_ok (by simp) fun W S => ?_
    unfold m_rrval
    simp only [ents, Nat.zero_add, Nat.reduceAdd]
    refine zst ?_
    refine ret m_rrval_ok [] ?_; exact zfn
  by_cases count0 : 0 ≤ q.count
  rotate_left
  · rw [valQ_F (fun F => count0 F.count.1)]
    refine Fnc.intro m_rrval_ok (by simp) fun W S => ?_
    unfold m_rrval
    simp only [ents, Nat.zero_add, Nat.reduceAdd]
    refine zst ?_
    refine ret m_rrval_ok [] ?_; exact zfn
  by_cases count1 : q.count ≤ 1099511627776
  rotate_left
  · rw [valQ_F (fun F => count1 F.count.2)]
    refine Fnc.intro m_rrval_ok (by simp) fun W S => ?_
    unfold m_rrval
    simp only [ents, Nat.zero_add, Nat.reduceAdd]
    refine zst ?_
    refine ret m_rrval_ok [] ?_; exact zfn
  by_cases pc0 : 0 ≤ q.pc
  rotate_left
  · rw [valQ_F (fun F => pc0 F.pc.1)]
    refine Fnc.intro m_rrval_ok (by simp) fun W S => ?_
    unfold m_rrval
    simp only [ents, Nat.zero_add, Nat.reduceAdd]
    refine zst ?_
    refine ret m_rrval_ok [] ?_; exact zfn
  by_cases pc1 : q.pc ≤ 255
  rotate_left
  · rw [valQ_F (fun F => pc1 F.pc.2)]
    refine Fnc.intro m_rrval_ok (by simp) fun W S => ?_
    unfold m_rrval
    simp only [ents, Nat.zero_add, Nat.reduceAdd]
    refine zst ?_
    refine ret m_rrval_ok [] ?_; exact zfn
  by_cases call0 : 0 ≤ q.call
  rotate_left
  · rw [valQ_F (fun F => call0 F.call.1)]
    refine Fnc.intro m_rrval_ok (by simp) fun W S => ?_
    unfold m_rrval
    simp only [ents, Nat.zero_add, Nat.reduceAdd]
    refine zst ?_
    refine ret m_rrval_ok [] ?_; exact zfn
  by_cases call1 : q.call ≤ 15
  rotate_left
  · rw [valQ_F (fun F => call1 F.call.2)]
    refine Fnc.intro m_rrval_ok (by simp) fun W S => ?_
    unfold m_rrval
    simp only [ents, Nat.zero_add, Nat.reduceAdd]
    refine zst ?_
    refine ret m_rrval_ok [] ?_; exact zfn
  cases ea : cellsB q.args 3 with
  | false =>
    rw [ea] at fa
    rw [valQ_F (fun F => by rw [F.args] at ea; cases ea)]
    refine Fnc.intro m_rrval_ok (by simp) fun W S => ?_
    unfold m_rrval
    simp only [ents, Nat.zero_add, Nat.reduceAdd]
    refine zst ?_
    (first | refine callD (fa) ?_ | refine callDw (fa) ?_); simp only [go_sem]
    refine zst ?_
    refine ret m_rrval_ok [] ?_; exact zfn
  | true =>
    rw [ea] at fa
    cases ed : cellsB q.data 16 with
    | false =>
      rw [ed] at fd
      rw [valQ_F (fun F => by rw [F.data] at ed; cases ed)]
      refine Fnc.intro m_rrval_ok (by simp) fun W S => ?_
      unfold m_rrval
      simp only [ents, Nat.zero_add, Nat.reduceAdd]
      refine zst ?_
      (first | refine callD (fa) ?_ | refine callDw (fa) ?_); simp only [go_sem]
      refine zst ?_
      (first | refine callD (fd) ?_ | refine callDw (fd) ?_); simp only [go_sem]
      refine zst ?_
      refine ret m_rrval_ok [] ?_; exact zfn
    | true =>
      rw [ed] at fd
      rw [valQ_T ⟨⟨thread0, thread1⟩, ⟨stop0, stop1⟩, ⟨trap0, trap1⟩, ⟨count0, count1⟩, ⟨pc0, pc1⟩, ⟨call0, call1⟩, ea, ed⟩]
      refine Fnc.intro m_rrval_ok (by simp) fun W S => ?_
      unfold m_rrval
      simp only [ents, Nat.zero_add, Nat.reduceAdd]
      refine zst ?_
      (first | refine callD (fa) ?_ | refine callDw (fa) ?_); simp only [go_sem]
      refine zst ?_
      (first | refine callD (fd) ?_ | refine callDw (fd) ?_); simp only [go_sem]
      refine zst ?_
      refine ret m_rrval_ok [] ?_; exact zfn
end Go.Proofs.Ytkfpcgkmemfdaaa
/- Requests: whether a call has the arguments that it takes. -/
namespace Go.Proofs.Ytkfpcgkmemfdaaa
open Go Go.RowKit Rdn Rdn.Dp
set_option linter.unusedVariables false
set_option linter.unusedSimpArgs false
def m_wasks : MC := .seq (.reg [⟨(some 1), none, (.m (.box 43 (.t 0)))⟩, ⟨(some 2), none, (.p (.mov (.c (.bool false))))⟩])
 (.seq (.reg [⟨(some 3), none, (.p (.mov (.c (.nilS))))⟩])
 (.seq (.seq (.reg [⟨(some 6), none, (.p (.fieldA 6 6 (.t 1)))⟩, ⟨(some 7), none, (.p (.load false 1 (.t 6)))⟩, ⟨(some 8), none, (.p (.len (.t 7)))⟩, ⟨(some 9), none, (.p (.mov (.c (.int .i64 0))))⟩])
 (.block 0 (.loop (.seq (.reg [⟨(some 10), none, (.p (.bin 0 .lss (.t 9) (.t 8)))⟩])
 (.seq (.cond (.t 10) (.skip) (.exit 0))
 (.seq (.block 1 (.seq (.reg [⟨(some 11), none, (.p (.idxA 4 (.t 7) (.t 9)))⟩, ⟨(some 12), none, (.p (.load true 4 (.t 11)))⟩, ⟨(some 5), none, (.m (.alloc 47 (.agg [.int .u8 0, .int .u16 0, .int .i64 0, .int .i64 0])))⟩, ⟨none, none, (.m (.store 4 (.t 5) (.t 12)))⟩])
 (.reg [⟨(some 13), none, (.p (.mov (.t 3)))⟩, ⟨(some 14), none, (.p (.fieldA 0 0 (.t 5)))⟩, ⟨(some 15), none, (.p (.load false 1 (.t 14)))⟩, ⟨(some 16), none, (.m (.buildS 5 1 (.int .u8 0) 1 [(0, (.t 15))]))⟩, ⟨(some 17), none, (.m (.app 5 1 1 (.t 13) (.t 16)))⟩, ⟨(some 3), none, (.p (.mov (.t 17)))⟩])))
 (.reg [⟨(some 18), none, (.p (.bin 0 .add (.t 9) (.c (.int .i64 1))))⟩, ⟨(some 9), none, (.p (.mov (.t 18)))⟩])))))))
 (.seq (.reg [⟨(some 19), none, (.p (.load true 8 (.t 1)))⟩, ⟨(some 20), none, (.call 82 [(.t 19)])⟩, ⟨(some 21), none, (.p (.mov (.t 20)))⟩, ⟨(some 22), (some (21, true)), (.p (.fieldA 1 1 (.t 1)))⟩, ⟨(some 23), (some (21, true)), (.p (.load false 1 (.t 22)))⟩, ⟨(some 24), (some (21, true)), (.p (.bin 0 .eql (.t 23) (.c (.int .i64 1))))⟩, ⟨(some 25), none, (.p (.pick (.t 21) (.t 24) (.c (.bool false))))⟩, ⟨(some 26), none, (.p (.mov (.t 25)))⟩, ⟨(some 27), (some (26, true)), (.p (.fieldA 5 5 (.t 1)))⟩, ⟨(some 28), (some (26, true)), (.p (.load false 1 (.t 27)))⟩, ⟨(some 29), (some (26, true)), (.p (.mov (.t 3)))⟩, ⟨(some 30), (some (26, true)), (.call 83 [(.t 28), (.t 29)])⟩, ⟨(some 31), none, (.p (.pick (.t 26) (.t 30) (.c (.bool false))))⟩, ⟨(some 2), none, (.p (.mov (.t 31)))⟩])
 (.ret))))
theorem m_wasks_ok : compF Try.prog 36 = some (32, m_wasks, [.mov (.t 2)]) := by kernel_rfl
def m_rkinds : MC := .seq (.reg [⟨(some 1), none, (.m (.box 43 (.t 0)))⟩, ⟨(some 2), none, (.p (.mov (.c (.bool false))))⟩])
 (.seq (.reg [⟨(some 6), none, (.p (.fieldA 5 5 (.t 1)))⟩, ⟨(some 7), none, (.p (.load false 1 (.t 6)))⟩, ⟨(some 8), none, (.call 53 [(.t 7)])⟩, ⟨(some 3), none, (.p (.mov (.t 8)))⟩])
 (.seq (.seq (.reg [⟨(some 9), none, (.p (.mov (.t 3)))⟩, ⟨(some 10), none, (.p (.lenS (.t 9)))⟩, ⟨(some 11), none, (.p (.fieldA 6 6 (.t 1)))⟩, ⟨(some 12), none, (.p (.load false 1 (.t 11)))⟩, ⟨(some 13), none, (.p (.len (.t 12)))⟩, ⟨(some 14), none, (.p (.bin 0 .neq (.t 10) (.t 13)))⟩])
 (.cond (.t 14) (.seq (.reg [⟨(some 2), none, (.p (.mov (.c (.bool false))))⟩])
 (.ret)) (.skip)))
 (.seq (.seq (.reg [⟨(some 15), none, (.p (.fieldA 6 6 (.t 1)))⟩, ⟨(some 16), none, (.p (.load false 1 (.t 15)))⟩, ⟨(some 17), none, (.p (.len (.t 16)))⟩, ⟨(some 18), none, (.p (.mov (.c (.int .i64 0))))⟩])
 (.block 0 (.loop (.seq (.reg [⟨(some 19), none, (.p (.bin 0 .lss (.t 18) (.t 17)))⟩])
 (.seq (.cond (.t 19) (.skip) (.exit 0))
 (.seq (.block 1 (.seq (.reg [⟨(some 20), none, (.p (.mov (.t 18)))⟩, ⟨(some 21), none, (.p (.idxA 4 (.t 16) (.t 18)))⟩, ⟨(some 22), none, (.p (.load true 4 (.t 21)))⟩, ⟨(some 5), none, (.m (.alloc 47 (.agg [.int .u8 0, .int .u16 0, .int .i64 0, .int .i64 0])))⟩, ⟨(some 4), none, (.p (.mov (.t 20)))⟩, ⟨none, none, (.m (.store 4 (.t 5) (.t 22)))⟩])
 (.seq (.dreg [⟨(some 23), none, (.p (.mov (.t 3)))⟩, ⟨(some 24), none, (.p (.mov (.t 4)))⟩, ⟨(some 25), none, (.p (.idxS (.t 23) (.t 24)))⟩, ⟨(some 26), none, (.p (.fieldA 0 0 (.t 5)))⟩, ⟨(some 27), none, (.p (.load false 1 (.t 26)))⟩, ⟨(some 28), none, (.call 54 [(.t 25), (.t 27)])⟩, ⟨(some 29), none, (.p (.un .not (.t 28)))⟩] [[], [], [0, 1], [], [3], [0, 1, 2, 3, 4], [0, 1, 2, 3, 4, 5]])
 (.cond (.t 29) (.seq (.reg [⟨(some 2), none, (.p (.mov (.c (.bool false))))⟩])
 (.ret)) (.skip)))))
 (.reg [⟨(some 30), none, (.p (.bin 0 .add (.t 18) (.c (.int .i64 1))))⟩, ⟨(some 18), none, (.p (.mov (.t 30)))⟩])))))))
 (.seq (.reg [⟨(some 2), none, (.p (.mov (.c (.bool true))))⟩])
 (.ret)))))
theorem m_rkinds_ok : compF Try.prog 19 = some (31, m_rkinds, [.mov (.t 2)]) := by kernel_rfl
def kfit (k t : Int) : Bool := if k = 78 then decide (t = 0) else if k = 72 then decide (t = 2) else if k = 80 then decide (t = 1) else true
def fitsN (ks ts : List Int) : Nat → Bool
  | 0 => true
  | n + 1 => fitsN ks ts n && kfit ks[n]! ts[n]!
def fitsL (ks ts : List Int) : Bool := decide (ks.length = ts.length) && fitsN ks ts ts.length
def tagsQ (q : Request) : List Int := q.args.map Canon.tag
noncomputable def asksB (q : Request) : Bool := valQ q && decide (q.stop = 1) && fitsL (kl q.call) (tagsQ q)
theorem kfit_NT {k t : Int} (h : k = 78) (h2 : t = 0) : kfit k t = true := by subst h; subst h2; rfl
theorem kfit_NF {k t : Int} (h : k = 78) (h2 : ¬ t = 0) : kfit k t = false := by subst h; unfold kfit; rw [if_pos rfl, decF h2]
theorem kfit_HT {k t : Int} (h : k = 72) (h2 : t = 2) : kfit k t = true := by subst h; subst h2; rfl
theorem kfit_HF {k t : Int} (h : k = 72) (h2 : ¬ t = 2) : kfit k t = false := by subst h; unfold kfit; rw [if_neg (by decide), if_pos rfl, decF h2]
theorem kfit_PT {k t : Int} (h : k = 80) (h2 : t = 1) : kfit k t = true := by subst h; subst h2; rfl
theorem kfit_PF {k t : Int} (h : k = 80) (h2 : ¬ t = 1) : kfit k t = false := by subst h; unfold kfit; rw [if_neg (by decide), if_neg (by decide), if_pos rfl, decF h2]
theorem kfit_X {k t : Int} (h1 : ¬ k = 78) (h2 : ¬ k = 72) (h3 : ¬ k = 80) : kfit k t = true := by unfold kfit; rw [if_neg h1, if_neg h2, if_neg h3]
theorem fitsN_T {ks ts : List Int} {n : Nat} (h : fitsN ks ts n = true) (h2 : kfit ks[n]! ts[n]! = true) : fitsN ks ts (n + 1) = true := by show (fitsN ks ts n && kfit ks[n]! ts[n]!) = true; rw [h, h2]; rfl
theorem fitsN_F {ks ts : List Int} {n : Nat} (h2 : kfit ks[n]! ts[n]! = false) : fitsN ks ts (n + 1) = false := by show (fitsN ks ts n && kfit ks[n]! ts[n]!) = false; rw [h2, Bool.and_false]
theorem fitsN_G {ks ts : List Int} {n : Nat} (h : fitsN ks ts n = false) : fitsN ks ts (n + 1) = false := by show (fitsN ks ts n && kfit ks[n]! ts[n]!) = false; rw [h, Bool.false_and]
theorem fitsN_le {ks ts : List Int} {n m : Nat} (h : fitsN ks ts n = false) (hm : n ≤ m) : fitsN ks ts m = false := by
  induction m with
  | zero => obtain rfl : n = 0 := by omega
            exact h
  | succ m ih =>
    by_cases e : n = m + 1
    · subst e; exact h
    · exact fitsN_G (ih (by omega))
theorem kb_kl (c : Int) : (kb c).size = (kl c).length ∧ ∀ k, k < (kl c).length → ((kb c)[k]?.getD 0).toNat = (kl c)[k]! := by
  by_cases h : 0 ≤ c ∧ c ≤ 15
  · rcases call_cases h.1 h.2 with rfl | rfl | rfl | rfl | rfl | rfl | rfl | rfl | rfl | rfl | rfl | rfl | rfl | rfl | rfl | rfl <;> exact ⟨by decide, by decide⟩
  · have a : kb c = ByteArray.empty := by
      unfold kb
      rw [if_neg (by omega), if_neg (by omega), if_neg (by omega), if_neg (by omega), if_neg (by omega), if_neg (by omega), if_neg (by omega)]
    have b : kl c = [] := by
      unfold kl
      rw [if_neg (by omega), if_neg (by omega), if_neg (by omega), if_neg (by omega), if_neg (by omega), if_neg (by omega), if_neg (by omega)]
    rw [a, b]
    exact ⟨rfl, fun k hk => absurd hk (Nat.not_lt_zero k)⟩
theorem kl_len (c : Int) : (kl c).length ≤ 3 := by
  unfold kl
  repeat' split
  all_goals decide
attribute [local irreducible] kb kl kfit fitsN
set_option maxHeartbeats 16000000 in
theorem wfit_fn (c : Int) (h0 : 0 ≤ c) (h1 : c ≤ 15) (ts : List Int) (hl : ts.length ≤ 1000) : Fnc Try.prog 83 [.int .i64 c, .sl false 1 (ts.map (V.int .u8))] (fun x obs => x = .bool (fitsL (kl c) ts) ∧ obs = []) := by
  have f := wkin_fn c h0 h1
  obtain ⟨hs, hk⟩ := kb_kl c
  have h3 := kl_len c
  have hi : inK .i64 ((kl c).length : Int) := inK_i64 (by omega) (by omega)
  by_cases e : (kl c).length = ts.length
  · have hr : fitsL (kl c) ts = fitsN (kl c) ts ts.length := by unfold fitsL; rw [decT e, Bool.true_and]
    rw [hr]
    have hz : fitsN (kl c) ts 0 = true := by unfold fitsN; rfl
    refine Fnc.intro m_wfit_ok (by simp) fun W S => ?_
    unfold m_wfit
    simp only [ents, Nat.zero_add, Nat.reduceAdd]
    refine zst ?_
    (first | refine callD (f) ?_ | refine callDw (f) ?_); refine zev ?_
    repeat (first | (simp only [hi, hs]; try simp only [go_sem]) | refine And.intro (by omega) ?_ | refine And.intro rfl ?_ | refine ev_ctl rfl rfl ?_ | refine evr_nil ?_ | refine evw_nil (by kernel_rfl) ?_ | (simp (disch := omega) only [takeAll, Nat.min_eq_left, Nat.min_eq_right, if_pos, if_neg, getD_map, wrapI64, modIn, fdivE, tmodE, tdivE, decT, decF, beqT, beqF, bneT, bneF, Int.toNat_natCast]; try simp only [go_sem]) | (refine ev_condTb rfl ?_ ?_; · (simp <;> omega)) | (refine ev_condFb rfl ?_ ?_; · (simp <;> omega)) | ((first | refine ev_region ?_ | refine evr_go rfl ?_ | refine evw_go rfl ?_ | refine ev_dr0 mixed rfl (by kernel_rfl) ?_ | refine ev_dr1 mixed rfl (by kernel_rfl) ?_ | refine ev_dr2 mixed rfl (by kernel_rfl) ?_); simp only [go_sem]))
    refine ev_loopK [5, 25, 26] (fun p : {p : Nat // p ≤ ts.length} => [(27, .int .i64 p.1), (7, .bool (fitsN (kl c) ts p.1))]) (fun _ => []) (fun p => ts.length - p.1) (⟨0, by simp⟩) 0 (by simp only [go_sem]; rfl) ?_ (by first | rfl | (simp only [go_sem]; done) | (simp only [go_sem]; simp [hz]; done)) (by simp) (by first | rfl | (simp only [go_sem]; done)) (by first | rfl | (simp only [go_sem]; done)) (by first | rfl | (simp only [go_sem]; done) | (simp only [hz]; (try simp only [go_sem]); first | done | rfl)) ?_
    · (simp only [go_sem]; (try simp [hz]); done)
    intro J hJ
    rintro ⟨k, hk0⟩
    by_cases hlt : k < ts.length
    · have hkk := hk k (by omega)
      cases g : fitsN (kl c) ts k with
      | false =>
        have hS := fitsN_G g
        by_cases c1 : (kl c)[k]! = 78
        · rw [c1] at hkk
          refine zsx (And.intro g (hkk)) ?_
          refine ev_next 0 (hJ _ (⟨k + 1, hlt⟩) (by first | omega | (dsimp only; omega) | (simp; omega))) rfl (by simp) ?_ (by first | rfl | (simp only [go_sem]; done)) (by first | rfl | (simp only [go_sem]; done) | (simp only [hS]; (try simp only [go_sem]); first | done | rfl)) ?_
          · exact zna hS
          · exact znb hS
        by_cases c2 : (kl c)[k]! = 72
        · rw [c2] at hkk
          refine zsx (And.intro g (hkk)) ?_
          refine ev_next 0 (hJ _ (⟨k + 1, hlt⟩) (by first | omega | (dsimp only; omega) | (simp; omega))) rfl (by simp) ?_ (by first | rfl | (simp only [go_sem]; done)) (by first | rfl | (simp only [go_sem]; done) | (simp only [hS]; (try simp only [go_sem]); first | done | rfl)) ?_
          · exact zna hS
          · exact znb hS
        by_cases c3 : (kl c)[k]! = 80
        · rw [c3] at hkk
          refine zsx (And.intro g (hkk)) ?_
          refine ev_next 0 (hJ _ (⟨k + 1, hlt⟩) (by first | omega | (dsimp only; omega) | (simp; omega))) rfl (by simp) ?_ (by first | rfl | (simp only [go_sem]; done)) (by first | rfl | (simp only [go_sem]; done) | (simp only [hS]; (try simp only [go_sem]); first | done | rfl)) ?_
          · exact zna hS
          · exact znb hS
        · skip
          refine zsx (And.intro g (hkk)) ?_
          refine ev_next 0 (hJ _ (⟨k + 1, hlt⟩) (by first | omega | (dsimp only; omega) | (simp; omega))) rfl (by simp) ?_ (by first | rfl | (simp only [go_sem]; done)) (by first | rfl | (simp only [go_sem]; done) | (simp only [hS]; (try simp only [go_sem]); first | done | rfl)) ?_
          · exact zna hS
          · exact znb hS
      | true =>
        by_cases c1 : (kl c)[k]! = 78
        · rw [c1] at hkk
          by_cases d : ts[k]! = 0
          · have hS := fitsN_T g (kfit_NT c1 d)
            refine zsx (And.intro g (hkk)) ?_
            refine ev_next 0 (hJ _ (⟨k + 1, hlt⟩) (by first | omega | (dsimp only; omega) | (simp; omega))) rfl (by simp) ?_ (by first | rfl | (simp only [go_sem]; done)) (by first | rfl | (simp only [go_sem]; done) | (simp only [hS]; (try simp only [go_sem]); first | done | rfl)) ?_
            · exact zna hS
            · exact znb hS
          · have hS := fitsN_F (ts := ts) (kfit_NF c1 d)
            refine zsx (And.intro g (hkk)) ?_
            refine ev_next 0 (hJ _ (⟨k + 1, hlt⟩) (by first | omega | (dsimp only; omega) | (simp; omega))) rfl (by simp) ?_ (by first | rfl | (simp only [go_sem]; done)) (by first | rfl | (simp only [go_sem]; done) | (simp only [hS]; (try simp only [go_sem]); first | done | rfl)) ?_
            · exact zna hS
            · exact znb hS
        by_cases c2 : (kl c)[k]! = 72
        · rw [c2] at hkk
          by_cases d : ts[k]! = 2
          · have hS := fitsN_T g (kfit_HT c2 d)
            refine zsx (And.intro g (hkk)) ?_
            refine ev_next 0 (hJ _ (⟨k + 1, hlt⟩) (by first | omega | (dsimp only; omega) | (simp; omega))) rfl (by simp) ?_ (by first | rfl | (simp only [go_sem]; done)) (by first | rfl | (simp only [go_sem]; done) | (simp only [hS]; (try simp only [go_sem]); first | done | rfl)) ?_
            · exact zna hS
            · exact znb hS
          · have hS := fitsN_F (ts := ts) (kfit_HF c2 d)
            refine zsx (And.intro g (hkk)) ?_
            refine ev_next 0 (hJ _ (⟨k + 1, hlt⟩) (by first | omega | (dsimp only; omega) | (simp; omega))) rfl (by simp) ?_ (by first | rfl | (simp only [go_sem]; done)) (by first | rfl | (simp only [go_sem]; done) | (simp only [hS]; (try simp only [go_sem]); first | done | rfl)) ?_
            · exact zna hS
            · exact znb hS
        by_cases c3 : (kl c)[k]! = 80
        · rw [c3] at hkk
          by_cases d : ts[k]! = 1
          · have hS := fitsN_T g (kfit_PT c3 d)
            refine zsx (And.intro g (hkk)) ?_
            refine ev_next 0 (hJ _ (⟨k + 1, hlt⟩) (by first | omega | (dsimp only; omega) | (simp; omega))) rfl (by simp) ?_ (by first | rfl | (simp only [go_sem]; done)) (by first | rfl | (simp only [go_sem]; done) | (simp only [hS]; (try simp only [go_sem]); first | done | rfl)) ?_
            · exact zna hS
            · exact znb hS
          · have hS := fitsN_F (ts := ts) (kfit_PF c3 d)
            refine zsx (And.intro g (hkk)) ?_
            refine ev_next 0 (hJ _ (⟨k + 1, hlt⟩) (by first | omega | (dsimp only; omega) | (simp; omega))) rfl (by simp) ?_ (by first | rfl | (simp only [go_sem]; done)) (by first | rfl | (simp only [go_sem]; done) | (simp only [hS]; (try simp only [go_sem]); first | done | rfl)) ?_
            · exact zna hS
            · exact znb hS
        · have hS := fitsN_T g (kfit_X (t := ts[k]!) c1 c2 c3)
          refine zsx (And.intro g (hkk)) ?_
          refine ev_next 0 (hJ _ (⟨k + 1, hlt⟩) (by first | omega | (dsimp only; omega) | (simp; omega))) rfl (by simp) ?_ (by first | rfl | (simp only [go_sem]; done)) (by first | rfl | (simp only [go_sem]; done) | (simp only [hS]; (try simp only [go_sem]); first | done | rfl)) ?_
          · exact zna hS
          · exact znb hS
    · obtain rfl : k = ts.length := by omega
      refine zst ?_
      refine ret m_wfit_ok [] ?_; exact zfn
  · have hr : fitsL (kl c) ts = false := by unfold fitsL; rw [decF e, Bool.false_and]
    rw [hr]
    refine Fnc.intro m_wfit_ok (by simp) fun W S => ?_
    unfold m_wfit
    simp only [ents, Nat.zero_add, Nat.reduceAdd]
    refine zst ?_
    (first | refine callD (f) ?_ | refine callDw (f) ?_); refine zev ?_
    repeat (first | (simp only [hi, hs]; try simp only [go_sem]) | refine And.intro (by omega) ?_ | refine And.intro rfl ?_ | refine ev_ctl rfl rfl ?_ | refine evr_nil ?_ | refine evw_nil (by kernel_rfl) ?_ | (simp (disch := omega) only [takeAll, Nat.min_eq_left, Nat.min_eq_right, if_pos, if_neg, getD_map, wrapI64, modIn, fdivE, tmodE, tdivE, decT, decF, beqT, beqF, bneT, bneF, Int.toNat_natCast]; try simp only [go_sem]) | (refine ev_condTb rfl ?_ ?_; · (simp <;> omega)) | (refine ev_condFb rfl ?_ ?_; · (simp <;> omega)) | ((first | refine ev_region ?_ | refine evr_go rfl ?_ | refine evw_go rfl ?_ | refine ev_dr0 mixed rfl (by kernel_rfl) ?_ | refine ev_dr1 mixed rfl (by kernel_rfl) ?_ | refine ev_dr2 mixed rfl (by kernel_rfl) ?_); simp only [go_sem]))
    refine ret m_wfit_ok [] ?_; exact zfn
end Go.Proofs.Ytkfpcgkmemfdaaa
/- Requests: whether they ask. -/
namespace Go.Proofs.Ytkfpcgkmemfdaaa
open Go Go.RowKit Rdn Rdn.Dp
set_option linter.unusedVariables false
set_option linter.unusedSimpArgs false
set_option maxHeartbeats 4000000 in
theorem rfit_fn (k t : Int) : Fnc Try.prog 54 [.int .u8 k, .int .u8 t] (fun x obs => x = .bool (kfit k t) ∧ obs = []) := by
  by_cases c1 : k = 78
  · by_cases d : t = 0
    · rw [kfit_NT c1 d]
      refine Fnc.intro m_rfit_ok (by simp) fun W S => ?_
      unfold m_rfit
      simp only [ents, Nat.zero_add, Nat.reduceAdd]
      refine zst ?_
      refine ret m_rfit_ok [] ?_; exact zfn
    · rw [kfit_NF c1 d]
      refine Fnc.intro m_rfit_ok (by simp) fun W S => ?_
      unfold m_rfit
      simp only [ents, Nat.zero_add, Nat.reduceAdd]
      refine zst ?_
      refine ret m_rfit_ok [] ?_; exact zfn
  by_cases c2 : k = 72
  · by_cases d : t = 2
    · rw [kfit_HT c2 d]
      refine Fnc.intro m_rfit_ok (by simp) fun W S => ?_
      unfold m_rfit
      simp only [ents, Nat.zero_add, Nat.reduceAdd]
      refine zst ?_
      refine ret m_rfit_ok [] ?_; exact zfn
    · rw [kfit_HF c2 d]
      refine Fnc.intro m_rfit_ok (by simp) fun W S => ?_
      unfold m_rfit
      simp only [ents, Nat.zero_add, Nat.reduceAdd]
      refine zst ?_
      refine ret m_rfit_ok [] ?_; exact zfn
  by_cases c3 : k = 80
  · by_cases d : t = 1
    · rw [kfit_PT c3 d]
      refine Fnc.intro m_rfit_ok (by simp) fun W S => ?_
      unfold m_rfit
      simp only [ents, Nat.zero_add, Nat.reduceAdd]
      refine zst ?_
      refine ret m_rfit_ok [] ?_; exact zfn
    · rw [kfit_PF c3 d]
      refine Fnc.intro m_rfit_ok (by simp) fun W S => ?_
      unfold m_rfit
      simp only [ents, Nat.zero_add, Nat.reduceAdd]
      refine zst ?_
      refine ret m_rfit_ok [] ?_; exact zfn
  · rw [kfit_X c1 c2 c3]
    refine Fnc.intro m_rfit_ok (by simp) fun W S => ?_
    unfold m_rfit
    simp only [ents, Nat.zero_add, Nat.reduceAdd]
    refine zst ?_
    refine ret m_rfit_ok [] ?_; exact zfn
theorem tagsQ_at {q : Request} {k : Nat} (h : k < q.args.length) : (tagsQ q)[k]! = q.args[k]!.tag := by
  unfold tagsQ
  rw [getElem!_pos _ k (by rw [List.length_map]; exact h), getElem!_pos _ k h, List.getElem_map]
theorem tagsQ_len (q : Request) : (tagsQ q).length = q.args.length := List.length_map ..
theorem tags_snoc {l : List Canon} {k : Nat} (h : k < l.length) : (l.take k).map Canon.tag ++ [l[k]!.tag] = (l.take (k + 1)).map Canon.tag := by rw [take_snoc h, List.map_append]; rfl
attribute [local irreducible] kb kl kfit fitsN fitsL valQ tagsQ
set_option maxHeartbeats 16000000 in
theorem rkinds_fn (q : Request) (ha : q.args.length ≤ 1000) : Fnc Try.prog 19 [reqV q] (fun x obs => x = .bool (fitsL (kl q.call) (tagsQ q)) ∧ obs = []) := by
  have f := rkin_fn q.call
  obtain ⟨hs, hk⟩ := kb_kl q.call
  have h3 := kl_len q.call
  have ht := tagsQ_len q
  have hi : inK .i64 ((kl q.call).length : Int) := inK_i64 (by omega) (by omega)
  by_cases e : (kl q.call).length = q.args.length
  · have hr : fitsL (kl q.call) (tagsQ q) = fitsN (kl q.call) (tagsQ q) q.args.length := by unfold fitsL; rw [decT (by omega), Bool.true_and, ht]
    rw [hr]
    have hz : fitsN (kl q.call) (tagsQ q) 0 = true := by unfold fitsN; rfl
    refine Fnc.intro m_rkinds_ok (by simp) fun W S => ?_
    unfold m_rkinds
    simp only [ents, Nat.zero_add, Nat.reduceAdd]
    refine zst ?_
    (first | refine callD (f) ?_ | refine callDw (f) ?_); refine zev ?_
    refine zsx (And.intro hi (hs)) ?_
    refine ev_loopK [3, 16, 17] (fun p : {p : Nat // p ≤ q.args.length ∧ fitsN (kl q.call) (tagsQ q) p = true} => [(18, .int .i64 p.1)]) (fun _ => [⟨.box false 43, true, 0, reqV q⟩]) (fun p => q.args.length - p.1) (⟨0, by simp, hz⟩) 1 (by simp only [go_sem]; rfl) ?_ (by first | rfl | (simp only [go_sem]; done)) (by simp) (by first | rfl | (simp only [go_sem]; done)) (by first | rfl | (simp only [go_sem]; done)) (by first | rfl | (simp only [go_sem]; done)) ?_
    · (simp only [go_sem]; (try simp []); done)
    intro J hJ
    rintro ⟨k, hk0, hk1⟩
    by_cases hlt : k < q.args.length
    · have hkk := hk k (by omega)
      have fk := rfit_fn (kl q.call)[k]! q.args[k]!.tag
      have hta := tagsQ_at hlt
      by_cases g : kfit (kl q.call)[k]! q.args[k]!.tag = true
      · have hS : fitsN (kl q.call) (tagsQ q) (k + 1) = true := fitsN_T hk1 (by rw [hta]; exact g)
        rw [g] at fk
        refine zsx (And.intro hkk (hs)) ?_
        (first | refine callD (fk) ?_ | refine callDw (fk) ?_); simp only [go_sem]
        refine zst ?_
        refine ev_next 1 (hJ _ (⟨k + 1, hlt, hS⟩) (by first | omega | (dsimp only; omega) | (simp; omega))) rfl (by simp) ?_ (by first | rfl | (simp only [go_sem]; done)) (by first | rfl | (simp only [go_sem]; done) | (simp only [hlt]; (try simp only [go_sem]); first | done | rfl)) ?_
        · exact zna hlt
        · exact znb hlt
      · rw [Bool.not_eq_true] at g
        rw [g] at fk
        rw [fitsN_le (fitsN_F (n := k) (by rw [hta]; exact g)) hlt]
        refine zsx (And.intro hkk (hs)) ?_
        (first | refine callD (fk) ?_ | refine callDw (fk) ?_); simp only [go_sem]
        refine zst ?_
        refine ret m_rkinds_ok [] ?_; exact zfn
    · obtain rfl : k = q.args.length := by omega
      refine zst ?_
      refine ret m_rkinds_ok [] ?_; (first | (simp only [go_sem]; done) | (simp only [go_sem]; ((try dsimp only); (repeat' (refine And.intro ?_ ?_)) <;> first | with_reducible rfl | (simp only [go_sem]; done) | (simp only [go_sem]; rfl) | (simp only [go_sem, hk1]; done) | (simp only [hk1]; (try simp only [go_sem]); first | done | rfl) | (simp only [go_sem]; simp [hk1]; done) | (simp [hk1]; done) | rfl)))
  · have hr : fitsL (kl q.call) (tagsQ q) = false := by unfold fitsL; rw [decF (by omega), Bool.false_and]
    rw [hr]
    refine Fnc.intro m_rkinds_ok (by simp) fun W S => ?_
    unfold m_rkinds
    simp only [ents, Nat.zero_add, Nat.reduceAdd]
    refine zst ?_
    (first | refine callD (f) ?_ | refine callDw (f) ?_); refine zev ?_
    refine zsx (And.intro hi (hs)) ?_
    refine ret m_rkinds_ok [] ?_; exact zfn
set_option maxHeartbeats 16000000 in
theorem wasks_fn (q : Request) (ha : q.args.length ≤ 1000) : Fnc Try.prog 36 [reqV q] (fun x obs => x = .bool (asksB q) ∧ obs = []) := by
  have fv := wrval_fn q
  have ht : q.args.map Canon.tag = tagsQ q := by unfold tagsQ; rfl
  have hl := tagsQ_len q
  refine Fnc.intro m_wasks_ok (by simp) fun W S => ?_
  unfold m_wasks
  simp only [ents, Nat.zero_add, Nat.reduceAdd]
  refine zst ?_
  refine ev_adopt (i := 3) (e := 5) (s := 1) rfl (by decide) ?_
  refine ev_loopK [1, 7, 8] (fun p : {p : Nat // p ≤ q.args.length} => [(3, .own 1 p.1), (9, .int .i64 p.1)]) (fun p => [⟨.box false 43, true, 0, reqV q⟩, ⟨.row 5, true, p.1, .arr 1 (((q.args.take p.1).map Canon.tag).map (V.int .u8))⟩]) (fun p => q.args.length - p.1) (⟨0, by simp⟩) 2 (by simp only [go_sem]; rfl) ?_ (by first | rfl | (simp only [go_sem]; done)) (by simp) (by first | rfl | (simp only [go_sem]; done)) (by first | rfl | (simp only [go_sem]; done)) (by first | rfl | (simp only [go_sem]; done)) ?_
  · (simp only [go_sem]; (try simp []); done)
  intro J hJ
  rintro ⟨k, hk0⟩
  by_cases hlt : k < q.args.length
  · have hs := tags_snoc hlt
    have h2 : ((q.args.take k).map Canon.tag).length = k := by rw [List.length_map, List.length_take]; omega
    refine zst ?_
    refine ev_next 2 (hJ _ (⟨k + 1, hlt⟩) (by first | omega | (dsimp only; omega) | (simp; omega))) rfl (by simp) ?_ (by first | rfl | (simp only [go_sem]; done)) (by first | rfl | (simp only [go_sem]; done) | (simp only [hs]; (try simp only [go_sem]); first | done | rfl)) ?_
    · exact zna hs
    · exact znb hs
  · obtain rfl : k = q.args.length := by omega
    cases e : valQ q with
    | false =>
      rw [e] at fv
      rw [show asksB q = false by unfold asksB; rw [e]; rfl]
      repeat (first | (simp only [List.take_length, ht]; try simp only [go_sem]) | refine And.intro (by omega) ?_ | refine And.intro rfl ?_ | refine ev_ctl rfl rfl ?_ | refine evr_nil ?_ | refine evw_nil (by kernel_rfl) ?_ | (simp (disch := omega) only [takeAll, Nat.min_eq_left, Nat.min_eq_right, if_pos, if_neg, getD_map, wrapI64, modIn, fdivE, tmodE, tdivE, decT, decF, beqT, beqF, bneT, bneF, Int.toNat_natCast]; try simp only [go_sem]) | (refine ev_condTb rfl ?_ ?_; · (simp <;> omega)) | (refine ev_condFb rfl ?_ ?_; · (simp <;> omega)) | ((first | refine ev_region ?_ | refine evr_go rfl ?_ | refine evw_go rfl ?_ | refine ev_dr0 mixed rfl (by kernel_rfl) ?_ | refine ev_dr1 mixed rfl (by kernel_rfl) ?_ | refine ev_dr2 mixed rfl (by kernel_rfl) ?_); simp only [go_sem]))
      (first | refine callD (fv) ?_ | refine callDw (fv) ?_); simp only [go_sem]
      refine zst ?_
      refine ret m_wasks_ok [] ?_; exact zfn
    | true =>
      rw [e] at fv
      by_cases c : q.stop = 1
      · have F := valQ_to e
        have ff := wfit_fn q.call F.call.1 F.call.2 (tagsQ q) (by omega)
        rw [show asksB q = fitsL (kl q.call) (tagsQ q) by unfold asksB; rw [e, decT c]; rfl]
        repeat (first | (simp only [List.take_length, ht]; try simp only [go_sem]) | refine And.intro (by omega) ?_ | refine And.intro rfl ?_ | refine ev_ctl rfl rfl ?_ | refine evr_nil ?_ | refine evw_nil (by kernel_rfl) ?_ | (simp (disch := omega) only [takeAll, Nat.min_eq_left, Nat.min_eq_right, if_pos, if_neg, getD_map, wrapI64, modIn, fdivE, tmodE, tdivE, decT, decF, beqT, beqF, bneT, bneF, Int.toNat_natCast]; try simp only [go_sem]) | (refine ev_condTb rfl ?_ ?_; · (simp <;> omega)) | (refine ev_condFb rfl ?_ ?_; · (simp <;> omega)) | ((first | refine ev_region ?_ | refine evr_go rfl ?_ | refine evw_go rfl ?_ | refine ev_dr0 mixed rfl (by kernel_rfl) ?_ | refine ev_dr1 mixed rfl (by kernel_rfl) ?_ | refine ev_dr2 mixed rfl (by kernel_rfl) ?_); simp only [go_sem]))
        (first | refine callD (fv) ?_ | refine callDw (fv) ?_); simp only [go_sem]
        refine zst ?_
        refine evr_calmA ?_; (refine zev ?_); (first | refine callD (ff) ?_ | refine callDw (ff) ?_); simp only [go_sem]
        refine zst ?_
        refine ret m_wasks_ok [] ?_; exact zfn
      · rw [show asksB q = false by unfold asksB; rw [e, decF c]; rfl]
        repeat (first | (simp only [List.take_length, ht]; try simp only [go_sem]) | refine And.intro (by omega) ?_ | refine And.intro rfl ?_ | refine ev_ctl rfl rfl ?_ | refine evr_nil ?_ | refine evw_nil (by kernel_rfl) ?_ | (simp (disch := omega) only [takeAll, Nat.min_eq_left, Nat.min_eq_right, if_pos, if_neg, getD_map, wrapI64, modIn, fdivE, tmodE, tdivE, decT, decF, beqT, beqF, bneT, bneF, Int.toNat_natCast]; try simp only [go_sem]) | (refine ev_condTb rfl ?_ ?_; · (simp <;> omega)) | (refine ev_condFb rfl ?_ ?_; · (simp <;> omega)) | ((first | refine ev_region ?_ | refine evr_go rfl ?_ | refine evw_go rfl ?_ | refine ev_dr0 mixed rfl (by kernel_rfl) ?_ | refine ev_dr1 mixed rfl (by kernel_rfl) ?_ | refine ev_dr2 mixed rfl (by kernel_rfl) ?_); simp only [go_sem]))
        (first | refine callD (fv) ?_ | refine callDw (fv) ?_); simp only [go_sem]
        refine zst ?_
        refine ret m_wasks_ok [] ?_; exact zfn
end Go.Proofs.Ytkfpcgkmemfdaaa
