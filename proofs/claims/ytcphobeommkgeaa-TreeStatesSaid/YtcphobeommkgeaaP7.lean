/- Digests of cells and of threads. -/
import Derived.Test.YtcphobeommkgeaaM1
import Derived.Test.YtcphobeommkgeaaZt
namespace Go.Proofs.Ytcphobeommkgeaa
open Go Go.RowKit Rdn Rdn.Dp
set_option linter.unusedVariables false
set_option linter.unusedSimpArgs false
def m_long : MC := .seq (.reg [⟨(some 2), none, (.m (.alloc 129 (.arr 1 [.int .u8 0, .int .u8 0, .int .u8 0, .int .u8 0, .int .u8 0, .int .u8 0, .int .u8 0, .int .u8 0])))⟩])
 (.seq (.reg [⟨(some 3), none, (.m (.alloc 129 (.arr 1 [.int .u8 0, .int .u8 0, .int .u8 0, .int .u8 0, .int .u8 0, .int .u8 0, .int .u8 0, .int .u8 0])))⟩])
 (.seq (.reg [⟨(some 6), none, (.p (.mov (.t 0)))⟩, ⟨(some 7), none, (.p (.conv .u64 (.t 6)))⟩, ⟨(some 4), none, (.p (.mov (.t 7)))⟩])
 (.seq (.seq (.reg [⟨(some 8), none, (.p (.mov (.c (.int .i64 0))))⟩])
 (.block 0 (.loop (.seq (.reg [⟨(some 9), none, (.p (.bin 0 .lss (.t 8) (.c (.int .i64 8))))⟩])
 (.seq (.cond (.t 9) (.skip) (.exit 0))
 (.seq (.block 1 (.seq (.reg [⟨(some 10), none, (.p (.mov (.t 8)))⟩, ⟨(some 5), none, (.p (.mov (.t 10)))⟩])
 (.reg [⟨(some 11), none, (.p (.mov (.t 5)))⟩, ⟨(some 12), none, (.p (.mov (.t 4)))⟩, ⟨(some 13), none, (.p (.mov (.t 5)))⟩, ⟨(some 14), none, (.p (.bin 0 .mul (.c (.int .i64 8)) (.t 13)))⟩, ⟨(some 15), none, (.p (.bin 0 .shr (.t 12) (.t 14)))⟩, ⟨(some 16), none, (.p (.conv .u8 (.t 15)))⟩, ⟨(some 17), none, (.p (.idxAA 8 1 (.t 3) (.t 11)))⟩, ⟨none, none, (.m (.store 1 (.t 17) (.t 16)))⟩])))
 (.reg [⟨(some 18), none, (.p (.bin 0 .add (.t 8) (.c (.int .i64 1))))⟩, ⟨(some 8), none, (.p (.mov (.t 18)))⟩])))))))
 (.seq (.reg [⟨(some 19), none, (.p (.load true 8 (.t 3)))⟩, ⟨none, none, (.m (.store 8 (.t 2) (.t 19)))⟩])
 (.ret)))))
theorem m_long_ok : compF Try.prog 106 = some (20, m_long, [.load true 8 (.t 2)]) := by kernel_rfl
def m_rnum : MC := .seq (.reg [⟨(some 2), none, (.p (.mov (.c (.nilS))))⟩])
 (.seq (.reg [⟨(some 6), none, (.p (.mov (.t 0)))⟩, ⟨(some 7), none, (.p (.conv .u64 (.t 6)))⟩, ⟨(some 3), none, (.p (.mov (.t 7)))⟩])
 (.seq (.reg [⟨(some 8), none, (.m (.mkS 5 1 1 (.int .u8 0) (.c (.int .i64 8)) (.c (.int .i64 8))))⟩, ⟨(some 4), none, (.p (.mov (.t 8)))⟩])
 (.seq (.seq (.reg [⟨(some 5), none, (.p (.mov (.c (.int .i64 0))))⟩])
 (.block 0 (.loop (.seq (.seq (.reg [⟨(some 9), none, (.p (.mov (.t 5)))⟩, ⟨(some 10), none, (.p (.bin 0 .lss (.t 9) (.c (.int .i64 8))))⟩])
 (.cond (.t 10) (.skip) (.exit 0)))
 (.seq (.block 1 (.reg [⟨(some 13), none, (.p (.mov (.t 4)))⟩, ⟨(some 14), none, (.p (.mov (.t 5)))⟩, ⟨(some 15), none, (.p (.mov (.t 3)))⟩, ⟨(some 16), none, (.p (.mov (.t 5)))⟩, ⟨(some 17), none, (.p (.bin 0 .mul (.c (.int .i64 8)) (.t 16)))⟩, ⟨(some 18), none, (.p (.conv .u64 (.t 17)))⟩, ⟨(some 19), none, (.p (.bin 0 .shr (.t 15) (.t 18)))⟩, ⟨(some 20), none, (.p (.conv .u8 (.t 19)))⟩, ⟨(some 21), none, (.p (.idxA 1 (.t 13) (.t 14)))⟩, ⟨none, none, (.m (.store 1 (.t 21) (.t 20)))⟩]))
 (.reg [⟨(some 11), none, (.p (.mov (.t 5)))⟩, ⟨(some 12), none, (.p (.bin 0 .add (.t 11) (.c (.int .i64 1))))⟩, ⟨(some 5), none, (.p (.mov (.t 12)))⟩]))))))
 (.seq (.reg [⟨(some 22), none, (.p (.mov (.t 4)))⟩, ⟨(some 2), none, (.p (.mov (.t 22)))⟩])
 (.ret)))))
theorem m_rnum_ok : compF Try.prog 108 = some (23, m_rnum, [.mov (.t 2)]) := by kernel_rfl
def m_bytes : MC := .seq (.reg [⟨(some 1), none, (.m (.box 84 (.t 0)))⟩, ⟨(some 2), none, (.p (.mov (.c (.nilS))))⟩])
 (.seq (.dreg [⟨(some 6), none, (.p (.fieldA 2 2 (.t 1)))⟩, ⟨(some 7), none, (.p (.load false 1 (.t 6)))⟩, ⟨(some 8), none, (.call 106 [(.t 7)])⟩, ⟨(some 9), none, (.p (.fieldA 3 3 (.t 1)))⟩, ⟨(some 10), none, (.p (.load false 1 (.t 9)))⟩, ⟨(some 11), none, (.call 106 [(.t 10)])⟩, ⟨(some 3), none, (.m (.alloc 129 (.arr 1 [.int .u8 0, .int .u8 0, .int .u8 0, .int .u8 0, .int .u8 0, .int .u8 0, .int .u8 0, .int .u8 0])))⟩, ⟨(some 4), none, (.m (.alloc 129 (.arr 1 [.int .u8 0, .int .u8 0, .int .u8 0, .int .u8 0, .int .u8 0, .int .u8 0, .int .u8 0, .int .u8 0])))⟩, ⟨none, none, (.m (.store 8 (.t 3) (.t 8)))⟩, ⟨none, none, (.m (.store 8 (.t 4) (.t 11)))⟩] [[], [0], [0, 1], [], [3], [0, 1, 2, 3, 4], [], [], [0, 1, 2, 3, 4, 5, 6, 7], [0, 1, 2, 3, 4, 5, 6, 7, 8]])
 (.seq (.reg [⟨(some 12), none, (.p (.fieldA 0 0 (.t 1)))⟩, ⟨(some 13), none, (.p (.load false 1 (.t 12)))⟩, ⟨(some 14), none, (.p (.fieldA 1 1 (.t 1)))⟩, ⟨(some 15), none, (.p (.load false 1 (.t 14)))⟩, ⟨(some 16), none, (.p (.conv .u8 (.t 15)))⟩, ⟨(some 17), none, (.p (.fieldA 1 1 (.t 1)))⟩, ⟨(some 18), none, (.p (.load false 1 (.t 17)))⟩, ⟨(some 19), none, (.p (.bin 0 .shr (.t 18) (.c (.int .u64 8))))⟩, ⟨(some 20), none, (.p (.conv .u8 (.t 19)))⟩, ⟨(some 21), none, (.m (.buildS 5 1 (.int .u8 0) 3 [(0, (.t 13)), (1, (.t 16)), (2, (.t 20))]))⟩, ⟨(some 5), none, (.p (.mov (.t 21)))⟩])
 (.seq (.dreg [⟨(some 22), none, (.p (.mov (.t 5)))⟩, ⟨(some 23), none, (.m (.slA 8 1 (.t 3) none none none))⟩, ⟨(some 24), none, (.m (.app 5 1 1 (.t 22) (.t 23)))⟩, ⟨(some 25), none, (.m (.slA 8 1 (.t 4) none none none))⟩, ⟨(some 26), none, (.m (.app 5 1 1 (.t 24) (.t 25)))⟩, ⟨(some 2), none, (.p (.mov (.t 26)))⟩] [[], [], [0, 1], [], [0, 1, 2, 3], [0, 1, 2, 3, 4]])
 (.ret))))
theorem m_bytes_ok : compF Try.prog 112 = some (27, m_bytes, [.mov (.t 2)]) := by kernel_rfl
def m_rBytes : MC := .seq (.reg [⟨(some 1), none, (.m (.box 84 (.t 0)))⟩, ⟨(some 2), none, (.p (.mov (.c (.nilS))))⟩])
 (.seq (.reg [⟨(some 4), none, (.p (.fieldA 0 0 (.t 1)))⟩, ⟨(some 5), none, (.p (.load false 1 (.t 4)))⟩, ⟨(some 6), none, (.p (.fieldA 1 1 (.t 1)))⟩, ⟨(some 7), none, (.p (.load false 1 (.t 6)))⟩, ⟨(some 8), none, (.p (.conv .u8 (.t 7)))⟩, ⟨(some 9), none, (.p (.fieldA 1 1 (.t 1)))⟩, ⟨(some 10), none, (.p (.load false 1 (.t 9)))⟩, ⟨(some 11), none, (.p (.bin 0 .shr (.t 10) (.c (.int .u64 8))))⟩, ⟨(some 12), none, (.p (.conv .u8 (.t 11)))⟩, ⟨(some 13), none, (.m (.buildS 5 1 (.int .u8 0) 3 [(0, (.t 5)), (1, (.t 8)), (2, (.t 12))]))⟩, ⟨(some 3), none, (.p (.mov (.t 13)))⟩])
 (.seq (.reg [⟨(some 14), none, (.p (.mov (.t 3)))⟩, ⟨(some 15), none, (.p (.fieldA 2 2 (.t 1)))⟩, ⟨(some 16), none, (.p (.load false 1 (.t 15)))⟩, ⟨(some 17), none, (.call 108 [(.t 16)])⟩, ⟨(some 18), none, (.m (.app 5 1 1 (.t 14) (.t 17)))⟩, ⟨(some 3), none, (.p (.mov (.t 18)))⟩])
 (.seq (.reg [⟨(some 19), none, (.p (.mov (.t 3)))⟩, ⟨(some 20), none, (.p (.fieldA 3 3 (.t 1)))⟩, ⟨(some 21), none, (.p (.load false 1 (.t 20)))⟩, ⟨(some 22), none, (.call 108 [(.t 21)])⟩, ⟨(some 23), none, (.m (.app 5 1 1 (.t 19) (.t 22)))⟩, ⟨(some 2), none, (.p (.mov (.t 23)))⟩])
 (.ret))))
theorem m_rBytes_ok : compF Try.prog 113 = some (24, m_rBytes, [.mov (.t 2)]) := by kernel_rfl
def m_cells : MC := .seq (.reg [⟨(some 4), none, (.p (.mov (.c (.int .u32 0))))⟩])
 (.seq (.reg [⟨(some 8), none, (.p (.mov (.t 1)))⟩, ⟨(some 9), none, (.p (.len (.t 8)))⟩, ⟨(some 10), none, (.call 106 [(.t 9)])⟩, ⟨(some 5), none, (.m (.alloc 129 (.arr 1 [.int .u8 0, .int .u8 0, .int .u8 0, .int .u8 0, .int .u8 0, .int .u8 0, .int .u8 0, .int .u8 0])))⟩, ⟨none, none, (.m (.store 8 (.t 5) (.t 10)))⟩])
 (.seq (.reg [⟨(some 11), none, (.p (.mov (.t 0)))⟩, ⟨(some 12), none, (.m (.slA 8 1 (.t 5) none none none))⟩, ⟨(some 13), none, (.call 99 [(.t 11), (.t 12)])⟩, ⟨(some 0), none, (.p (.mov (.t 13)))⟩])
 (.seq (.seq (.reg [⟨(some 14), none, (.p (.mov (.t 1)))⟩, ⟨(some 15), none, (.p (.len (.t 14)))⟩, ⟨(some 16), none, (.p (.mov (.c (.int .i64 0))))⟩])
 (.block 0 (.loop (.seq (.reg [⟨(some 17), none, (.p (.bin 0 .lss (.t 16) (.t 15)))⟩])
 (.seq (.cond (.t 17) (.skip) (.exit 0))
 (.seq (.block 1 (.seq (.reg [⟨(some 18), none, (.p (.idxA 4 (.t 14) (.t 16)))⟩, ⟨(some 19), none, (.p (.load true 4 (.t 18)))⟩, ⟨(some 7), none, (.m (.alloc 84 (.agg [.int .u8 0, .int .u16 0, .int .i64 0, .int .i64 0])))⟩, ⟨none, none, (.m (.store 4 (.t 7) (.t 19)))⟩])
 (.reg [⟨(some 20), none, (.p (.mov (.t 0)))⟩, ⟨(some 21), none, (.p (.load true 4 (.t 7)))⟩, ⟨(some 22), none, (.call 112 [(.t 21)])⟩, ⟨(some 23), none, (.call 99 [(.t 20), (.t 22)])⟩, ⟨(some 0), none, (.p (.mov (.t 23)))⟩])))
 (.reg [⟨(some 24), none, (.p (.bin 0 .add (.t 16) (.c (.int .i64 1))))⟩, ⟨(some 16), none, (.p (.mov (.t 24)))⟩])))))))
 (.seq (.reg [⟨(some 25), none, (.p (.mov (.t 0)))⟩, ⟨(some 4), none, (.p (.mov (.t 25)))⟩])
 (.ret)))))
theorem m_cells_ok : compF Try.prog 107 = some (26, m_cells, [.mov (.t 4)]) := by kernel_rfl
def m_rlist : MC := .seq (.reg [⟨(some 2), none, (.p (.mov (.c (.nilS))))⟩])
 (.seq (.reg [⟨(some 5), none, (.p (.mov (.t 0)))⟩, ⟨(some 6), none, (.p (.len (.t 5)))⟩, ⟨(some 7), none, (.call 108 [(.t 6)])⟩, ⟨(some 3), none, (.p (.mov (.t 7)))⟩])
 (.seq (.seq (.reg [⟨(some 4), none, (.p (.mov (.c (.int .i64 0))))⟩])
 (.block 0 (.loop (.seq (.seq (.reg [⟨(some 8), none, (.p (.mov (.t 4)))⟩, ⟨(some 9), none, (.p (.mov (.t 0)))⟩, ⟨(some 10), none, (.p (.len (.t 9)))⟩, ⟨(some 11), none, (.p (.bin 0 .lss (.t 8) (.t 10)))⟩])
 (.cond (.t 11) (.skip) (.exit 0)))
 (.seq (.block 1 (.reg [⟨(some 14), none, (.p (.mov (.t 3)))⟩, ⟨(some 15), none, (.p (.mov (.t 0)))⟩, ⟨(some 16), none, (.p (.mov (.t 4)))⟩, ⟨(some 17), none, (.p (.idxA 4 (.t 15) (.t 16)))⟩, ⟨(some 18), none, (.p (.load true 4 (.t 17)))⟩, ⟨(some 19), none, (.call 113 [(.t 18)])⟩, ⟨(some 20), none, (.m (.app 5 1 1 (.t 14) (.t 19)))⟩, ⟨(some 3), none, (.p (.mov (.t 20)))⟩]))
 (.reg [⟨(some 12), none, (.p (.mov (.t 4)))⟩, ⟨(some 13), none, (.p (.bin 0 .add (.t 12) (.c (.int .i64 1))))⟩, ⟨(some 4), none, (.p (.mov (.t 13)))⟩]))))))
 (.seq (.reg [⟨(some 21), none, (.p (.mov (.t 3)))⟩, ⟨(some 2), none, (.p (.mov (.t 21)))⟩])
 (.ret))))
theorem m_rlist_ok : compF Try.prog 110 = some (22, m_rlist, [.mov (.t 2)]) := by kernel_rfl
def m_Cells : MC := .seq (.reg [⟨(some 2), none, (.p (.mov (.c (.int .u32 0))))⟩])
 (.seq (.reg [⟨(some 3), none, (.p (.mov (.t 0)))⟩, ⟨(some 4), none, (.call 107 [(.c (.int .u32 2166136261)), (.t 3)])⟩, ⟨(some 2), none, (.p (.mov (.t 4)))⟩])
 (.ret))
theorem m_Cells_ok : compF Try.prog 90 = some (5, m_Cells, [.mov (.t 2)]) := by kernel_rfl
def m_rCells : MC := .seq (.reg [⟨(some 2), none, (.p (.mov (.c (.int .u32 0))))⟩])
 (.seq (.reg [⟨(some 3), none, (.p (.mov (.t 0)))⟩, ⟨(some 4), none, (.call 110 [(.t 3)])⟩, ⟨(some 5), none, (.call 109 [(.c (.int .u32 2166136261)), (.t 4)])⟩, ⟨(some 2), none, (.p (.mov (.t 5)))⟩])
 (.ret))
theorem m_rCells_ok : compF Try.prog 92 = some (6, m_rCells, [.mov (.t 2)]) := by kernel_rfl
def m_thread : MC := .seq (.reg [⟨(some 1), none, (.m (.box 43 (.t 0)))⟩, ⟨(some 2), none, (.p (.mov (.c (.int .u32 0))))⟩])
 (.seq (.reg [⟨(some 3), none, (.p (.mov (.c (.int .u32 2166136261))))⟩])
 (.seq (.seq (.reg [⟨(some 7), none, (.p (.fieldA 0 0 (.t 1)))⟩, ⟨(some 8), none, (.p (.load false 1 (.t 7)))⟩, ⟨(some 9), none, (.p (.fieldA 1 1 (.t 1)))⟩, ⟨(some 10), none, (.p (.load false 1 (.t 9)))⟩, ⟨(some 11), none, (.p (.fieldA 2 2 (.t 1)))⟩, ⟨(some 12), none, (.p (.load false 1 (.t 11)))⟩, ⟨(some 13), none, (.p (.fieldA 3 3 (.t 1)))⟩, ⟨(some 14), none, (.p (.load false 1 (.t 13)))⟩, ⟨(some 15), none, (.p (.fieldA 4 4 (.t 1)))⟩, ⟨(some 16), none, (.p (.load false 1 (.t 15)))⟩, ⟨(some 17), none, (.p (.fieldA 5 5 (.t 1)))⟩, ⟨(some 18), none, (.p (.load false 1 (.t 17)))⟩, ⟨(some 19), none, (.m (.build (some 1) [.int .i64 0, .int .i64 0, .int .i64 0, .int .i64 0, .int .i64 0, .int .i64 0] [(0, (.t 8)), (1, (.t 10)), (2, (.t 12)), (3, (.t 14)), (4, (.t 16)), (5, (.t 18))]))⟩, ⟨(some 20), none, (.p (.mov (.c (.int .i64 0))))⟩])
 (.block 0 (.loop (.seq (.reg [⟨(some 21), none, (.p (.bin 0 .lss (.t 20) (.c (.int .i64 6))))⟩])
 (.seq (.cond (.t 21) (.skip) (.exit 0))
 (.seq (.block 1 (.seq (.reg [⟨(some 22), none, (.p (.idx false 6 1 (.t 19) (.t 20)))⟩, ⟨(some 5), none, (.p (.mov (.t 22)))⟩])
 (.seq (.reg [⟨(some 23), none, (.p (.mov (.t 5)))⟩, ⟨(some 24), none, (.call 106 [(.t 23)])⟩, ⟨(some 6), none, (.m (.alloc 129 (.arr 1 [.int .u8 0, .int .u8 0, .int .u8 0, .int .u8 0, .int .u8 0, .int .u8 0, .int .u8 0, .int .u8 0])))⟩, ⟨none, none, (.m (.store 8 (.t 6) (.t 24)))⟩])
 (.reg [⟨(some 25), none, (.p (.mov (.t 3)))⟩, ⟨(some 26), none, (.m (.slA 8 1 (.t 6) none none none))⟩, ⟨(some 27), none, (.call 99 [(.t 25), (.t 26)])⟩, ⟨(some 3), none, (.p (.mov (.t 27)))⟩]))))
 (.reg [⟨(some 28), none, (.p (.bin 0 .add (.t 20) (.c (.int .i64 1))))⟩, ⟨(some 20), none, (.p (.mov (.t 28)))⟩])))))))
 (.seq (.dreg [⟨(some 29), none, (.p (.mov (.t 3)))⟩, ⟨(some 30), none, (.p (.fieldA 6 6 (.t 1)))⟩, ⟨(some 31), none, (.p (.load false 1 (.t 30)))⟩, ⟨(some 32), none, (.p (.conv .u8 (.t 31)))⟩, ⟨(some 33), none, (.p (.fieldA 6 6 (.t 1)))⟩, ⟨(some 34), none, (.p (.load false 1 (.t 33)))⟩, ⟨(some 35), none, (.p (.bin 0 .shr (.t 34) (.c (.int .u64 8))))⟩, ⟨(some 36), none, (.p (.conv .u8 (.t 35)))⟩, ⟨(some 37), none, (.m (.buildS 5 1 (.int .u8 0) 2 [(0, (.t 32)), (1, (.t 36))]))⟩, ⟨(some 38), none, (.call 99 [(.t 29), (.t 37)])⟩, ⟨(some 39), none, (.p (.fieldA 7 7 (.t 1)))⟩, ⟨(some 40), none, (.p (.load false 1 (.t 39)))⟩, ⟨(some 41), none, (.call 107 [(.t 38), (.t 40)])⟩, ⟨(some 2), none, (.p (.mov (.t 41)))⟩] [[], [], [1], [1, 2], [], [4], [4, 5], [4, 5, 6], [1, 2, 3, 4, 5, 6, 7], [0, 1, 2, 3, 4, 5, 6, 7, 8], [], [10], [0, 1, 2, 3, 4, 5, 6, 7, 8, 9, 10, 11], [0, 1, 2, 3, 4, 5, 6, 7, 8, 9, 10, 11, 12]])
 (.ret))))
theorem m_thread_ok : compF Try.prog 89 = some (42, m_thread, [.mov (.t 2)]) := by kernel_rfl
def m_rThread : MC := .seq (.reg [⟨(some 1), none, (.m (.box 43 (.t 0)))⟩, ⟨(some 2), none, (.p (.mov (.c (.int .u32 0))))⟩])
 (.seq (.reg [⟨(some 3), none, (.p (.mov (.c (.nilS))))⟩])
 (.seq (.reg [⟨(some 6), none, (.p (.fieldA 0 0 (.t 1)))⟩, ⟨(some 7), none, (.p (.load false 1 (.t 6)))⟩, ⟨(some 8), none, (.p (.fieldA 1 1 (.t 1)))⟩, ⟨(some 9), none, (.p (.load false 1 (.t 8)))⟩, ⟨(some 10), none, (.p (.fieldA 2 2 (.t 1)))⟩, ⟨(some 11), none, (.p (.load false 1 (.t 10)))⟩, ⟨(some 12), none, (.p (.fieldA 3 3 (.t 1)))⟩, ⟨(some 13), none, (.p (.load false 1 (.t 12)))⟩, ⟨(some 14), none, (.p (.fieldA 4 4 (.t 1)))⟩, ⟨(some 15), none, (.p (.load false 1 (.t 14)))⟩, ⟨(some 16), none, (.p (.fieldA 5 5 (.t 1)))⟩, ⟨(some 17), none, (.p (.load false 1 (.t 16)))⟩, ⟨(some 18), none, (.m (.build (some 1) [.int .i64 0, .int .i64 0, .int .i64 0, .int .i64 0, .int .i64 0, .int .i64 0] [(0, (.t 7)), (1, (.t 9)), (2, (.t 11)), (3, (.t 13)), (4, (.t 15)), (5, (.t 17))]))⟩, ⟨(some 4), none, (.m (.alloc 128 (.arr 1 [.int .i64 0, .int .i64 0, .int .i64 0, .int .i64 0, .int .i64 0, .int .i64 0])))⟩, ⟨none, none, (.m (.store 6 (.t 4) (.t 18)))⟩])
 (.seq (.seq (.reg [⟨(some 5), none, (.p (.mov (.c (.int .i64 0))))⟩])
 (.block 0 (.loop (.seq (.seq (.reg [⟨(some 19), none, (.p (.mov (.t 5)))⟩, ⟨(some 20), none, (.p (.bin 0 .lss (.t 19) (.c (.int .i64 6))))⟩])
 (.cond (.t 20) (.skip) (.exit 0)))
 (.seq (.block 1 (.reg [⟨(some 23), none, (.p (.mov (.t 3)))⟩, ⟨(some 24), none, (.p (.mov (.t 5)))⟩, ⟨(some 25), none, (.p (.idxAA 6 1 (.t 4) (.t 24)))⟩, ⟨(some 26), none, (.p (.load false 1 (.t 25)))⟩, ⟨(some 27), none, (.call 108 [(.t 26)])⟩, ⟨(some 28), none, (.m (.app 5 1 1 (.t 23) (.t 27)))⟩, ⟨(some 3), none, (.p (.mov (.t 28)))⟩]))
 (.reg [⟨(some 21), none, (.p (.mov (.t 5)))⟩, ⟨(some 22), none, (.p (.bin 0 .add (.t 21) (.c (.int .i64 1))))⟩, ⟨(some 5), none, (.p (.mov (.t 22)))⟩]))))))
 (.seq (.reg [⟨(some 29), none, (.p (.mov (.t 3)))⟩, ⟨(some 30), none, (.p (.fieldA 6 6 (.t 1)))⟩, ⟨(some 31), none, (.p (.load false 1 (.t 30)))⟩, ⟨(some 32), none, (.p (.conv .u8 (.t 31)))⟩, ⟨(some 33), none, (.p (.fieldA 6 6 (.t 1)))⟩, ⟨(some 34), none, (.p (.load false 1 (.t 33)))⟩, ⟨(some 35), none, (.p (.bin 0 .shr (.t 34) (.c (.int .u64 8))))⟩, ⟨(some 36), none, (.p (.conv .u8 (.t 35)))⟩, ⟨(some 37), none, (.m (.buildS 5 1 (.int .u8 0) 2 [(0, (.t 32)), (1, (.t 36))]))⟩, ⟨(some 38), none, (.m (.app 5 1 1 (.t 29) (.t 37)))⟩, ⟨(some 3), none, (.p (.mov (.t 38)))⟩])
 (.seq (.reg [⟨(some 39), none, (.p (.mov (.t 3)))⟩, ⟨(some 40), none, (.p (.fieldA 7 7 (.t 1)))⟩, ⟨(some 41), none, (.p (.load false 1 (.t 40)))⟩, ⟨(some 42), none, (.call 110 [(.t 41)])⟩, ⟨(some 43), none, (.m (.app 5 1 1 (.t 39) (.t 42)))⟩, ⟨(some 44), none, (.call 109 [(.c (.int .u32 2166136261)), (.t 43)])⟩, ⟨(some 2), none, (.p (.mov (.t 44)))⟩])
 (.ret))))))
theorem m_rThread_ok : compF Try.prog 91 = some (45, m_rThread, [.mov (.t 2)]) := by kernel_rfl
/-- The 8 bytes of a number, the least first. -/
def le8 (n : Int) : List Int := [n % 18446744073709551616 % 256, n % 18446744073709551616 / 256 % 256, n % 18446744073709551616 / 65536 % 256, n % 18446744073709551616 / 16777216 % 256, n % 18446744073709551616 / 4294967296 % 256, n % 18446744073709551616 / 1099511627776 % 256, n % 18446744073709551616 / 281474976710656 % 256, n % 18446744073709551616 / 72057594037927936]
theorem le8_len (n : Int) : (le8 n).length = 8 := rfl
theorem le8_take {α : Type} (f : Int → α) (n : Int) : ((le8 n).map f).take 8 = (le8 n).map f := rfl
def cbytes (c : Canon) : List Int := [c.tag, c.val % 256, c.val / 256] ++ (le8 c.region ++ le8 c.offset)
theorem cbytes_len (c : Canon) : (cbytes c).length = 19 := rfl
def lbytes (l : List Canon) : List Int := le8 l.length ++ l.flatMap cbytes
theorem flat_len : ∀ l : List Canon, (l.flatMap cbytes).length = 19 * l.length
  | [] => rfl
  | c :: l => by rw [List.flatMap_cons, List.length_append, cbytes_len, flat_len l, List.length_cons]; omega
theorem dadd_app (s : Int) (l m : List Int) : dadd s (l ++ m) = dadd (dadd s l) m := by simp [dadd]
theorem flat_snoc (l : List Canon) (c : Canon) : (l ++ [c]).flatMap cbytes = l.flatMap cbytes ++ cbytes c := by simp
def tbytes (v : View) : List Int := le8 v.state ++ (le8 v.pc ++ (le8 v.count ++ (le8 v.handler ++ (le8 v.saved ++ (le8 v.trap ++ ([v.code % 256, v.code / 256] ++ lbytes v.regs))))))
attribute [local go_sem] le8_len le8_take cbytes_len
set_option maxHeartbeats 4000000 in
theorem long_fn (n : Int) : Fnc Try.prog 106 [.int .i64 n] (fun x obs => x = .arr 1 (u8s (le8 n)) ∧ obs = []) := by
  refine Fnc.intro m_long_ok (by simp) fun W S => ?_
  unfold m_long
  simp only [ents, Nat.zero_add, Nat.reduceAdd]
  refine zst ?_
  refine ev_unroll 9 ?_
  refine zst ?_
  refine ret m_long_ok [] ?_; (first | (simp only [go_sem]; done) | (simp only [go_sem]; ((try dsimp only); (repeat' (refine And.intro ?_ ?_)) <;> first | with_reducible rfl | (simp only [go_sem]; done) | (simp only [go_sem]; rfl) | (simp only [go_sem, le8]; done) | (simp only [le8]; (try simp only [go_sem]); first | done | rfl) | (simp only [go_sem]; simp [le8]; done) | (simp [le8]; done) | rfl)))
set_option maxHeartbeats 4000000 in
theorem rnum_fn (n : Int) : Fnc Try.prog 108 [.int .i64 n] (fun x obs => x = .sl true 1 (u8s (le8 n)) ∧ obs = []) := by
  refine Fnc.intro m_rnum_ok (by simp) fun W S => ?_
  unfold m_rnum
  simp only [ents, Nat.zero_add, Nat.reduceAdd]
  refine zst ?_
  refine ev_unroll 9 ?_
  refine zst ?_
  refine ret m_rnum_ok [] ?_; (first | (simp only [go_sem]; done) | (simp only [go_sem]; ((try dsimp only); (repeat' (refine And.intro ?_ ?_)) <;> first | with_reducible rfl | (simp only [go_sem]; done) | (simp only [go_sem]; rfl) | (simp only [go_sem, le8]; done) | (simp only [le8]; (try simp only [go_sem]); first | done | rfl) | (simp only [go_sem]; simp [le8]; done) | (simp [le8]; done) | rfl)))
set_option maxHeartbeats 4000000 in
theorem rnum_own (n : Int) : Fnc Try.prog 108 [.int .i64 n] (fun x obs => x = .own 0 0 ∧ obs = [⟨.row 5, true, 0, .arr 1 (u8s (le8 n))⟩]) := by
  refine Fnc.intro m_rnum_ok (by simp) fun W S => ?_
  unfold m_rnum
  simp only [ents, Nat.zero_add, Nat.reduceAdd]
  refine zst ?_
  refine ev_unroll 9 ?_
  refine zst ?_
  refine ret m_rnum_ok [0] ?_; (first | (simp only [go_sem]; done) | (simp only [go_sem]; ((try dsimp only); (repeat' (refine And.intro ?_ ?_)) <;> first | with_reducible rfl | (simp only [go_sem]; done) | (simp only [go_sem]; rfl) | (simp only [go_sem, le8]; done) | (simp only [le8]; (try simp only [go_sem]); first | done | rfl) | (simp only [go_sem]; simp [le8]; done) | (simp [le8]; done) | rfl)))
attribute [local irreducible] le8
set_option maxHeartbeats 4000000 in
theorem bytes_fn (c : Canon) : Fnc Try.prog 112 [canonV c] (fun x obs => x = .sl true 1 (u8s (cbytes c)) ∧ obs = []) := by
  refine Fnc.wf fun hw => ?_
  simp only [V.wfs, V.wf, wfs_map, List.length_map] at hw
  have hv := inK_u16' hw.1.2.1
  refine Fnc.intro m_bytes_ok (by simp) fun W S => ?_
  unfold m_bytes
  simp only [ents, Nat.zero_add, Nat.reduceAdd]
  refine zst ?_
  (first | refine callD (long_fn c.region) ?_ | refine callDw (long_fn c.region) ?_); simp only [go_sem]
  refine zst ?_
  (first | refine callD (long_fn c.offset) ?_ | refine callDw (long_fn c.offset) ?_); simp only [go_sem]
  refine zst ?_
  refine ret m_bytes_ok [] ?_; (first | (simp only [go_sem]; done) | (simp only [go_sem]; ((try dsimp only); (repeat' (refine And.intro ?_ ?_)) <;> first | with_reducible rfl | (simp only [go_sem]; done) | (simp only [go_sem]; rfl) | (simp only [go_sem, cbytes]; done) | (simp only [cbytes]; (try simp only [go_sem]); first | done | rfl) | (simp only [go_sem]; simp [cbytes]; done) | (simp [cbytes]; done) | rfl)))
set_option maxHeartbeats 4000000 in
theorem rBytes_fn (c : Canon) : Fnc Try.prog 113 [canonV c] (fun x obs => x = .sl true 1 (u8s (cbytes c)) ∧ obs = []) := by
  refine Fnc.wf fun hw => ?_
  simp only [V.wfs, V.wf, wfs_map, List.length_map] at hw
  have hv := inK_u16' hw.1.2.1
  refine Fnc.intro m_rBytes_ok (by simp) fun W S => ?_
  unfold m_rBytes
  simp only [ents, Nat.zero_add, Nat.reduceAdd]
  refine zst ?_
  (first | refine callD (rnum_fn c.region) ?_ | refine callDw (rnum_fn c.region) ?_); simp only [go_sem]
  refine zst ?_
  (first | refine callD (rnum_fn c.offset) ?_ | refine callDw (rnum_fn c.offset) ?_); simp only [go_sem]
  refine zst ?_
  refine ret m_rBytes_ok [] ?_; (first | (simp only [go_sem]; done) | (simp only [go_sem]; ((try dsimp only); (repeat' (refine And.intro ?_ ?_)) <;> first | with_reducible rfl | (simp only [go_sem]; done) | (simp only [go_sem]; rfl) | (simp only [go_sem, cbytes]; done) | (simp only [cbytes]; (try simp only [go_sem]); first | done | rfl) | (simp only [go_sem]; simp [cbytes]; done) | (simp [cbytes]; done) | rfl)))
set_option maxHeartbeats 4000000 in
theorem cells_fn (s : Int) (l : List Canon) : Fnc Try.prog 107 [.int .u32 s, .sl false 4 (l.map canonV)] (fun x obs => x = .int .u32 (dadd s (lbytes l)) ∧ obs = []) := by
  refine Fnc.wf fun hw => ?_
  simp only [V.wfs, V.wf, wfs_map, List.length_map] at hw
  obtain ⟨hs, ⟨hl, hm⟩, _⟩ := hw
  refine Fnc.intro m_cells_ok (by simp) fun W S => ?_
  unfold m_cells
  simp only [ents, Nat.zero_add, Nat.reduceAdd]
  refine zst ?_
  (first | refine callD (long_fn l.length) ?_ | refine callDw (long_fn l.length) ?_); simp only [go_sem]
  refine zst ?_
  (first | refine callD (add_fn s (le8 l.length)) ?_ | refine callDw (add_fn s (le8 l.length)) ?_); simp only [go_sem]
  refine zst ?_
  refine ev_loopK [14, 15] (fun p : {p : Nat // p ≤ l.length} => [(0, .int .u32 (dadd s (le8 l.length ++ (l.take p.1).flatMap cbytes))), (16, .int .i64 p.1)]) (fun _ => []) (fun p => l.length - p.1) (⟨0, by simp⟩) 0 (by simp only [go_sem]; rfl) ?_ (by first | rfl | (simp only [go_sem]; done)) (by simp) (by first | rfl | (simp only [go_sem]; done)) (by first | rfl | (simp only [go_sem]; done)) (by first | rfl | (simp only [go_sem]; done)) ?_
  · (simp only [go_sem]; (try simp []); done)
  intro J hJ
  rintro ⟨k, hk0⟩
  by_cases hlt : k < l.length
  · skip
    refine zst ?_
    (first | refine callD (bytes_fn l[k]!) ?_ | refine callDw (bytes_fn l[k]!) ?_); simp only [go_sem]
    refine zst ?_
    (first | refine callD (add_fn (dadd s (le8 l.length ++ (l.take k).flatMap cbytes)) (cbytes l[k]!)) ?_ | refine callDw (add_fn (dadd s (le8 l.length ++ (l.take k).flatMap cbytes)) (cbytes l[k]!)) ?_); simp only [go_sem]
    refine zst ?_
    refine ev_next 0 (hJ _ (⟨k + 1, hlt⟩) (by first | omega | (dsimp only; omega) | (simp; omega))) rfl (by simp) ?_ (by first | rfl | (simp only [go_sem]; done)) (by first | rfl | (simp only [go_sem]; done) | (simp only [take_snoc hlt, flat_snoc, dadd_app]; (try simp only [go_sem]); first | done | rfl)) ?_
    · (first | rfl | (simp only [go_sem]; done) | (simp only [go_sem]; simp only [take_snoc hlt, flat_snoc, dadd_app]; done) | (simp only [take_snoc hlt, flat_snoc, dadd_app]; done) | (simp only [go_sem]; simp [take_snoc hlt, flat_snoc, dadd_app]; done) | (simp [take_snoc hlt, flat_snoc, dadd_app]; done))
    · (simp only [go_sem]; (repeat' (refine And.intro ?_ ?_)) <;> first | exact trivial | with_reducible rfl | (simp only [take_snoc hlt, flat_snoc, dadd_app]; done) | (simp only [take_snoc hlt, flat_snoc, dadd_app]; with_reducible rfl) | (simp [take_snoc hlt, flat_snoc, dadd_app]; done) | (simp [take_snoc hlt, flat_snoc, dadd_app]; omega) | (simp only [take_snoc hlt, flat_snoc, dadd_app]; rfl) | skip)
  · obtain rfl : k = l.length := by omega
    have hlb : le8 l.length ++ l.flatMap cbytes = lbytes l := rfl
    dsimp only
    rw [List.take_length, hlb]
    refine zst ?_
    refine ret m_cells_ok [] ?_; (first | (simp only [go_sem]; done) | (simp only [go_sem]; ((try dsimp only); (repeat' (refine And.intro ?_ ?_)) <;> first | with_reducible rfl | (simp only [go_sem]; done) | (simp only [go_sem]; rfl) | (simp only []; (try simp only [go_sem]); first | done | rfl) | (simp only [go_sem]; simp []; done) | (simp []; done) | rfl)))
set_option maxHeartbeats 4000000 in
theorem rlist_fn (l : List Canon) (hb : l.length ≤ 1000000000000) : Fnc Try.prog 110 [.sl false 4 (l.map canonV)] (fun x obs => x = .own 0 0 ∧ obs = [⟨.row 5, true, 0, .arr 1 (u8s (lbytes l))⟩]) := by
  refine Fnc.intro m_rlist_ok (by simp) fun W S => ?_
  unfold m_rlist
  simp only [ents, Nat.zero_add, Nat.reduceAdd]
  refine zst ?_
  (first | refine callX (rnum_own l.length) ?_ | refine callXw (rnum_own l.length) ?_); simp only [go_sem]
  refine zst ?_
  refine ev_loopK [0] (fun p : {p : Nat // p ≤ l.length} => [(3, .own 0 p.1), (4, .int .i64 p.1)]) (fun p => [⟨.row 5, true, p.1, .arr 1 (u8s (le8 l.length ++ (l.take p.1).flatMap cbytes))⟩]) (fun p => l.length - p.1) (⟨0, by simp⟩) 1 (by simp only [go_sem]; rfl) ?_ (by first | rfl | (simp only [go_sem]; done) | (simp only [go_sem]; simp [List.take_zero, List.flatMap_nil, List.append_nil]; done)) (by simp) (by first | rfl | (simp only [go_sem]; done)) (by first | rfl | (simp only [go_sem]; done)) (by first | rfl | (simp only [go_sem]; done) | (simp only [List.take_zero, List.flatMap_nil, List.append_nil]; (try simp only [go_sem]); first | done | rfl)) ?_
  · (simp only [go_sem]; (try simp [List.take_zero, List.flatMap_nil, List.append_nil]); done)
  intro J hJ
  rintro ⟨k, hk0⟩
  by_cases hlt : k < l.length
  · have hfl := flat_len (l.take k)
    have htl : (l.take k).length = k := by simp; omega
    refine zst ?_
    (first | refine callD (rBytes_fn l[k]!) ?_ | refine callDw (rBytes_fn l[k]!) ?_); simp only [go_sem]
    refine zst ?_
    refine ev_next 1 (hJ _ (⟨k + 1, hlt⟩) (by first | omega | (dsimp only; omega) | (simp; omega))) rfl (by simp) ?_ (by first | rfl | (simp only [go_sem]; done)) (by first | rfl | (simp only [go_sem]; done) | (simp only [take_snoc hlt, flat_snoc, List.map_append, List.append_assoc]; (try simp only [go_sem]); first | done | rfl)) ?_
    · (first | rfl | (simp only [go_sem]; done) | (simp only [go_sem]; simp only [take_snoc hlt, flat_snoc, List.map_append, List.append_assoc]; done) | (simp only [take_snoc hlt, flat_snoc, List.map_append, List.append_assoc]; done) | (simp only [go_sem]; simp [take_snoc hlt, flat_snoc, List.map_append, List.append_assoc]; done) | (simp [take_snoc hlt, flat_snoc, List.map_append, List.append_assoc]; done))
    · (simp only [go_sem]; (repeat' (refine And.intro ?_ ?_)) <;> first | exact trivial | with_reducible rfl | (simp only [take_snoc hlt, flat_snoc, List.map_append, List.append_assoc]; done) | (simp only [take_snoc hlt, flat_snoc, List.map_append, List.append_assoc]; with_reducible rfl) | (simp [take_snoc hlt, flat_snoc, List.map_append, List.append_assoc]; done) | (simp [take_snoc hlt, flat_snoc, List.map_append, List.append_assoc]; omega) | (simp only [take_snoc hlt, flat_snoc, List.map_append, List.append_assoc]; rfl) | skip)
  · obtain rfl : k = l.length := by omega
    have hlb : le8 l.length ++ l.flatMap cbytes = lbytes l := rfl
    dsimp only
    rw [List.take_length, hlb]
    refine zst ?_
    refine ret m_rlist_ok [0] ?_; (first | (simp only [go_sem]; done) | (simp only [go_sem]; ((try dsimp only); (repeat' (refine And.intro ?_ ?_)) <;> first | with_reducible rfl | (simp only [go_sem]; done) | (simp only [go_sem]; rfl) | (simp only []; (try simp only [go_sem]); first | done | rfl) | (simp only [go_sem]; simp []; done) | (simp []; done) | rfl)))
theorem lbytes_len (l : List Canon) : (lbytes l).length = 8 + 19 * l.length := by rw [lbytes, List.length_append, le8_len, flat_len]
attribute [local irreducible] lbytes
set_option maxHeartbeats 4000000 in
theorem Cells_fn (l : List Canon) : Fnc Try.prog 90 [.sl false 4 (l.map canonV)] (fun x obs => x = .int .u32 (dadd 2166136261 (lbytes l)) ∧ obs = []) := by
  refine Fnc.intro m_Cells_ok (by simp) fun W S => ?_
  unfold m_Cells
  simp only [ents, Nat.zero_add, Nat.reduceAdd]
  refine zst ?_
  (first | refine callD (cells_fn 2166136261 l) ?_ | refine callDw (cells_fn 2166136261 l) ?_); simp only [go_sem]
  refine zst ?_
  refine ret m_Cells_ok [] ?_; (first | (simp only [go_sem]; done) | (simp only [go_sem]; ((try dsimp only); (repeat' (refine And.intro ?_ ?_)) <;> first | with_reducible rfl | (simp only [go_sem]; done) | (simp only [go_sem]; rfl) | (simp only []; (try simp only [go_sem]); first | done | rfl) | (simp only [go_sem]; simp []; done) | (simp []; done) | rfl)))
set_option maxHeartbeats 4000000 in
theorem rCells_fn (l : List Canon) (hb : l.length ≤ 1000000000000) : Fnc Try.prog 92 [.sl false 4 (l.map canonV)] (fun x obs => x = .int .u32 (dadd 2166136261 (lbytes l)) ∧ obs = []) := by
  refine Fnc.intro m_rCells_ok (by simp) fun W S => ?_
  unfold m_rCells
  simp only [ents, Nat.zero_add, Nat.reduceAdd]
  refine zst ?_
  (first | refine callX (rlist_fn l hb) ?_ | refine callXw (rlist_fn l hb) ?_); simp only [go_sem]
  refine zst ?_
  (first | refine callD (rAdd_fn 2166136261 (lbytes l)) ?_ | refine callDw (rAdd_fn 2166136261 (lbytes l)) ?_); simp only [go_sem]
  refine zst ?_
  refine ret m_rCells_ok [] ?_; (first | (simp only [go_sem]; done) | (simp only [go_sem]; ((try dsimp only); (repeat' (refine And.intro ?_ ?_)) <;> first | with_reducible rfl | (simp only [go_sem]; done) | (simp only [go_sem]; rfl) | (simp only []; (try simp only [go_sem]); first | done | rfl) | (simp only [go_sem]; simp []; done) | (simp []; done) | rfl)))
set_option maxHeartbeats 8000000 in
theorem thread_fn (v : View) : Fnc Try.prog 89 [viewV false v] (fun x obs => x = .int .u32 (dadd 2166136261 (tbytes v)) ∧ obs = []) := by
  refine Fnc.wf fun hw => ?_
  simp only [V.wfs, V.wf, wfs_map, List.length_map] at hw
  have hv := inK_u16' hw.1.2.2.2.2.2.2.1
  refine Fnc.intro m_thread_ok (by simp) fun W S => ?_
  unfold m_thread
  simp only [ents, Nat.zero_add, Nat.reduceAdd]
  refine zst ?_
  refine ev_unroll 7 ?_
  refine zst ?_
  (first | refine callD (long_fn v.state) ?_ | refine callDw (long_fn v.state) ?_); simp only [go_sem]
  refine zst ?_
  (first | refine callD (add_fn 2166136261 (le8 v.state)) ?_ | refine callDw (add_fn 2166136261 (le8 v.state)) ?_); simp only [go_sem]
  refine zst ?_
  (first | refine callD (long_fn v.pc) ?_ | refine callDw (long_fn v.pc) ?_); simp only [go_sem]
  refine zst ?_
  (first | refine callD (add_fn (dadd 2166136261 (le8 v.state)) (le8 v.pc)) ?_ | refine callDw (add_fn (dadd 2166136261 (le8 v.state)) (le8 v.pc)) ?_); simp only [go_sem]
  refine zst ?_
  (first | refine callD (long_fn v.count) ?_ | refine callDw (long_fn v.count) ?_); simp only [go_sem]
  refine zst ?_
  (first | refine callD (add_fn (dadd (dadd 2166136261 (le8 v.state)) (le8 v.pc)) (le8 v.count)) ?_ | refine callDw (add_fn (dadd (dadd 2166136261 (le8 v.state)) (le8 v.pc)) (le8 v.count)) ?_); simp only [go_sem]
  refine zst ?_
  (first | refine callD (long_fn v.handler) ?_ | refine callDw (long_fn v.handler) ?_); simp only [go_sem]
  refine zst ?_
  (first | refine callD (add_fn (dadd (dadd (dadd 2166136261 (le8 v.state)) (le8 v.pc)) (le8 v.count)) (le8 v.handler)) ?_ | refine callDw (add_fn (dadd (dadd (dadd 2166136261 (le8 v.state)) (le8 v.pc)) (le8 v.count)) (le8 v.handler)) ?_); simp only [go_sem]
  refine zst ?_
  (first | refine callD (long_fn v.saved) ?_ | refine callDw (long_fn v.saved) ?_); simp only [go_sem]
  refine zst ?_
  (first | refine callD (add_fn (dadd (dadd (dadd (dadd 2166136261 (le8 v.state)) (le8 v.pc)) (le8 v.count)) (le8 v.handler)) (le8 v.saved)) ?_ | refine callDw (add_fn (dadd (dadd (dadd (dadd 2166136261 (le8 v.state)) (le8 v.pc)) (le8 v.count)) (le8 v.handler)) (le8 v.saved)) ?_); simp only [go_sem]
  refine zst ?_
  (first | refine callD (long_fn v.trap) ?_ | refine callDw (long_fn v.trap) ?_); simp only [go_sem]
  refine zst ?_
  (first | refine callD (add_fn (dadd (dadd (dadd (dadd (dadd 2166136261 (le8 v.state)) (le8 v.pc)) (le8 v.count)) (le8 v.handler)) (le8 v.saved)) (le8 v.trap)) ?_ | refine callDw (add_fn (dadd (dadd (dadd (dadd (dadd 2166136261 (le8 v.state)) (le8 v.pc)) (le8 v.count)) (le8 v.handler)) (le8 v.saved)) (le8 v.trap)) ?_); simp only [go_sem]
  refine zst ?_
  (first | refine callD (add_fn (dadd (dadd (dadd (dadd (dadd (dadd 2166136261 (le8 v.state)) (le8 v.pc)) (le8 v.count)) (le8 v.handler)) (le8 v.saved)) (le8 v.trap)) [v.code % 256, v.code / 256]) ?_ | refine callDw (add_fn (dadd (dadd (dadd (dadd (dadd (dadd 2166136261 (le8 v.state)) (le8 v.pc)) (le8 v.count)) (le8 v.handler)) (le8 v.saved)) (le8 v.trap)) [v.code % 256, v.code / 256]) ?_); simp only [go_sem]
  refine zst ?_
  (first | refine callD (cells_fn (dadd (dadd (dadd (dadd (dadd (dadd (dadd 2166136261 (le8 v.state)) (le8 v.pc)) (le8 v.count)) (le8 v.handler)) (le8 v.saved)) (le8 v.trap)) [v.code % 256, v.code / 256]) v.regs) ?_ | refine callDw (cells_fn (dadd (dadd (dadd (dadd (dadd (dadd (dadd 2166136261 (le8 v.state)) (le8 v.pc)) (le8 v.count)) (le8 v.handler)) (le8 v.saved)) (le8 v.trap)) [v.code % 256, v.code / 256]) v.regs) ?_); simp only [go_sem]
  refine zst ?_
  refine ret m_thread_ok [] ?_; (first | (simp only [go_sem]; done) | (simp only [go_sem]; ((try dsimp only); (repeat' (refine And.intro ?_ ?_)) <;> first | with_reducible rfl | (simp only [go_sem]; done) | (simp only [go_sem]; rfl) | (simp only [go_sem, tbytes, dadd_app]; done) | (simp only [tbytes, dadd_app]; (try simp only [go_sem]); first | done | rfl) | (simp only [go_sem]; simp [tbytes, dadd_app]; done) | (simp [tbytes, dadd_app]; done) | rfl)))
set_option maxHeartbeats 8000000 in
theorem rThread_fn (v : View) (hb : v.regs.length ≤ 1000000000) : Fnc Try.prog 91 [viewV false v] (fun x obs => x = .int .u32 (dadd 2166136261 (tbytes v)) ∧ obs = []) := by
  refine Fnc.wf fun hw => ?_
  simp only [V.wfs, V.wf, wfs_map, List.length_map] at hw
  have hv := inK_u16' hw.1.2.2.2.2.2.2.1
  have hll := lbytes_len v.regs
  have htb : tbytes v = le8 v.state ++ le8 v.pc ++ le8 v.count ++ le8 v.handler ++ le8 v.saved ++ le8 v.trap ++ [v.code % 256] ++ [v.code / 256] ++ lbytes v.regs := by simp only [tbytes, List.append_assoc, List.cons_append, List.nil_append]
  refine Fnc.intro m_rThread_ok (by simp) fun W S => ?_
  unfold m_rThread
  simp only [ents, Nat.zero_add, Nat.reduceAdd]
  refine zst ?_
  refine ev_unroll 7 ?_
  refine zst ?_
  (first | refine callD (rnum_fn v.state) ?_ | refine callDw (rnum_fn v.state) ?_); simp only [go_sem]
  refine zst ?_
  (first | refine callD (rnum_fn v.pc) ?_ | refine callDw (rnum_fn v.pc) ?_); simp only [go_sem]
  refine zst ?_
  (first | refine callD (rnum_fn v.count) ?_ | refine callDw (rnum_fn v.count) ?_); simp only [go_sem]
  refine zst ?_
  (first | refine callD (rnum_fn v.handler) ?_ | refine callDw (rnum_fn v.handler) ?_); simp only [go_sem]
  refine zst ?_
  (first | refine callD (rnum_fn v.saved) ?_ | refine callDw (rnum_fn v.saved) ?_); simp only [go_sem]
  refine zst ?_
  (first | refine callD (rnum_fn v.trap) ?_ | refine callDw (rnum_fn v.trap) ?_); simp only [go_sem]
  refine zst ?_
  (first | refine callX (rlist_fn v.regs (by omega)) ?_ | refine callXw (rlist_fn v.regs (by omega)) ?_); simp only [go_sem]
  refine zst ?_
  (first | refine callD (rAdd_fn 2166136261 (tbytes v)) ?_ | refine callDw (rAdd_fn 2166136261 (tbytes v)) ?_); simp only [go_sem, htb]
  refine zst ?_
  refine ret m_rThread_ok [] ?_; (first | (simp only [go_sem]; done) | (simp only [go_sem]; ((try dsimp only); (repeat' (refine And.intro ?_ ?_)) <;> first | with_reducible rfl | (simp only [go_sem]; done) | (simp only [go_sem]; rfl) | (simp only []; (try simp only [go_sem]); first | done | rfl) | (simp only [go_sem]; simp []; done) | (simp []; done) | rfl)))
end Go.Proofs.Ytcphobeommkgeaa
