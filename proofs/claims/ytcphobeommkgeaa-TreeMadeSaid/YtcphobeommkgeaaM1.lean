/- Trees: digests joined. -/
import Derived.Test.YtcphobeommkgeaaDz
import Derived.Test.YtcphobeommkgeaaZt
import Derived.Test.YtcphobeommkgeaaDd
namespace Go.Proofs.Ytcphobeommkgeaa
open Go Go.RowKit Rdn Rdn.Dp
set_option linter.unusedVariables false
set_option linter.unusedSimpArgs false
def m_add : MC := .seq (.reg [⟨(some 4), none, (.p (.mov (.c (.int .u32 0))))⟩])
 (.seq (.seq (.reg [⟨(some 7), none, (.p (.mov (.t 1)))⟩, ⟨(some 8), none, (.p (.len (.t 7)))⟩, ⟨(some 9), none, (.p (.mov (.c (.int .i64 0))))⟩])
 (.block 0 (.loop (.seq (.reg [⟨(some 10), none, (.p (.bin 0 .lss (.t 9) (.t 8)))⟩])
 (.seq (.cond (.t 10) (.skip) (.exit 0))
 (.seq (.block 1 (.seq (.reg [⟨(some 11), none, (.p (.idxA 1 (.t 7) (.t 9)))⟩, ⟨(some 12), none, (.p (.load false 1 (.t 11)))⟩, ⟨(some 6), none, (.p (.mov (.t 12)))⟩])
 (.reg [⟨(some 13), none, (.p (.mov (.t 0)))⟩, ⟨(some 14), none, (.p (.mov (.t 6)))⟩, ⟨(some 15), none, (.p (.conv .u32 (.t 14)))⟩, ⟨(some 16), none, (.p (.bin 0 .xor (.t 13) (.t 15)))⟩, ⟨(some 17), none, (.p (.bin 0 .mul (.t 16) (.c (.int .u32 16777619))))⟩, ⟨(some 0), none, (.p (.mov (.t 17)))⟩])))
 (.reg [⟨(some 18), none, (.p (.bin 0 .add (.t 9) (.c (.int .i64 1))))⟩, ⟨(some 9), none, (.p (.mov (.t 18)))⟩])))))))
 (.seq (.reg [⟨(some 19), none, (.p (.mov (.t 0)))⟩, ⟨(some 4), none, (.p (.mov (.t 19)))⟩])
 (.ret)))
theorem m_add_ok : compF Try.prog 99 = some (20, m_add, [.mov (.t 4)]) := by kernel_rfl
def m_rAdd : MC := .seq (.reg [⟨(some 4), none, (.p (.mov (.c (.int .u32 0))))⟩])
 (.seq (.seq (.reg [⟨(some 5), none, (.p (.mov (.c (.int .i64 0))))⟩])
 (.block 0 (.loop (.seq (.seq (.reg [⟨(some 6), none, (.p (.mov (.t 5)))⟩, ⟨(some 7), none, (.p (.mov (.t 1)))⟩, ⟨(some 8), none, (.p (.len (.t 7)))⟩, ⟨(some 9), none, (.p (.bin 0 .lss (.t 6) (.t 8)))⟩])
 (.cond (.t 9) (.skip) (.exit 0)))
 (.seq (.block 1 (.reg [⟨(some 12), none, (.p (.mov (.t 0)))⟩, ⟨(some 13), none, (.p (.mov (.t 1)))⟩, ⟨(some 14), none, (.p (.mov (.t 5)))⟩, ⟨(some 15), none, (.p (.idxA 1 (.t 13) (.t 14)))⟩, ⟨(some 16), none, (.p (.load false 1 (.t 15)))⟩, ⟨(some 17), none, (.p (.conv .u32 (.t 16)))⟩, ⟨(some 18), none, (.p (.bin 0 .xor (.t 12) (.t 17)))⟩, ⟨(some 19), none, (.p (.bin 0 .mul (.t 18) (.c (.int .u32 16777619))))⟩, ⟨(some 0), none, (.p (.mov (.t 19)))⟩]))
 (.reg [⟨(some 10), none, (.p (.mov (.t 5)))⟩, ⟨(some 11), none, (.p (.bin 0 .add (.t 10) (.c (.int .i64 1))))⟩, ⟨(some 5), none, (.p (.mov (.t 11)))⟩]))))))
 (.seq (.reg [⟨(some 20), none, (.p (.mov (.t 0)))⟩, ⟨(some 4), none, (.p (.mov (.t 20)))⟩])
 (.ret)))
theorem m_rAdd_ok : compF Try.prog 109 = some (21, m_rAdd, [.mov (.t 4)]) := by kernel_rfl
def m_join : MC := .seq (.reg [⟨(some 4), none, (.p (.mov (.c (.int .u32 0))))⟩])
 (.seq (.reg [⟨(some 5), none, (.p (.mov (.t 0)))⟩, ⟨(some 6), none, (.p (.conv .u8 (.t 5)))⟩, ⟨(some 7), none, (.p (.mov (.t 0)))⟩, ⟨(some 8), none, (.p (.bin 0 .shr (.t 7) (.c (.int .u64 8))))⟩, ⟨(some 9), none, (.p (.conv .u8 (.t 8)))⟩, ⟨(some 10), none, (.p (.mov (.t 0)))⟩, ⟨(some 11), none, (.p (.bin 0 .shr (.t 10) (.c (.int .u64 16))))⟩, ⟨(some 12), none, (.p (.conv .u8 (.t 11)))⟩, ⟨(some 13), none, (.p (.mov (.t 0)))⟩, ⟨(some 14), none, (.p (.bin 0 .shr (.t 13) (.c (.int .u64 24))))⟩, ⟨(some 15), none, (.p (.conv .u8 (.t 14)))⟩, ⟨(some 16), none, (.p (.mov (.t 1)))⟩, ⟨(some 17), none, (.p (.conv .u8 (.t 16)))⟩, ⟨(some 18), none, (.p (.mov (.t 1)))⟩, ⟨(some 19), none, (.p (.bin 0 .shr (.t 18) (.c (.int .u64 8))))⟩, ⟨(some 20), none, (.p (.conv .u8 (.t 19)))⟩, ⟨(some 21), none, (.p (.mov (.t 1)))⟩, ⟨(some 22), none, (.p (.bin 0 .shr (.t 21) (.c (.int .u64 16))))⟩, ⟨(some 23), none, (.p (.conv .u8 (.t 22)))⟩, ⟨(some 24), none, (.p (.mov (.t 1)))⟩, ⟨(some 25), none, (.p (.bin 0 .shr (.t 24) (.c (.int .u64 24))))⟩, ⟨(some 26), none, (.p (.conv .u8 (.t 25)))⟩, ⟨(some 27), none, (.m (.buildS 5 1 (.int .u8 0) 8 [(0, (.t 6)), (1, (.t 9)), (2, (.t 12)), (3, (.t 15)), (4, (.t 17)), (5, (.t 20)), (6, (.t 23)), (7, (.t 26))]))⟩, ⟨(some 28), none, (.call 99 [(.c (.int .u32 2166136261)), (.t 27)])⟩, ⟨(some 4), none, (.p (.mov (.t 28)))⟩])
 (.ret))
theorem m_join_ok : compF Try.prog 70 = some (29, m_join, [.mov (.t 4)]) := by kernel_rfl
def m_rJoin : MC := .seq (.reg [⟨(some 4), none, (.p (.mov (.c (.int .u32 0))))⟩])
 (.seq (.reg [⟨(some 5), none, (.p (.mov (.c (.nilS))))⟩])
 (.seq (.seq (.reg [⟨(some 6), none, (.p (.mov (.c (.int .i64 0))))⟩])
 (.block 0 (.loop (.seq (.seq (.reg [⟨(some 8), none, (.p (.mov (.t 6)))⟩, ⟨(some 9), none, (.p (.bin 0 .lss (.t 8) (.c (.int .i64 4))))⟩])
 (.cond (.t 9) (.skip) (.exit 0)))
 (.seq (.block 1 (.reg [⟨(some 12), none, (.p (.mov (.t 5)))⟩, ⟨(some 13), none, (.p (.mov (.t 0)))⟩, ⟨(some 14), none, (.p (.mov (.t 6)))⟩, ⟨(some 15), none, (.p (.bin 0 .mul (.c (.int .i64 8)) (.t 14)))⟩, ⟨(some 16), none, (.p (.conv .u64 (.t 15)))⟩, ⟨(some 17), none, (.p (.bin 0 .shr (.t 13) (.t 16)))⟩, ⟨(some 18), none, (.p (.conv .u8 (.t 17)))⟩, ⟨(some 19), none, (.m (.buildS 5 1 (.int .u8 0) 1 [(0, (.t 18))]))⟩, ⟨(some 20), none, (.m (.app 5 1 1 (.t 12) (.t 19)))⟩, ⟨(some 5), none, (.p (.mov (.t 20)))⟩]))
 (.reg [⟨(some 10), none, (.p (.mov (.t 6)))⟩, ⟨(some 11), none, (.p (.bin 0 .add (.t 10) (.c (.int .i64 1))))⟩, ⟨(some 6), none, (.p (.mov (.t 11)))⟩]))))))
 (.seq (.seq (.reg [⟨(some 7), none, (.p (.mov (.c (.int .i64 0))))⟩])
 (.block 2 (.loop (.seq (.seq (.reg [⟨(some 21), none, (.p (.mov (.t 7)))⟩, ⟨(some 22), none, (.p (.bin 0 .lss (.t 21) (.c (.int .i64 4))))⟩])
 (.cond (.t 22) (.skip) (.exit 2)))
 (.seq (.block 3 (.reg [⟨(some 25), none, (.p (.mov (.t 5)))⟩, ⟨(some 26), none, (.p (.mov (.t 1)))⟩, ⟨(some 27), none, (.p (.mov (.t 7)))⟩, ⟨(some 28), none, (.p (.bin 0 .mul (.c (.int .i64 8)) (.t 27)))⟩, ⟨(some 29), none, (.p (.conv .u64 (.t 28)))⟩, ⟨(some 30), none, (.p (.bin 0 .shr (.t 26) (.t 29)))⟩, ⟨(some 31), none, (.p (.conv .u8 (.t 30)))⟩, ⟨(some 32), none, (.m (.buildS 5 1 (.int .u8 0) 1 [(0, (.t 31))]))⟩, ⟨(some 33), none, (.m (.app 5 1 1 (.t 25) (.t 32)))⟩, ⟨(some 5), none, (.p (.mov (.t 33)))⟩]))
 (.reg [⟨(some 23), none, (.p (.mov (.t 7)))⟩, ⟨(some 24), none, (.p (.bin 0 .add (.t 23) (.c (.int .i64 1))))⟩, ⟨(some 7), none, (.p (.mov (.t 24)))⟩]))))))
 (.seq (.reg [⟨(some 34), none, (.p (.mov (.t 5)))⟩, ⟨(some 35), none, (.call 109 [(.c (.int .u32 2166136261)), (.t 34)])⟩, ⟨(some 4), none, (.p (.mov (.t 35)))⟩])
 (.ret)))))
theorem m_rJoin_ok : compF Try.prog 98 = some (36, m_rJoin, [.mov (.t 4)]) := by kernel_rfl
/-- One byte more. -/
def fstep (s b : Int) : Int := bxor .u32 s b * 16777619 % 4294967296
def dadd (s : Int) (l : List Int) : Int := l.foldl fstep s
theorem dadd_snoc (s : Int) (l : List Int) (b : Int) : dadd s (l ++ [b]) = fstep (dadd s l) b := by simp [dadd]
theorem dadd_lt {s : Int} (h0 : 0 ≤ s) (h1 : s < 4294967296) : ∀ l : List Int, 0 ≤ dadd s l ∧ dadd s l < 4294967296 := by
  intro l
  rcases List.eq_nil_or_concat l with rfl | ⟨m, b, rfl⟩
  · exact ⟨h0, h1⟩
  · rw [List.concat_eq_append, dadd_snoc, fstep]; omega
set_option maxHeartbeats 4000000 in
theorem add_fn (s : Int) (l : List Int) : Fnc Try.prog 99 [.int .u32 s, .sl false 1 (u8s l)] (fun x obs => x = .int .u32 (dadd s l) ∧ obs = []) := by
  refine Fnc.wf fun hw => ?_
  simp only [V.wfs, V.wf, wfs_map, List.length_map] at hw
  obtain ⟨hs, ⟨hl, hm⟩, _⟩ := hw
  refine Fnc.intro m_add_ok (by simp) fun W S => ?_
  unfold m_add
  simp only [ents, Nat.zero_add, Nat.reduceAdd]
  refine zst ?_
  refine ev_loopK [7, 8] (fun p : {p : Nat // p ≤ l.length} => [(0, .int .u32 (dadd s (l.take p.1))), (9, .int .i64 p.1)]) (fun _ => []) (fun p => l.length - p.1) (⟨0, by simp⟩) 0 (by simp only [go_sem]; rfl) ?_ (by first | rfl | (simp only [go_sem]; done) | (simp only [go_sem]; simp [dadd]; done)) (by simp) (by first | rfl | (simp only [go_sem]; done)) (by first | rfl | (simp only [go_sem]; done)) (by first | rfl | (simp only [go_sem]; done) | (simp only [dadd]; (try simp only [go_sem]); first | done | rfl)) ?_
  · (simp only [go_sem]; (try simp [dadd]); done)
  intro J hJ
  rintro ⟨k, hk0⟩
  by_cases hlt : k < l.length
  · have hx := inK_u8' (hl l[k]! (mem_at hlt))
    refine zst ?_
    refine ev_next 0 (hJ _ (⟨k + 1, hlt⟩) (by first | omega | (dsimp only; omega) | (simp; omega))) rfl (by simp) ?_ (by first | rfl | (simp only [go_sem]; done)) (by first | rfl | (simp only [go_sem]; done) | (simp only [take_snoc hlt, dadd_snoc, fstep]; (try simp only [go_sem]); first | done | rfl)) ?_
    · (first | rfl | (simp only [go_sem]; done) | (simp only [go_sem]; simp only [take_snoc hlt, dadd_snoc, fstep]; done) | (simp only [take_snoc hlt, dadd_snoc, fstep]; done) | (simp only [go_sem]; simp [take_snoc hlt, dadd_snoc, fstep]; done) | (simp [take_snoc hlt, dadd_snoc, fstep]; done))
    · (simp only [go_sem]; (repeat' (refine And.intro ?_ ?_)) <;> first | exact trivial | with_reducible rfl | (simp only [take_snoc hlt, dadd_snoc, fstep]; done) | (simp only [take_snoc hlt, dadd_snoc, fstep]; with_reducible rfl) | (simp [take_snoc hlt, dadd_snoc, fstep]; done) | (simp [take_snoc hlt, dadd_snoc, fstep]; omega) | (simp only [take_snoc hlt, dadd_snoc, fstep]; rfl) | skip)
  · obtain rfl : k = l.length := by omega
    refine zst ?_
    refine ret m_add_ok [] ?_; (first | (simp only [go_sem]; done) | (simp only [go_sem]; ((try dsimp only); (repeat' (refine And.intro ?_ ?_)) <;> first | with_reducible rfl | (simp only [go_sem]; done) | (simp only [go_sem]; rfl) | (simp only [go_sem, List.take_length]; done) | (simp only [List.take_length]; (try simp only [go_sem]); first | done | rfl) | (simp only [go_sem]; simp [List.take_length]; done) | (simp [List.take_length]; done) | rfl)))
set_option maxHeartbeats 4000000 in
theorem rAdd_fn (s : Int) (l : List Int) : Fnc Try.prog 109 [.int .u32 s, .sl false 1 (u8s l)] (fun x obs => x = .int .u32 (dadd s l) ∧ obs = []) := by
  refine Fnc.wf fun hw => ?_
  simp only [V.wfs, V.wf, wfs_map, List.length_map] at hw
  obtain ⟨hs, ⟨hl, hm⟩, _⟩ := hw
  refine Fnc.intro m_rAdd_ok (by simp) fun W S => ?_
  unfold m_rAdd
  simp only [ents, Nat.zero_add, Nat.reduceAdd]
  refine zst ?_
  refine ev_loopK [1] (fun p : {p : Nat // p ≤ l.length} => [(0, .int .u32 (dadd s (l.take p.1))), (5, .int .i64 p.1)]) (fun _ => []) (fun p => l.length - p.1) (⟨0, by simp⟩) 0 (by simp only [go_sem]; rfl) ?_ (by first | rfl | (simp only [go_sem]; done) | (simp only [go_sem]; simp [dadd]; done)) (by simp) (by first | rfl | (simp only [go_sem]; done)) (by first | rfl | (simp only [go_sem]; done)) (by first | rfl | (simp only [go_sem]; done) | (simp only [dadd]; (try simp only [go_sem]); first | done | rfl)) ?_
  · (simp only [go_sem]; (try simp [dadd]); done)
  intro J hJ
  rintro ⟨k, hk0⟩
  by_cases hlt : k < l.length
  · have hx := inK_u8' (hl l[k]! (mem_at hlt))
    refine zst ?_
    refine ev_next 0 (hJ _ (⟨k + 1, hlt⟩) (by first | omega | (dsimp only; omega) | (simp; omega))) rfl (by simp) ?_ (by first | rfl | (simp only [go_sem]; done)) (by first | rfl | (simp only [go_sem]; done) | (simp only [take_snoc hlt, dadd_snoc, fstep]; (try simp only [go_sem]); first | done | rfl)) ?_
    · (first | rfl | (simp only [go_sem]; done) | (simp only [go_sem]; simp only [take_snoc hlt, dadd_snoc, fstep]; done) | (simp only [take_snoc hlt, dadd_snoc, fstep]; done) | (simp only [go_sem]; simp [take_snoc hlt, dadd_snoc, fstep]; done) | (simp [take_snoc hlt, dadd_snoc, fstep]; done))
    · (simp only [go_sem]; (repeat' (refine And.intro ?_ ?_)) <;> first | exact trivial | with_reducible rfl | (simp only [take_snoc hlt, dadd_snoc, fstep]; done) | (simp only [take_snoc hlt, dadd_snoc, fstep]; with_reducible rfl) | (simp [take_snoc hlt, dadd_snoc, fstep]; done) | (simp [take_snoc hlt, dadd_snoc, fstep]; omega) | (simp only [take_snoc hlt, dadd_snoc, fstep]; rfl) | skip)
  · obtain rfl : k = l.length := by omega
    refine zst ?_
    refine ret m_rAdd_ok [] ?_; (first | (simp only [go_sem]; done) | (simp only [go_sem]; ((try dsimp only); (repeat' (refine And.intro ?_ ?_)) <;> first | with_reducible rfl | (simp only [go_sem]; done) | (simp only [go_sem]; rfl) | (simp only [go_sem, List.take_length]; done) | (simp only [List.take_length]; (try simp only [go_sem]); first | done | rfl) | (simp only [go_sem]; simp [List.take_length]; done) | (simp [List.take_length]; done) | rfl)))
def jbytes (a b : Int) : List Int := [a % 256, a / 256 % 256, a / 65536 % 256, a / 16777216, b % 256, b / 256 % 256, b / 65536 % 256, b / 16777216]
/-- The digest of two digests. -/
def djoin (a b : Int) : Int := dadd 2166136261 (jbytes a b)
set_option maxHeartbeats 4000000 in
theorem join_fn (a b : Int) : Fnc Try.prog 70 [.int .u32 a, .int .u32 b] (fun x obs => x = .int .u32 (djoin a b) ∧ obs = []) := by
  refine Fnc.wf fun hw => ?_
  simp only [V.wfs, V.wf, wfs_map, List.length_map] at hw
  have ha := inK_u32' hw.1
  have hb := inK_u32' hw.2.1
  refine Fnc.intro m_join_ok (by simp) fun W S => ?_
  unfold m_join
  simp only [ents, Nat.zero_add, Nat.reduceAdd]
  refine zst ?_
  (first | refine callD (add_fn 2166136261 (jbytes a b)) ?_ | refine callDw (add_fn 2166136261 (jbytes a b)) ?_); simp only [go_sem, jbytes]
  refine zst ?_
  refine ret m_join_ok [] ?_; (first | (simp only [go_sem]; done) | (simp only [go_sem]; ((try dsimp only); (repeat' (refine And.intro ?_ ?_)) <;> first | with_reducible rfl | (simp only [go_sem]; done) | (simp only [go_sem]; rfl) | (simp only [go_sem, djoin]; done) | (simp only [djoin]; (try simp only [go_sem]); first | done | rfl) | (simp only [go_sem]; simp [djoin]; done) | (simp [djoin]; done) | rfl)))
set_option maxHeartbeats 4000000 in
theorem rJoin_fn (a b : Int) : Fnc Try.prog 98 [.int .u32 a, .int .u32 b] (fun x obs => x = .int .u32 (djoin a b) ∧ obs = []) := by
  refine Fnc.wf fun hw => ?_
  simp only [V.wfs, V.wf, wfs_map, List.length_map] at hw
  have ha := inK_u32' hw.1
  have hb := inK_u32' hw.2.1
  refine Fnc.intro m_rJoin_ok (by simp) fun W S => ?_
  unfold m_rJoin
  simp only [ents, Nat.zero_add, Nat.reduceAdd]
  refine zst ?_
  refine ev_unroll 5 ?_
  refine zst ?_
  refine ev_unroll 5 ?_
  refine zst ?_
  (first | refine callD (rAdd_fn 2166136261 (jbytes a b)) ?_ | refine callDw (rAdd_fn 2166136261 (jbytes a b)) ?_); simp only [go_sem, jbytes]
  refine zst ?_
  refine ret m_rJoin_ok [] ?_; (first | (simp only [go_sem]; done) | (simp only [go_sem]; ((try dsimp only); (repeat' (refine And.intro ?_ ?_)) <;> first | with_reducible rfl | (simp only [go_sem]; done) | (simp only [go_sem]; rfl) | (simp only [go_sem, djoin]; done) | (simp only [djoin]; (try simp only [go_sem]); first | done | rfl) | (simp only [go_sem]; simp [djoin]; done) | (simp [djoin]; done) | rfl)))
end Go.Proofs.Ytcphobeommkgeaa
