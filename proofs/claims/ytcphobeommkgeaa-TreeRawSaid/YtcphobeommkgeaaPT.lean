/- P8, P9, P10, P11, in one text. -/
import Derived.Test.YtcphobeommkgeaaP6
import Derived.Test.YtcphobeommkgeaaZt
import Derived.Test.YtcphobeommkgeaaP7
import Derived.Test.YtcphobeommkgeaaM7
import Derived.Test.YtcphobeommkgeaaReads
import Derived.Test.YtcphobeommkgeaaDb
/- Trees of states. -/
namespace Go.Proofs.Ytcphobeommkgeaa
open Go Go.RowKit Rdn Rdn.Dp
set_option linter.unusedVariables false
set_option linter.unusedSimpArgs false
def m_tof : MC := .seq (.reg [⟨(some 1), none, (.m (.box 30 (.t 0)))⟩, ⟨(some 2), none, (.m (.alloc 57 (.agg [.nilS])))⟩, ⟨(some 3), none, (.p (.mov (.c (.int .i64 0))))⟩])
 (.seq (.reg [⟨(some 10), none, (.p (.load true 2 (.t 1)))⟩, ⟨(some 11), none, (.call 23 [(.t 10)])⟩, ⟨(some 9), none, (.p (.mov (.t 11)))⟩, ⟨(some 12), none, (.p (.ext (.t 9) 0))⟩, ⟨(some 13), none, (.p (.ext (.t 9) 1))⟩, ⟨(some 4), none, (.p (.mov (.t 12)))⟩, ⟨(some 5), none, (.p (.mov (.t 13)))⟩])
 (.seq (.seq (.reg [⟨(some 14), none, (.p (.mov (.t 5)))⟩, ⟨(some 15), none, (.p (.bin 0 .neq (.t 14) (.c (.int .i64 0))))⟩])
 (.cond (.t 15) (.seq (.reg [⟨(some 16), none, (.m (.build none [.nilS] []))⟩, ⟨(some 17), none, (.p (.mov (.t 5)))⟩, ⟨none, none, (.m (.store 1 (.t 2) (.t 16)))⟩, ⟨(some 3), none, (.p (.mov (.t 17)))⟩])
 (.ret)) (.skip)))
 (.seq (.reg [⟨(some 6), none, (.p (.mov (.c (.nilS))))⟩])
 (.seq (.seq (.reg [⟨(some 18), none, (.p (.mov (.t 4)))⟩, ⟨(some 19), none, (.p (.len (.t 18)))⟩, ⟨(some 20), none, (.p (.mov (.c (.int .i64 0))))⟩])
 (.block 0 (.loop (.seq (.reg [⟨(some 21), none, (.p (.bin 0 .lss (.t 20) (.t 19)))⟩])
 (.seq (.cond (.t 21) (.skip) (.exit 0))
 (.seq (.block 1 (.seq (.reg [⟨(some 22), none, (.p (.idxA 11 (.t 18) (.t 20)))⟩, ⟨(some 23), none, (.p (.load true 11 (.t 22)))⟩, ⟨(some 8), none, (.m (.alloc 45 (.agg [.agg [.int .i64 0, .int .i64 0], .nilS, .agg [.int .i64 0, .int .i64 0, .int .i64 0, .int .i64 0, .int .i64 0, .int .i64 0, .int .u16 0, .nilS]])))⟩, ⟨none, none, (.m (.store 11 (.t 8) (.t 23)))⟩])
 (.seq (.reg [⟨(some 24), none, (.p (.fieldA 0 0 (.t 8)))⟩, ⟨(some 25), none, (.p (.fieldA 0 0 (.t 24)))⟩, ⟨(some 26), none, (.p (.load false 1 (.t 25)))⟩, ⟨(some 27), none, (.p (.bin 0 .lss (.t 26) (.c (.int .i64 0))))⟩])
 (.cond (.t 27) (.reg [⟨(some 28), none, (.p (.mov (.t 6)))⟩, ⟨(some 29), none, (.p (.fieldA 3 2 (.t 8)))⟩, ⟨(some 30), none, (.p (.load true 8 (.t 29)))⟩, ⟨(some 31), none, (.call 89 [(.t 30)])⟩, ⟨(some 32), none, (.m (.buildS 54 1 (.int .u32 0) 1 [(0, (.t 31))]))⟩, ⟨(some 33), none, (.m (.app 54 1 4 (.t 28) (.t 32)))⟩, ⟨(some 6), none, (.p (.mov (.t 33)))⟩]) (.reg [⟨(some 34), none, (.p (.mov (.t 6)))⟩, ⟨(some 35), none, (.p (.fieldA 2 1 (.t 8)))⟩, ⟨(some 36), none, (.p (.load false 1 (.t 35)))⟩, ⟨(some 37), none, (.call 90 [(.t 36)])⟩, ⟨(some 38), none, (.m (.buildS 54 1 (.int .u32 0) 1 [(0, (.t 37))]))⟩, ⟨(some 39), none, (.m (.app 54 1 4 (.t 34) (.t 38)))⟩, ⟨(some 6), none, (.p (.mov (.t 39)))⟩])))))
 (.reg [⟨(some 40), none, (.p (.bin 0 .add (.t 20) (.c (.int .i64 1))))⟩, ⟨(some 20), none, (.p (.mov (.t 40)))⟩])))))))
 (.seq (.reg [⟨(some 41), none, (.p (.mov (.t 6)))⟩, ⟨(some 42), none, (.call 28 [(.t 41)])⟩, ⟨(some 43), none, (.p (.ext (.t 42) 0))⟩, ⟨(some 44), none, (.p (.ext (.t 42) 1))⟩, ⟨none, none, (.m (.store 1 (.t 2) (.t 43)))⟩, ⟨(some 3), none, (.p (.mov (.t 44)))⟩])
 (.ret))))))
theorem m_tof_ok : compF Try.prog 48 = some (45, m_tof, [.load true 1 (.t 2), .mov (.t 3)]) := by kernel_rfl
def m_zof : MC := .seq (.reg [⟨(some 1), none, (.m (.box 30 (.t 0)))⟩, ⟨(some 2), none, (.m (.alloc 57 (.agg [.nilS])))⟩, ⟨(some 3), none, (.p (.mov (.c (.int .i64 0))))⟩])
 (.seq (.reg [⟨(some 9), none, (.p (.load true 2 (.t 1)))⟩, ⟨(some 10), none, (.call 17 [(.t 9)])⟩, ⟨(some 8), none, (.p (.mov (.t 10)))⟩, ⟨(some 11), none, (.p (.ext (.t 8) 0))⟩, ⟨(some 12), none, (.p (.ext (.t 8) 1))⟩, ⟨(some 4), none, (.p (.mov (.t 11)))⟩, ⟨(some 5), none, (.p (.mov (.t 12)))⟩])
 (.seq (.seq (.reg [⟨(some 13), none, (.p (.mov (.t 5)))⟩, ⟨(some 14), none, (.p (.bin 0 .neq (.t 13) (.c (.int .i64 0))))⟩])
 (.cond (.t 14) (.seq (.reg [⟨(some 15), none, (.m (.build none [.nilS] []))⟩, ⟨(some 16), none, (.p (.mov (.t 5)))⟩, ⟨none, none, (.m (.store 1 (.t 2) (.t 15)))⟩, ⟨(some 3), none, (.p (.mov (.t 16)))⟩])
 (.ret)) (.skip)))
 (.seq (.reg [⟨(some 6), none, (.p (.mov (.c (.nilS))))⟩])
 (.seq (.seq (.reg [⟨(some 7), none, (.p (.mov (.c (.int .i64 0))))⟩])
 (.block 0 (.loop (.seq (.seq (.reg [⟨(some 17), none, (.p (.mov (.t 7)))⟩, ⟨(some 18), none, (.p (.mov (.t 4)))⟩, ⟨(some 19), none, (.p (.len (.t 18)))⟩, ⟨(some 20), none, (.p (.bin 0 .lss (.t 17) (.t 19)))⟩])
 (.cond (.t 20) (.skip) (.exit 0)))
 (.seq (.block 1 (.seq (.reg [⟨(some 23), none, (.p (.mov (.t 4)))⟩, ⟨(some 24), none, (.p (.mov (.t 7)))⟩, ⟨(some 25), none, (.p (.idxA 11 (.t 23) (.t 24)))⟩, ⟨(some 26), none, (.p (.fieldA 0 0 (.t 25)))⟩, ⟨(some 27), none, (.p (.fieldA 0 0 (.t 26)))⟩, ⟨(some 28), none, (.p (.load false 1 (.t 27)))⟩, ⟨(some 29), none, (.p (.bin 0 .eql (.t 28) (.c (.int .i64 (-1)))))⟩])
 (.cond (.t 29) (.reg [⟨(some 30), none, (.p (.mov (.t 6)))⟩, ⟨(some 31), none, (.p (.mov (.t 4)))⟩, ⟨(some 32), none, (.p (.mov (.t 7)))⟩, ⟨(some 33), none, (.p (.idxA 11 (.t 31) (.t 32)))⟩, ⟨(some 34), none, (.p (.fieldA 3 2 (.t 33)))⟩, ⟨(some 35), none, (.p (.load true 8 (.t 34)))⟩, ⟨(some 36), none, (.call 91 [(.t 35)])⟩, ⟨(some 37), none, (.m (.buildS 54 1 (.int .u32 0) 1 [(0, (.t 36))]))⟩, ⟨(some 38), none, (.m (.app 54 1 4 (.t 30) (.t 37)))⟩, ⟨(some 6), none, (.p (.mov (.t 38)))⟩]) (.reg [⟨(some 39), none, (.p (.mov (.t 6)))⟩, ⟨(some 40), none, (.p (.mov (.t 4)))⟩, ⟨(some 41), none, (.p (.mov (.t 7)))⟩, ⟨(some 42), none, (.p (.idxA 11 (.t 40) (.t 41)))⟩, ⟨(some 43), none, (.p (.fieldA 2 1 (.t 42)))⟩, ⟨(some 44), none, (.p (.load false 1 (.t 43)))⟩, ⟨(some 45), none, (.call 92 [(.t 44)])⟩, ⟨(some 46), none, (.m (.buildS 54 1 (.int .u32 0) 1 [(0, (.t 45))]))⟩, ⟨(some 47), none, (.m (.app 54 1 4 (.t 39) (.t 46)))⟩, ⟨(some 6), none, (.p (.mov (.t 47)))⟩]))))
 (.reg [⟨(some 21), none, (.p (.mov (.t 7)))⟩, ⟨(some 22), none, (.p (.bin 0 .add (.t 21) (.c (.int .i64 1))))⟩, ⟨(some 7), none, (.p (.mov (.t 22)))⟩]))))))
 (.seq (.reg [⟨(some 48), none, (.p (.mov (.t 6)))⟩, ⟨(some 49), none, (.call 26 [(.t 48)])⟩, ⟨(some 50), none, (.p (.ext (.t 49) 0))⟩, ⟨(some 51), none, (.p (.ext (.t 49) 1))⟩, ⟨none, none, (.m (.store 1 (.t 2) (.t 50)))⟩, ⟨(some 3), none, (.p (.mov (.t 51)))⟩])
 (.ret))))))
theorem m_zof_ok : compF Try.prog 50 = some (52, m_zof, [.load true 1 (.t 2), .mov (.t 3)]) := by kernel_rfl
attribute [local irreducible] idsF shp lbytes tbytes dadd bld
/-- The digest of a page. -/
def dgP (p : Page) : Int := if p.id.region = -1 then dadd 2166136261 (tbytes p.view) else dadd 2166136261 (lbytes p.cells)
def dls (s : State) : List Int := (pgs s).map dgP
theorem dls_len (s : State) : (dls s).length = (pgs s).length := by simp [dls]
theorem pgs_le {s : State} (h : shp s = true) : (pgs s).length ≤ 20 := by unfold pgs; rw [List.length_map]; exact idsF_le' h
theorem pgs_id {s : State} (h : shp s = true) {k : Nat} (hk : k < (pgs s).length) : There s (pgs s)[k]!.id := by
  rw [pgs_at hk, getP_id]
  unfold pgs at hk
  rw [List.length_map] at hk
  exact mem_idsF (mem_at hk) (shp_to h)
theorem dls_snoc {s : State} {k : Nat} (hk : k < (pgs s).length) : ((pgs s).take k).map dgP ++ [dgP (pgs s)[k]!] = ((pgs s).take (k + 1)).map dgP := by rw [take_snoc hk, List.map_append]; rfl
theorem pgs_regs {s : State} (G : ∀ x ∈ s.threads, x.regs.length ≤ 1000000000) {k : Nat} (hk : k < (pgs s).length) (hT : There s (pgs s)[k]!.id) : (pgs s)[k]!.view.regs.length ≤ 1000000000 := by
  rw [pgs_at hk, getP_id] at hT
  rw [pgs_at hk]
  unfold getP
  split
  · rename_i h
    have : (idsF (szs s) s.threads.length)[k]!.index.toNat < s.threads.length := by unfold There at hT; omega
    exact G _ (mem_at this)
  · exact Nat.zero_le _
attribute [local irreducible] pgs dgP
theorem dgP_T {p : Page} (h : p.id.region = -1) : dgP p = dadd 2166136261 (tbytes p.view) := by unfold dgP; rw [if_pos h]
theorem dgP_C {p : Page} (h : p.id.region ≠ -1) : dgP p = dadd 2166136261 (lbytes p.cells) := by unfold dgP; rw [if_neg h]
set_option maxHeartbeats 8000000 in
theorem tof_bad (s : State) (L : LowS s) (h : shp s = false) : Fnc Try.prog 48 [staV s] (fun x obs => x = .tup [.agg [.nilS], .int .i64 1] ∧ obs = []) := by
  have f1 := pall_fn s L
  rw [sAll_1 h] at f1
  refine Fnc.intro m_tof_ok (by simp) fun W S => ?_
  unfold m_tof
  simp only [ents, Nat.zero_add, Nat.reduceAdd]
  refine zst ?_
  (first | refine callD (f1) ?_ | refine callDw (f1) ?_); simp only [go_sem]
  refine zst ?_
  refine ret m_tof_ok [] ?_; (first | (simp only [go_sem]; done) | (simp only [go_sem]; ((try dsimp only); (repeat' (refine And.intro ?_ ?_)) <;> first | with_reducible rfl | (simp only [go_sem]; done) | (simp only [go_sem]; rfl) | (simp only []; (try simp only [go_sem]); first | done | rfl) | (simp only [go_sem]; simp []; done) | (simp []; done) | rfl)))
set_option maxHeartbeats 8000000 in
theorem zof_bad (s : State) (L : LowS s) (h : shp s = false) : Fnc Try.prog 50 [staV s] (fun x obs => x = .tup [.agg [.nilS], .int .i64 1] ∧ obs = []) := by
  have f1 := zall_fn s L
  rw [sAll_1 h] at f1
  refine Fnc.intro m_zof_ok (by simp) fun W S => ?_
  unfold m_zof
  simp only [ents, Nat.zero_add, Nat.reduceAdd]
  refine zst ?_
  (first | refine callD (f1) ?_ | refine callDw (f1) ?_); simp only [go_sem]
  refine zst ?_
  refine ret m_zof_ok [] ?_; (first | (simp only [go_sem]; done) | (simp only [go_sem]; ((try dsimp only); (repeat' (refine And.intro ?_ ?_)) <;> first | with_reducible rfl | (simp only [go_sem]; done) | (simp only [go_sem]; rfl) | (simp only []; (try simp only [go_sem]); first | done | rfl) | (simp only [go_sem]; simp []; done) | (simp []; done) | rfl)))
set_option maxHeartbeats 8000000 in
theorem tof_to (s : State) (L : LowS s) (h : shp s = true) (T : V) (e : Int) (hB : Fnc Try.prog 28 [dsV (dls s)] (fun x obs => x = .tup [.agg [T], .int .i64 e] ∧ obs = [])) (hTT : (∃ B : List (List Int), T = .sl false 1 (B.map dsV)) ∨ T = .nilS) : Fnc Try.prog 48 [staV s] (fun x obs => x = .tup [.agg [T], .int .i64 e] ∧ obs = []) := by
  have f1 := pall_fn s L
  rw [sAll_0 h] at f1
  have hn := pgs_le h
  have hT := fun k hk => pgs_id (s := s) h (k := k) hk
  have hS := fun k hk => dls_snoc (s := s) (k := k) hk
  have hP : (pgs s).map dgP = dls s := rfl
  generalize pgs s = D at f1 hn hT hS hP
  refine Fnc.intro m_tof_ok (by simp) fun W S => ?_
  unfold m_tof
  simp only [ents, Nat.zero_add, Nat.reduceAdd]
  refine zst ?_
  (first | refine callD (f1) ?_ | refine callDw (f1) ?_); simp only [go_sem]
  refine zst ?_
  refine ev_adopt (i := 6) (e := 54) (s := 1) rfl (by decide) ?_
  refine ev_loopK [2, 18, 19] (fun p : {p : Nat // p ≤ D.length} => [(6, .own 2 p.1), (20, .int .i64 p.1)]) (fun p => [⟨.box false 30, true, 0, staV s⟩, ⟨.box false 57, true, 0, .agg [.nilS]⟩, ⟨.row 54, true, p.1, .arr 1 (u32s ((D.take p.1).map dgP))⟩]) (fun p => D.length - p.1) (⟨0, by simp⟩) 3 (by simp only [go_sem]; rfl) ?_ (by first | rfl | (simp only [go_sem]; done)) (by simp) (by first | rfl | (simp only [go_sem]; done)) (by first | rfl | (simp only [go_sem]; done)) (by first | rfl | (simp only [go_sem]; done)) ?_
  · (simp only [go_sem]; (try simp []); done)
  intro J hJ
  rintro ⟨k, hk0⟩
  by_cases hlt : k < D.length
  · have ht := hT k hlt
    have hs := hS k hlt
    by_cases c : D[k]!.id.region = -1
    · have hd := dgP_T c
      rw [hd] at hs
      refine zst ?_
      (first | refine callD (thread_fn D[k]!.view) ?_ | refine callDw (thread_fn D[k]!.view) ?_); simp only [go_sem]
      refine zst ?_
      refine ev_next 3 (hJ _ (⟨k + 1, hlt⟩) (by first | omega | (dsimp only; omega) | (simp; omega))) rfl (by simp) ?_ (by first | rfl | (simp only [go_sem]; done)) (by first | rfl | (simp only [go_sem]; done) | (simp only [hs]; (try simp only [go_sem]); first | done | rfl)) ?_
      · (first | rfl | (simp only [go_sem]; done) | (simp only [go_sem]; simp only [hs]; done) | (simp only [hs]; done) | (simp only [go_sem]; simp [hs]; done) | (simp [hs]; done))
      · (simp only [go_sem]; (repeat' (refine And.intro ?_ ?_)) <;> first | exact trivial | with_reducible rfl | (simp only [hs]; done) | (simp only [hs]; with_reducible rfl) | (simp [hs]; done) | (simp [hs]; omega) | (simp only [hs]; rfl) | skip)
    · have hd := dgP_C c
      rw [hd] at hs
      have c2 : ¬ D[k]!.id.region < 0 := by unfold There at ht; omega
      refine zst ?_
      (first | refine callD (Cells_fn D[k]!.cells) ?_ | refine callDw (Cells_fn D[k]!.cells) ?_); simp only [go_sem]
      refine zst ?_
      refine ev_next 3 (hJ _ (⟨k + 1, hlt⟩) (by first | omega | (dsimp only; omega) | (simp; omega))) rfl (by simp) ?_ (by first | rfl | (simp only [go_sem]; done)) (by first | rfl | (simp only [go_sem]; done) | (simp only [hs]; (try simp only [go_sem]); first | done | rfl)) ?_
      · (first | rfl | (simp only [go_sem]; done) | (simp only [go_sem]; simp only [hs]; done) | (simp only [hs]; done) | (simp only [go_sem]; simp [hs]; done) | (simp [hs]; done))
      · (simp only [go_sem]; (repeat' (refine And.intro ?_ ?_)) <;> first | exact trivial | with_reducible rfl | (simp only [hs]; done) | (simp only [hs]; with_reducible rfl) | (simp [hs]; done) | (simp [hs]; omega) | (simp only [hs]; rfl) | skip)
  · obtain rfl : k = D.length := by omega
    dsimp only
    rw [List.take_length, hP]
    rcases hTT with ⟨B, rfl⟩ | rfl
    · skip
      refine zst ?_
      refine evr_calmA ?_; (refine zev ?_); (first | refine callD (hB) ?_ | refine callDw (hB) ?_); simp only [go_sem]
      refine zst ?_
      refine ret m_tof_ok [] ?_; (first | (simp only [go_sem]; done) | (simp only [go_sem]; ((try dsimp only); (repeat' (refine And.intro ?_ ?_)) <;> first | with_reducible rfl | (simp only [go_sem]; done) | (simp only [go_sem]; rfl) | (simp only []; (try simp only [go_sem]); first | done | rfl) | (simp only [go_sem]; simp []; done) | (simp []; done) | rfl)))
    · skip
      refine zst ?_
      refine evr_calmA ?_; (refine zev ?_); (first | refine callD (hB) ?_ | refine callDw (hB) ?_); simp only [go_sem]
      refine zst ?_
      refine ret m_tof_ok [] ?_; (first | (simp only [go_sem]; done) | (simp only [go_sem]; ((try dsimp only); (repeat' (refine And.intro ?_ ?_)) <;> first | with_reducible rfl | (simp only [go_sem]; done) | (simp only [go_sem]; rfl) | (simp only []; (try simp only [go_sem]); first | done | rfl) | (simp only [go_sem]; simp []; done) | (simp []; done) | rfl)))
set_option maxHeartbeats 8000000 in
theorem zof_to (s : State) (L : LowS s) (G : ∀ x ∈ s.threads, x.regs.length ≤ 1000000000) (h : shp s = true) (T : V) (e : Int) (hB : Fnc Try.prog 26 [dsV (dls s)] (fun x obs => x = .tup [.agg [T], .int .i64 e] ∧ obs = [])) (hTT : (∃ B : List (List Int), T = .sl false 1 (B.map dsV)) ∨ T = .nilS) : Fnc Try.prog 50 [staV s] (fun x obs => x = .tup [.agg [T], .int .i64 e] ∧ obs = []) := by
  have f1 := zall_fn s L
  rw [sAll_0 h] at f1
  have hn := pgs_le h
  have hT := fun k hk => pgs_id (s := s) h (k := k) hk
  have hG := fun k hk => pgs_regs (s := s) G (k := k) hk (hT k hk)
  have hS := fun k hk => dls_snoc (s := s) (k := k) hk
  have hC : ∀ k, k < (pgs s).length → (pgs s)[k]!.cells.length ≤ 8 := fun k hk => by
    have := hT k hk
    rw [pgs_at hk, getP_id] at this
    rw [pgs_at hk]
    exact this.cells.1
  have hP : (pgs s).map dgP = dls s := rfl
  generalize pgs s = D at f1 hn hT hS hP hG hC
  refine Fnc.intro m_zof_ok (by simp) fun W S => ?_
  unfold m_zof
  simp only [ents, Nat.zero_add, Nat.reduceAdd]
  refine zst ?_
  (first | refine callD (f1) ?_ | refine callDw (f1) ?_); simp only [go_sem]
  refine zst ?_
  refine ev_adopt (i := 6) (e := 54) (s := 1) rfl (by decide) ?_
  refine ev_loopK [2, 4] (fun p : {p : Nat // p ≤ D.length} => [(6, .own 2 p.1), (7, .int .i64 p.1)]) (fun p => [⟨.box false 30, true, 0, staV s⟩, ⟨.box false 57, true, 0, .agg [.nilS]⟩, ⟨.row 54, true, p.1, .arr 1 (u32s ((D.take p.1).map dgP))⟩]) (fun p => D.length - p.1) (⟨0, by simp⟩) 3 (by simp only [go_sem]; rfl) ?_ (by first | rfl | (simp only [go_sem]; done)) (by simp) (by first | rfl | (simp only [go_sem]; done)) (by first | rfl | (simp only [go_sem]; done)) (by first | rfl | (simp only [go_sem]; done)) ?_
  · (simp only [go_sem]; (try simp []); done)
  intro J hJ
  rintro ⟨k, hk0⟩
  by_cases hlt : k < D.length
  · have ht := hT k hlt
    have hs := hS k hlt
    have hc := hC k hlt
    by_cases c : D[k]!.id.region = -1
    · have hd := dgP_T c
      rw [hd] at hs
      refine zst ?_
      (first | refine callD (rThread_fn D[k]!.view (hG k hlt)) ?_ | refine callDw (rThread_fn D[k]!.view (hG k hlt)) ?_); simp only [go_sem]
      refine zst ?_
      refine ev_next 3 (hJ _ (⟨k + 1, hlt⟩) (by first | omega | (dsimp only; omega) | (simp; omega))) rfl (by simp) ?_ (by first | rfl | (simp only [go_sem]; done)) (by first | rfl | (simp only [go_sem]; done) | (simp only [hs]; (try simp only [go_sem]); first | done | rfl)) ?_
      · (first | rfl | (simp only [go_sem]; done) | (simp only [go_sem]; simp only [hs]; done) | (simp only [hs]; done) | (simp only [go_sem]; simp [hs]; done) | (simp [hs]; done))
      · (simp only [go_sem]; (repeat' (refine And.intro ?_ ?_)) <;> first | exact trivial | with_reducible rfl | (simp only [hs]; done) | (simp only [hs]; with_reducible rfl) | (simp [hs]; done) | (simp [hs]; omega) | (simp only [hs]; rfl) | skip)
    · have hd := dgP_C c
      rw [hd] at hs
      refine zst ?_
      (first | refine callD (rCells_fn D[k]!.cells (by omega)) ?_ | refine callDw (rCells_fn D[k]!.cells (by omega)) ?_); simp only [go_sem]
      refine zst ?_
      refine ev_next 3 (hJ _ (⟨k + 1, hlt⟩) (by first | omega | (dsimp only; omega) | (simp; omega))) rfl (by simp) ?_ (by first | rfl | (simp only [go_sem]; done)) (by first | rfl | (simp only [go_sem]; done) | (simp only [hs]; (try simp only [go_sem]); first | done | rfl)) ?_
      · (first | rfl | (simp only [go_sem]; done) | (simp only [go_sem]; simp only [hs]; done) | (simp only [hs]; done) | (simp only [go_sem]; simp [hs]; done) | (simp [hs]; done))
      · (simp only [go_sem]; (repeat' (refine And.intro ?_ ?_)) <;> first | exact trivial | with_reducible rfl | (simp only [hs]; done) | (simp only [hs]; with_reducible rfl) | (simp [hs]; done) | (simp [hs]; omega) | (simp only [hs]; rfl) | skip)
  · obtain rfl : k = D.length := by omega
    dsimp only
    rw [List.take_length, hP]
    rcases hTT with ⟨B, rfl⟩ | rfl
    · skip
      refine zst ?_
      refine evr_calmA ?_; (refine zev ?_); (first | refine callD (hB) ?_ | refine callDw (hB) ?_); simp only [go_sem]
      refine zst ?_
      refine ret m_zof_ok [] ?_; (first | (simp only [go_sem]; done) | (simp only [go_sem]; ((try dsimp only); (repeat' (refine And.intro ?_ ?_)) <;> first | with_reducible rfl | (simp only [go_sem]; done) | (simp only [go_sem]; rfl) | (simp only []; (try simp only [go_sem]); first | done | rfl) | (simp only [go_sem]; simp []; done) | (simp []; done) | rfl)))
    · skip
      refine zst ?_
      refine evr_calmA ?_; (refine zev ?_); (first | refine callD (hB) ?_ | refine callDw (hB) ?_); simp only [go_sem]
      refine zst ?_
      refine ret m_zof_ok [] ?_; (first | (simp only [go_sem]; done) | (simp only [go_sem]; ((try dsimp only); (repeat' (refine And.intro ?_ ?_)) <;> first | with_reducible rfl | (simp only [go_sem]; done) | (simp only [go_sem]; rfl) | (simp only []; (try simp only [go_sem]); first | done | rfl) | (simp only [go_sem]; simp []; done) | (simp []; done) | rfl)))
end Go.Proofs.Ytcphobeommkgeaa
/- Trees: Update and Differ of any trees, and by the reference. -/
namespace Go.Proofs.Ytcphobeommkgeaa
open Go Go.RowKit Rdn Rdn.Dp
set_option linter.unusedVariables false
set_option linter.unusedSimpArgs false
def m_zup : MC := .seq (.reg [⟨(some 3), none, (.m (.box 57 (.t 0)))⟩, ⟨(some 6), none, (.m (.alloc 57 (.agg [.nilS])))⟩, ⟨(some 7), none, (.p (.mov (.c (.int .i64 0))))⟩])
 (.seq (.seq (.reg [⟨(some 11), none, (.p (.load true 1 (.t 3)))⟩, ⟨(some 12), none, (.call 65 [(.t 11)])⟩, ⟨(some 13), none, (.p (.un .not (.t 12)))⟩])
 (.cond (.t 13) (.seq (.reg [⟨(some 14), none, (.m (.build none [.nilS] []))⟩, ⟨none, none, (.m (.store 1 (.t 6) (.t 14)))⟩, ⟨(some 7), none, (.p (.mov (.c (.int .i64 1))))⟩])
 (.ret)) (.skip)))
 (.seq (.seq (.reg [⟨(some 15), none, (.p (.mov (.t 1)))⟩, ⟨(some 16), none, (.p (.bin 0 .lss (.t 15) (.c (.int .i64 0))))⟩, ⟨(some 17), none, (.p (.mov (.t 16)))⟩, ⟨(some 18), (some (17, false)), (.p (.mov (.t 1)))⟩, ⟨(some 19), (some (17, false)), (.p (.fieldA 0 0 (.t 3)))⟩, ⟨(some 20), (some (17, false)), (.p (.load false 1 (.t 19)))⟩, ⟨(some 21), (some (17, false)), (.p (.idxA 1 (.t 20) (.c (.int .i64 0))))⟩, ⟨(some 22), (some (17, false)), (.p (.load false 1 (.t 21)))⟩, ⟨(some 23), (some (17, false)), (.p (.len (.t 22)))⟩, ⟨(some 24), (some (17, false)), (.p (.bin 0 .geq (.t 18) (.t 23)))⟩, ⟨(some 25), none, (.p (.pick (.t 17) (.c (.bool true)) (.t 24)))⟩])
 (.cond (.t 25) (.seq (.reg [⟨(some 26), none, (.m (.build none [.nilS] []))⟩, ⟨none, none, (.m (.store 1 (.t 6) (.t 26)))⟩, ⟨(some 7), none, (.p (.mov (.c (.int .i64 6))))⟩])
 (.ret)) (.skip)))
 (.seq (.reg [⟨(some 27), none, (.m (.buildS 54 1 (.int .u32 0) 0 []))⟩, ⟨(some 28), none, (.p (.fieldA 0 0 (.t 3)))⟩, ⟨(some 29), none, (.p (.load false 1 (.t 28)))⟩, ⟨(some 30), none, (.p (.idxA 1 (.t 29) (.c (.int .i64 0))))⟩, ⟨(some 31), none, (.p (.load false 1 (.t 30)))⟩, ⟨(some 32), none, (.m (.app 54 1 4 (.t 27) (.t 31)))⟩, ⟨(some 8), none, (.p (.mov (.t 32)))⟩])
 (.seq (.reg [⟨(some 33), none, (.p (.mov (.t 8)))⟩, ⟨(some 34), none, (.p (.mov (.t 1)))⟩, ⟨(some 35), none, (.p (.mov (.t 2)))⟩, ⟨(some 36), none, (.p (.idxA 1 (.t 33) (.t 34)))⟩, ⟨none, none, (.m (.store 1 (.t 36) (.t 35)))⟩])
 (.seq (.reg [⟨(some 38), none, (.p (.mov (.t 8)))⟩, ⟨(some 39), none, (.call 26 [(.t 38)])⟩, ⟨(some 37), none, (.p (.mov (.t 39)))⟩, ⟨(some 40), none, (.p (.ext (.t 37) 0))⟩, ⟨(some 41), none, (.p (.ext (.t 37) 1))⟩, ⟨(some 9), none, (.m (.alloc 57 (.agg [.nilS])))⟩, ⟨none, none, (.m (.store 1 (.t 9) (.t 40)))⟩, ⟨(some 10), none, (.p (.mov (.t 41)))⟩])
 (.seq (.reg [⟨(some 42), none, (.p (.load true 1 (.t 9)))⟩, ⟨none, none, (.m (.store 1 (.t 6) (.t 42)))⟩, ⟨(some 7), none, (.p (.mov (.c (.int .i64 0))))⟩])
 (.ret)))))))
theorem m_zup_ok : compF Try.prog 62 = some (43, m_zup, [.load true 1 (.t 6), .mov (.t 7)]) := by kernel_rfl
def m_zdiffer : MC := .seq (.reg [⟨(some 2), none, (.m (.box 57 (.t 0)))⟩, ⟨(some 3), none, (.m (.box 57 (.t 1)))⟩, ⟨(some 4), none, (.p (.mov (.c (.nilS))))⟩, ⟨(some 5), none, (.p (.mov (.c (.int .i64 0))))⟩, ⟨(some 6), none, (.p (.mov (.c (.int .i64 0))))⟩])
 (.seq (.seq (.dreg [⟨(some 13), none, (.p (.load true 1 (.t 2)))⟩, ⟨(some 14), none, (.call 65 [(.t 13)])⟩, ⟨(some 15), none, (.p (.un .not (.t 14)))⟩, ⟨(some 16), none, (.p (.mov (.t 15)))⟩, ⟨(some 17), (some (16, false)), (.p (.load true 1 (.t 3)))⟩, ⟨(some 18), (some (16, false)), (.call 65 [(.t 17)])⟩, ⟨(some 19), (some (16, false)), (.p (.un .not (.t 18)))⟩, ⟨(some 20), none, (.p (.pick (.t 16) (.c (.bool true)) (.t 19)))⟩, ⟨(some 21), none, (.p (.mov (.t 20)))⟩, ⟨(some 22), (some (21, false)), (.p (.fieldA 0 0 (.t 2)))⟩, ⟨(some 23), (some (21, false)), (.p (.load false 1 (.t 22)))⟩, ⟨(some 24), (some (21, false)), (.p (.idxA 1 (.t 23) (.c (.int .i64 0))))⟩, ⟨(some 25), (some (21, false)), (.p (.load false 1 (.t 24)))⟩, ⟨(some 26), (some (21, false)), (.p (.len (.t 25)))⟩, ⟨(some 27), (some (21, false)), (.p (.fieldA 0 0 (.t 3)))⟩, ⟨(some 28), (some (21, false)), (.p (.load false 1 (.t 27)))⟩, ⟨(some 29), (some (21, false)), (.p (.idxA 1 (.t 28) (.c (.int .i64 0))))⟩, ⟨(some 30), (some (21, false)), (.p (.load false 1 (.t 29)))⟩, ⟨(some 31), (some (21, false)), (.p (.len (.t 30)))⟩, ⟨(some 32), (some (21, false)), (.p (.bin 0 .neq (.t 26) (.t 31)))⟩, ⟨(some 33), none, (.p (.pick (.t 21) (.c (.bool true)) (.t 32)))⟩] [[], [0], [0, 1], [0, 1, 2], [0, 1, 2, 3], [0, 1, 2, 3, 4], [0, 1, 2, 3, 4, 5], [0, 1, 2, 3, 4, 5, 6], [0, 1, 2, 3, 4, 5, 6, 7], [0, 1, 2, 3, 4, 5, 6, 7, 8], [0, 1, 2, 3, 4, 5, 6, 7, 8, 9], [0, 1, 2, 3, 4, 5, 6, 7, 8, 9, 10], [0, 1, 2, 3, 4, 5, 6, 7, 8, 9, 10, 11], [0, 1, 2, 3, 4, 5, 6, 7, 8, 9, 10, 11, 12], [0, 1, 2, 3, 4, 5, 6, 7, 8], [0, 1, 2, 3, 4, 5, 6, 7, 8, 14], [0, 1, 2, 3, 4, 5, 6, 7, 8, 14, 15], [0, 1, 2, 3, 4, 5, 6, 7, 8, 14, 15, 16], [0, 1, 2, 3, 4, 5, 6, 7, 8, 14, 15, 16, 17], [0, 1, 2, 3, 4, 5, 6, 7, 8, 9, 10, 11, 12, 13, 14, 15, 16, 17, 18], [0, 1, 2, 3, 4, 5, 6, 7, 8, 9, 10, 11, 12, 13, 14, 15, 16, 17, 18, 19]])
 (.cond (.t 33) (.seq (.reg [⟨(some 4), none, (.p (.mov (.c (.nilS))))⟩, ⟨(some 5), none, (.p (.mov (.c (.int .i64 0))))⟩, ⟨(some 6), none, (.p (.mov (.c (.int .i64 1))))⟩])
 (.ret)) (.skip)))
 (.seq (.reg [⟨(some 7), none, (.p (.mov (.c (.int .i64 0))))⟩])
 (.seq (.reg [⟨(some 34), none, (.m (.buildS 3 1 (.int .i64 0) 1 [(0, (.c (.int .i64 0)))]))⟩, ⟨(some 8), none, (.p (.mov (.t 34)))⟩])
 (.seq (.seq (.reg [⟨(some 35), none, (.p (.fieldA 0 0 (.t 2)))⟩, ⟨(some 36), none, (.p (.load false 1 (.t 35)))⟩, ⟨(some 37), none, (.p (.len (.t 36)))⟩, ⟨(some 38), none, (.p (.bin 0 .sub (.t 37) (.c (.int .i64 1))))⟩, ⟨(some 9), none, (.p (.mov (.t 38)))⟩])
 (.block 0 (.loop (.seq (.seq (.reg [⟨(some 39), none, (.p (.mov (.t 9)))⟩, ⟨(some 40), none, (.p (.bin 0 .geq (.t 39) (.c (.int .i64 0))))⟩])
 (.cond (.t 40) (.skip) (.exit 0)))
 (.seq (.block 1 (.seq (.reg [⟨(some 10), none, (.p (.mov (.c (.nilS))))⟩])
 (.seq (.seq (.reg [⟨(some 11), none, (.p (.mov (.c (.int .i64 0))))⟩])
 (.block 2 (.loop (.seq (.seq (.reg [⟨(some 43), none, (.p (.mov (.t 11)))⟩, ⟨(some 44), none, (.p (.mov (.t 8)))⟩, ⟨(some 45), none, (.p (.len (.t 44)))⟩, ⟨(some 46), none, (.p (.bin 0 .lss (.t 43) (.t 45)))⟩])
 (.cond (.t 46) (.skip) (.exit 2)))
 (.seq (.block 3 (.seq (.reg [⟨(some 49), none, (.p (.mov (.t 8)))⟩, ⟨(some 50), none, (.p (.mov (.t 11)))⟩, ⟨(some 51), none, (.p (.idxA 1 (.t 49) (.t 50)))⟩, ⟨(some 52), none, (.p (.load false 1 (.t 51)))⟩, ⟨(some 12), none, (.p (.mov (.t 52)))⟩])
 (.seq (.reg [⟨(some 53), none, (.p (.mov (.t 7)))⟩, ⟨(some 54), none, (.p (.bin 0 .add (.t 53) (.c (.int .i64 1))))⟩, ⟨(some 7), none, (.p (.mov (.t 54)))⟩])
 (.seq (.seq (.dreg [⟨(some 55), none, (.p (.fieldA 0 0 (.t 2)))⟩, ⟨(some 56), none, (.p (.load false 1 (.t 55)))⟩, ⟨(some 57), none, (.p (.mov (.t 9)))⟩, ⟨(some 58), none, (.p (.idxA 1 (.t 56) (.t 57)))⟩, ⟨(some 59), none, (.p (.load false 1 (.t 58)))⟩, ⟨(some 60), none, (.p (.mov (.t 12)))⟩, ⟨(some 61), none, (.p (.idxA 1 (.t 59) (.t 60)))⟩, ⟨(some 62), none, (.p (.load false 1 (.t 61)))⟩, ⟨(some 63), none, (.p (.fieldA 0 0 (.t 3)))⟩, ⟨(some 64), none, (.p (.load false 1 (.t 63)))⟩, ⟨(some 65), none, (.p (.mov (.t 9)))⟩, ⟨(some 66), none, (.p (.idxA 1 (.t 64) (.t 65)))⟩, ⟨(some 67), none, (.p (.load false 1 (.t 66)))⟩, ⟨(some 68), none, (.p (.mov (.t 12)))⟩, ⟨(some 69), none, (.p (.idxA 1 (.t 67) (.t 68)))⟩, ⟨(some 70), none, (.p (.load false 1 (.t 69)))⟩, ⟨(some 71), none, (.p (.bin 0 .eql (.t 62) (.t 70)))⟩] [[], [0], [], [0, 1, 2], [0, 1, 2, 3], [], [0, 1, 2, 3, 4, 5], [0, 1, 2, 3, 4, 5, 6], [], [8], [], [8, 9, 10], [8, 9, 10, 11], [], [8, 9, 10, 11, 12, 13], [8, 9, 10, 11, 12, 13, 14], [0, 1, 2, 3, 4, 5, 6, 7, 8, 9, 10, 11, 12, 13, 14, 15]])
 (.cond (.t 71) (.exit 3) (.skip)))
 (.seq (.seq (.reg [⟨(some 72), none, (.p (.mov (.t 9)))⟩, ⟨(some 73), none, (.p (.bin 0 .eql (.t 72) (.c (.int .i64 0))))⟩])
 (.cond (.t 73) (.seq (.reg [⟨(some 74), none, (.p (.mov (.t 10)))⟩, ⟨(some 75), none, (.p (.mov (.t 12)))⟩, ⟨(some 76), none, (.m (.buildS 3 1 (.int .i64 0) 1 [(0, (.t 75))]))⟩, ⟨(some 77), none, (.m (.app 3 1 8 (.t 74) (.t 76)))⟩, ⟨(some 10), none, (.p (.mov (.t 77)))⟩])
 (.exit 3)) (.skip)))
 (.seq (.reg [⟨(some 78), none, (.p (.mov (.t 10)))⟩, ⟨(some 79), none, (.p (.mov (.t 12)))⟩, ⟨(some 80), none, (.p (.bin 0 .mul (.c (.int .i64 2)) (.t 79)))⟩, ⟨(some 81), none, (.m (.buildS 3 1 (.int .i64 0) 1 [(0, (.t 80))]))⟩, ⟨(some 82), none, (.m (.app 3 1 8 (.t 78) (.t 81)))⟩, ⟨(some 10), none, (.p (.mov (.t 82)))⟩])
 (.seq (.reg [⟨(some 83), none, (.p (.mov (.t 12)))⟩, ⟨(some 84), none, (.p (.bin 0 .mul (.c (.int .i64 2)) (.t 83)))⟩, ⟨(some 85), none, (.p (.bin 0 .add (.t 84) (.c (.int .i64 1))))⟩, ⟨(some 86), none, (.p (.fieldA 0 0 (.t 2)))⟩, ⟨(some 87), none, (.p (.load false 1 (.t 86)))⟩, ⟨(some 88), none, (.p (.mov (.t 9)))⟩, ⟨(some 89), none, (.p (.bin 0 .sub (.t 88) (.c (.int .i64 1))))⟩, ⟨(some 90), none, (.p (.idxA 1 (.t 87) (.t 89)))⟩, ⟨(some 91), none, (.p (.load false 1 (.t 90)))⟩, ⟨(some 92), none, (.p (.len (.t 91)))⟩, ⟨(some 93), none, (.p (.bin 0 .lss (.t 85) (.t 92)))⟩])
 (.cond (.t 93) (.reg [⟨(some 94), none, (.p (.mov (.t 10)))⟩, ⟨(some 95), none, (.p (.mov (.t 12)))⟩, ⟨(some 96), none, (.p (.bin 0 .mul (.c (.int .i64 2)) (.t 95)))⟩, ⟨(some 97), none, (.p (.bin 0 .add (.t 96) (.c (.int .i64 1))))⟩, ⟨(some 98), none, (.m (.buildS 3 1 (.int .i64 0) 1 [(0, (.t 97))]))⟩, ⟨(some 99), none, (.m (.app 3 1 8 (.t 94) (.t 98)))⟩, ⟨(some 10), none, (.p (.mov (.t 99)))⟩]) (.skip)))))))))
 (.reg [⟨(some 47), none, (.p (.mov (.t 11)))⟩, ⟨(some 48), none, (.p (.bin 0 .add (.t 47) (.c (.int .i64 1))))⟩, ⟨(some 11), none, (.p (.mov (.t 48)))⟩]))))))
 (.reg [⟨(some 100), none, (.p (.mov (.t 10)))⟩, ⟨(some 8), none, (.p (.mov (.t 100)))⟩]))))
 (.reg [⟨(some 41), none, (.p (.mov (.t 9)))⟩, ⟨(some 42), none, (.p (.bin 0 .sub (.t 41) (.c (.int .i64 1))))⟩, ⟨(some 9), none, (.p (.mov (.t 42)))⟩]))))))
 (.seq (.reg [⟨(some 101), none, (.p (.mov (.t 8)))⟩, ⟨(some 102), none, (.p (.mov (.t 7)))⟩, ⟨(some 4), none, (.p (.mov (.t 101)))⟩, ⟨(some 5), none, (.p (.mov (.t 102)))⟩, ⟨(some 6), none, (.p (.mov (.c (.int .i64 0))))⟩])
 (.ret))))))
theorem m_zdiffer_ok : compF Try.prog 63 = some (103, m_zdiffer, [.mov (.t 4), .mov (.t 5), .mov (.t 6)]) := by kernel_rfl
def m_sints26 : MC := .seq (.reg [⟨(some 4), none, (.p (.mov (.c (.bool false))))⟩])
 (.seq (.seq (.reg [⟨(some 6), none, (.p (.mov (.t 0)))⟩, ⟨(some 7), none, (.p (.len (.t 6)))⟩, ⟨(some 8), none, (.p (.mov (.t 1)))⟩, ⟨(some 9), none, (.p (.len (.t 8)))⟩, ⟨(some 10), none, (.p (.bin 0 .neq (.t 7) (.t 9)))⟩])
 (.cond (.t 10) (.seq (.reg [⟨(some 4), none, (.p (.mov (.c (.bool false))))⟩])
 (.ret)) (.skip)))
 (.seq (.seq (.reg [⟨(some 5), none, (.p (.mov (.c (.int .i64 0))))⟩])
 (.block 0 (.loop (.seq (.seq (.reg [⟨(some 11), none, (.p (.mov (.t 5)))⟩, ⟨(some 12), none, (.p (.mov (.t 0)))⟩, ⟨(some 13), none, (.p (.len (.t 12)))⟩, ⟨(some 14), none, (.p (.bin 0 .lss (.t 11) (.t 13)))⟩])
 (.cond (.t 14) (.skip) (.exit 0)))
 (.seq (.block 1 (.seq (.dreg [⟨(some 17), none, (.p (.mov (.t 0)))⟩, ⟨(some 18), none, (.p (.mov (.t 5)))⟩, ⟨(some 19), none, (.p (.idxA 1 (.t 17) (.t 18)))⟩, ⟨(some 20), none, (.p (.load false 1 (.t 19)))⟩, ⟨(some 21), none, (.p (.mov (.t 1)))⟩, ⟨(some 22), none, (.p (.mov (.t 5)))⟩, ⟨(some 23), none, (.p (.idxA 1 (.t 21) (.t 22)))⟩, ⟨(some 24), none, (.p (.load false 1 (.t 23)))⟩, ⟨(some 25), none, (.p (.bin 0 .neq (.t 20) (.t 24)))⟩] [[], [], [0, 1], [0, 1, 2], [], [], [4, 5], [4, 5, 6], [0, 1, 2, 3, 4, 5, 6, 7]])
 (.cond (.t 25) (.seq (.reg [⟨(some 4), none, (.p (.mov (.c (.bool false))))⟩])
 (.ret)) (.skip))))
 (.reg [⟨(some 15), none, (.p (.mov (.t 5)))⟩, ⟨(some 16), none, (.p (.bin 0 .add (.t 15) (.c (.int .i64 1))))⟩, ⟨(some 5), none, (.p (.mov (.t 16)))⟩]))))))
 (.seq (.reg [⟨(some 4), none, (.p (.mov (.c (.bool true))))⟩])
 (.ret))))
theorem m_sints26_ok : compF Try.prog 64 = some (26, m_sints26, [.mov (.t 4)]) := by kernel_rfl
attribute [local irreducible] bld lev vld rootOf
set_option maxHeartbeats 8000000 in
theorem tup_bad (L : List (List Int)) (i d : Int) (h : vld L = false) : Fnc Try.prog 29 [trV L, .int .i64 i, .int .u32 d] (fun x obs => x = .tup [.agg [.nilS], .int .i64 1] ∧ obs = []) := by
  have hv := tval_fn L
  rw [h] at hv
  refine Fnc.intro m_tup_ok (by simp) fun W S => ?_
  unfold m_tup
  simp only [ents, Nat.zero_add, Nat.reduceAdd]
  refine zst ?_
  (first | refine callD (hv) ?_ | refine callDw (hv) ?_); simp only [go_sem]
  refine zst ?_
  refine ret m_tup_ok [] ?_; (first | (simp only [go_sem]; done) | (simp only [go_sem]; ((try dsimp only); (repeat' (refine And.intro ?_ ?_)) <;> first | with_reducible rfl | (simp only [go_sem]; done) | (simp only [go_sem]; rfl) | (simp only []; (try simp only [go_sem]); first | done | rfl) | (simp only [go_sem]; simp []; done) | (simp []; done) | rfl)))
set_option maxHeartbeats 8000000 in
theorem zup_bad (L : List (List Int)) (i d : Int) (h : vld L = false) : Fnc Try.prog 62 [trV L, .int .i64 i, .int .u32 d] (fun x obs => x = .tup [.agg [.nilS], .int .i64 1] ∧ obs = []) := by
  have hv := rval_fn L
  rw [h] at hv
  refine Fnc.intro m_zup_ok (by simp) fun W S => ?_
  unfold m_zup
  simp only [ents, Nat.zero_add, Nat.reduceAdd]
  refine zst ?_
  (first | refine callD (hv) ?_ | refine callDw (hv) ?_); simp only [go_sem]
  refine zst ?_
  refine ret m_zup_ok [] ?_; (first | (simp only [go_sem]; done) | (simp only [go_sem]; ((try dsimp only); (repeat' (refine And.intro ?_ ?_)) <;> first | with_reducible rfl | (simp only [go_sem]; done) | (simp only [go_sem]; rfl) | (simp only []; (try simp only [go_sem]); first | done | rfl) | (simp only [go_sem]; simp []; done) | (simp []; done) | rfl)))
set_option maxHeartbeats 8000000 in
theorem tup_out (L : List (List Int)) (i d : Int) (h : vld L = true) (hi : i < 0 ∨ (L[0]!.length : Int) ≤ i) : Fnc Try.prog 29 [trV L, .int .i64 i, .int .u32 d] (fun x obs => x = .tup [.agg [.nilS], .int .i64 6] ∧ obs = []) := by
  have hv := tval_fn L
  rw [h] at hv
  have ht := vld_to h
  have h1 := ht.1
  have h2 := ht.2.2.1
  by_cases c : i < 0
  · skip
    refine Fnc.intro m_tup_ok (by simp) fun W S => ?_
    unfold m_tup
    simp only [ents, Nat.zero_add, Nat.reduceAdd]
    refine zst ?_
    (first | refine callD (hv) ?_ | refine callDw (hv) ?_); simp only [go_sem]
    refine zst ?_
    refine ret m_tup_ok [] ?_; (first | (simp only [go_sem]; done) | (simp only [go_sem]; ((try dsimp only); (repeat' (refine And.intro ?_ ?_)) <;> first | with_reducible rfl | (simp only [go_sem]; done) | (simp only [go_sem]; rfl) | (simp only []; (try simp only [go_sem]); first | done | rfl) | (simp only [go_sem]; simp []; done) | (simp []; done) | rfl)))
  · skip
    refine Fnc.intro m_tup_ok (by simp) fun W S => ?_
    unfold m_tup
    simp only [ents, Nat.zero_add, Nat.reduceAdd]
    refine zst ?_
    (first | refine callD (hv) ?_ | refine callDw (hv) ?_); simp only [go_sem]
    refine zst ?_
    refine ret m_tup_ok [] ?_; (first | (simp only [go_sem]; done) | (simp only [go_sem]; ((try dsimp only); (repeat' (refine And.intro ?_ ?_)) <;> first | with_reducible rfl | (simp only [go_sem]; done) | (simp only [go_sem]; rfl) | (simp only []; (try simp only [go_sem]); first | done | rfl) | (simp only [go_sem]; simp []; done) | (simp []; done) | rfl)))
set_option maxHeartbeats 8000000 in
theorem zup_out (L : List (List Int)) (i d : Int) (h : vld L = true) (hi : i < 0 ∨ (L[0]!.length : Int) ≤ i) : Fnc Try.prog 62 [trV L, .int .i64 i, .int .u32 d] (fun x obs => x = .tup [.agg [.nilS], .int .i64 6] ∧ obs = []) := by
  have hv := rval_fn L
  rw [h] at hv
  have ht := vld_to h
  have h1 := ht.1
  have h2 := ht.2.2.1
  by_cases c : i < 0
  · skip
    refine Fnc.intro m_zup_ok (by simp) fun W S => ?_
    unfold m_zup
    simp only [ents, Nat.zero_add, Nat.reduceAdd]
    refine zst ?_
    (first | refine callD (hv) ?_ | refine callDw (hv) ?_); simp only [go_sem]
    refine zst ?_
    refine ret m_zup_ok [] ?_; (first | (simp only [go_sem]; done) | (simp only [go_sem]; ((try dsimp only); (repeat' (refine And.intro ?_ ?_)) <;> first | with_reducible rfl | (simp only [go_sem]; done) | (simp only [go_sem]; rfl) | (simp only []; (try simp only [go_sem]); first | done | rfl) | (simp only [go_sem]; simp []; done) | (simp []; done) | rfl)))
  · skip
    refine Fnc.intro m_zup_ok (by simp) fun W S => ?_
    unfold m_zup
    simp only [ents, Nat.zero_add, Nat.reduceAdd]
    refine zst ?_
    (first | refine callD (hv) ?_ | refine callDw (hv) ?_); simp only [go_sem]
    refine zst ?_
    refine ret m_zup_ok [] ?_; (first | (simp only [go_sem]; done) | (simp only [go_sem]; ((try dsimp only); (repeat' (refine And.intro ?_ ?_)) <;> first | with_reducible rfl | (simp only [go_sem]; done) | (simp only [go_sem]; rfl) | (simp only []; (try simp only [go_sem]); first | done | rfl) | (simp only [go_sem]; simp []; done) | (simp []; done) | rfl)))
set_option maxHeartbeats 8000000 in
theorem zup_ok (l : List Int) (h1 : 1 ≤ l.length) (h2 : l.length ≤ 20) (i : Nat) (hi : i < l.length) (d : Int) : Fnc Try.prog 62 [trV (bld l), .int .i64 i, .int .u32 d] (fun x obs => x = .tup [trV (bld (l.set i d)), .int .i64 0] ∧ obs = []) := by
  have hv := rval_fn (bld l)
  rw [vld_bld h1 h2] at hv
  have hl := bld_len l
  have hz := bld_zero l
  have hB := rbuild_fn (l.set i d) (by rw [List.length_set]; exact h1) (by rw [List.length_set]; exact h2)
  refine Fnc.intro m_zup_ok (by simp) fun W S => ?_
  unfold m_zup
  simp only [ents, Nat.zero_add, Nat.reduceAdd]
  refine zst ?_
  (first | refine callD (hv) ?_ | refine callDw (hv) ?_); refine zev ?_
  repeat (first | (simp only [hz]; try simp only [go_sem]) | refine And.intro (by omega) ?_ | refine And.intro rfl ?_ | refine ev_ctl rfl rfl ?_ | refine evr_nil ?_ | refine evw_nil (by kernel_rfl) ?_ | (simp (disch := omega) only [takeAll, Nat.min_eq_left, Nat.min_eq_right, if_pos, if_neg, getD_map, wrapI64, modIn, fdivE, tmodE, tdivE, decT, decF, beqT, beqF, bneT, bneF, Int.toNat_natCast]; try simp only [go_sem]) | (refine ev_condTb rfl ?_ ?_; · (simp <;> omega)) | (refine ev_condFb rfl ?_ ?_; · (simp <;> omega)) | ((first | refine ev_region ?_ | refine evr_go rfl ?_ | refine evw_go rfl ?_ | refine ev_dr0 mixed rfl (by kernel_rfl) ?_ | refine ev_dr1 mixed rfl (by kernel_rfl) ?_ | refine ev_dr2 mixed rfl (by kernel_rfl) ?_); simp only [go_sem]))
  refine evr_calmA ?_; (refine zev ?_); (first | refine callD (hB) ?_ | refine callDw (hB) ?_); simp only [go_sem]
  refine zst ?_
  refine ret m_zup_ok [] ?_; (first | (simp only [go_sem]; done) | (simp only [go_sem]; ((try dsimp only); (repeat' (refine And.intro ?_ ?_)) <;> first | with_reducible rfl | (simp only [go_sem]; done) | (simp only [go_sem]; rfl) | (simp only []; (try simp only [go_sem]); first | done | rfl) | (simp only [go_sem]; simp []; done) | (simp []; done) | rfl)))
set_option maxHeartbeats 8000000 in
theorem differ_bad (L M : List (List Int)) (h : vld L = false ∨ vld M = false ∨ L[0]!.length ≠ M[0]!.length) : Fnc Try.prog 30 [trV L, trV M] (fun x obs => x = .tup [.nilS, .int .i64 0, .int .i64 1] ∧ obs = []) := by
  have f1 := tval_fn L
  have f2 := tval_fn M
  cases c1 : vld L with
  | false =>
    rw [c1] at f1
    refine Fnc.intro m_differ_ok (by simp) fun W S => ?_
    unfold m_differ
    simp only [ents, Nat.zero_add, Nat.reduceAdd]
    refine zst ?_
    (first | refine callD (f1) ?_ | refine callDw (f1) ?_); simp only [go_sem]
    refine zst ?_
    refine ret m_differ_ok [] ?_; (first | (simp only [go_sem]; done) | (simp only [go_sem]; ((try dsimp only); (repeat' (refine And.intro ?_ ?_)) <;> first | with_reducible rfl | (simp only [go_sem]; done) | (simp only [go_sem]; rfl) | (simp only []; (try simp only [go_sem]); first | done | rfl) | (simp only [go_sem]; simp []; done) | (simp []; done) | rfl)))
  | true =>
    rw [c1] at f1
    cases c2 : vld M with
    | false =>
      rw [c2] at f2
      refine Fnc.intro m_differ_ok (by simp) fun W S => ?_
      unfold m_differ
      simp only [ents, Nat.zero_add, Nat.reduceAdd]
      refine zst ?_
      (first | refine callD (f1) ?_ | refine callDw (f1) ?_); simp only [go_sem]
      refine zst ?_
      (first | refine callD (f2) ?_ | refine callDw (f2) ?_); simp only [go_sem]
      refine zst ?_
      refine ret m_differ_ok [] ?_; (first | (simp only [go_sem]; done) | (simp only [go_sem]; ((try dsimp only); (repeat' (refine And.intro ?_ ?_)) <;> first | with_reducible rfl | (simp only [go_sem]; done) | (simp only [go_sem]; rfl) | (simp only []; (try simp only [go_sem]); first | done | rfl) | (simp only [go_sem]; simp []; done) | (simp []; done) | rfl)))
    | true =>
      rw [c2] at f2
      have h3 : L[0]!.length ≠ M[0]!.length := by
        rcases h with h | h | h
        · rw [c1] at h; cases h
        · rw [c2] at h; cases h
        · exact h
      have t1 := (vld_to c1).1
      have t2 := (vld_to c2).1
      refine Fnc.intro m_differ_ok (by simp) fun W S => ?_
      unfold m_differ
      simp only [ents, Nat.zero_add, Nat.reduceAdd]
      refine zst ?_
      (first | refine callD (f1) ?_ | refine callDw (f1) ?_); simp only [go_sem]
      refine zst ?_
      (first | refine callD (f2) ?_ | refine callDw (f2) ?_); simp only [go_sem]
      refine zst ?_
      refine ret m_differ_ok [] ?_; (first | (simp only [go_sem]; done) | (simp only [go_sem]; ((try dsimp only); (repeat' (refine And.intro ?_ ?_)) <;> first | with_reducible rfl | (simp only [go_sem]; done) | (simp only [go_sem]; rfl) | (simp only []; (try simp only [go_sem]); first | done | rfl) | (simp only [go_sem]; simp []; done) | (simp []; done) | rfl)))
set_option maxHeartbeats 8000000 in
theorem zdiffer_bad (L M : List (List Int)) (h : vld L = false ∨ vld M = false ∨ L[0]!.length ≠ M[0]!.length) : Fnc Try.prog 63 [trV L, trV M] (fun x obs => x = .tup [.nilS, .int .i64 0, .int .i64 1] ∧ obs = []) := by
  have f1 := rval_fn L
  have f2 := rval_fn M
  cases c1 : vld L with
  | false =>
    rw [c1] at f1
    refine Fnc.intro m_zdiffer_ok (by simp) fun W S => ?_
    unfold m_zdiffer
    simp only [ents, Nat.zero_add, Nat.reduceAdd]
    refine zst ?_
    (first | refine callD (f1) ?_ | refine callDw (f1) ?_); simp only [go_sem]
    refine zst ?_
    refine ret m_zdiffer_ok [] ?_; (first | (simp only [go_sem]; done) | (simp only [go_sem]; ((try dsimp only); (repeat' (refine And.intro ?_ ?_)) <;> first | with_reducible rfl | (simp only [go_sem]; done) | (simp only [go_sem]; rfl) | (simp only []; (try simp only [go_sem]); first | done | rfl) | (simp only [go_sem]; simp []; done) | (simp []; done) | rfl)))
  | true =>
    rw [c1] at f1
    cases c2 : vld M with
    | false =>
      rw [c2] at f2
      refine Fnc.intro m_zdiffer_ok (by simp) fun W S => ?_
      unfold m_zdiffer
      simp only [ents, Nat.zero_add, Nat.reduceAdd]
      refine zst ?_
      (first | refine callD (f1) ?_ | refine callDw (f1) ?_); simp only [go_sem]
      refine zst ?_
      (first | refine callD (f2) ?_ | refine callDw (f2) ?_); simp only [go_sem]
      refine zst ?_
      refine ret m_zdiffer_ok [] ?_; (first | (simp only [go_sem]; done) | (simp only [go_sem]; ((try dsimp only); (repeat' (refine And.intro ?_ ?_)) <;> first | with_reducible rfl | (simp only [go_sem]; done) | (simp only [go_sem]; rfl) | (simp only []; (try simp only [go_sem]); first | done | rfl) | (simp only [go_sem]; simp []; done) | (simp []; done) | rfl)))
    | true =>
      rw [c2] at f2
      have h3 : L[0]!.length ≠ M[0]!.length := by
        rcases h with h | h | h
        · rw [c1] at h; cases h
        · rw [c2] at h; cases h
        · exact h
      have t1 := (vld_to c1).1
      have t2 := (vld_to c2).1
      refine Fnc.intro m_zdiffer_ok (by simp) fun W S => ?_
      unfold m_zdiffer
      simp only [ents, Nat.zero_add, Nat.reduceAdd]
      refine zst ?_
      (first | refine callD (f1) ?_ | refine callDw (f1) ?_); simp only [go_sem]
      refine zst ?_
      (first | refine callD (f2) ?_ | refine callDw (f2) ?_); simp only [go_sem]
      refine zst ?_
      refine ret m_zdiffer_ok [] ?_; (first | (simp only [go_sem]; done) | (simp only [go_sem]; ((try dsimp only); (repeat' (refine And.intro ?_ ?_)) <;> first | with_reducible rfl | (simp only [go_sem]; done) | (simp only [go_sem]; rfl) | (simp only []; (try simp only [go_sem]); first | done | rfl) | (simp only [go_sem]; simp []; done) | (simp []; done) | rfl)))
set_option maxHeartbeats 4000000 in
theorem sints26_fn (a b : List Int) : Fnc Try.prog 64 [.sl false 1 (a.map (V.int .i64)), .sl false 1 (b.map (V.int .i64))] (fun x obs => x = .bool (decide (a = b)) ∧ obs = []) := by
  refine Fnc.wf fun hw => ?_
  simp only [V.wfs, V.wf, wfs_map, List.length_map] at hw
  have hm := hw.1.2
  have hm' := hw.2.1.2
  by_cases hl : a.length = b.length
  · skip
    refine Fnc.intro m_sints26_ok (by simp) fun W S => ?_
    unfold m_sints26
    simp only [ents, Nat.zero_add, Nat.reduceAdd]
    refine zst ?_
    refine ev_loopK [0, 1] (fun p : {p : Nat // p ≤ a.length ∧ a.take p = b.take p} => [(5, .int .i64 p.1)]) (fun _ => []) (fun p => a.length - p.1) (⟨0, by simp⟩) 0 (by simp only [go_sem]; rfl) ?_ (by first | rfl | (simp only [go_sem]; done)) (by simp) (by first | rfl | (simp only [go_sem]; done)) (by first | rfl | (simp only [go_sem]; done)) (by first | rfl | (simp only [go_sem]; done)) ?_
    · (simp only [go_sem]; (try simp []); done)
    intro J hJ
    rintro ⟨k, hk0, hk1⟩
    by_cases hlt : k < a.length
    · by_cases e : a[k]! = b[k]!
      · skip
        refine zst ?_
        refine ev_next 0 (hJ _ (⟨k + 1, hlt, by rw [take_snoc hlt, take_snoc (by omega), hk1, e]⟩) (by first | omega | (dsimp only; omega) | (simp; omega))) rfl (by simp) ?_ (by first | rfl | (simp only [go_sem]; done)) (by first | rfl | (simp only [go_sem]; done) | (simp only [hlt]; (try simp only [go_sem]); first | done | rfl)) ?_
        · (first | rfl | (simp only [go_sem]; done) | (simp only [go_sem]; simp only [hlt]; done) | (simp only [hlt]; done) | (simp only [go_sem]; simp [hlt]; done) | (simp [hlt]; done))
        · (simp only [go_sem]; (repeat' (refine And.intro ?_ ?_)) <;> first | exact trivial | with_reducible rfl | (simp only [hlt]; done) | (simp only [hlt]; with_reducible rfl) | (simp [hlt]; done) | (simp [hlt]; omega) | (simp only [hlt]; rfl) | skip)
      · have hne : a ≠ b := fun h => e (at_of_eq h k)
        refine zst ?_
        refine ret m_sints26_ok [] ?_; (first | (simp only [go_sem]; done) | (simp only [go_sem]; exact ⟨rfl, rfl⟩))
    · have hab := eq_of_take (by omega) (by omega) hk1
      refine zst ?_
      refine ret m_sints26_ok [] ?_; (first | (simp only [go_sem]; done) | (simp only [go_sem]; exact ⟨rfl, rfl⟩))
  · have hne : a ≠ b := fun h => hl (by rw [h])
    refine Fnc.intro m_sints26_ok (by simp) fun W S => ?_
    unfold m_sints26
    simp only [ents, Nat.zero_add, Nat.reduceAdd]
    refine zst ?_
    refine ret m_sints26_ok [] ?_; (first | (simp only [go_sem]; done) | (simp only [go_sem]; exact ⟨rfl, rfl⟩))
theorem ch1_two {w i : Nat} (h : 2 * i < w) : ch1 w i = if 2 * i + 1 < w then [2 * i, 2 * i + 1] else [2 * i] := by
  unfold ch1
  rw [if_pos h]
  split <;> rfl
theorem nI_two (L : List Nat) (x y : Nat) : i64s (nI L) ++ [V.int .i64 (x : Int)] ++ [V.int .i64 (y : Int)] = i64s (nI (L ++ [x, y])) := by simp [nI]
theorem chl_dif {w : Nat} {x y : List Int} {L : List Nat} {q : Nat} (h : q < L.length) : chl w (dif x y (L.take (q + 1))) = if x[L[q]!]! = y[L[q]!]! then chl w (dif x y (L.take q)) else chl w (dif x y (L.take q)) ++ ch1 w L[q]! := by
  rw [dif_snoc h]
  split
  · rfl
  · unfold chl; rw [List.flatMap_append]; simp
theorem nI_two' (i : Nat) : nI [2 * i, 2 * i + 1] = [2 * (i : Int), 2 * (i : Int) + 1] := by simp [nI]
attribute [local irreducible] nI dif chl dst ch1 dres dnum
set_option maxHeartbeats 32000000 in
set_option maxRecDepth 100000 in
theorem zdiffer_fn (l m : List Int) (h1 : 1 ≤ l.length) (h2 : l.length ≤ 20) (hm : m.length = l.length) : Fnc Try.prog 63 [trV (bld l), trV (bld m)] (fun x obs => x = .tup [.sl false 1 (i64s (nI (dres l m))), .int .i64 (dnum l m), .int .i64 0] ∧ obs = []) := by
  refine Fnc.low ?_
  have hv := rval_fn (bld l)
  rw [vld_bld h1 h2] at hv
  have hv' := rval_fn (bld m)
  rw [vld_bld (by omega) (by omega)] at hv'
  have hbl := bld_len l
  have hz := bld_zero l
  have hbl' := bld_len m
  have hz' := bld_zero m
  rw [hm] at hbl'
  have h5 := dep_le l.length
  refine Fnc.intro m_zdiffer_ok (by simp) fun W S => ?_
  unfold m_zdiffer
  simp only [ents, Nat.zero_add, Nat.reduceAdd]
  refine zst ?_
  (first | refine callD (hv) ?_ | refine callDw (hv) ?_); simp only [go_sem]
  refine zst ?_
  (first | refine callD (hv') ?_ | refine callDw (hv') ?_); refine zev ?_
  repeat (first | (simp only [hz, hz']; try simp only [go_sem]) | refine And.intro (by omega) ?_ | refine And.intro rfl ?_ | refine ev_ctl rfl rfl ?_ | refine evr_nil ?_ | refine evw_nil (by kernel_rfl) ?_ | (simp (disch := omega) only [takeAll, Nat.min_eq_left, Nat.min_eq_right, if_pos, if_neg, getD_map, wrapI64, modIn, fdivE, tmodE, tdivE, decT, decF, beqT, beqF, bneT, bneF, Int.toNat_natCast]; try simp only [go_sem]) | (refine ev_condTb rfl ?_ ?_; · (simp <;> omega)) | (refine ev_condFb rfl ?_ ?_; · (simp <;> omega)) | ((first | refine ev_region ?_ | refine evr_go rfl ?_ | refine evw_go rfl ?_ | refine ev_dr0 mixed rfl (by kernel_rfl) ?_ | refine ev_dr1 mixed rfl (by kernel_rfl) ?_ | refine ev_dr2 mixed rfl (by kernel_rfl) ?_); simp only [go_sem]))
  refine ev_freeze 8 rfl rfl ?_
  have e0 : [V.int .i64 0] = i64s (nI (dst l m 0).1) := by rw [dst_zero]; exact nI_one.symm
  have e1 : ((dst l m 0).2 : Int) = 0 := by rw [dst_zero]; rfl
  have e2 : ((bld l).length : Int) - 1 = (dep l.length : Int) - ((0 : Nat) : Int) := by omega
  refine ev_loopK [2, 3] (fun p : {p : Nat // p ≤ dep l.length + 1} => [(7, .int .i64 ((if p.1 ≤ dep l.length then (dst l m p.1).2 else dnum l m : Nat) : Int)), (8, .sl true 1 (i64s (nI (if p.1 ≤ dep l.length then (dst l m p.1).1 else dres l m)))), (9, .int .i64 ((dep l.length : Int) - (p.1 : Int)))]) (fun _ => [⟨.box false 57, true, 0, trV (bld l)⟩, ⟨.box false 57, true, 0, trV (bld m)⟩]) (fun p => dep l.length + 1 - p.1) (⟨0, by simp⟩) 2 (by simp only [go_sem]; rfl) ?_ (by first | rfl | (simp only [go_sem]; done) | (simp only [go_sem]; simp [e0, e1, e2, if_pos (Nat.zero_le _)]; done)) (by simp) (by first | rfl | (simp only [go_sem]; done)) (by first | rfl | (simp only [go_sem]; done)) (by first | rfl | (simp only [go_sem]; done) | (simp only [e0, e1, e2, if_pos (Nat.zero_le _)]; (try simp only [go_sem]); first | done | rfl)) ?_
  · (simp only [go_sem]; (try simp [e0, e1, e2, if_pos (Nat.zero_le _)]); done)
  intro J hJ
  rintro ⟨p, hp⟩
  by_cases hpd : p ≤ dep l.length
  rotate_left
  · obtain rfl : p = dep l.length + 1 := by omega
    dsimp only
    rw [if_neg hpd, if_neg hpd]
    refine zst ?_
    refine ret m_zdiffer_ok [] ?_; (first | (simp only [go_sem]; done) | (simp only [go_sem]; ((try dsimp only); (repeat' (refine And.intro ?_ ?_)) <;> first | with_reducible rfl | (simp only [go_sem]; done) | (simp only [go_sem]; rfl) | (simp only []; (try simp only [go_sem]); first | done | rfl) | (simp only [go_sem]; simp []; done) | (simp []; done) | rfl)))
  have ha := dst_asc (m := m) h1 h2 hpd
  have hL := ha.len
  have hlK := bld_at l (k := dep l.length - p) (by omega)
  have hmK := bld_at m (k := dep l.length - p) (by rw [hm]; omega)
  have hlw := lev_len l (dep l.length - p)
  have hmw := lev_len m (dep l.length - p)
  rw [hm] at hmw
  obtain ⟨K, hK⟩ : ∃ K, dep l.length - p = K := ⟨_, rfl⟩
  rw [hK] at hlK hmK hlw hmw ha hL
  have hK' : (dep l.length : Int) - (p : Int) = (K : Int) := by omega
  have hres : p = dep l.length → dres l m = dif (lev l K) (lev m K) (dst l m p).1 ∧ dnum l m = (dst l m p).2 + (dst l m p).1.length := fun e => by
    subst e
    obtain rfl : K = 0 := by omega
    exact ⟨dres_eq l m, dnum_eq l m⟩
  have hnx : dst l m (p + 1) = (chl (lev l (K - 1)).length (dif (lev l K) (lev m K) (dst l m p).1), (dst l m p).2 + (dst l m p).1.length) := by
    rw [← hK]; exact dst_succ l m p
  have hn : (dst l m p).2 ≤ 100 := Nat.le_trans (dst_small h1 h2 hpd) (by omega)
  dsimp only
  rw [if_pos hpd, if_pos hpd, hK']
  generalize dst l m p = r at ha hL hres hnx hn
  obtain ⟨L, n⟩ := r
  dsimp only at ha hL hres hnx hn ⊢
  have hle := hl_le h1 K
  have hLl : (nI L).length = L.length := nI_len L
  have hJ0 := hJ
  have hb2 : ((K : Int)).toNat = K := by omega
  refine zst ?_
  refine ev_adopt (i := 10) (e := 3) (s := 1) rfl (by decide) ?_
  by_cases cK : K = 0
  · subst cK
    obtain ⟨r1, r2⟩ := hres (by omega)
    have hpe : p = dep l.length := by omega
    have e3 : ((if p + 1 ≤ dep l.length then (dst l m (p + 1)).2 else dnum l m : Nat) : Int) = (n : Int) + (L.length : Int) := by rw [if_neg (by omega), r2]; omega
    have e4 : (if p + 1 ≤ dep l.length then (dst l m (p + 1)).1 else dres l m) = dif (lev l 0) (lev m 0) L := by rw [if_neg (by omega), r1]
    have e5 : (dep l.length : Int) - ((p + 1 : Nat) : Int) = -1 := by omega
    refine ev_loopK [2, 3, 8, 9] (fun q : {q : Nat // q ≤ L.length} => [(7, .int .i64 ((n : Int) + q.1)), (10, .own 2 (dif (lev l 0) (lev m 0) (L.take q.1)).length), (11, .int .i64 q.1)]) (fun q => [⟨.box false 57, true, 0, trV (bld l)⟩, ⟨.box false 57, true, 0, trV (bld m)⟩, ⟨.row 3, true, (dif (lev l 0) (lev m 0) (L.take q.1)).length, .arr 1 (i64s (nI (dif (lev l 0) (lev m 0) (L.take q.1))))⟩]) (fun q => L.length - q.1) (⟨0, by simp⟩) 3 (by simp only [go_sem]; rfl) ?_ (by first | rfl | (simp only [go_sem]; done) | (simp only [go_sem]; simp [dif_nil, nI_nil]; done)) (by simp) (by first | rfl | (simp only [go_sem]; done)) (by first | rfl | (simp only [go_sem]; done)) (by first | rfl | (simp only [go_sem]; done) | (simp only [dif_nil, nI_nil]; (try simp only [go_sem]); first | done | rfl)) ?_
    · (simp only [go_sem]; (try simp [dif_nil, nI_nil]); done)
    intro J hJ
    rintro ⟨q, hq⟩
    by_cases hlt : q < L.length
    · have hx := nI_at (L := L) (k := q) hlt
      have hd := dif_snoc (x := lev l 0) (y := lev m 0) (L := L) (q := q) hlt
      have hi := ha.2 L[q]! (mem_at hlt)
      have hdl := dif_le (x := lev l 0) (y := lev m 0) L q
      obtain ⟨i, hiq⟩ : ∃ i, L[q]! = i := ⟨_, rfl⟩
      rw [hiq] at hx hd hi
      have hit : ((i : Int)).toNat = i := by omega
      by_cases c : (lev l 0)[i]! = (lev m 0)[i]!
      · rw [if_pos c] at hd
        repeat (first | (simp only [hx, hit, hlK, hmK]; try simp only [go_sem]) | refine And.intro (by omega) ?_ | refine And.intro rfl ?_ | refine ev_ctl rfl rfl ?_ | refine evr_nil ?_ | refine evw_nil (by kernel_rfl) ?_ | (simp (disch := omega) only [takeAll, Nat.min_eq_left, Nat.min_eq_right, if_pos, if_neg, getD_map, wrapI64, modIn, fdivE, tmodE, tdivE, decT, decF, beqT, beqF, bneT, bneF, Int.toNat_natCast]; try simp only [go_sem]) | (refine ev_condTb rfl ?_ ?_; · (simp <;> omega)) | (refine ev_condFb rfl ?_ ?_; · (simp <;> omega)) | ((first | refine ev_region ?_ | refine evr_go rfl ?_ | refine evw_go rfl ?_ | refine ev_dr0 mixed rfl (by kernel_rfl) ?_ | refine ev_dr1 mixed rfl (by kernel_rfl) ?_ | refine ev_dr2 mixed rfl (by kernel_rfl) ?_); simp only [go_sem]))
        refine ev_next 3 (hJ _ (⟨q + 1, hlt⟩) (by first | omega | (dsimp only; omega) | (simp; omega))) rfl (by simp) ?_ (by first | rfl | (simp only [go_sem]; done)) (by first | rfl | (simp only [go_sem]; done) | (simp only [hd, Int.natCast_add]; (try simp only [go_sem]); first | done | rfl)) ?_
        · (first | rfl | (simp only [go_sem]; done) | (simp only [go_sem]; simp only [hd, Int.natCast_add]; done) | (simp only [hd, Int.natCast_add]; done) | (simp only [go_sem]; simp [hd, Int.natCast_add]; done) | (simp [hd, Int.natCast_add]; done))
        · (simp only [go_sem]; (repeat' (refine And.intro ?_ ?_)) <;> first | exact trivial | with_reducible rfl | (simp only [hd, Int.natCast_add]; done) | (simp only [hd, Int.natCast_add]; with_reducible rfl) | (simp [hd, Int.natCast_add]; done) | (simp [hd, Int.natCast_add]; omega) | (simp only [hd, Int.natCast_add]; rfl) | skip)
      · rw [if_neg c] at hd
        have hs := nI_snoc (dif (lev l 0) (lev m 0) (L.take q)) i
        have hnl := nI_len (dif (lev l 0) (lev m 0) (L.take q))
        repeat (first | (simp only [hx, hit, hlK, hmK]; try simp only [go_sem]) | refine And.intro (by omega) ?_ | refine And.intro rfl ?_ | refine ev_ctl rfl rfl ?_ | refine evr_nil ?_ | refine evw_nil (by kernel_rfl) ?_ | (simp (disch := omega) only [takeAll, Nat.min_eq_left, Nat.min_eq_right, if_pos, if_neg, getD_map, wrapI64, modIn, fdivE, tmodE, tdivE, decT, decF, beqT, beqF, bneT, bneF, Int.toNat_natCast]; try simp only [go_sem]) | (refine ev_condTb rfl ?_ ?_; · (simp <;> omega)) | (refine ev_condFb rfl ?_ ?_; · (simp <;> omega)) | ((first | refine ev_region ?_ | refine evr_go rfl ?_ | refine evw_go rfl ?_ | refine ev_dr0 mixed rfl (by kernel_rfl) ?_ | refine ev_dr1 mixed rfl (by kernel_rfl) ?_ | refine ev_dr2 mixed rfl (by kernel_rfl) ?_); simp only [go_sem]))
        refine ev_next 3 (hJ _ (⟨q + 1, hlt⟩) (by first | omega | (dsimp only; omega) | (simp; omega))) rfl (by simp) ?_ (by first | rfl | (simp only [go_sem]; done)) (by first | rfl | (simp only [go_sem]; done) | (simp only [hd, hs, Int.natCast_add]; (try simp only [go_sem]); first | done | rfl)) ?_
        · (first | rfl | (simp only [go_sem]; done) | (simp only [go_sem]; simp only [hd, hs, Int.natCast_add]; done) | (simp only [hd, hs, Int.natCast_add]; done) | (simp only [go_sem]; simp [hd, hs, Int.natCast_add]; done) | (simp [hd, hs, Int.natCast_add]; done))
        · (simp only [go_sem]; (repeat' (refine And.intro ?_ ?_)) <;> first | exact trivial | with_reducible rfl | (simp only [hd, hs, Int.natCast_add]; done) | (simp only [hd, hs, Int.natCast_add]; with_reducible rfl) | (simp [hd, hs, Int.natCast_add]; done) | (simp [hd, hs, Int.natCast_add]; omega) | (simp only [hd, hs, Int.natCast_add]; rfl) | skip)
    · obtain rfl : q = L.length := by omega
      rw [List.take_length]
      have hJ := hJ0
      refine zst ?_
      refine ev_freeze 8 rfl rfl ?_
      refine zst ?_
      refine ev_next 2 (hJ _ (⟨p + 1, by omega⟩) (by first | omega | (dsimp only; omega) | (simp; omega))) rfl (by simp) ?_ (by first | rfl | (simp only [go_sem]; done)) (by first | rfl | (simp only [go_sem]; done) | (simp only [e3, e4, e5]; (try simp only [go_sem]); first | done | rfl)) ?_
      · (first | rfl | (simp only [go_sem]; done) | (simp only [go_sem]; simp only [e3, e4, e5]; done) | (simp only [e3, e4, e5]; done) | (simp only [go_sem]; simp [e3, e4, e5]; done) | (simp [e3, e4, e5]; done))
      · (simp only [go_sem]; (repeat' (refine And.intro ?_ ?_)) <;> first | exact trivial | with_reducible rfl | (simp only [e3, e4, e5]; done) | (simp only [e3, e4, e5]; with_reducible rfl) | (simp [e3, e4, e5]; done) | (simp [e3, e4, e5]; omega) | (simp only [e3, e4, e5]; rfl) | skip)
  · have hwK := bld_at l (k := K - 1) (by omega)
    have hcK : ((K : Int) - 1).toNat = K - 1 := by omega
    obtain ⟨w, hw⟩ : ∃ w, (lev l (K - 1)).length = w := ⟨_, rfl⟩
    have hw20 := lev_len l (K - 1)
    have hle1 := hl_le h1 (K - 1)
    have hKw : hl l.length K = (w + 1) / 2 := by rw [← hw, hw20]; obtain ⟨j, rfl⟩ : ∃ j, K = j + 1 := ⟨K - 1, by omega⟩; rfl
    rw [hw] at hnx hw20
    have e3 : ((if p + 1 ≤ dep l.length then (dst l m (p + 1)).2 else dnum l m : Nat) : Int) = (n : Int) + (L.length : Int) := by rw [if_pos (by omega), hnx]; simp
    have e4 : (if p + 1 ≤ dep l.length then (dst l m (p + 1)).1 else dres l m) = chl w (dif (lev l K) (lev m K) L) := by rw [if_pos (by omega), hnx]
    have e5 : (dep l.length : Int) - ((p + 1 : Nat) : Int) = (K : Int) - 1 := by omega
    refine ev_loopK [2, 3, 8, 9] (fun q : {q : Nat // q ≤ L.length} => [(7, .int .i64 ((n : Int) + q.1)), (10, .own 2 (chl w (dif (lev l K) (lev m K) (L.take q.1))).length), (11, .int .i64 q.1)]) (fun q => [⟨.box false 57, true, 0, trV (bld l)⟩, ⟨.box false 57, true, 0, trV (bld m)⟩, ⟨.row 3, true, (chl w (dif (lev l K) (lev m K) (L.take q.1))).length, .arr 1 (i64s (nI (chl w (dif (lev l K) (lev m K) (L.take q.1)))))⟩]) (fun q => L.length - q.1) (⟨0, by simp⟩) 3 (by simp only [go_sem]; rfl) ?_ (by first | rfl | (simp only [go_sem]; done) | (simp only [go_sem]; simp [dif_nil, chl_nil, nI_nil]; done)) (by simp) (by first | rfl | (simp only [go_sem]; done)) (by first | rfl | (simp only [go_sem]; done)) (by first | rfl | (simp only [go_sem]; done) | (simp only [dif_nil, chl_nil, nI_nil]; (try simp only [go_sem]); first | done | rfl)) ?_
    · (simp only [go_sem]; (try simp [dif_nil, chl_nil, nI_nil]); done)
    intro J hJ
    rintro ⟨q, hq⟩
    by_cases hlt : q < L.length
    · have hx := nI_at (L := L) (k := q) hlt
      have hd := chl_dif (w := w) (x := lev l K) (y := lev m K) (L := L) (q := q) hlt
      have hi := ha.2 L[q]! (mem_at hlt)
      have hdl := dif_le (x := lev l K) (y := lev m K) L q
      have hcl := chl_len w (dif (lev l K) (lev m K) (L.take q))
      obtain ⟨i, hiq⟩ : ∃ i, L[q]! = i := ⟨_, rfl⟩
      rw [hiq] at hx hd hi
      have hit : ((i : Int)).toNat = i := by omega
      have hiw : 2 * i < w := by omega
      by_cases c : (lev l K)[i]! = (lev m K)[i]!
      · rw [if_pos c] at hd
        repeat (first | (simp only [hx, hit, hlK, hmK]; try simp only [go_sem]) | refine And.intro (by omega) ?_ | refine And.intro rfl ?_ | refine ev_ctl rfl rfl ?_ | refine evr_nil ?_ | refine evw_nil (by kernel_rfl) ?_ | (simp (disch := omega) only [takeAll, Nat.min_eq_left, Nat.min_eq_right, if_pos, if_neg, getD_map, wrapI64, modIn, fdivE, tmodE, tdivE, decT, decF, beqT, beqF, bneT, bneF, Int.toNat_natCast]; try simp only [go_sem]) | (refine ev_condTb rfl ?_ ?_; · (simp <;> omega)) | (refine ev_condFb rfl ?_ ?_; · (simp <;> omega)) | ((first | refine ev_region ?_ | refine evr_go rfl ?_ | refine evw_go rfl ?_ | refine ev_dr0 mixed rfl (by kernel_rfl) ?_ | refine ev_dr1 mixed rfl (by kernel_rfl) ?_ | refine ev_dr2 mixed rfl (by kernel_rfl) ?_); simp only [go_sem]))
        refine ev_next 3 (hJ _ (⟨q + 1, hlt⟩) (by first | omega | (dsimp only; omega) | (simp; omega))) rfl (by simp) ?_ (by first | rfl | (simp only [go_sem]; done)) (by first | rfl | (simp only [go_sem]; done) | (simp only [hd, Int.natCast_add]; (try simp only [go_sem]); first | done | rfl)) ?_
        · (first | rfl | (simp only [go_sem]; done) | (simp only [go_sem]; simp only [hd, Int.natCast_add]; done) | (simp only [hd, Int.natCast_add]; done) | (simp only [go_sem]; simp [hd, Int.natCast_add]; done) | (simp [hd, Int.natCast_add]; done))
        · (simp only [go_sem]; (repeat' (refine And.intro ?_ ?_)) <;> first | exact trivial | with_reducible rfl | (simp only [hd, Int.natCast_add]; done) | (simp only [hd, Int.natCast_add]; with_reducible rfl) | (simp [hd, Int.natCast_add]; done) | (simp [hd, Int.natCast_add]; omega) | (simp only [hd, Int.natCast_add]; rfl) | skip)
      · rw [if_neg c, ch1_two hiw] at hd
        have hnl := nI_len (chl w (dif (lev l K) (lev m K) (L.take q)))
        by_cases cw : 2 * i + 1 < w
        · rw [if_pos cw] at hd
          have hnl2 : (nI (chl w (dif (lev l K) (lev m K) (L.take q)))).length ≤ 1000 := by omega
          have hg : (chl w (dif (lev l K) (lev m K) (L.take (q + 1)))).length = (chl w (dif (lev l K) (lev m K) (L.take q))).length + 1 + 1 := by rw [hd, List.length_append]; rfl
          have hs : nI (chl w (dif (lev l K) (lev m K) (L.take q))) ++ [2 * (i : Int)] ++ [2 * (i : Int) + 1] = nI (chl w (dif (lev l K) (lev m K) (L.take (q + 1)))) := by rw [hd, nI_app, List.append_assoc, nI_two']; rfl
          repeat (first | (simp only [hx, hit, hlK, hmK, hwK, hcK, hw]; try simp only [go_sem]) | refine And.intro (by omega) ?_ | refine And.intro rfl ?_ | refine ev_ctl rfl rfl ?_ | refine evr_nil ?_ | refine evw_nil (by kernel_rfl) ?_ | (simp (disch := omega) only [takeAll, Nat.min_eq_left, Nat.min_eq_right, if_pos, if_neg, getD_map, wrapI64, modIn, fdivE, tmodE, tdivE, decT, decF, beqT, beqF, bneT, bneF, Int.toNat_natCast]; try simp only [go_sem]) | (refine ev_condTb rfl ?_ ?_; · (simp <;> omega)) | (refine ev_condFb rfl ?_ ?_; · (simp <;> omega)) | ((first | refine ev_region ?_ | refine evr_go rfl ?_ | refine evw_go rfl ?_ | refine ev_dr0 mixed rfl (by kernel_rfl) ?_ | refine ev_dr1 mixed rfl (by kernel_rfl) ?_ | refine ev_dr2 mixed rfl (by kernel_rfl) ?_); simp only [go_sem]))
          refine ev_next 3 (hJ _ (⟨q + 1, hlt⟩) (by first | omega | (dsimp only; omega) | (simp; omega))) rfl (by simp) ?_ (by first | rfl | (simp only [go_sem]; done)) (by first | rfl | (simp only [go_sem]; done) | (simp only [hg, hs, Int.natCast_add]; (try simp only [go_sem]); first | done | rfl)) ?_
          · (first | rfl | (simp only [go_sem]; done) | (simp only [go_sem]; simp only [hg, hs, Int.natCast_add]; done) | (simp only [hg, hs, Int.natCast_add]; done) | (simp only [go_sem]; simp [hg, hs, Int.natCast_add]; done) | (simp [hg, hs, Int.natCast_add]; done))
          · (simp only [go_sem]; (repeat' (refine And.intro ?_ ?_)) <;> first | exact trivial | with_reducible rfl | (simp only [hg, hs, Int.natCast_add]; done) | (simp only [hg, hs, Int.natCast_add]; with_reducible rfl) | (simp [hg, hs, Int.natCast_add]; done) | (simp [hg, hs, Int.natCast_add]; omega) | (simp only [hg, hs, Int.natCast_add]; rfl) | skip)
        · rw [if_neg cw] at hd
          have hs := nI_snoc (chl w (dif (lev l K) (lev m K) (L.take q))) (2 * i)
          have z1 : ((2 * i : Nat) : Int) = 2 * (i : Int) := by omega
          rw [z1, ← hd] at hs
          have hg : (chl w (dif (lev l K) (lev m K) (L.take (q + 1)))).length = (chl w (dif (lev l K) (lev m K) (L.take q))).length + 1 := by rw [hd, List.length_append]; rfl
          repeat (first | (simp only [hx, hit, hlK, hmK, hwK, hcK, hw, hs]; try simp only [go_sem]) | refine And.intro (by omega) ?_ | refine And.intro rfl ?_ | refine ev_ctl rfl rfl ?_ | refine evr_nil ?_ | refine evw_nil (by kernel_rfl) ?_ | (simp (disch := omega) only [takeAll, Nat.min_eq_left, Nat.min_eq_right, if_pos, if_neg, getD_map, wrapI64, modIn, fdivE, tmodE, tdivE, decT, decF, beqT, beqF, bneT, bneF, Int.toNat_natCast]; try simp only [go_sem]) | (refine ev_condTb rfl ?_ ?_; · (simp <;> omega)) | (refine ev_condFb rfl ?_ ?_; · (simp <;> omega)) | ((first | refine ev_region ?_ | refine evr_go rfl ?_ | refine evw_go rfl ?_ | refine ev_dr0 mixed rfl (by kernel_rfl) ?_ | refine ev_dr1 mixed rfl (by kernel_rfl) ?_ | refine ev_dr2 mixed rfl (by kernel_rfl) ?_); simp only [go_sem]))
          refine ev_next 3 (hJ _ (⟨q + 1, hlt⟩) (by first | omega | (dsimp only; omega) | (simp; omega))) rfl (by simp) ?_ (by first | rfl | (simp only [go_sem]; done)) (by first | rfl | (simp only [go_sem]; done) | (simp only [hg, hs, Int.natCast_add]; (try simp only [go_sem]); first | done | rfl)) ?_
          · (first | rfl | (simp only [go_sem]; done) | (simp only [go_sem]; simp only [hg, hs, Int.natCast_add]; done) | (simp only [hg, hs, Int.natCast_add]; done) | (simp only [go_sem]; simp [hg, hs, Int.natCast_add]; done) | (simp [hg, hs, Int.natCast_add]; done))
          · (simp only [go_sem]; (repeat' (refine And.intro ?_ ?_)) <;> first | exact trivial | with_reducible rfl | (simp only [hg, hs, Int.natCast_add]; done) | (simp only [hg, hs, Int.natCast_add]; with_reducible rfl) | (simp [hg, hs, Int.natCast_add]; done) | (simp [hg, hs, Int.natCast_add]; omega) | (simp only [hg, hs, Int.natCast_add]; rfl) | skip)
    · obtain rfl : q = L.length := by omega
      rw [List.take_length]
      have hJ := hJ0
      refine zst ?_
      refine ev_freeze 8 rfl rfl ?_
      refine zst ?_
      refine ev_next 2 (hJ _ (⟨p + 1, by omega⟩) (by first | omega | (dsimp only; omega) | (simp; omega))) rfl (by simp) ?_ (by first | rfl | (simp only [go_sem]; done)) (by first | rfl | (simp only [go_sem]; done) | (simp only [e3, e4, e5]; (try simp only [go_sem]); first | done | rfl)) ?_
      · (first | rfl | (simp only [go_sem]; done) | (simp only [go_sem]; simp only [e3, e4, e5]; done) | (simp only [e3, e4, e5]; done) | (simp only [go_sem]; simp [e3, e4, e5]; done) | (simp [e3, e4, e5]; done))
      · (simp only [go_sem]; (repeat' (refine And.intro ?_ ?_)) <;> first | exact trivial | with_reducible rfl | (simp only [e3, e4, e5]; done) | (simp only [e3, e4, e5]; with_reducible rfl) | (simp [e3, e4, e5]; done) | (simp [e3, e4, e5]; omega) | (simp only [e3, e4, e5]; rfl) | skip)
end Go.Proofs.Ytcphobeommkgeaa
/- Trees: both do the same, for any trees. -/
namespace Go.Proofs.Ytcphobeommkgeaa
open Go Go.RowKit Rdn Rdn.Dp
set_option linter.unusedVariables false
set_option linter.unusedSimpArgs false
def m_agree26 : MC := .seq (.reg [⟨(some 4), none, (.m (.box 57 (.t 0)))⟩, ⟨(some 5), none, (.m (.box 57 (.t 1)))⟩, ⟨(some 8), none, (.p (.mov (.c (.bool false))))⟩])
 (.seq (.reg [⟨(some 20), none, (.p (.load true 1 (.t 4)))⟩, ⟨(some 21), none, (.p (.mov (.t 2)))⟩, ⟨(some 22), none, (.p (.mov (.t 3)))⟩, ⟨(some 23), none, (.call 29 [(.t 20), (.t 21), (.t 22)])⟩, ⟨(some 19), none, (.p (.mov (.t 23)))⟩, ⟨(some 24), none, (.p (.ext (.t 19) 0))⟩, ⟨(some 25), none, (.p (.ext (.t 19) 1))⟩, ⟨(some 9), none, (.m (.alloc 57 (.agg [.nilS])))⟩, ⟨none, none, (.m (.store 1 (.t 9) (.t 24)))⟩, ⟨(some 10), none, (.p (.mov (.t 25)))⟩])
 (.seq (.reg [⟨(some 27), none, (.p (.load true 1 (.t 4)))⟩, ⟨(some 28), none, (.p (.mov (.t 2)))⟩, ⟨(some 29), none, (.p (.mov (.t 3)))⟩, ⟨(some 30), none, (.call 62 [(.t 27), (.t 28), (.t 29)])⟩, ⟨(some 26), none, (.p (.mov (.t 30)))⟩, ⟨(some 31), none, (.p (.ext (.t 26) 0))⟩, ⟨(some 32), none, (.p (.ext (.t 26) 1))⟩, ⟨(some 11), none, (.m (.alloc 57 (.agg [.nilS])))⟩, ⟨none, none, (.m (.store 1 (.t 11) (.t 31)))⟩, ⟨(some 12), none, (.p (.mov (.t 32)))⟩])
 (.seq (.reg [⟨(some 34), none, (.p (.load true 1 (.t 4)))⟩, ⟨(some 35), none, (.p (.load true 1 (.t 5)))⟩, ⟨(some 36), none, (.call 30 [(.t 34), (.t 35)])⟩, ⟨(some 33), none, (.p (.mov (.t 36)))⟩, ⟨(some 37), none, (.p (.ext (.t 33) 0))⟩, ⟨(some 38), none, (.p (.ext (.t 33) 1))⟩, ⟨(some 39), none, (.p (.ext (.t 33) 2))⟩, ⟨(some 13), none, (.p (.mov (.t 37)))⟩, ⟨(some 14), none, (.p (.mov (.t 38)))⟩, ⟨(some 15), none, (.p (.mov (.t 39)))⟩])
 (.seq (.reg [⟨(some 41), none, (.p (.load true 1 (.t 4)))⟩, ⟨(some 42), none, (.p (.load true 1 (.t 5)))⟩, ⟨(some 43), none, (.call 63 [(.t 41), (.t 42)])⟩, ⟨(some 40), none, (.p (.mov (.t 43)))⟩, ⟨(some 44), none, (.p (.ext (.t 40) 0))⟩, ⟨(some 45), none, (.p (.ext (.t 40) 1))⟩, ⟨(some 46), none, (.p (.ext (.t 40) 2))⟩, ⟨(some 16), none, (.p (.mov (.t 44)))⟩, ⟨(some 17), none, (.p (.mov (.t 45)))⟩, ⟨(some 18), none, (.p (.mov (.t 46)))⟩])
 (.seq (.dreg [⟨(some 47), none, (.p (.mov (.t 10)))⟩, ⟨(some 48), none, (.p (.mov (.t 12)))⟩, ⟨(some 49), none, (.p (.bin 0 .eql (.t 47) (.t 48)))⟩, ⟨(some 50), none, (.p (.mov (.t 49)))⟩, ⟨(some 51), (some (50, true)), (.p (.mov (.t 15)))⟩, ⟨(some 52), (some (50, true)), (.p (.mov (.t 18)))⟩, ⟨(some 53), (some (50, true)), (.p (.bin 0 .eql (.t 51) (.t 52)))⟩, ⟨(some 54), none, (.p (.pick (.t 50) (.t 53) (.c (.bool false))))⟩, ⟨(some 55), none, (.p (.mov (.t 54)))⟩, ⟨(some 56), (some (55, true)), (.p (.mov (.t 14)))⟩, ⟨(some 57), (some (55, true)), (.p (.mov (.t 17)))⟩, ⟨(some 58), (some (55, true)), (.p (.bin 0 .eql (.t 56) (.t 57)))⟩, ⟨(some 59), none, (.p (.pick (.t 55) (.t 58) (.c (.bool false))))⟩, ⟨(some 60), none, (.p (.mov (.t 59)))⟩, ⟨(some 61), (some (60, true)), (.p (.mov (.t 13)))⟩, ⟨(some 62), (some (60, true)), (.p (.mov (.t 16)))⟩, ⟨(some 63), (some (60, true)), (.call 64 [(.t 61), (.t 62)])⟩, ⟨(some 64), none, (.p (.pick (.t 60) (.t 63) (.c (.bool false))))⟩, ⟨(some 65), none, (.p (.mov (.t 64)))⟩, ⟨(some 66), (some (65, true)), (.p (.load true 1 (.t 9)))⟩, ⟨(some 67), (some (65, true)), (.p (.load true 1 (.t 11)))⟩, ⟨(some 68), (some (65, true)), (.call 31 [(.t 66), (.t 67)])⟩, ⟨(some 69), none, (.p (.pick (.t 65) (.t 68) (.c (.bool false))))⟩, ⟨(some 70), none, (.p (.mov (.t 69)))⟩, ⟨(some 71), (some (70, true)), (.p (.load true 1 (.t 4)))⟩, ⟨(some 72), (some (70, true)), (.call 32 [(.t 71)])⟩, ⟨(some 73), (some (70, true)), (.p (.load true 1 (.t 4)))⟩, ⟨(some 74), (some (70, true)), (.call 65 [(.t 73)])⟩, ⟨(some 75), (some (70, true)), (.p (.bin 1 .eql (.t 72) (.t 74)))⟩, ⟨(some 76), none, (.p (.pick (.t 70) (.t 75) (.c (.bool false))))⟩, ⟨(some 77), none, (.p (.mov (.t 76)))⟩, ⟨(some 78), (some (77, true)), (.p (.load true 1 (.t 4)))⟩, ⟨(some 79), (some (77, true)), (.call 60 [(.t 78)])⟩, ⟨(some 80), (some (77, true)), (.p (.load true 1 (.t 4)))⟩, ⟨(some 81), (some (77, true)), (.call 66 [(.t 80)])⟩, ⟨(some 82), (some (77, true)), (.p (.bin 0 .eql (.t 79) (.t 81)))⟩, ⟨(some 83), none, (.p (.pick (.t 77) (.t 82) (.c (.bool false))))⟩, ⟨(some 8), none, (.p (.mov (.t 83)))⟩] [[], [], [0, 1], [0, 1, 2], [0, 1, 2, 3], [0, 1, 2, 3], [0, 1, 2, 3, 4, 5], [0, 1, 2, 3, 4, 5, 6], [0, 1, 2, 3, 4, 5, 6, 7], [0, 1, 2, 3, 4, 5, 6, 7, 8], [0, 1, 2, 3, 4, 5, 6, 7, 8], [0, 1, 2, 3, 4, 5, 6, 7, 8, 9, 10], [0, 1, 2, 3, 4, 5, 6, 7, 8, 9, 10, 11], [0, 1, 2, 3, 4, 5, 6, 7, 8, 9, 10, 11, 12], [0, 1, 2, 3, 4, 5, 6, 7, 8, 9, 10, 11, 12, 13], [0, 1, 2, 3, 4, 5, 6, 7, 8, 9, 10, 11, 12, 13], [0, 1, 2, 3, 4, 5, 6, 7, 8, 9, 10, 11, 12, 13, 14, 15], [0, 1, 2, 3, 4, 5, 6, 7, 8, 9, 10, 11, 12, 13, 14, 15, 16], [0, 1, 2, 3, 4, 5, 6, 7, 8, 9, 10, 11, 12, 13, 14, 15, 16, 17], [0, 1, 2, 3, 4, 5, 6, 7, 8, 9, 10, 11, 12, 13, 14, 15, 16, 17, 18], [0, 1, 2, 3, 4, 5, 6, 7, 8, 9, 10, 11, 12, 13, 14, 15, 16, 17, 18], [0, 1, 2, 3, 4, 5, 6, 7, 8, 9, 10, 11, 12, 13, 14, 15, 16, 17, 18, 19, 20], [0, 1, 2, 3, 4, 5, 6, 7, 8, 9, 10, 11, 12, 13, 14, 15, 16, 17, 18, 19, 20, 21], [0, 1, 2, 3, 4, 5, 6, 7, 8, 9, 10, 11, 12, 13, 14, 15, 16, 17, 18, 19, 20, 21, 22], [0, 1, 2, 3, 4, 5, 6, 7, 8, 9, 10, 11, 12, 13, 14, 15, 16, 17, 18, 19, 20, 21, 22, 23], [0, 1, 2, 3, 4, 5, 6, 7, 8, 9, 10, 11, 12, 13, 14, 15, 16, 17, 18, 19, 20, 21, 22, 23, 24], [0, 1, 2, 3, 4, 5, 6, 7, 8, 9, 10, 11, 12, 13, 14, 15, 16, 17, 18, 19, 20, 21, 22, 23], [0, 1, 2, 3, 4, 5, 6, 7, 8, 9, 10, 11, 12, 13, 14, 15, 16, 17, 18, 19, 20, 21, 22, 23, 24, 25, 26], [0, 1, 2, 3, 4, 5, 6, 7, 8, 9, 10, 11, 12, 13, 14, 15, 16, 17, 18, 19, 20, 21, 22, 23, 24, 25, 26, 27], [0, 1, 2, 3, 4, 5, 6, 7, 8, 9, 10, 11, 12, 13, 14, 15, 16, 17, 18, 19, 20, 21, 22, 23, 24, 25, 26, 27, 28], [0, 1, 2, 3, 4, 5, 6, 7, 8, 9, 10, 11, 12, 13, 14, 15, 16, 17, 18, 19, 20, 21, 22, 23, 24, 25, 26, 27, 28, 29], [0, 1, 2, 3, 4, 5, 6, 7, 8, 9, 10, 11, 12, 13, 14, 15, 16, 17, 18, 19, 20, 21, 22, 23, 24, 25, 26, 27, 28, 29, 30], [0, 1, 2, 3, 4, 5, 6, 7, 8, 9, 10, 11, 12, 13, 14, 15, 16, 17, 18, 19, 20, 21, 22, 23, 24, 25, 26, 27, 28, 29, 30, 31], [0, 1, 2, 3, 4, 5, 6, 7, 8, 9, 10, 11, 12, 13, 14, 15, 16, 17, 18, 19, 20, 21, 22, 23, 24, 25, 26, 27, 28, 29, 30], [0, 1, 2, 3, 4, 5, 6, 7, 8, 9, 10, 11, 12, 13, 14, 15, 16, 17, 18, 19, 20, 21, 22, 23, 24, 25, 26, 27, 28, 29, 30, 31, 32, 33], [0, 1, 2, 3, 4, 5, 6, 7, 8, 9, 10, 11, 12, 13, 14, 15, 16, 17, 18, 19, 20, 21, 22, 23, 24, 25, 26, 27, 28, 29, 30, 31, 32, 33, 34], [0, 1, 2, 3, 4, 5, 6, 7, 8, 9, 10, 11, 12, 13, 14, 15, 16, 17, 18, 19, 20, 21, 22, 23, 24, 25, 26, 27, 28, 29, 30, 31, 32, 33, 34, 35], [0, 1, 2, 3, 4, 5, 6, 7, 8, 9, 10, 11, 12, 13, 14, 15, 16, 17, 18, 19, 20, 21, 22, 23, 24, 25, 26, 27, 28, 29, 30, 31, 32, 33, 34, 35, 36]])
 (.ret))))))
theorem m_agree26_ok : compF Try.prog 27 = some (84, m_agree26, [.mov (.t 8)]) := by kernel_rfl
attribute [local irreducible] bld lev vld rootOf nI dif chl dst ch1 dres dnum
theorem upd_both (L : List (List Int)) (i d : Int) : ∃ (T : V) (e : Int) (U : List (List Int)), (T = .nilS ∧ U = [] ∨ T = .sl false 1 (U.map dsV)) ∧ Fnc Try.prog 29 [trV L, .int .i64 i, .int .u32 d] (fun x obs => x = .tup [.agg [T], .int .i64 e] ∧ obs = []) ∧ Fnc Try.prog 62 [trV L, .int .i64 i, .int .u32 d] (fun x obs => x = .tup [.agg [T], .int .i64 e] ∧ obs = []) := by
  cases h : vld L with
  | false => exact ⟨_, _, [], .inl ⟨rfl, rfl⟩, tup_bad L i d h, zup_bad L i d h⟩
  | true =>
    by_cases c : i < 0 ∨ (L[0]!.length : Int) ≤ i
    · exact ⟨_, _, [], .inl ⟨rfl, rfl⟩, tup_out L i d h c, zup_out L i d h c⟩
    · obtain ⟨h0, h1, h2, h3⟩ := vld_to h
      obtain ⟨j, rfl⟩ : ∃ j : Nat, i = j := ⟨i.toNat, by omega⟩
      have f1 := tup_ok L[0]! h1 h2 j (by omega) d
      have f2 := zup_ok L[0]! h1 h2 j (by omega) d
      rw [h3] at f1 f2
      exact ⟨_, _, _, .inr rfl, f1, f2⟩
theorem dif_both (L M : List (List Int)) : ∃ (D : V) (n e : Int) (G : List Int), (D = .nilS ∧ G = [] ∨ D = .sl false 1 (i64s G)) ∧ Fnc Try.prog 30 [trV L, trV M] (fun x obs => x = .tup [D, .int .i64 n, .int .i64 e] ∧ obs = []) ∧ Fnc Try.prog 63 [trV L, trV M] (fun x obs => x = .tup [D, .int .i64 n, .int .i64 e] ∧ obs = []) := by
  by_cases h : vld L = false ∨ vld M = false ∨ L[0]!.length ≠ M[0]!.length
  · exact ⟨_, _, _, [], .inl ⟨rfl, rfl⟩, differ_bad L M h, zdiffer_bad L M h⟩
  · have a1 : vld L = true := by cases hh : vld L with
      | true => rfl
      | false => exact absurd (.inl hh) h
    have a2 : vld M = true := by cases hh : vld M with
      | true => rfl
      | false => exact absurd (.inr (.inl hh)) h
    have a3 : M[0]!.length = L[0]!.length := by
      by_cases c : M[0]!.length = L[0]!.length
      · exact c
      · exact absurd (.inr (.inr fun e => c e.symm)) h
    obtain ⟨h0, h1, h2, h3⟩ := vld_to a1
    obtain ⟨k0, k1, k2, k3⟩ := vld_to a2
    have f1 := differ_fn L[0]! M[0]! h1 h2 a3
    have f2 := zdiffer_fn L[0]! M[0]! h1 h2 a3
    rw [h3, k3] at f1 f2
    exact ⟨_, _, _, _, .inr rfl, f1, f2⟩
set_option maxHeartbeats 8000000 in
theorem agree26_fn (A B : List (List Int)) (i d : Int) : Fnc Try.prog 27 [trV A, trV B, .int .i64 i, .int .u32 d] (fun x obs => x = .bool true ∧ obs = []) := by
  obtain ⟨T, e, U, hT, f1, f2⟩ := upd_both A i d
  obtain ⟨D, n, g, G, hD, f3, f4⟩ := dif_both A B
  have f5 := sints26_fn G G
  rw [decT rfl] at f5
  have f6 := rsameT_fn U U
  rw [decT rfl] at f6
  have f7 := tval_fn A
  have f8 := rval_fn A
  have f9 := root_fn A
  have fa := rrt_fn A
  generalize rootOf A = r at f9 fa
  generalize vld A = v at f7 f8
  rcases hT with ⟨rfl, rfl⟩ | rfl <;> rcases hD with ⟨rfl, rfl⟩ | rfl
  all_goals
    cases v
    all_goals
      refine Fnc.intro m_agree26_ok (by simp) fun W S => ?_
      unfold m_agree26
      simp only [ents, Nat.zero_add, Nat.reduceAdd]
      refine zst ?_
      (first | refine callD (f1) ?_ | refine callDw (f1) ?_); simp only [go_sem]
      refine zst ?_
      (first | refine callD (f2) ?_ | refine callDw (f2) ?_); simp only [go_sem]
      refine zst ?_
      (first | refine callD (f3) ?_ | refine callDw (f3) ?_); simp only [go_sem]
      refine zst ?_
      (first | refine callD (f4) ?_ | refine callDw (f4) ?_); simp only [go_sem]
      refine zst ?_
      (first | refine callD (f5) ?_ | refine callDw (f5) ?_); simp only [go_sem]
      refine zst ?_
      (first | refine callD (f6) ?_ | refine callDw (f6) ?_); simp only [go_sem]
      refine zst ?_
      (first | refine callD (f7) ?_ | refine callDw (f7) ?_); simp only [go_sem]
      refine zst ?_
      (first | refine callD (f8) ?_ | refine callDw (f8) ?_); simp only [go_sem]
      refine zst ?_
      (first | refine callD (f9) ?_ | refine callDw (f9) ?_); simp only [go_sem]
      refine zst ?_
      (first | refine callD (fa) ?_ | refine callDw (fa) ?_); simp only [go_sem]
      refine zst ?_
      refine ret m_agree26_ok [] ?_; (first | (simp only [go_sem]; done) | (simp only [go_sem]; ((try dsimp only); (repeat' (refine And.intro ?_ ?_)) <;> first | with_reducible rfl | (simp only [go_sem]; done) | (simp only [go_sem]; rfl) | (simp only []; (try simp only [go_sem]); first | done | rfl) | (simp only [go_sem]; simp []; done) | (simp []; done) | rfl)))
end Go.Proofs.Ytcphobeommkgeaa
/- The law TreeRaw. -/
namespace Go.Proofs.Ytcphobeommkgeaa
open Go Go.RowKit Rdn Rdn.Dp
set_option linter.unusedVariables false
set_option linter.unusedSimpArgs false
def m_light26 : MC := .seq (.reg [⟨(some 1), none, (.m (.box 57 (.t 0)))⟩, ⟨(some 2), none, (.p (.mov (.c (.bool false))))⟩])
 (.seq (.reg [⟨(some 3), none, (.p (.mov (.c (.int .i64 0))))⟩])
 (.seq (.seq (.reg [⟨(some 4), none, (.p (.mov (.c (.int .i64 0))))⟩])
 (.block 0 (.loop (.seq (.seq (.reg [⟨(some 5), none, (.p (.mov (.t 4)))⟩, ⟨(some 6), none, (.p (.fieldA 0 0 (.t 1)))⟩, ⟨(some 7), none, (.p (.load false 1 (.t 6)))⟩, ⟨(some 8), none, (.p (.len (.t 7)))⟩, ⟨(some 9), none, (.p (.bin 0 .lss (.t 5) (.t 8)))⟩])
 (.cond (.t 9) (.skip) (.exit 0)))
 (.seq (.block 1 (.reg [⟨(some 12), none, (.p (.mov (.t 3)))⟩, ⟨(some 13), none, (.p (.bin 0 .add (.t 12) (.c (.int .i64 2))))⟩, ⟨(some 14), none, (.p (.fieldA 0 0 (.t 1)))⟩, ⟨(some 15), none, (.p (.load false 1 (.t 14)))⟩, ⟨(some 16), none, (.p (.mov (.t 4)))⟩, ⟨(some 17), none, (.p (.idxA 1 (.t 15) (.t 16)))⟩, ⟨(some 18), none, (.p (.load false 1 (.t 17)))⟩, ⟨(some 19), none, (.p (.len (.t 18)))⟩, ⟨(some 20), none, (.p (.bin 0 .add (.t 13) (.t 19)))⟩, ⟨(some 3), none, (.p (.mov (.t 20)))⟩]))
 (.reg [⟨(some 10), none, (.p (.mov (.t 4)))⟩, ⟨(some 11), none, (.p (.bin 0 .add (.t 10) (.c (.int .i64 1))))⟩, ⟨(some 4), none, (.p (.mov (.t 11)))⟩]))))))
 (.seq (.reg [⟨(some 21), none, (.p (.mov (.t 3)))⟩, ⟨(some 22), none, (.p (.bin 0 .leq (.t 21) (.c (.int .i64 500))))⟩, ⟨(some 2), none, (.p (.mov (.t 22)))⟩])
 (.ret))))
theorem m_light26_ok : compF Try.prog 49 = some (23, m_light26, [.mov (.t 2)]) := by kernel_rfl
def m_Light : MC := .seq (.reg [⟨(some 1), none, (.m (.box 30 (.t 0)))⟩, ⟨(some 2), none, (.p (.mov (.c (.bool false))))⟩])
 (.seq (.reg [⟨(some 3), none, (.p (.mov (.c (.int .i64 0))))⟩])
 (.seq (.seq (.reg [⟨(some 4), none, (.p (.mov (.c (.int .i64 0))))⟩])
 (.block 0 (.loop (.seq (.seq (.reg [⟨(some 6), none, (.p (.mov (.t 4)))⟩, ⟨(some 7), none, (.p (.fieldA 0 0 (.t 1)))⟩, ⟨(some 8), none, (.p (.load false 1 (.t 7)))⟩, ⟨(some 9), none, (.p (.len (.t 8)))⟩, ⟨(some 10), none, (.p (.bin 0 .lss (.t 6) (.t 9)))⟩])
 (.cond (.t 10) (.skip) (.exit 0)))
 (.seq (.block 1 (.reg [⟨(some 13), none, (.p (.mov (.t 3)))⟩, ⟨(some 14), none, (.p (.bin 0 .add (.t 13) (.c (.int .i64 4))))⟩, ⟨(some 15), none, (.p (.fieldA 0 0 (.t 1)))⟩, ⟨(some 16), none, (.p (.load false 1 (.t 15)))⟩, ⟨(some 17), none, (.p (.mov (.t 4)))⟩, ⟨(some 18), none, (.p (.idxA 1 (.t 16) (.t 17)))⟩, ⟨(some 19), none, (.p (.load false 1 (.t 18)))⟩, ⟨(some 20), none, (.p (.len (.t 19)))⟩, ⟨(some 21), none, (.p (.bin 0 .add (.t 14) (.t 20)))⟩, ⟨(some 3), none, (.p (.mov (.t 21)))⟩]))
 (.reg [⟨(some 11), none, (.p (.mov (.t 4)))⟩, ⟨(some 12), none, (.p (.bin 0 .add (.t 11) (.c (.int .i64 1))))⟩, ⟨(some 4), none, (.p (.mov (.t 12)))⟩]))))))
 (.seq (.seq (.reg [⟨(some 5), none, (.p (.mov (.c (.int .i64 0))))⟩])
 (.block 2 (.loop (.seq (.seq (.reg [⟨(some 22), none, (.p (.mov (.t 5)))⟩, ⟨(some 23), none, (.p (.fieldA 1 1 (.t 1)))⟩, ⟨(some 24), none, (.p (.load false 1 (.t 23)))⟩, ⟨(some 25), none, (.p (.len (.t 24)))⟩, ⟨(some 26), none, (.p (.bin 0 .lss (.t 22) (.t 25)))⟩])
 (.cond (.t 26) (.skip) (.exit 2)))
 (.seq (.block 3 (.reg [⟨(some 29), none, (.p (.mov (.t 3)))⟩, ⟨(some 30), none, (.p (.bin 0 .add (.t 29) (.c (.int .i64 10))))⟩, ⟨(some 31), none, (.p (.fieldA 1 1 (.t 1)))⟩, ⟨(some 32), none, (.p (.load false 1 (.t 31)))⟩, ⟨(some 33), none, (.p (.mov (.t 5)))⟩, ⟨(some 34), none, (.p (.idxA 8 (.t 32) (.t 33)))⟩, ⟨(some 35), none, (.p (.fieldA 7 7 (.t 34)))⟩, ⟨(some 36), none, (.p (.load false 1 (.t 35)))⟩, ⟨(some 37), none, (.p (.len (.t 36)))⟩, ⟨(some 38), none, (.p (.bin 0 .add (.t 30) (.t 37)))⟩, ⟨(some 3), none, (.p (.mov (.t 38)))⟩]))
 (.reg [⟨(some 27), none, (.p (.mov (.t 5)))⟩, ⟨(some 28), none, (.p (.bin 0 .add (.t 27) (.c (.int .i64 1))))⟩, ⟨(some 5), none, (.p (.mov (.t 28)))⟩]))))))
 (.seq (.reg [⟨(some 39), none, (.p (.mov (.t 3)))⟩, ⟨(some 40), none, (.p (.bin 0 .leq (.t 39) (.c (.int .i64 1500))))⟩, ⟨(some 2), none, (.p (.mov (.t 40)))⟩])
 (.ret)))))
theorem m_Light_ok : compF Try.prog 37 = some (41, m_Light, [.mov (.t 2)]) := by kernel_rfl
def m_traw : MC := .seq (.reg [⟨(some 7), none, (.m (.box 57 (.t 1)))⟩, ⟨(some 8), none, (.m (.box 57 (.t 2)))⟩, ⟨(some 11), none, (.m (.box 30 (.t 5)))⟩, ⟨(some 12), none, (.p (.mov (.c (.bool false))))⟩])
 (.seq (.seq (.reg [⟨(some 21), none, (.p (.mov (.t 0)))⟩, ⟨(some 22), none, (.p (.len (.t 21)))⟩, ⟨(some 23), none, (.p (.bin 0 .gtr (.t 22) (.c (.int .i64 200))))⟩, ⟨(some 24), none, (.p (.mov (.t 23)))⟩, ⟨(some 25), (some (24, false)), (.p (.load true 1 (.t 7)))⟩, ⟨(some 26), (some (24, false)), (.call 49 [(.t 25)])⟩, ⟨(some 27), (some (24, false)), (.p (.un .not (.t 26)))⟩, ⟨(some 28), none, (.p (.pick (.t 24) (.c (.bool true)) (.t 27)))⟩, ⟨(some 29), none, (.p (.mov (.t 28)))⟩, ⟨(some 30), (some (29, false)), (.p (.load true 1 (.t 8)))⟩, ⟨(some 31), (some (29, false)), (.call 49 [(.t 30)])⟩, ⟨(some 32), (some (29, false)), (.p (.un .not (.t 31)))⟩, ⟨(some 33), none, (.p (.pick (.t 29) (.c (.bool true)) (.t 32)))⟩, ⟨(some 34), none, (.p (.mov (.t 33)))⟩, ⟨(some 35), (some (34, false)), (.p (.load true 2 (.t 11)))⟩, ⟨(some 36), (some (34, false)), (.call 37 [(.t 35)])⟩, ⟨(some 37), (some (34, false)), (.p (.un .not (.t 36)))⟩, ⟨(some 38), none, (.p (.pick (.t 34) (.c (.bool true)) (.t 37)))⟩])
 (.cond (.t 38) (.seq (.reg [⟨(some 39), none, (.call 25 [])⟩, ⟨(some 12), none, (.p (.mov (.t 39)))⟩])
 (.ret)) (.skip)))
 (.seq (.reg [⟨(some 41), none, (.p (.mov (.t 0)))⟩, ⟨(some 42), none, (.call 28 [(.t 41)])⟩, ⟨(some 40), none, (.p (.mov (.t 42)))⟩, ⟨(some 43), none, (.p (.ext (.t 40) 0))⟩, ⟨(some 44), none, (.p (.ext (.t 40) 1))⟩, ⟨(some 13), none, (.m (.alloc 57 (.agg [.nilS])))⟩, ⟨none, none, (.m (.store 1 (.t 13) (.t 43)))⟩, ⟨(some 14), none, (.p (.mov (.t 44)))⟩])
 (.seq (.reg [⟨(some 46), none, (.p (.mov (.t 0)))⟩, ⟨(some 47), none, (.call 26 [(.t 46)])⟩, ⟨(some 45), none, (.p (.mov (.t 47)))⟩, ⟨(some 48), none, (.p (.ext (.t 45) 0))⟩, ⟨(some 49), none, (.p (.ext (.t 45) 1))⟩, ⟨(some 15), none, (.m (.alloc 57 (.agg [.nilS])))⟩, ⟨none, none, (.m (.store 1 (.t 15) (.t 48)))⟩, ⟨(some 16), none, (.p (.mov (.t 49)))⟩])
 (.seq (.reg [⟨(some 51), none, (.p (.load true 2 (.t 11)))⟩, ⟨(some 52), none, (.call 48 [(.t 51)])⟩, ⟨(some 50), none, (.p (.mov (.t 52)))⟩, ⟨(some 53), none, (.p (.ext (.t 50) 0))⟩, ⟨(some 54), none, (.p (.ext (.t 50) 1))⟩, ⟨(some 17), none, (.m (.alloc 57 (.agg [.nilS])))⟩, ⟨none, none, (.m (.store 1 (.t 17) (.t 53)))⟩, ⟨(some 18), none, (.p (.mov (.t 54)))⟩])
 (.seq (.reg [⟨(some 56), none, (.p (.load true 2 (.t 11)))⟩, ⟨(some 57), none, (.call 50 [(.t 56)])⟩, ⟨(some 55), none, (.p (.mov (.t 57)))⟩, ⟨(some 58), none, (.p (.ext (.t 55) 0))⟩, ⟨(some 59), none, (.p (.ext (.t 55) 1))⟩, ⟨(some 19), none, (.m (.alloc 57 (.agg [.nilS])))⟩, ⟨none, none, (.m (.store 1 (.t 19) (.t 58)))⟩, ⟨(some 20), none, (.p (.mov (.t 59)))⟩])
 (.seq (.reg [⟨(some 60), none, (.p (.mov (.t 14)))⟩, ⟨(some 61), none, (.p (.mov (.t 16)))⟩, ⟨(some 62), none, (.p (.bin 0 .eql (.t 60) (.t 61)))⟩, ⟨(some 63), none, (.p (.mov (.t 62)))⟩, ⟨(some 64), (some (63, true)), (.p (.mov (.t 18)))⟩, ⟨(some 65), (some (63, true)), (.p (.mov (.t 20)))⟩, ⟨(some 66), (some (63, true)), (.p (.bin 0 .eql (.t 64) (.t 65)))⟩, ⟨(some 67), none, (.p (.pick (.t 63) (.t 66) (.c (.bool false))))⟩, ⟨(some 68), none, (.p (.mov (.t 67)))⟩, ⟨(some 69), (some (68, true)), (.p (.load true 1 (.t 13)))⟩, ⟨(some 70), (some (68, true)), (.p (.load true 1 (.t 15)))⟩, ⟨(some 71), (some (68, true)), (.call 31 [(.t 69), (.t 70)])⟩, ⟨(some 72), none, (.p (.pick (.t 68) (.t 71) (.c (.bool false))))⟩, ⟨(some 73), none, (.p (.mov (.t 72)))⟩, ⟨(some 74), (some (73, true)), (.p (.load true 1 (.t 17)))⟩, ⟨(some 75), (some (73, true)), (.p (.load true 1 (.t 19)))⟩, ⟨(some 76), (some (73, true)), (.call 31 [(.t 74), (.t 75)])⟩, ⟨(some 77), none, (.p (.pick (.t 73) (.t 76) (.c (.bool false))))⟩, ⟨(some 78), none, (.p (.mov (.t 77)))⟩, ⟨(some 79), (some (78, true)), (.p (.load true 1 (.t 7)))⟩, ⟨(some 80), (some (78, true)), (.p (.load true 1 (.t 8)))⟩, ⟨(some 81), (some (78, true)), (.p (.mov (.t 3)))⟩, ⟨(some 82), (some (78, true)), (.p (.mov (.t 4)))⟩, ⟨(some 83), (some (78, true)), (.call 27 [(.t 79), (.t 80), (.t 81), (.t 82)])⟩, ⟨(some 84), none, (.p (.pick (.t 78) (.t 83) (.c (.bool false))))⟩, ⟨(some 85), none, (.p (.mov (.t 84)))⟩, ⟨(some 86), (some (85, true)), (.call 25 [])⟩, ⟨(some 87), none, (.p (.pick (.t 85) (.t 86) (.c (.bool false))))⟩, ⟨(some 12), none, (.p (.mov (.t 87)))⟩])
 (.ret)))))))
theorem m_traw_ok : compF Try.prog 12 = some (88, m_traw, [.mov (.t 12)]) := by kernel_rfl
def lgt26 (L : List (List Int)) : Nat → Int
  | 0 => 0
  | k + 1 => IntKind.i64.wrap (IntKind.i64.wrap (lgt26 L k + 2) + L[k]!.length)
set_option maxHeartbeats 4000000 in
theorem light26_fn (L : List (List Int)) : Fnc Try.prog 49 [trV L] (fun x obs => x = .bool (decide (lgt26 L L.length ≤ 500)) ∧ obs = []) := by
  refine Fnc.wf fun hw => ?_
  have hm := (wf_tr hw.1).1
  clear hw
  refine Fnc.intro m_light26_ok (by simp) fun W S => ?_
  unfold m_light26
  simp only [ents, Nat.zero_add, Nat.reduceAdd]
  refine zst ?_
  refine ev_loopK [1] (fun p : {p : Nat // p ≤ L.length} => [(3, .int .i64 (lgt26 L p.1)), (4, .int .i64 p.1)]) (fun _ => [⟨.box false 57, true, 0, trV L⟩]) (fun p => L.length - p.1) (⟨0, by simp⟩) 1 (by simp only [go_sem]; rfl) ?_ (by first | rfl | (simp only [go_sem]; done) | (simp only [go_sem]; simp [lgt26]; done)) (by simp) (by first | rfl | (simp only [go_sem]; done)) (by first | rfl | (simp only [go_sem]; done)) (by first | rfl | (simp only [go_sem]; done) | (simp only [lgt26]; (try simp only [go_sem]); first | done | rfl)) ?_
  · (simp only [go_sem]; (try simp [lgt26]); done)
  intro J hJ
  rintro ⟨k, hk0⟩
  by_cases hlt : k < L.length
  · skip
    refine zst ?_
    refine ev_next 1 (hJ _ (⟨k + 1, hlt⟩) (by first | omega | (dsimp only; omega) | (simp; omega))) rfl (by simp) ?_ (by first | rfl | (simp only [go_sem]; done)) (by first | rfl | (simp only [go_sem]; done) | (simp only [lgt26]; (try simp only [go_sem]); first | done | rfl)) ?_
    · (first | rfl | (simp only [go_sem]; done) | (simp only [go_sem]; simp only [lgt26]; done) | (simp only [lgt26]; done) | (simp only [go_sem]; simp [lgt26]; done) | (simp [lgt26]; done))
    · (simp only [go_sem]; (repeat' (refine And.intro ?_ ?_)) <;> first | exact trivial | with_reducible rfl | (simp only [lgt26]; done) | (simp only [lgt26]; with_reducible rfl) | (simp [lgt26]; done) | (simp [lgt26]; omega) | (simp only [lgt26]; rfl) | skip)
  · obtain rfl : k = L.length := by omega
    refine zst ?_
    refine ret m_light26_ok [] ?_; (first | (simp only [go_sem]; done) | (simp only [go_sem]; ((try dsimp only); (repeat' (refine And.intro ?_ ?_)) <;> first | with_reducible rfl | (simp only [go_sem]; done) | (simp only [go_sem]; rfl) | (simp only []; (try simp only [go_sem]); first | done | rfl) | (simp only [go_sem]; simp []; done) | (simp []; done) | rfl)))
def lgA (s : State) : Nat → Int
  | 0 => 0
  | k + 1 => IntKind.i64.wrap (IntKind.i64.wrap (lgA s k + 4) + s.regions[k]!.length)
def lgB (s : State) : Nat → Int
  | 0 => lgA s s.regions.length
  | k + 1 => IntKind.i64.wrap (IntKind.i64.wrap (lgB s k + 10) + s.threads[k]!.regs.length)
set_option maxHeartbeats 4000000 in
theorem Light_fn (s : State) : Fnc Try.prog 37 [staV s] (fun x obs => x = .bool (decide (lgB s s.threads.length ≤ 1500)) ∧ obs = []) := by
  refine Fnc.wf fun hw => ?_
  simp only [V.wfs, V.wf, wfs_map, List.length_map] at hw
  have hm := hw.1.1.2
  have hm2 := hw.1.2.1.2
  clear hw
  refine Fnc.intro m_Light_ok (by simp) fun W S => ?_
  unfold m_Light
  simp only [ents, Nat.zero_add, Nat.reduceAdd]
  refine zst ?_
  refine ev_loopK [1] (fun p : {p : Nat // p ≤ s.regions.length} => [(3, .int .i64 (lgA s p.1)), (4, .int .i64 p.1)]) (fun _ => [⟨.box false 30, true, 0, staV s⟩]) (fun p => s.regions.length - p.1) (⟨0, by simp⟩) 1 (by simp only [go_sem]; rfl) ?_ (by first | rfl | (simp only [go_sem]; done) | (simp only [go_sem]; simp [lgA]; done)) (by simp) (by first | rfl | (simp only [go_sem]; done)) (by first | rfl | (simp only [go_sem]; done)) (by first | rfl | (simp only [go_sem]; done) | (simp only [lgA]; (try simp only [go_sem]); first | done | rfl)) ?_
  · (simp only [go_sem]; (try simp [lgA]); done)
  intro J hJ
  rintro ⟨k, hk0⟩
  by_cases hlt : k < s.regions.length
  · skip
    refine zst ?_
    refine ev_next 1 (hJ _ (⟨k + 1, hlt⟩) (by first | omega | (dsimp only; omega) | (simp; omega))) rfl (by simp) ?_ (by first | rfl | (simp only [go_sem]; done)) (by first | rfl | (simp only [go_sem]; done) | (simp only [lgA]; (try simp only [go_sem]); first | done | rfl)) ?_
    · (first | rfl | (simp only [go_sem]; done) | (simp only [go_sem]; simp only [lgA]; done) | (simp only [lgA]; done) | (simp only [go_sem]; simp [lgA]; done) | (simp [lgA]; done))
    · (simp only [go_sem]; (repeat' (refine And.intro ?_ ?_)) <;> first | exact trivial | with_reducible rfl | (simp only [lgA]; done) | (simp only [lgA]; with_reducible rfl) | (simp [lgA]; done) | (simp [lgA]; omega) | (simp only [lgA]; rfl) | skip)
  · obtain rfl : k = s.regions.length := by omega
    have hz : lgA s s.regions.length = lgB s 0 := rfl
    refine zst ?_
    refine ev_loopK [1] (fun p : {p : Nat // p ≤ s.threads.length} => [(3, .int .i64 (lgB s p.1)), (5, .int .i64 p.1)]) (fun _ => [⟨.box false 30, true, 0, staV s⟩]) (fun p => s.threads.length - p.1) (⟨0, by simp⟩) 1 (by simp only [go_sem]; rfl) ?_ (by first | rfl | (simp only [go_sem]; done) | (simp only [go_sem]; simp [lgB]; done)) (by simp) (by first | rfl | (simp only [go_sem]; done)) (by first | rfl | (simp only [go_sem]; done)) (by first | rfl | (simp only [go_sem]; done) | (simp only [lgB]; (try simp only [go_sem]); first | done | rfl)) ?_
    · (simp only [go_sem]; (try simp [lgB]); done)
    intro J hJ
    rintro ⟨k, hk0⟩
    by_cases hlt : k < s.threads.length
    · skip
      refine zst ?_
      refine ev_next 1 (hJ _ (⟨k + 1, hlt⟩) (by first | omega | (dsimp only; omega) | (simp; omega))) rfl (by simp) ?_ (by first | rfl | (simp only [go_sem]; done)) (by first | rfl | (simp only [go_sem]; done) | (simp only [lgB]; (try simp only [go_sem]); first | done | rfl)) ?_
      · (first | rfl | (simp only [go_sem]; done) | (simp only [go_sem]; simp only [lgB]; done) | (simp only [lgB]; done) | (simp only [go_sem]; simp [lgB]; done) | (simp [lgB]; done))
      · (simp only [go_sem]; (repeat' (refine And.intro ?_ ?_)) <;> first | exact trivial | with_reducible rfl | (simp only [lgB]; done) | (simp only [lgB]; with_reducible rfl) | (simp [lgB]; done) | (simp [lgB]; omega) | (simp only [lgB]; rfl) | skip)
    · obtain rfl : k = s.threads.length := by omega
      refine zst ?_
      refine ret m_Light_ok [] ?_; (first | (simp only [go_sem]; done) | (simp only [go_sem]; ((try dsimp only); (repeat' (refine And.intro ?_ ?_)) <;> first | with_reducible rfl | (simp only [go_sem]; done) | (simp only [go_sem]; rfl) | (simp only []; (try simp only [go_sem]); first | done | rfl) | (simp only [go_sem]; simp []; done) | (simp []; done) | rfl)))
theorem lowS_bd {s : State} (h : State.sh.bd s) : LowS s := by
  have h1 : s.regions.length * 24 ≤ 140737488351232 := h.1.1
  have h2 : s.threads.length * 80 ≤ 140737488351232 := h.2.1.1
  refine ⟨by omega, fun x hx => ?_, by omega, fun x hx => ?_⟩
  · have h3 : x.length * 24 ≤ 140737488351232 := (h.1.2 x hx).1
    omega
  · have h3 : x.regs.length * 24 ≤ 140737488351232 := (h.2.1.2 x hx).2.2.2.2.2.2.2.1.1
    omega
theorem wrap_id {e : Int} (h0 : -9223372036854775808 ≤ e) (h1 : e ≤ 9223372036854775807) : IntKind.i64.wrap e = e := wrapI64 h0 h1
theorem lgA_shp {s : State} (H : Shp s) : ∀ k, k ≤ s.regions.length → 0 ≤ lgA s k ∧ lgA s k ≤ 36 * k
  | 0, _ => by simp [lgA]
  | k + 1, hk => by
    have ih := lgA_shp H k (by omega)
    have hz := H.z k (by omega)
    have hr := H.r
    rw [lgA, wrap_id (e := lgA s k + 4) (by omega) (by omega), wrap_id (by omega) (by omega)]
    omega
theorem lgB_shp {s : State} (H : Shp s) (L : LowS s) : ∀ k, k ≤ s.threads.length → 0 ≤ lgB s k ∧ lgB s k ≤ 144 + 5864062014644 * k ∧ ∀ j, j < k → (s.threads[j]!.regs.length : Int) ≤ lgB s k
  | 0, _ => by
    have := lgA_shp H s.regions.length (Nat.le_refl _)
    have := H.r
    refine ⟨by rw [lgB]; omega, by rw [lgB]; omega, fun j hj => by omega⟩
  | k + 1, hk => by
    obtain ⟨i1, i2, i3⟩ := lgB_shp H L k (by omega)
    have hg := L.g _ (mem_at (l := s.threads) (k := k) (by omega))
    have ht := H.t
    have e : lgB s (k + 1) = lgB s k + 10 + s.threads[k]!.regs.length := by
      rw [lgB, wrap_id (e := lgB s k + 10) (by omega) (by omega), wrap_id (by omega) (by omega)]
    refine ⟨by omega, by omega, fun j hj => ?_⟩
    by_cases c : j = k
    · subst c; omega
    · have := i3 j (by omega); omega
theorem regs_light {s : State} (h : shp s = true) (L : LowS s) (hl : lgB s s.threads.length ≤ 1500) : ∀ x ∈ s.threads, x.regs.length ≤ 1000000000 := fun x hx => by
  obtain ⟨j, hj, rfl⟩ := List.getElem_of_mem hx
  have := (lgB_shp (shp_to h) L s.threads.length (Nat.le_refl _)).2.2 j hj
  rw [getElem!_pos s.threads j hj] at this
  omega
theorem build_both (l : List Int) : ∃ (T : V) (e : Int) (U : List (List Int)), (T = .nilS ∧ U = [] ∨ T = .sl false 1 (U.map dsV)) ∧ Fnc Try.prog 28 [dsV l] (fun x obs => x = .tup [.agg [T], .int .i64 e] ∧ obs = []) ∧ Fnc Try.prog 26 [dsV l] (fun x obs => x = .tup [.agg [T], .int .i64 e] ∧ obs = []) := by
  by_cases c : 1 ≤ l.length ∧ l.length ≤ 20
  · exact ⟨_, _, _, .inr rfl, build_fn l c.1 c.2, rbuild_fn l c.1 c.2⟩
  · exact ⟨_, _, [], .inl ⟨rfl, rfl⟩, build_bad l c, rbuild_bad l c⟩
theorem of_both (s : State) (L : LowS s) (hl : lgB s s.threads.length ≤ 1500) : ∃ (T : V) (e : Int) (U : List (List Int)), (T = .nilS ∧ U = [] ∨ T = .sl false 1 (U.map dsV)) ∧ Fnc Try.prog 48 [staV s] (fun x obs => x = .tup [.agg [T], .int .i64 e] ∧ obs = []) ∧ Fnc Try.prog 50 [staV s] (fun x obs => x = .tup [.agg [T], .int .i64 e] ∧ obs = []) := by
  cases h : shp s with
  | false => exact ⟨_, _, [], .inl ⟨rfl, rfl⟩, tof_bad s L h, zof_bad s L h⟩
  | true =>
    obtain ⟨T, e, U, hT, f1, f2⟩ := build_both (dls s)
    have hTT : (∃ B : List (List Int), T = .sl false 1 (B.map dsV)) ∨ T = .nilS := by
      rcases hT with ⟨rfl, _⟩ | rfl
      · exact .inr rfl
      · exact .inl ⟨U, rfl⟩
    exact ⟨T, e, U, hT, tof_to s L h T e f1 hTT, zof_to s L (regs_light h L hl) h T e f2 hTT⟩
attribute [local irreducible] bld lev vld rootOf lgB lgA lgt26
set_option maxHeartbeats 16000000 in
theorem traw_fn (l : List Int) (a b : Tree) (i d : Int) (s : State) (hs : State.sh.bd s) : Fnc Try.prog 12 [dsV l, trV a.levels, trV b.levels, .int .i64 i, .int .u32 d, staV s] (fun x obs => x = .bool true) := by
  refine Fnc.wf fun hw => ?_
  simp only [V.wfs, V.wf, wfs_map, List.length_map] at hw
  have hm := hw.1.2
  clear hw
  have L := lowS_bd hs
  have f0 := awake26_fn
  have f1 := light26_fn a.levels
  have f2 := light26_fn b.levels
  have f3 := Light_fn s
  by_cases c0 : l.length > 200
  · skip
    refine Fnc.intro m_traw_ok (by simp) fun W S => ?_
    unfold m_traw
    simp only [ents, Nat.zero_add, Nat.reduceAdd]
    refine zst ?_
    (first | refine callD (f0) ?_ | refine callDw (f0) ?_); simp only [go_sem]
    refine zst ?_
    refine ret m_traw_ok [] ?_; (first | (simp only [go_sem]; done) | (simp only [go_sem]; ((try dsimp only); (repeat' (refine And.intro ?_ ?_)) <;> first | with_reducible rfl | (simp only [go_sem]; done) | (simp only [go_sem]; rfl) | (simp only []; (try simp only [go_sem]); first | done | rfl) | (simp only [go_sem]; simp []; done) | (simp []; done) | rfl)))
  by_cases c1 : lgt26 a.levels a.levels.length ≤ 500
  rotate_left
  · rw [decF c1] at f1
    refine Fnc.intro m_traw_ok (by simp) fun W S => ?_
    unfold m_traw
    simp only [ents, Nat.zero_add, Nat.reduceAdd]
    refine zst ?_
    (first | refine callD (f1) ?_ | refine callDw (f1) ?_); simp only [go_sem]
    refine zst ?_
    (first | refine callD (f0) ?_ | refine callDw (f0) ?_); simp only [go_sem]
    refine zst ?_
    refine ret m_traw_ok [] ?_; (first | (simp only [go_sem]; done) | (simp only [go_sem]; ((try dsimp only); (repeat' (refine And.intro ?_ ?_)) <;> first | with_reducible rfl | (simp only [go_sem]; done) | (simp only [go_sem]; rfl) | (simp only []; (try simp only [go_sem]); first | done | rfl) | (simp only [go_sem]; simp []; done) | (simp []; done) | rfl)))
  rw [decT c1] at f1
  by_cases c2 : lgt26 b.levels b.levels.length ≤ 500
  rotate_left
  · rw [decF c2] at f2
    refine Fnc.intro m_traw_ok (by simp) fun W S => ?_
    unfold m_traw
    simp only [ents, Nat.zero_add, Nat.reduceAdd]
    refine zst ?_
    (first | refine callD (f1) ?_ | refine callDw (f1) ?_); simp only [go_sem]
    refine zst ?_
    (first | refine callD (f2) ?_ | refine callDw (f2) ?_); simp only [go_sem]
    refine zst ?_
    (first | refine callD (f0) ?_ | refine callDw (f0) ?_); simp only [go_sem]
    refine zst ?_
    refine ret m_traw_ok [] ?_; (first | (simp only [go_sem]; done) | (simp only [go_sem]; ((try dsimp only); (repeat' (refine And.intro ?_ ?_)) <;> first | with_reducible rfl | (simp only [go_sem]; done) | (simp only [go_sem]; rfl) | (simp only []; (try simp only [go_sem]); first | done | rfl) | (simp only [go_sem]; simp []; done) | (simp []; done) | rfl)))
  rw [decT c2] at f2
  by_cases c3 : lgB s s.threads.length ≤ 1500
  rotate_left
  · rw [decF c3] at f3
    refine Fnc.intro m_traw_ok (by simp) fun W S => ?_
    unfold m_traw
    simp only [ents, Nat.zero_add, Nat.reduceAdd]
    refine zst ?_
    (first | refine callD (f1) ?_ | refine callDw (f1) ?_); simp only [go_sem]
    refine zst ?_
    (first | refine callD (f2) ?_ | refine callDw (f2) ?_); simp only [go_sem]
    refine zst ?_
    (first | refine callD (f3) ?_ | refine callDw (f3) ?_); simp only [go_sem]
    refine zst ?_
    (first | refine callD (f0) ?_ | refine callDw (f0) ?_); simp only [go_sem]
    refine zst ?_
    refine ret m_traw_ok [] ?_; (first | (simp only [go_sem]; done) | (simp only [go_sem]; ((try dsimp only); (repeat' (refine And.intro ?_ ?_)) <;> first | with_reducible rfl | (simp only [go_sem]; done) | (simp only [go_sem]; rfl) | (simp only []; (try simp only [go_sem]); first | done | rfl) | (simp only [go_sem]; simp []; done) | (simp []; done) | rfl)))
  rw [decT c3] at f3
  obtain ⟨T, e, U, hT, g1, g2⟩ := build_both l
  obtain ⟨T', e', U', hT', g3, g4⟩ := of_both s L c3
  have g5 := rsameT_fn U U
  rw [decT rfl] at g5
  have g6 := rsameT_fn U' U'
  rw [decT rfl] at g6
  have g7 := agree26_fn a.levels b.levels i d
  rcases hT with ⟨rfl, rfl⟩ | rfl <;> rcases hT' with ⟨rfl, rfl⟩ | rfl
  all_goals
    refine Fnc.intro m_traw_ok (by simp) fun W S => ?_
    unfold m_traw
    simp only [ents, Nat.zero_add, Nat.reduceAdd]
    refine zst ?_
    (first | refine callD (f1) ?_ | refine callDw (f1) ?_); simp only [go_sem]
    refine zst ?_
    (first | refine callD (f2) ?_ | refine callDw (f2) ?_); simp only [go_sem]
    refine zst ?_
    (first | refine callD (f3) ?_ | refine callDw (f3) ?_); simp only [go_sem]
    refine zst ?_
    (first | refine callD (g1) ?_ | refine callDw (g1) ?_); simp only [go_sem]
    refine zst ?_
    (first | refine callD (g2) ?_ | refine callDw (g2) ?_); simp only [go_sem]
    refine zst ?_
    (first | refine callD (g3) ?_ | refine callDw (g3) ?_); simp only [go_sem]
    refine zst ?_
    (first | refine callD (g4) ?_ | refine callDw (g4) ?_); simp only [go_sem]
    refine zst ?_
    (first | refine callD (g5) ?_ | refine callDw (g5) ?_); simp only [go_sem]
    refine zst ?_
    (first | refine callD (g6) ?_ | refine callDw (g6) ?_); simp only [go_sem]
    refine zst ?_
    (first | refine callD (g7) ?_ | refine callDw (g7) ?_); simp only [go_sem]
    refine zst ?_
    (first | refine callD (f0) ?_ | refine callDw (f0) ?_); simp only [go_sem]
    refine zst ?_
    refine ret m_traw_ok [] ?_; (first | (simp only [go_sem]; done) | (simp only [go_sem]; ((try dsimp only); (repeat' (refine And.intro ?_ ?_)) <;> first | with_reducible rfl | (simp only [go_sem]; done) | (simp only [go_sem]; rfl) | (simp only []; (try simp only [go_sem]); first | done | rfl) | (simp only [go_sem]; simp []; done) | (simp []; done) | rfl)))
theorem enc_tree : Enc Tree.sh (fun t => .agg [.sl false 1 (t.levels.map dsV)]) := Enc.struct (EncL.cons (Enc.slice enc_u32s (fun _ => rfl) (fun _ => rfl)) EncL.unit) _
theorem enc_state : Enc State.sh (fun s => .agg [.sl false 1 (s.regions.map (slV' false 4 canonV)), .sl false 8 (s.threads.map (viewV false))]) := Enc.struct (EncL.cons (Enc.slice enc_canons (fun _ => rfl) (fun _ => rfl)) (EncL.cons (Enc.slice enc_view (fun _ => rfl) (fun _ => rfl)) EncL.unit)) _
theorem traw_law {a0 : List Int} {v0 : Value} {a1 : Tree} {c1 : Array Value} {a2 : Tree} {c2 : Array Value} {a3 : Int} {v3 : Value} {a4 : Int} {v4 : Value} {a5 : State} {c5 : Array Value} (W : World) (e0 : (Sh.slice (Sh.int .u32)).rd (old W) W a0 [v0]) (e1 : Tree.sh.rd (old W) W a1 c1.toList) (e2 : Tree.sh.rd (old W) W a2 c2.toList) (e3 : (Sh.int .i64).rd (old W) W a3 [v3]) (e4 : (Sh.int .u32).rd (old W) W a4 [v4]) (e5 : State.sh.rd (old W) W a5 c5.toList) (b5 : State.sh.bd a5) :
    Calls Try.prog 12 #[v0, .agg c1, .agg c2, v3, v4, .agg c5] W fun e w' => e = .returned (.bool true) ∧ Below W.heap.size W w' :=
  Fnc.law (traw_fn a0 a1 a2 a3 a4 a5 b5) (RdTs.slice enc_u32s e0 (RdTs.agg enc_tree e1 (RdTs.agg enc_tree e2 (RdTs.int e3 (RdTs.int e4 (RdTs.agg enc_state e5 RdTs.nil'))))))
end Go.Proofs.Ytcphobeommkgeaa
