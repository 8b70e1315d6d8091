/- The deck: canonical cells. -/
import Derived.Test.YtanmcjkpdkmhfaaF2
import Derived.Test.YtanmcjkpdkmhfaaZt
import Derived.Test.YtanmcjkpdkmhfaaDw
namespace Go.Proofs.Ytanmcjkpdkmhfaa
open Go Go.RowKit Rdn Rdn.Dp
set_option linter.unusedVariables false
set_option linter.unusedSimpArgs false
def m_total : MC := .seq (.reg [⟨(some 2), none, (.p (.mov (.c (.int .i64 0))))⟩])
 (.seq (.reg [⟨(some 3), none, (.p (.mov (.c (.int .i64 0))))⟩])
 (.seq (.seq (.reg [⟨(some 6), none, (.p (.mov (.t 0)))⟩, ⟨(some 7), none, (.p (.len (.t 6)))⟩, ⟨(some 8), none, (.p (.mov (.c (.int .i64 0))))⟩])
 (.block 0 (.loop (.seq (.reg [⟨(some 9), none, (.p (.bin 0 .lss (.t 8) (.t 7)))⟩])
 (.seq (.cond (.t 9) (.skip) (.exit 0))
 (.seq (.block 1 (.seq (.reg [⟨(some 10), none, (.p (.idxA 1 (.t 6) (.t 8)))⟩, ⟨(some 11), none, (.p (.load false 1 (.t 10)))⟩, ⟨(some 5), none, (.p (.mov (.t 11)))⟩])
 (.reg [⟨(some 12), none, (.p (.mov (.t 3)))⟩, ⟨(some 13), none, (.p (.mov (.t 5)))⟩, ⟨(some 14), none, (.p (.bin 0 .add (.t 12) (.t 13)))⟩, ⟨(some 3), none, (.p (.mov (.t 14)))⟩])))
 (.reg [⟨(some 15), none, (.p (.bin 0 .add (.t 8) (.c (.int .i64 1))))⟩, ⟨(some 8), none, (.p (.mov (.t 15)))⟩])))))))
 (.seq (.reg [⟨(some 16), none, (.p (.mov (.t 3)))⟩, ⟨(some 2), none, (.p (.mov (.t 16)))⟩])
 (.ret))))
theorem m_total_ok : compF Try.prog 58 = some (17, m_total, [.mov (.t 2)]) := by kernel_rfl
def m_at : MC := .seq (.reg [⟨(some 4), none, (.m (.alloc 90 (.agg [.int .i64 0, .int .i64 0])))⟩, ⟨(some 5), none, (.p (.mov (.c (.int .i64 0))))⟩])
 (.seq (.seq (.reg [⟨(some 8), none, (.p (.mov (.t 0)))⟩, ⟨(some 9), none, (.p (.len (.t 8)))⟩, ⟨(some 10), none, (.p (.mov (.c (.int .i64 0))))⟩])
 (.block 0 (.loop (.seq (.reg [⟨(some 11), none, (.p (.bin 0 .lss (.t 10) (.t 9)))⟩])
 (.seq (.cond (.t 11) (.skip) (.exit 0))
 (.seq (.block 1 (.seq (.reg [⟨(some 12), none, (.p (.mov (.t 10)))⟩, ⟨(some 13), none, (.p (.idxA 1 (.t 8) (.t 10)))⟩, ⟨(some 14), none, (.p (.load false 1 (.t 13)))⟩, ⟨(some 6), none, (.p (.mov (.t 12)))⟩, ⟨(some 7), none, (.p (.mov (.t 14)))⟩])
 (.seq (.seq (.reg [⟨(some 15), none, (.p (.mov (.t 1)))⟩, ⟨(some 16), none, (.p (.bin 0 .geq (.t 15) (.c (.int .i64 0))))⟩, ⟨(some 17), none, (.p (.mov (.t 16)))⟩, ⟨(some 18), (some (17, true)), (.p (.mov (.t 1)))⟩, ⟨(some 19), (some (17, true)), (.p (.mov (.t 7)))⟩, ⟨(some 20), (some (17, true)), (.p (.bin 0 .lss (.t 18) (.t 19)))⟩, ⟨(some 21), none, (.p (.pick (.t 17) (.t 20) (.c (.bool false))))⟩])
 (.cond (.t 21) (.seq (.reg [⟨(some 22), none, (.p (.mov (.t 6)))⟩, ⟨(some 23), none, (.p (.mov (.t 1)))⟩, ⟨(some 24), none, (.m (.build none [.int .i64 0, .int .i64 0] [(0, (.t 22)), (1, (.t 23))]))⟩, ⟨none, none, (.m (.store 2 (.t 4) (.t 24)))⟩, ⟨(some 5), none, (.p (.mov (.c (.int .i64 0))))⟩])
 (.ret)) (.skip)))
 (.reg [⟨(some 25), none, (.p (.mov (.t 1)))⟩, ⟨(some 26), none, (.p (.mov (.t 7)))⟩, ⟨(some 27), none, (.p (.bin 0 .sub (.t 25) (.t 26)))⟩, ⟨(some 1), none, (.p (.mov (.t 27)))⟩]))))
 (.reg [⟨(some 28), none, (.p (.bin 0 .add (.t 10) (.c (.int .i64 1))))⟩, ⟨(some 10), none, (.p (.mov (.t 28)))⟩])))))))
 (.seq (.reg [⟨(some 29), none, (.m (.build none [.int .i64 0, .int .i64 0] []))⟩, ⟨none, none, (.m (.store 2 (.t 4) (.t 29)))⟩, ⟨(some 5), none, (.p (.mov (.c (.int .i64 6))))⟩])
 (.ret)))
theorem m_at_ok : compF Try.prog 57 = some (30, m_at, [.load true 2 (.t 4), .mov (.t 5)]) := by kernel_rfl
def m_canon : MC := .seq (.reg [⟨(some 4), none, (.m (.alloc 71 (.agg [.int .u8 0, .int .u16 0, .int .i64 0, .int .i64 0])))⟩])
 (.seq (.seq (.reg [⟨(some 7), none, (.p (.mov (.t 0)))⟩, ⟨(some 8), none, (.call 27 [(.t 7), (.c (.int .i64 6))])⟩])
 (.block 0 (.seq (.reg [⟨(some 10), none, (.p (.bin 0 .eql (.t 8) (.c (.int .i64 4))))⟩, ⟨(some 9), none, (.p (.mov (.t 10)))⟩])
 (.cond (.t 9) (.seq (.reg [⟨(some 12), none, (.p (.mov (.t 1)))⟩, ⟨(some 13), none, (.p (.mov (.t 0)))⟩, ⟨(some 14), none, (.p (.mov (.t 1)))⟩, ⟨(some 15), none, (.call 58 [(.t 14)])⟩, ⟨(some 16), none, (.call 27 [(.t 13), (.t 15)])⟩, ⟨(some 17), none, (.call 57 [(.t 12), (.t 16)])⟩, ⟨(some 11), none, (.p (.mov (.t 17)))⟩, ⟨(some 18), none, (.p (.ext (.t 11) 0))⟩, ⟨(some 19), none, (.p (.ext (.t 11) 1))⟩, ⟨(some 5), none, (.m (.alloc 90 (.agg [.int .i64 0, .int .i64 0])))⟩, ⟨none, none, (.m (.store 2 (.t 5) (.t 18)))⟩, ⟨(some 6), none, (.p (.mov (.t 19)))⟩])
 (.seq (.reg [⟨(some 20), none, (.p (.fieldA 0 0 (.t 5)))⟩, ⟨(some 21), none, (.p (.load false 1 (.t 20)))⟩, ⟨(some 22), none, (.p (.fieldA 1 1 (.t 5)))⟩, ⟨(some 23), none, (.p (.load false 1 (.t 22)))⟩, ⟨(some 24), none, (.m (.build none [.int .u8 0, .int .u16 0, .int .i64 0, .int .i64 0] [(0, (.c (.int .u8 1))), (2, (.t 21)), (3, (.t 23))]))⟩, ⟨none, none, (.m (.store 4 (.t 4) (.t 24)))⟩])
 (.ret))) (.seq (.reg [⟨(some 26), none, (.p (.bin 0 .eql (.t 8) (.c (.int .i64 5))))⟩, ⟨(some 25), none, (.p (.mov (.t 26)))⟩])
 (.cond (.t 25) (.seq (.reg [⟨(some 27), none, (.p (.mov (.t 0)))⟩, ⟨(some 28), none, (.call 27 [(.t 27), (.c (.int .i64 10))])⟩, ⟨(some 29), none, (.p (.conv .u16 (.t 28)))⟩, ⟨(some 30), none, (.m (.build none [.int .u8 0, .int .u16 0, .int .i64 0, .int .i64 0] [(0, (.c (.int .u8 2))), (1, (.t 29))]))⟩, ⟨none, none, (.m (.store 4 (.t 4) (.t 30)))⟩])
 (.ret)) (.skip)))))))
 (.seq (.reg [⟨(some 31), none, (.p (.mov (.t 0)))⟩, ⟨(some 32), none, (.call 59 [(.t 31)])⟩, ⟨(some 33), none, (.m (.build none [.int .u8 0, .int .u16 0, .int .i64 0, .int .i64 0] [(1, (.t 32))]))⟩, ⟨none, none, (.m (.store 4 (.t 4) (.t 33)))⟩])
 (.ret)))
theorem m_canon_ok : compF Try.prog 41 = some (34, m_canon, [.load true 4 (.t 4)]) := by kernel_rfl
def m_canons : MC := .seq (.reg [⟨(some 4), none, (.p (.mov (.c (.nilS))))⟩])
 (.seq (.reg [⟨(some 5), none, (.p (.mov (.c (.nilS))))⟩])
 (.seq (.seq (.reg [⟨(some 8), none, (.p (.mov (.t 0)))⟩, ⟨(some 9), none, (.p (.mov (.t 1)))⟩, ⟨(some 10), none, (.p (.bin 0 .add (.t 9) (.c (.int .i64 1))))⟩, ⟨(some 11), none, (.call 27 [(.t 8), (.t 10)])⟩, ⟨(some 6), none, (.p (.mov (.t 11)))⟩])
 (.block 0 (.loop (.seq (.seq (.reg [⟨(some 12), none, (.p (.mov (.t 6)))⟩, ⟨(some 13), none, (.p (.bin 0 .gtr (.t 12) (.c (.int .i64 0))))⟩])
 (.cond (.t 13) (.skip) (.exit 0)))
 (.seq (.block 1 (.seq (.reg [⟨(some 16), none, (.p (.mov (.t 0)))⟩, ⟨(some 17), none, (.m (.buildS 3 1 (.int .i64 0) 2 [(0, (.c (.int .i64 8))), (1, (.c (.int .i64 4)))]))⟩, ⟨(some 18), none, (.call 41 [(.t 16), (.t 17)])⟩, ⟨(some 7), none, (.m (.alloc 71 (.agg [.int .u8 0, .int .u16 0, .int .i64 0, .int .i64 0])))⟩, ⟨none, none, (.m (.store 4 (.t 7) (.t 18)))⟩])
 (.seq (.seq (.reg [⟨(some 19), none, (.p (.mov (.t 0)))⟩, ⟨(some 20), none, (.call 27 [(.t 19), (.c (.int .i64 12))])⟩, ⟨(some 21), none, (.p (.bin 0 .eql (.t 20) (.c (.int .i64 0))))⟩])
 (.cond (.t 21) (.reg [⟨(some 22), none, (.p (.mov (.t 0)))⟩, ⟨(some 23), none, (.call 27 [(.t 22), (.c (.int .i64 65536))])⟩, ⟨(some 24), none, (.m (.build none [.int .u8 0, .int .u16 0, .int .i64 0, .int .i64 0] [(0, (.c (.int .u8 1))), (2, (.c (.int .i64 (-1)))), (3, (.t 23))]))⟩, ⟨none, none, (.m (.store 4 (.t 7) (.t 24)))⟩]) (.skip)))
 (.reg [⟨(some 25), none, (.p (.mov (.t 5)))⟩, ⟨(some 26), none, (.p (.load true 4 (.t 7)))⟩, ⟨(some 27), none, (.m (.buildS 71 4 (.agg [.int .u8 0, .int .u16 0, .int .i64 0, .int .i64 0]) 1 [(0, (.t 26))]))⟩, ⟨(some 28), none, (.m (.app 71 4 24 (.t 25) (.t 27)))⟩, ⟨(some 5), none, (.p (.mov (.t 28)))⟩]))))
 (.reg [⟨(some 14), none, (.p (.mov (.t 6)))⟩, ⟨(some 15), none, (.p (.bin 0 .sub (.t 14) (.c (.int .i64 1))))⟩, ⟨(some 6), none, (.p (.mov (.t 15)))⟩]))))))
 (.seq (.reg [⟨(some 29), none, (.p (.mov (.t 5)))⟩, ⟨(some 4), none, (.p (.mov (.t 29)))⟩])
 (.ret))))
theorem m_canons_ok : compF Try.prog 18 = some (30, m_canons, [.mov (.t 4)]) := by kernel_rfl
set_option maxHeartbeats 4000000 in
theorem total84_fn : Fnc Try.prog 58 [.sl false 1 [.int .i64 8, .int .i64 4]] (fun x obs => x = .int .i64 12 ∧ obs = []) := by
  refine Fnc.intro m_total_ok (by simp) fun W S => ?_
  unfold m_total
  simp only [ents, Nat.zero_add, Nat.reduceAdd]
  refine zst ?_
  refine ev_unroll 3 ?_
  refine zst ?_
  refine ret m_total_ok [] ?_; (first | (simp only [go_sem]; done) | (simp only [go_sem]; ((try dsimp only); (repeat' (refine And.intro ?_ ?_)) <;> first | with_reducible rfl | (simp only [go_sem]; done) | (simp only [go_sem]; rfl) | (simp only []; (try simp only [go_sem]); first | done | rfl) | (simp only [go_sem]; simp []; done) | (simp []; done) | rfl)))
/-- The place of a number in two regions of 8 and 4 cells. -/
def at84 (i : Int) : Int × Int := if i < 8 then (0, i) else (1, i - 8)
set_option maxHeartbeats 4000000 in
theorem at84_fn (i : Int) (h0 : 0 ≤ i) (h1 : i < 12) : Fnc Try.prog 57 [.sl false 1 [.int .i64 8, .int .i64 4], .int .i64 i] (fun x obs => x = .tup [.agg [.int .i64 (at84 i).1, .int .i64 (at84 i).2], .int .i64 0] ∧ obs = []) := by
  by_cases h : i < 8
  · skip
    refine Fnc.intro m_at_ok (by simp) fun W S => ?_
    unfold m_at
    simp only [ents, Nat.zero_add, Nat.reduceAdd]
    refine zst ?_
    refine ev_unroll 3 ?_
    refine zst ?_
    refine ret m_at_ok [] ?_; (first | (simp only [go_sem]; done) | (simp only [go_sem]; ((try dsimp only); (repeat' (refine And.intro ?_ ?_)) <;> first | with_reducible rfl | (simp only [go_sem]; done) | (simp only [go_sem]; rfl) | (simp only [go_sem, at84, if_pos h]; done) | (simp only [at84, if_pos h]; (try simp only [go_sem]); first | done | rfl) | (simp only [go_sem]; simp [at84, if_pos h]; done) | (simp [at84, if_pos h]; done) | rfl)))
  · skip
    refine Fnc.intro m_at_ok (by simp) fun W S => ?_
    unfold m_at
    simp only [ents, Nat.zero_add, Nat.reduceAdd]
    refine zst ?_
    refine ev_unroll 3 ?_
    refine zst ?_
    refine ret m_at_ok [] ?_; (first | (simp only [go_sem]; done) | (simp only [go_sem]; ((try dsimp only); (repeat' (refine And.intro ?_ ?_)) <;> first | with_reducible rfl | (simp only [go_sem]; done) | (simp only [go_sem]; rfl) | (simp only [go_sem, at84, if_neg h]; done) | (simp only [at84, if_neg h]; (try simp only [go_sem]); first | done | rfl) | (simp only [go_sem]; simp [at84, if_neg h]; done) | (simp [at84, if_neg h]; done) | rfl)))
/-- A canonical cell, drawn at a position. -/
def dcn (l : List Int) (k : Nat) : Canon × Nat :=
  if dnx l k 6 = 4 then (⟨1, 0, (at84 (dnx l (dkx l k) 12)).1, (at84 (dnx l (dkx l k) 12)).2⟩, dkx l (dkx l k))
  else if dnx l k 6 = 5 then (⟨2, dnx l (dkx l k) 10, 0, 0⟩, dkx l (dkx l k))
  else (⟨0, dwd l (dkx l k), 0, 0⟩, dkx l (dkx l (dkx l k)))
theorem dcn_le {l : List Int} (k : Nat) (h : k ≤ l.length) : (dcn l k).2 ≤ l.length := by
  have h3 := dkx_le (dkx_le h)
  unfold dcn
  split
  · exact h3
  · split
    · exact h3
    · exact dkx_le h3
set_option maxHeartbeats 4000000 in
theorem canon_fn (l : List Int) (k : Nat) (hk : k ≤ l.length) : FncM Try.prog 41 66 (deckV l k) [.sl false 1 [.int .i64 8, .int .i64 4]] (fun x obs c => x = canonV (dcn l k).1 ∧ obs = [] ∧ c = deckV l (dcn l k).2) := by
  have hk1 := dkx_le hk
  have h1 := dnx_ge (l := l) (k := dkx l k) (n := 12) (by omega)
  have h2 := dnx_lt (l := l) (k := dkx l k) (n := 12) (by omega)
  have h3 := dnx_ge (l := l) (k := dkx l k) (n := 10) (by omega)
  have h4 := dnx_lt (l := l) (k := dkx l k) (n := 10) (by omega)
  have hd : dcn l k = dcn l k := rfl
  conv at hd => rhs; unfold dcn
  by_cases c4 : dnx l k 6 = 4
  · rw [if_pos c4] at hd
    refine FncM.intro m_canon_ok (by simp) fun W S b0 hb0 => ?_
    unfold m_canon
    simp only [ents, Nat.zero_add, Nat.reduceAdd]
    refine zst ?_
    (first | apply st_callMD (next_fn l k 6 hk (by omega)) rfl | apply evw_callM (next_fn l k 6 hk (by omega)) rfl)
    · (simp only [go_sem]; rfl)
    · rfl
    · (first | rfl | (simp only [go_sem]; done))
    · (first | rfl | (simp only [go_sem]; done) | (simp only [go_sem]; rfl))
    · (first | rfl | (simp only [go_sem]; done))
    · (first | rfl | (simp only [go_sem]; done) | (simp only [go_sem]; rfl))
    · (first | rfl | simp [V.pureT, V.pure, V.pures, pures_lo, pures_sls])
    (first | refine ev_all (fu := [(), (), (), (), (), (), (), ()]) ?_ | refine evw_all (md := []) (fu := [(), (), (), (), (), (), (), ()]) ?_); refine zev ?_
    refine zst ?_
    (first | refine callD (total84_fn) ?_ | refine callDw (total84_fn) ?_); simp only [go_sem]
    refine zst ?_
    (first | apply st_callMD (next_fn l (dkx l k) 12 hk1 (by omega)) rfl | apply evw_callM (next_fn l (dkx l k) 12 hk1 (by omega)) rfl)
    · (simp only [go_sem]; rfl)
    · rfl
    · (first | rfl | (simp only [go_sem]; done))
    · (first | rfl | (simp only [go_sem]; done) | (simp only [go_sem]; rfl))
    · (first | rfl | (simp only [go_sem]; done))
    · (first | rfl | (simp only [go_sem]; done) | (simp only [go_sem]; rfl))
    · (first | rfl | simp [V.pureT, V.pure, V.pures, pures_lo, pures_sls])
    (first | refine ev_all (fu := [(), (), (), (), (), (), (), ()]) ?_ | refine evw_all (md := []) (fu := [(), (), (), (), (), (), (), ()]) ?_); refine zev ?_
    refine zst ?_
    (first | refine callD (at84_fn _ h1 h2) ?_ | refine callDw (at84_fn _ h1 h2) ?_); simp only [go_sem]
    refine zst ?_
    apply st_returnM hb0 m_canon_ok []
    · (simp only [go_sem]; rfl)
    · (first | exact trivial | (simp; done))
    · (first | (simp [outOk]; done) | exact outOk1 rfl)
    · (simp only [go_sem]; (first | done | trivial | simp [V.resOk, V.ressOk, rowV, V.pures, V.pure, pures_appE, pures_lo, pures_sls]))
    · (first | (simp only [V.res, V.ress, rowV, List.idxOf?_nil, List.idxOf?_cons, List.getElem?_cons_zero, List.getElem?_cons_succ]; first | rfl | (simp only [go_sem]; rfl)) | rfl)
    · (first | (simp only [go_sem]; rfl) | rfl)
    · rfl
    · (simp only [go_sem]; (first | done | rfl))
    ((try dsimp only); (repeat' (refine And.intro ?_ ?_)) <;> first | with_reducible rfl | (simp only [go_sem]; done) | (simp only [go_sem]; rfl) | (simp only [go_sem, hd]; done) | (simp only [hd]; (try simp only [go_sem]); first | done | rfl) | (simp only [go_sem]; simp [hd]; done) | (simp [hd]; done) | rfl)
  by_cases c5 : dnx l k 6 = 5
  · rw [if_neg c4, if_pos c5] at hd
    refine FncM.intro m_canon_ok (by simp) fun W S b0 hb0 => ?_
    unfold m_canon
    simp only [ents, Nat.zero_add, Nat.reduceAdd]
    refine zst ?_
    (first | apply st_callMD (next_fn l k 6 hk (by omega)) rfl | apply evw_callM (next_fn l k 6 hk (by omega)) rfl)
    · (simp only [go_sem]; rfl)
    · rfl
    · (first | rfl | (simp only [go_sem]; done))
    · (first | rfl | (simp only [go_sem]; done) | (simp only [go_sem]; rfl))
    · (first | rfl | (simp only [go_sem]; done))
    · (first | rfl | (simp only [go_sem]; done) | (simp only [go_sem]; rfl))
    · (first | rfl | simp [V.pureT, V.pure, V.pures, pures_lo, pures_sls])
    (first | refine ev_all (fu := [(), (), (), (), (), (), (), ()]) ?_ | refine evw_all (md := []) (fu := [(), (), (), (), (), (), (), ()]) ?_); refine zev ?_
    refine zst ?_
    (first | apply st_callMD (next_fn l (dkx l k) 10 hk1 (by omega)) rfl | apply evw_callM (next_fn l (dkx l k) 10 hk1 (by omega)) rfl)
    · (simp only [go_sem]; rfl)
    · rfl
    · (first | rfl | (simp only [go_sem]; done))
    · (first | rfl | (simp only [go_sem]; done) | (simp only [go_sem]; rfl))
    · (first | rfl | (simp only [go_sem]; done))
    · (first | rfl | (simp only [go_sem]; done) | (simp only [go_sem]; rfl))
    · (first | rfl | simp [V.pureT, V.pure, V.pures, pures_lo, pures_sls])
    (first | refine ev_all (fu := [(), (), (), (), (), (), (), ()]) ?_ | refine evw_all (md := []) (fu := [(), (), (), (), (), (), (), ()]) ?_); refine zev ?_
    refine zst ?_
    apply st_returnM hb0 m_canon_ok []
    · (simp only [go_sem]; rfl)
    · (first | exact trivial | (simp; done))
    · (first | (simp [outOk]; done) | exact outOk1 rfl)
    · (simp only [go_sem]; (first | done | trivial | simp [V.resOk, V.ressOk, rowV, V.pures, V.pure, pures_appE, pures_lo, pures_sls]))
    · (first | (simp only [V.res, V.ress, rowV, List.idxOf?_nil, List.idxOf?_cons, List.getElem?_cons_zero, List.getElem?_cons_succ]; first | rfl | (simp only [go_sem]; rfl)) | rfl)
    · (first | (simp only [go_sem]; rfl) | rfl)
    · rfl
    · (simp only [go_sem]; (first | done | rfl))
    ((try dsimp only); (repeat' (refine And.intro ?_ ?_)) <;> first | with_reducible rfl | (simp only [go_sem]; done) | (simp only [go_sem]; rfl) | (simp only [go_sem, hd]; done) | (simp only [hd]; (try simp only [go_sem]); first | done | rfl) | (simp only [go_sem]; simp [hd]; done) | (simp [hd]; done) | rfl)
  · rw [if_neg c4, if_neg c5] at hd
    refine FncM.intro m_canon_ok (by simp) fun W S b0 hb0 => ?_
    unfold m_canon
    simp only [ents, Nat.zero_add, Nat.reduceAdd]
    refine zst ?_
    (first | apply st_callMD (next_fn l k 6 hk (by omega)) rfl | apply evw_callM (next_fn l k 6 hk (by omega)) rfl)
    · (simp only [go_sem]; rfl)
    · rfl
    · (first | rfl | (simp only [go_sem]; done))
    · (first | rfl | (simp only [go_sem]; done) | (simp only [go_sem]; rfl))
    · (first | rfl | (simp only [go_sem]; done))
    · (first | rfl | (simp only [go_sem]; done) | (simp only [go_sem]; rfl))
    · (first | rfl | simp [V.pureT, V.pure, V.pures, pures_lo, pures_sls])
    (first | refine ev_all (fu := [(), (), (), (), (), (), (), ()]) ?_ | refine evw_all (md := []) (fu := [(), (), (), (), (), (), (), ()]) ?_); refine zev ?_
    refine zst ?_
    (first | apply st_callMD (word_fn l (dkx l k) hk1) rfl | apply evw_callM (word_fn l (dkx l k) hk1) rfl)
    · (simp only [go_sem]; rfl)
    · rfl
    · (first | rfl | (simp only [go_sem]; done))
    · (first | rfl | (simp only [go_sem]; done) | (simp only [go_sem]; rfl))
    · (first | rfl | (simp only [go_sem]; done))
    · (first | rfl | (simp only [go_sem]; done) | (simp only [go_sem]; rfl))
    · (first | rfl | simp [V.pureT, V.pure, V.pures, pures_lo, pures_sls])
    (first | refine ev_all (fu := [(), (), (), (), (), (), (), ()]) ?_ | refine evw_all (md := []) (fu := [(), (), (), (), (), (), (), ()]) ?_); refine zev ?_
    refine zst ?_
    apply st_returnM hb0 m_canon_ok []
    · (simp only [go_sem]; rfl)
    · (first | exact trivial | (simp; done))
    · (first | (simp [outOk]; done) | exact outOk1 rfl)
    · (simp only [go_sem]; (first | done | trivial | simp [V.resOk, V.ressOk, rowV, V.pures, V.pure, pures_appE, pures_lo, pures_sls]))
    · (first | (simp only [V.res, V.ress, rowV, List.idxOf?_nil, List.idxOf?_cons, List.getElem?_cons_zero, List.getElem?_cons_succ]; first | rfl | (simp only [go_sem]; rfl)) | rfl)
    · (first | (simp only [go_sem]; rfl) | rfl)
    · rfl
    · (simp only [go_sem]; (first | done | rfl))
    ((try dsimp only); (repeat' (refine And.intro ?_ ?_)) <;> first | with_reducible rfl | (simp only [go_sem]; done) | (simp only [go_sem]; rfl) | (simp only [go_sem, hd]; done) | (simp only [hd]; (try simp only [go_sem]); first | done | rfl) | (simp only [go_sem]; simp [hd]; done) | (simp [hd]; done) | rfl)
/-- A canonical cell, now and then a wild one. -/
def dc1 (l : List Int) (k : Nat) : Canon × Nat :=
  if dnx l (dcn l k).2 12 = 0 then (⟨1, 0, -1, dnx l (dkx l (dcn l k).2) 65536⟩, dkx l (dkx l (dcn l k).2)) else ((dcn l k).1, dkx l (dcn l k).2)
theorem dc1_le {l : List Int} (k : Nat) (h : k ≤ l.length) : (dc1 l k).2 ≤ l.length := by
  have h3 := dkx_le (dcn_le k h)
  unfold dc1
  split
  · exact dkx_le h3
  · exact h3
def dcs (l : List Int) (k : Nat) (n : Int) : List Canon × Nat := drw (dc1 l) (dkx l k) (dnx l k (n + 1)).toNat
theorem dcs_le {l : List Int} {k : Nat} (hk : k ≤ l.length) (n : Int) : (dcs l k n).2 ≤ l.length := drw_le (f := dc1 l) (m := l.length) dc1_le (dkx_le hk) _
theorem dcs_len {l : List Int} {k : Nat} {n : Int} (hn : 0 ≤ n) : (dcs l k n).1.length ≤ n.toNat := by
  have h2 := dnx_lt (l := l) (k := k) (n := n + 1) (by omega)
  rw [dcs, drw_len]
  omega
set_option maxHeartbeats 4000000 in
theorem canons_fn (l : List Int) (k : Nat) (n : Int) (hk : k ≤ l.length) (hn : 0 ≤ n) (hn' : n ≤ 1000000) : FncM Try.prog 18 66 (deckV l k) [.int .i64 n] (fun x obs c => x = .own 0 0 ∧ obs = [⟨.row 71, true, 0, .arr 4 ((dcs l k n).1.map canonV)⟩] ∧ c = deckV l (dcs l k n).2) := by
  refine FncM.low ?_
  have h1 := dnx_ge (l := l) (k := k) (n := n + 1) (by omega)
  have h2 := dnx_lt (l := l) (k := k) (n := n + 1) (by omega)
  refine FncM.intro m_canons_ok (by simp) fun W S b0 hb0 => ?_
  unfold m_canons
  simp only [ents, Nat.zero_add, Nat.reduceAdd]
  refine zst ?_
  (first | apply st_callMD (next_fn l k (n + 1) hk (by omega)) rfl | apply evw_callM (next_fn l k (n + 1) hk (by omega)) rfl)
  · (simp only [go_sem]; rfl)
  · rfl
  · (first | rfl | (simp only [go_sem]; done))
  · (first | rfl | (simp only [go_sem]; done) | (simp only [go_sem]; rfl))
  · (first | rfl | (simp only [go_sem]; done))
  · (first | rfl | (simp only [go_sem]; done) | (simp only [go_sem]; rfl))
  · (first | rfl | simp [V.pureT, V.pure, V.pures, pures_lo, pures_sls])
  (first | refine ev_all (fu := [(), (), (), (), (), (), (), ()]) ?_ | refine evw_all (md := []) (fu := [(), (), (), (), (), (), (), ()]) ?_); refine zev ?_
  refine zst ?_
  refine ev_adopt (i := 5) (e := 71) (s := 4) rfl (by decide) ?_
  refine ev_loopK [0] (fun p : {p : Nat // p ≤ (dnx l k (n + 1)).toNat} => [(5, .own 1 p.1), (6, .int .i64 (dnx l k (n + 1) - p.1))]) (fun p => [⟨.box true 66, true, 0, deckV l (drw (dc1 l) (dkx l k) p.1).2⟩, ⟨.row 71, true, p.1, .arr 4 ((drw (dc1 l) (dkx l k) p.1).1.map canonV)⟩]) (fun p => (dnx l k (n + 1)).toNat - p.1) (⟨0, by simp⟩) 2 (by simp only [go_sem]; rfl) ?_ (by first | rfl | (simp only [go_sem]; done) | (simp only [go_sem]; simp [drw]; done)) (by simp) (by first | rfl | (simp only [go_sem]; done)) (by first | rfl | (simp only [go_sem]; done)) (by first | rfl | (simp only [go_sem]; done) | (simp only [drw]; (try simp only [go_sem]); first | done | rfl)) ?_
  · (simp only [go_sem]; (try simp [drw]); done)
  intro J hJ
  rintro ⟨i, hi⟩
  have hp := drw_le (f := dc1 l) (m := l.length) dc1_le (dkx_le hk) i
  have hlen := drw_len (dc1 l) (dkx l k) i
  by_cases hlt : i < (dnx l k (n + 1)).toNat
  · skip
    generalize hq : drw (dc1 l) (dkx l k) i = q at hp hlen
    have hd : drw (dc1 l) (dkx l k) (i + 1) = (q.1 ++ [(dc1 l q.2).1], (dc1 l q.2).2) := by rw [drw, hq]
    have e1 := dcn_le q.2 hp
    by_cases h9 : dnx l (dcn l q.2).2 12 = 0
    · skip
      refine zst ?_
      refine evr_calmC ?_; (refine zev ?_)
      apply st_callMD (canon_fn l q.2 hp) rfl
      · (simp only [go_sem]; rfl)
      · rfl
      · (first | rfl | (simp only [go_sem]; done))
      · (first | rfl | (simp only [go_sem]; done) | (simp only [go_sem]; rfl))
      · (first | rfl | (simp only [go_sem]; done))
      · (first | rfl | (simp only [go_sem]; done) | (simp only [go_sem]; rfl))
      · (first | rfl | simp [V.pureT, V.pure, V.pures, pures_lo, pures_sls])
      (first | refine ev_all (fu := [(), (), (), (), (), (), (), ()]) ?_ | refine evw_all (md := []) (fu := [(), (), (), (), (), (), (), ()]) ?_); refine zev ?_
      refine zst ?_
      (first | apply st_callMD (next_fn l _ 12 e1 (by omega)) rfl | apply evw_callM (next_fn l _ 12 e1 (by omega)) rfl)
      · (simp only [go_sem]; rfl)
      · rfl
      · (first | rfl | (simp only [go_sem]; done))
      · (first | rfl | (simp only [go_sem]; done) | (simp only [go_sem]; rfl))
      · (first | rfl | (simp only [go_sem]; done))
      · (first | rfl | (simp only [go_sem]; done) | (simp only [go_sem]; rfl))
      · (first | rfl | simp [V.pureT, V.pure, V.pures, pures_lo, pures_sls])
      (first | refine ev_all (fu := [(), (), (), (), (), (), (), ()]) ?_ | refine evw_all (md := []) (fu := [(), (), (), (), (), (), (), ()]) ?_); refine zev ?_
      refine zst ?_
      (first | apply st_callMD (next_fn l _ 65536 (dkx_le e1) (by omega)) rfl | apply evw_callM (next_fn l _ 65536 (dkx_le e1) (by omega)) rfl)
      · (simp only [go_sem]; rfl)
      · rfl
      · (first | rfl | (simp only [go_sem]; done))
      · (first | rfl | (simp only [go_sem]; done) | (simp only [go_sem]; rfl))
      · (first | rfl | (simp only [go_sem]; done))
      · (first | rfl | (simp only [go_sem]; done) | (simp only [go_sem]; rfl))
      · (first | rfl | simp [V.pureT, V.pure, V.pures, pures_lo, pures_sls])
      (first | refine ev_all (fu := [(), (), (), (), (), (), (), ()]) ?_ | refine evw_all (md := []) (fu := [(), (), (), (), (), (), (), ()]) ?_); refine zev ?_
      refine zst ?_
      refine ev_next 2 (hJ _ (⟨i + 1, hlt⟩) (by first | omega | (dsimp only; omega) | (simp; omega))) rfl (by simp) ?_ (by first | rfl | (simp only [go_sem]; done)) (by first | rfl | (simp only [go_sem]; done) | (simp only [hd, dc1, if_pos h9]; (try simp only [go_sem]); first | done | rfl)) ?_
      · (first | rfl | (simp only [go_sem]; done) | (simp only [go_sem]; simp only [hd, dc1, if_pos h9]; done) | (simp only [hd, dc1, if_pos h9]; done) | (simp only [go_sem]; simp [hd, dc1, if_pos h9]; done) | (simp [hd, dc1, if_pos h9]; done))
      · (simp only [go_sem]; (repeat' (refine And.intro ?_ ?_)) <;> first | exact trivial | with_reducible rfl | (simp only [hd, dc1, if_pos h9]; done) | (simp only [hd, dc1, if_pos h9]; with_reducible rfl) | (simp [hd, dc1, if_pos h9]; done) | (simp [hd, dc1, if_pos h9]; omega) | (simp only [hd, dc1, if_pos h9]; rfl) | skip)
    · skip
      refine zst ?_
      refine evr_calmC ?_; (refine zev ?_)
      apply st_callMD (canon_fn l q.2 hp) rfl
      · (simp only [go_sem]; rfl)
      · rfl
      · (first | rfl | (simp only [go_sem]; done))
      · (first | rfl | (simp only [go_sem]; done) | (simp only [go_sem]; rfl))
      · (first | rfl | (simp only [go_sem]; done))
      · (first | rfl | (simp only [go_sem]; done) | (simp only [go_sem]; rfl))
      · (first | rfl | simp [V.pureT, V.pure, V.pures, pures_lo, pures_sls])
      (first | refine ev_all (fu := [(), (), (), (), (), (), (), ()]) ?_ | refine evw_all (md := []) (fu := [(), (), (), (), (), (), (), ()]) ?_); refine zev ?_
      refine zst ?_
      (first | apply st_callMD (next_fn l _ 12 e1 (by omega)) rfl | apply evw_callM (next_fn l _ 12 e1 (by omega)) rfl)
      · (simp only [go_sem]; rfl)
      · rfl
      · (first | rfl | (simp only [go_sem]; done))
      · (first | rfl | (simp only [go_sem]; done) | (simp only [go_sem]; rfl))
      · (first | rfl | (simp only [go_sem]; done))
      · (first | rfl | (simp only [go_sem]; done) | (simp only [go_sem]; rfl))
      · (first | rfl | simp [V.pureT, V.pure, V.pures, pures_lo, pures_sls])
      (first | refine ev_all (fu := [(), (), (), (), (), (), (), ()]) ?_ | refine evw_all (md := []) (fu := [(), (), (), (), (), (), (), ()]) ?_); refine zev ?_
      refine zst ?_
      refine ev_next 2 (hJ _ (⟨i + 1, hlt⟩) (by first | omega | (dsimp only; omega) | (simp; omega))) rfl (by simp) ?_ (by first | rfl | (simp only [go_sem]; done)) (by first | rfl | (simp only [go_sem]; done) | (simp only [hd, dc1, if_neg h9]; (try simp only [go_sem]); first | done | rfl)) ?_
      · (first | rfl | (simp only [go_sem]; done) | (simp only [go_sem]; simp only [hd, dc1, if_neg h9]; done) | (simp only [hd, dc1, if_neg h9]; done) | (simp only [go_sem]; simp [hd, dc1, if_neg h9]; done) | (simp [hd, dc1, if_neg h9]; done))
      · (simp only [go_sem]; (repeat' (refine And.intro ?_ ?_)) <;> first | exact trivial | with_reducible rfl | (simp only [hd, dc1, if_neg h9]; done) | (simp only [hd, dc1, if_neg h9]; with_reducible rfl) | (simp [hd, dc1, if_neg h9]; done) | (simp [hd, dc1, if_neg h9]; omega) | (simp only [hd, dc1, if_neg h9]; rfl) | skip)
  · obtain rfl : i = (dnx l k (n + 1)).toNat := by omega
    refine zst ?_
    apply st_returnM hb0 m_canons_ok [1]
    · (simp only [go_sem]; rfl)
    · (first | exact trivial | (simp; done))
    · (first | (simp [outOk]; done) | exact outOk1 rfl)
    · (simp only [go_sem]; (first | done | trivial | simp [V.resOk, V.ressOk, rowV, V.pures, V.pure, pures_appE, pures_lo, pures_sls]))
    · (first | (simp only [V.res, V.ress, rowV, List.idxOf?_nil, List.idxOf?_cons, List.getElem?_cons_zero, List.getElem?_cons_succ]; first | rfl | (simp only [go_sem]; rfl)) | rfl)
    · (first | (simp only [go_sem]; rfl) | rfl)
    · rfl
    · (simp only [go_sem]; (first | done | rfl))
    ((try dsimp only); (repeat' (refine And.intro ?_ ?_)) <;> first | with_reducible rfl | (simp only [go_sem]; done) | (simp only [go_sem]; rfl) | (simp only [go_sem, dcs]; done) | (simp only [dcs]; (try simp only [go_sem]); first | done | rfl) | (simp only [go_sem]; simp [dcs]; done) | (simp [dcs]; done) | rfl)
end Go.Proofs.Ytanmcjkpdkmhfaa
