/- Pages: which there are. -/
import Derived.Test.YtcphobeommkgeaaP1
import Derived.Test.YtcphobeommkgeaaZt
import Derived.Test.YtcphobeommkgeaaF1
import Derived.Test.YtcphobeommkgeaaFnd
namespace Go.Proofs.Ytcphobeommkgeaa
open Go Go.RowKit Rdn Rdn.Dp
set_option linter.unusedVariables false
set_option linter.unusedSimpArgs false
def m_szd : MC := .seq (.reg [⟨(some 2), none, (.p (.mov (.c (.bool false))))⟩])
 (.seq (.reg [⟨(some 3), none, (.p (.mov (.t 0)))⟩, ⟨(some 4), none, (.p (.bin 0 .geq (.t 3) (.c (.int .i64 1))))⟩, ⟨(some 5), none, (.p (.mov (.t 4)))⟩, ⟨(some 6), (some (5, true)), (.p (.mov (.t 0)))⟩, ⟨(some 7), (some (5, true)), (.p (.bin 0 .leq (.t 6) (.c (.int .i64 32))))⟩, ⟨(some 8), none, (.p (.pick (.t 5) (.t 7) (.c (.bool false))))⟩, ⟨(some 2), none, (.p (.mov (.t 8)))⟩])
 (.ret))
theorem m_szd_ok : compF Try.prog 81 = some (9, m_szd, [.mov (.t 2)]) := by kernel_rfl
def m_sh1 : MC := .seq (.reg [⟨(some 2), none, (.p (.mov (.c (.bool false))))⟩])
 (.seq (.reg [⟨(some 3), none, (.p (.mov (.t 0)))⟩, ⟨(some 4), none, (.p (.len (.t 3)))⟩, ⟨(some 5), none, (.call 81 [(.t 4)])⟩, ⟨(some 6), none, (.p (.un .not (.t 5)))⟩, ⟨(some 2), none, (.p (.mov (.t 6)))⟩])
 (.ret))
theorem m_sh1_ok : compF Try.prog 95 = some (7, m_sh1, [.mov (.t 2)]) := by kernel_rfl
def m_ixr : MC := .seq (.reg [⟨(some 4), none, (.p (.mov (.c (.int .i64 0))))⟩])
 (.seq (.seq (.reg [⟨(some 6), none, (.p (.mov (.t 0)))⟩, ⟨(some 7), none, (.p (.len (.t 6)))⟩, ⟨(some 8), none, (.p (.mov (.c (.int .i64 0))))⟩])
 (.block 0 (.loop (.seq (.reg [⟨(some 9), none, (.p (.bin 0 .lss (.t 8) (.t 7)))⟩])
 (.seq (.cond (.t 9) (.skip) (.exit 0))
 (.seq (.block 1 (.seq (.reg [⟨(some 10), none, (.p (.mov (.t 8)))⟩, ⟨(some 5), none, (.p (.mov (.t 10)))⟩])
 (.seq (.reg [⟨(some 11), none, (.p (.mov (.t 1)))⟩, ⟨(some 12), none, (.p (.mov (.t 0)))⟩, ⟨(some 13), none, (.p (.mov (.t 5)))⟩, ⟨(some 14), none, (.p (.idxA 1 (.t 12) (.t 13)))⟩, ⟨(some 15), none, (.p (.load false 1 (.t 14)))⟩, ⟨(some 16), none, (.callv (.t 11) [(.t 15)])⟩])
 (.cond (.t 16) (.seq (.reg [⟨(some 17), none, (.p (.mov (.t 5)))⟩, ⟨(some 4), none, (.p (.mov (.t 17)))⟩])
 (.ret)) (.skip)))))
 (.reg [⟨(some 18), none, (.p (.bin 0 .add (.t 8) (.c (.int .i64 1))))⟩, ⟨(some 8), none, (.p (.mov (.t 18)))⟩])))))))
 (.seq (.reg [⟨(some 4), none, (.p (.mov (.c (.int .i64 (-1)))))⟩])
 (.ret)))
theorem m_ixr_ok : compF Try.prog 111 = some (19, m_ixr, [.mov (.t 4)]) := by kernel_rfl
def m_cor : MC := .seq (.reg [⟨(some 4), none, (.p (.mov (.c (.bool false))))⟩])
 (.seq (.reg [⟨(some 5), none, (.p (.mov (.t 0)))⟩, ⟨(some 6), none, (.p (.mov (.t 1)))⟩, ⟨(some 7), none, (.call 111 [(.t 5), (.t 6)])⟩, ⟨(some 8), none, (.p (.bin 0 .geq (.t 7) (.c (.int .i64 0))))⟩, ⟨(some 4), none, (.p (.mov (.t 8)))⟩])
 (.ret))
theorem m_cor_ok : compF Try.prog 94 = some (9, m_cor, [.mov (.t 4)]) := by kernel_rfl
def m_shaped : MC := .seq (.reg [⟨(some 1), none, (.m (.box 30 (.t 0)))⟩, ⟨(some 2), none, (.p (.mov (.c (.bool false))))⟩])
 (.seq (.reg [⟨(some 3), none, (.p (.fieldA 0 0 (.t 1)))⟩, ⟨(some 4), none, (.p (.load false 1 (.t 3)))⟩, ⟨(some 5), none, (.p (.len (.t 4)))⟩, ⟨(some 6), none, (.p (.bin 0 .leq (.t 5) (.c (.int .i64 4))))⟩, ⟨(some 7), none, (.p (.mov (.t 6)))⟩, ⟨(some 8), (some (7, true)), (.p (.fieldA 1 1 (.t 1)))⟩, ⟨(some 9), (some (7, true)), (.p (.load false 1 (.t 8)))⟩, ⟨(some 10), (some (7, true)), (.p (.len (.t 9)))⟩, ⟨(some 11), (some (7, true)), (.p (.bin 0 .leq (.t 10) (.c (.int .i64 4))))⟩, ⟨(some 12), none, (.p (.pick (.t 7) (.t 11) (.c (.bool false))))⟩, ⟨(some 13), none, (.p (.mov (.t 12)))⟩, ⟨(some 14), (some (13, true)), (.p (.fieldA 0 0 (.t 1)))⟩, ⟨(some 15), (some (13, true)), (.p (.load false 1 (.t 14)))⟩, ⟨(some 16), (some (13, true)), (.call 94 [(.t 15), (.c (.fn 95))])⟩, ⟨(some 17), (some (13, true)), (.p (.un .not (.t 16)))⟩, ⟨(some 18), none, (.p (.pick (.t 13) (.t 17) (.c (.bool false))))⟩, ⟨(some 2), none, (.p (.mov (.t 18)))⟩])
 (.ret))
theorem m_shaped_ok : compF Try.prog 57 = some (19, m_shaped, [.mov (.t 2)]) := by kernel_rfl
def m_li1 : MC := .seq (.reg [⟨(some 2), none, (.p (.mov (.c (.bool false))))⟩])
 (.seq (.reg [⟨(some 3), none, (.p (.mov (.t 0)))⟩, ⟨(some 4), none, (.call 81 [(.t 3)])⟩, ⟨(some 5), none, (.p (.un .not (.t 4)))⟩, ⟨(some 2), none, (.p (.mov (.t 5)))⟩])
 (.ret))
theorem m_li1_ok : compF Try.prog 80 = some (6, m_li1, [.mov (.t 2)]) := by kernel_rfl
def m_ixi : MC := .seq (.reg [⟨(some 4), none, (.p (.mov (.c (.int .i64 0))))⟩])
 (.seq (.seq (.reg [⟨(some 6), none, (.p (.mov (.t 0)))⟩, ⟨(some 7), none, (.p (.len (.t 6)))⟩, ⟨(some 8), none, (.p (.mov (.c (.int .i64 0))))⟩])
 (.block 0 (.loop (.seq (.reg [⟨(some 9), none, (.p (.bin 0 .lss (.t 8) (.t 7)))⟩])
 (.seq (.cond (.t 9) (.skip) (.exit 0))
 (.seq (.block 1 (.seq (.reg [⟨(some 10), none, (.p (.mov (.t 8)))⟩, ⟨(some 5), none, (.p (.mov (.t 10)))⟩])
 (.seq (.reg [⟨(some 11), none, (.p (.mov (.t 1)))⟩, ⟨(some 12), none, (.p (.mov (.t 0)))⟩, ⟨(some 13), none, (.p (.mov (.t 5)))⟩, ⟨(some 14), none, (.p (.idxA 1 (.t 12) (.t 13)))⟩, ⟨(some 15), none, (.p (.load false 1 (.t 14)))⟩, ⟨(some 16), none, (.callv (.t 11) [(.t 15)])⟩])
 (.cond (.t 16) (.seq (.reg [⟨(some 17), none, (.p (.mov (.t 5)))⟩, ⟨(some 4), none, (.p (.mov (.t 17)))⟩])
 (.ret)) (.skip)))))
 (.reg [⟨(some 18), none, (.p (.bin 0 .add (.t 8) (.c (.int .i64 1))))⟩, ⟨(some 8), none, (.p (.mov (.t 18)))⟩])))))))
 (.seq (.reg [⟨(some 4), none, (.p (.mov (.c (.int .i64 (-1)))))⟩])
 (.ret)))
theorem m_ixi_ok : compF Try.prog 102 = some (19, m_ixi, [.mov (.t 4)]) := by kernel_rfl
def m_coi : MC := .seq (.reg [⟨(some 4), none, (.p (.mov (.c (.bool false))))⟩])
 (.seq (.reg [⟨(some 5), none, (.p (.mov (.t 0)))⟩, ⟨(some 6), none, (.p (.mov (.t 1)))⟩, ⟨(some 7), none, (.call 102 [(.t 5), (.t 6)])⟩, ⟨(some 8), none, (.p (.bin 0 .geq (.t 7) (.c (.int .i64 0))))⟩, ⟨(some 4), none, (.p (.mov (.t 8)))⟩])
 (.ret))
theorem m_coi_ok : compF Try.prog 79 = some (9, m_coi, [.mov (.t 4)]) := by kernel_rfl
def m_plist : MC := .seq (.reg [⟨(some 4), none, (.p (.mov (.c (.nilS))))⟩, ⟨(some 5), none, (.p (.mov (.c (.int .i64 0))))⟩])
 (.seq (.seq (.reg [⟨(some 11), none, (.p (.mov (.t 0)))⟩, ⟨(some 12), none, (.p (.len (.t 11)))⟩, ⟨(some 13), none, (.p (.bin 0 .gtr (.t 12) (.c (.int .i64 4))))⟩, ⟨(some 14), none, (.p (.mov (.t 13)))⟩, ⟨(some 15), (some (14, false)), (.p (.mov (.t 1)))⟩, ⟨(some 16), (some (14, false)), (.p (.bin 0 .gtr (.t 15) (.c (.int .i64 4))))⟩, ⟨(some 17), none, (.p (.pick (.t 14) (.c (.bool true)) (.t 16)))⟩])
 (.cond (.t 17) (.seq (.reg [⟨(some 4), none, (.p (.mov (.c (.nilS))))⟩, ⟨(some 5), none, (.p (.mov (.c (.int .i64 3))))⟩])
 (.ret)) (.skip)))
 (.seq (.seq (.reg [⟨(some 18), none, (.p (.mov (.t 1)))⟩, ⟨(some 19), none, (.p (.bin 0 .lss (.t 18) (.c (.int .i64 0))))⟩, ⟨(some 20), none, (.p (.mov (.t 19)))⟩, ⟨(some 21), (some (20, false)), (.p (.mov (.t 0)))⟩, ⟨(some 22), (some (20, false)), (.call 79 [(.t 21), (.c (.fn 80))])⟩, ⟨(some 23), none, (.p (.pick (.t 20) (.c (.bool true)) (.t 22)))⟩])
 (.cond (.t 23) (.seq (.reg [⟨(some 4), none, (.p (.mov (.c (.nilS))))⟩, ⟨(some 5), none, (.p (.mov (.c (.int .i64 1))))⟩])
 (.ret)) (.skip)))
 (.seq (.reg [⟨(some 6), none, (.p (.mov (.c (.nilS))))⟩])
 (.seq (.seq (.reg [⟨(some 24), none, (.p (.mov (.t 0)))⟩, ⟨(some 25), none, (.p (.len (.t 24)))⟩, ⟨(some 26), none, (.p (.mov (.c (.int .i64 0))))⟩])
 (.block 0 (.loop (.seq (.reg [⟨(some 27), none, (.p (.bin 0 .lss (.t 26) (.t 25)))⟩])
 (.seq (.cond (.t 27) (.skip) (.exit 0))
 (.seq (.block 1 (.seq (.reg [⟨(some 28), none, (.p (.mov (.t 26)))⟩, ⟨(some 29), none, (.p (.idxA 1 (.t 24) (.t 26)))⟩, ⟨(some 30), none, (.p (.load false 1 (.t 29)))⟩, ⟨(some 7), none, (.p (.mov (.t 28)))⟩, ⟨(some 8), none, (.p (.mov (.t 30)))⟩])
 (.seq (.reg [⟨(some 9), none, (.p (.mov (.c (.int .i64 0))))⟩])
 (.block 2 (.loop (.seq (.seq (.reg [⟨(some 31), none, (.p (.mov (.t 9)))⟩, ⟨(some 32), none, (.p (.bin 0 .mul (.t 31) (.c (.int .i64 8))))⟩, ⟨(some 33), none, (.p (.mov (.t 8)))⟩, ⟨(some 34), none, (.p (.bin 0 .lss (.t 32) (.t 33)))⟩])
 (.cond (.t 34) (.skip) (.exit 2)))
 (.seq (.block 3 (.reg [⟨(some 37), none, (.p (.mov (.t 6)))⟩, ⟨(some 38), none, (.p (.mov (.t 7)))⟩, ⟨(some 39), none, (.p (.mov (.t 9)))⟩, ⟨(some 40), none, (.m (.build none [.int .i64 0, .int .i64 0] [(0, (.t 38)), (1, (.t 39))]))⟩, ⟨(some 41), none, (.m (.buildS 39 2 (.agg [.int .i64 0, .int .i64 0]) 1 [(0, (.t 40))]))⟩, ⟨(some 42), none, (.m (.app 39 2 16 (.t 37) (.t 41)))⟩, ⟨(some 6), none, (.p (.mov (.t 42)))⟩]))
 (.reg [⟨(some 35), none, (.p (.mov (.t 9)))⟩, ⟨(some 36), none, (.p (.bin 0 .add (.t 35) (.c (.int .i64 1))))⟩, ⟨(some 9), none, (.p (.mov (.t 36)))⟩]))))))))
 (.reg [⟨(some 43), none, (.p (.bin 0 .add (.t 26) (.c (.int .i64 1))))⟩, ⟨(some 26), none, (.p (.mov (.t 43)))⟩])))))))
 (.seq (.seq (.reg [⟨(some 44), none, (.p (.mov (.t 1)))⟩, ⟨(some 45), none, (.p (.mov (.c (.int .i64 0))))⟩])
 (.block 4 (.loop (.seq (.reg [⟨(some 46), none, (.p (.bin 0 .lss (.t 45) (.t 44)))⟩])
 (.seq (.cond (.t 46) (.skip) (.exit 4))
 (.seq (.block 5 (.seq (.reg [⟨(some 47), none, (.p (.mov (.t 45)))⟩, ⟨(some 10), none, (.p (.mov (.t 47)))⟩])
 (.reg [⟨(some 48), none, (.p (.mov (.t 6)))⟩, ⟨(some 49), none, (.p (.mov (.t 10)))⟩, ⟨(some 50), none, (.m (.build none [.int .i64 0, .int .i64 0] [(0, (.c (.int .i64 (-1)))), (1, (.t 49))]))⟩, ⟨(some 51), none, (.m (.buildS 39 2 (.agg [.int .i64 0, .int .i64 0]) 1 [(0, (.t 50))]))⟩, ⟨(some 52), none, (.m (.app 39 2 16 (.t 48) (.t 51)))⟩, ⟨(some 6), none, (.p (.mov (.t 52)))⟩])))
 (.reg [⟨(some 53), none, (.p (.bin 0 .add (.t 45) (.c (.int .i64 1))))⟩, ⟨(some 45), none, (.p (.mov (.t 53)))⟩])))))))
 (.seq (.reg [⟨(some 54), none, (.p (.mov (.t 6)))⟩, ⟨(some 4), none, (.p (.mov (.t 54)))⟩, ⟨(some 5), none, (.p (.mov (.c (.int .i64 0))))⟩])
 (.ret)))))))
theorem m_plist_ok : compF Try.prog 39 = some (55, m_plist, [.mov (.t 4), .mov (.t 5)]) := by kernel_rfl
theorem snoc_pid (l : List PageID) (a b : Int) (r : List V) : l.map pidV ++ (V.agg [.int .i64 a, .int .i64 b] :: r) = (l ++ [(⟨a, b⟩ : PageID)]).map pidV ++ r := by simp
attribute [local go_sem] snoc_pid
def badZ (n : Int) : Bool := decide (n < 1 ∨ 32 < n)
theorem badZ_T {n : Int} (h : n < 1 ∨ 32 < n) : badZ n = true := decT h
theorem badZ_F {n : Int} (h : ¬ (n < 1 ∨ 32 < n)) : badZ n = false := decF h
def badL (l : List Canon) : Bool := badZ l.length
attribute [local irreducible] badZ
set_option maxHeartbeats 4000000 in
theorem szd_fn (n : Int) : Fnc Try.prog 81 [.int .i64 n] (fun x obs => x = .bool (!badZ n) ∧ obs = []) := by
  by_cases c : 1 ≤ n
  · by_cases c2 : n ≤ 32
    · rw [badZ_F (by omega)]
      refine Fnc.intro m_szd_ok (by simp) fun W S => ?_
      unfold m_szd
      simp only [ents, Nat.zero_add, Nat.reduceAdd]
      refine zst ?_
      refine ret m_szd_ok [] ?_; (first | (simp only [go_sem]; done) | (simp only [go_sem]; ((try dsimp only); (repeat' (refine And.intro ?_ ?_)) <;> first | with_reducible rfl | (simp only [go_sem]; done) | (simp only [go_sem]; rfl) | (simp only []; (try simp only [go_sem]); first | done | rfl) | (simp only [go_sem]; simp []; done) | (simp []; done) | rfl)))
    · rw [badZ_T (by omega)]
      refine Fnc.intro m_szd_ok (by simp) fun W S => ?_
      unfold m_szd
      simp only [ents, Nat.zero_add, Nat.reduceAdd]
      refine zst ?_
      refine ret m_szd_ok [] ?_; (first | (simp only [go_sem]; done) | (simp only [go_sem]; ((try dsimp only); (repeat' (refine And.intro ?_ ?_)) <;> first | with_reducible rfl | (simp only [go_sem]; done) | (simp only [go_sem]; rfl) | (simp only []; (try simp only [go_sem]); first | done | rfl) | (simp only [go_sem]; simp []; done) | (simp []; done) | rfl)))
  · rw [badZ_T (by omega)]
    refine Fnc.intro m_szd_ok (by simp) fun W S => ?_
    unfold m_szd
    simp only [ents, Nat.zero_add, Nat.reduceAdd]
    refine zst ?_
    refine ret m_szd_ok [] ?_; (first | (simp only [go_sem]; done) | (simp only [go_sem]; ((try dsimp only); (repeat' (refine And.intro ?_ ?_)) <;> first | with_reducible rfl | (simp only [go_sem]; done) | (simp only [go_sem]; rfl) | (simp only []; (try simp only [go_sem]); first | done | rfl) | (simp only [go_sem]; simp []; done) | (simp []; done) | rfl)))
set_option maxHeartbeats 4000000 in
theorem sh1_fn (l : List Canon) : Fnc Try.prog 95 [.sl false 4 (l.map canonV)] (fun x obs => x = .bool (badL l) ∧ obs = []) := by
  refine Fnc.intro m_sh1_ok (by simp) fun W S => ?_
  unfold m_sh1
  simp only [ents, Nat.zero_add, Nat.reduceAdd]
  refine zst ?_
  (first | refine callD (szd_fn l.length) ?_ | refine callDw (szd_fn l.length) ?_); simp only [go_sem]
  refine zst ?_
  refine ret m_sh1_ok [] ?_; (first | (simp only [go_sem]; done) | (simp only [go_sem]; ((try dsimp only); (repeat' (refine And.intro ?_ ?_)) <;> first | with_reducible rfl | (simp only [go_sem]; done) | (simp only [go_sem]; rfl) | (simp only [go_sem, badL, Bool.not_not]; done) | (simp only [badL, Bool.not_not]; (try simp only [go_sem]); first | done | rfl) | (simp only [go_sem]; simp [badL, Bool.not_not]; done) | (simp [badL, Bool.not_not]; done) | rfl)))
set_option maxHeartbeats 4000000 in
theorem ixr_fn (l : List (List Canon)) : Fnc Try.prog 111 [.sl false 1 (l.map (slV' false 4 canonV)), .fn 95] (fun x obs => x = .int .i64 (fnd badL l) ∧ obs = []) := by
  refine Fnc.wf fun hw => ?_
  have hm : l.length ≤ 140737488355328 := by
    have := hw.1
    simp only [V.wf, List.length_map] at this
    exact this.2
  clear hw
  refine Fnc.intro m_ixr_ok (by simp) fun W S => ?_
  unfold m_ixr
  simp only [ents, Nat.zero_add, Nat.reduceAdd]
  refine zst ?_
  refine ev_loopK [0, 1, 7] (fun p : {p : Nat // p ≤ l.length ∧ ∀ j, j < p → badL l[j]! = false} => [(8, .int .i64 p.1)]) (fun _ => []) (fun p => l.length - p.1) (⟨0, by simp⟩) 0 (by simp only [go_sem]; rfl) ?_ (by first | rfl | (simp only [go_sem]; done)) (by simp) (by first | rfl | (simp only [go_sem]; done)) (by first | rfl | (simp only [go_sem]; done)) (by first | rfl | (simp only [go_sem]; done)) ?_
  · (simp only [go_sem]; (try simp []); done)
  intro J hJ
  rintro ⟨k, hk0, hk1⟩
  by_cases hlt : k < l.length
  · have hc := sh1_fn l[k]!
    cases hb : badL l[k]! with
    | true =>
      rw [hb] at hc
      have hr := fnd_at (p := badL) hlt hk1 hb
      refine zst ?_
      refine callDv (hc) (by kernel_rfl) rfl ?_; simp only [go_sem]
      refine zst ?_
      refine ret m_ixr_ok [] ?_; (first | (simp only [go_sem]; done) | (simp only [go_sem]; ((try dsimp only); (repeat' (refine And.intro ?_ ?_)) <;> first | with_reducible rfl | (simp only [go_sem]; done) | (simp only [go_sem]; rfl) | (simp only [go_sem, hr]; done) | (simp only [hr]; (try simp only [go_sem]); first | done | rfl) | (simp only [go_sem]; simp [hr]; done) | (simp [hr]; done) | rfl)))
    | false =>
      rw [hb] at hc
      have hS : ∀ j, j < k + 1 → badL l[j]! = false := fun j hj => by
        by_cases e : j = k
        · subst e; exact hb
        · exact hk1 j (by omega)
      refine zst ?_
      refine callDv (hc) (by kernel_rfl) rfl ?_; simp only [go_sem]
      refine zst ?_
      refine ev_next 0 (hJ _ (⟨k + 1, hlt, hS⟩) (by first | omega | (dsimp only; omega) | (simp; omega))) rfl (by simp) ?_ (by first | rfl | (simp only [go_sem]; done)) (by first | rfl | (simp only [go_sem]; done) | (simp only [hlt]; (try simp only [go_sem]); first | done | rfl)) ?_
      · (first | rfl | (simp only [go_sem]; done) | (simp only [go_sem]; simp only [hlt]; done) | (simp only [hlt]; done) | (simp only [go_sem]; simp [hlt]; done) | (simp [hlt]; done))
      · (simp only [go_sem]; (repeat' (refine And.intro ?_ ?_)) <;> first | exact trivial | with_reducible rfl | (simp only [hlt]; done) | (simp only [hlt]; with_reducible rfl) | (simp [hlt]; done) | (simp [hlt]; omega) | (simp only [hlt]; rfl) | skip)
  · obtain rfl : k = l.length := by omega
    have hr := fnd_no (p := badL) hk1
    refine zst ?_
    refine ret m_ixr_ok [] ?_; (first | (simp only [go_sem]; done) | (simp only [go_sem]; ((try dsimp only); (repeat' (refine And.intro ?_ ?_)) <;> first | with_reducible rfl | (simp only [go_sem]; done) | (simp only [go_sem]; rfl) | (simp only [go_sem, hr]; done) | (simp only [hr]; (try simp only [go_sem]); first | done | rfl) | (simp only [go_sem]; simp [hr]; done) | (simp [hr]; done) | rfl)))
set_option maxHeartbeats 4000000 in
theorem cor_fn (l : List (List Canon)) : Fnc Try.prog 94 [.sl false 1 (l.map (slV' false 4 canonV)), .fn 95] (fun x obs => x = .bool (l.any badL) ∧ obs = []) := by
  have hr := fnd_ge badL l
  refine Fnc.intro m_cor_ok (by simp) fun W S => ?_
  unfold m_cor
  simp only [ents, Nat.zero_add, Nat.reduceAdd]
  refine zst ?_
  (first | refine callD (ixr_fn l) ?_ | refine callDw (ixr_fn l) ?_); simp only [go_sem]
  refine zst ?_
  refine ret m_cor_ok [] ?_; (first | (simp only [go_sem]; done) | (simp only [go_sem]; ((try dsimp only); (repeat' (refine And.intro ?_ ?_)) <;> first | with_reducible rfl | (simp only [go_sem]; done) | (simp only [go_sem]; rfl) | (simp only [go_sem, hr]; done) | (simp only [hr]; (try simp only [go_sem]); first | done | rfl) | (simp only [go_sem]; simp [hr]; done) | (simp [hr]; done) | rfl)))
set_option maxHeartbeats 4000000 in
theorem li1_fn (n : Int) : Fnc Try.prog 80 [.int .i64 n] (fun x obs => x = .bool (badZ n) ∧ obs = []) := by
  refine Fnc.intro m_li1_ok (by simp) fun W S => ?_
  unfold m_li1
  simp only [ents, Nat.zero_add, Nat.reduceAdd]
  refine zst ?_
  (first | refine callD (szd_fn n) ?_ | refine callDw (szd_fn n) ?_); simp only [go_sem]
  refine zst ?_
  refine ret m_li1_ok [] ?_; (first | (simp only [go_sem]; done) | (simp only [go_sem]; ((try dsimp only); (repeat' (refine And.intro ?_ ?_)) <;> first | with_reducible rfl | (simp only [go_sem]; done) | (simp only [go_sem]; rfl) | (simp only [go_sem, Bool.not_not]; done) | (simp only [Bool.not_not]; (try simp only [go_sem]); first | done | rfl) | (simp only [go_sem]; simp [Bool.not_not]; done) | (simp [Bool.not_not]; done) | rfl)))
set_option maxHeartbeats 4000000 in
theorem ixi_fn (l : List Int) : Fnc Try.prog 102 [.sl false 1 (l.map (V.int .i64)), .fn 80] (fun x obs => x = .int .i64 (fnd badZ l) ∧ obs = []) := by
  refine Fnc.wf fun hw => ?_
  have hm : l.length ≤ 140737488355328 := by
    have := hw.1
    simp only [V.wf, List.length_map] at this
    exact this.2
  clear hw
  refine Fnc.intro m_ixi_ok (by simp) fun W S => ?_
  unfold m_ixi
  simp only [ents, Nat.zero_add, Nat.reduceAdd]
  refine zst ?_
  refine ev_loopK [0, 1, 7] (fun p : {p : Nat // p ≤ l.length ∧ ∀ j, j < p → badZ l[j]! = false} => [(8, .int .i64 p.1)]) (fun _ => []) (fun p => l.length - p.1) (⟨0, by simp⟩) 0 (by simp only [go_sem]; rfl) ?_ (by first | rfl | (simp only [go_sem]; done)) (by simp) (by first | rfl | (simp only [go_sem]; done)) (by first | rfl | (simp only [go_sem]; done)) (by first | rfl | (simp only [go_sem]; done)) ?_
  · (simp only [go_sem]; (try simp []); done)
  intro J hJ
  rintro ⟨k, hk0, hk1⟩
  by_cases hlt : k < l.length
  · have hc := li1_fn l[k]!
    cases hb : badZ l[k]! with
    | true =>
      rw [hb] at hc
      have hr := fnd_at (p := badZ) hlt hk1 hb
      refine zst ?_
      refine callDv (hc) (by kernel_rfl) rfl ?_; simp only [go_sem]
      refine zst ?_
      refine ret m_ixi_ok [] ?_; (first | (simp only [go_sem]; done) | (simp only [go_sem]; ((try dsimp only); (repeat' (refine And.intro ?_ ?_)) <;> first | with_reducible rfl | (simp only [go_sem]; done) | (simp only [go_sem]; rfl) | (simp only [go_sem, hr]; done) | (simp only [hr]; (try simp only [go_sem]); first | done | rfl) | (simp only [go_sem]; simp [hr]; done) | (simp [hr]; done) | rfl)))
    | false =>
      rw [hb] at hc
      have hS : ∀ j, j < k + 1 → badZ l[j]! = false := fun j hj => by
        by_cases e : j = k
        · subst e; exact hb
        · exact hk1 j (by omega)
      refine zst ?_
      refine callDv (hc) (by kernel_rfl) rfl ?_; simp only [go_sem]
      refine zst ?_
      refine ev_next 0 (hJ _ (⟨k + 1, hlt, hS⟩) (by first | omega | (dsimp only; omega) | (simp; omega))) rfl (by simp) ?_ (by first | rfl | (simp only [go_sem]; done)) (by first | rfl | (simp only [go_sem]; done) | (simp only [hlt]; (try simp only [go_sem]); first | done | rfl)) ?_
      · (first | rfl | (simp only [go_sem]; done) | (simp only [go_sem]; simp only [hlt]; done) | (simp only [hlt]; done) | (simp only [go_sem]; simp [hlt]; done) | (simp [hlt]; done))
      · (simp only [go_sem]; (repeat' (refine And.intro ?_ ?_)) <;> first | exact trivial | with_reducible rfl | (simp only [hlt]; done) | (simp only [hlt]; with_reducible rfl) | (simp [hlt]; done) | (simp [hlt]; omega) | (simp only [hlt]; rfl) | skip)
  · obtain rfl : k = l.length := by omega
    have hr := fnd_no (p := badZ) hk1
    refine zst ?_
    refine ret m_ixi_ok [] ?_; (first | (simp only [go_sem]; done) | (simp only [go_sem]; ((try dsimp only); (repeat' (refine And.intro ?_ ?_)) <;> first | with_reducible rfl | (simp only [go_sem]; done) | (simp only [go_sem]; rfl) | (simp only [go_sem, hr]; done) | (simp only [hr]; (try simp only [go_sem]); first | done | rfl) | (simp only [go_sem]; simp [hr]; done) | (simp [hr]; done) | rfl)))
set_option maxHeartbeats 4000000 in
theorem coi_fn (l : List Int) : Fnc Try.prog 79 [.sl false 1 (l.map (V.int .i64)), .fn 80] (fun x obs => x = .bool (l.any badZ) ∧ obs = []) := by
  have hr := fnd_ge badZ l
  refine Fnc.intro m_coi_ok (by simp) fun W S => ?_
  unfold m_coi
  simp only [ents, Nat.zero_add, Nat.reduceAdd]
  refine zst ?_
  (first | refine callD (ixi_fn l) ?_ | refine callDw (ixi_fn l) ?_); simp only [go_sem]
  refine zst ?_
  refine ret m_coi_ok [] ?_; (first | (simp only [go_sem]; done) | (simp only [go_sem]; ((try dsimp only); (repeat' (refine And.intro ?_ ?_)) <;> first | with_reducible rfl | (simp only [go_sem]; done) | (simp only [go_sem]; rfl) | (simp only [go_sem, hr]; done) | (simp only [hr]; (try simp only [go_sem]); first | done | rfl) | (simp only [go_sem]; simp [hr]; done) | (simp [hr]; done) | rfl)))
theorem any_badZ {z : List Int} (h : z.any badZ = false) : ∀ k, k < z.length → 1 ≤ z[k]! ∧ z[k]! ≤ 32 := fun k hk => by
  by_cases c : z[k]! < 1 ∨ 32 < z[k]!
  · have : z.any badZ = true := List.any_eq_true.2 ⟨z[k]!, mem_at hk, badZ_T c⟩
    rw [this] at h; cases h
  · omega
theorem any_badZ' {z : List Int} (h : z.any badZ = true) : z.any (fun x => decide (x < 1 ∨ 32 < x)) = true := by
  obtain ⟨x, hx, h1⟩ := List.any_eq_true.1 h
  exact List.any_eq_true.2 ⟨x, hx, by unfold badZ at h1; exact h1⟩
theorem szs_any (s : State) : (szs s).any badZ = s.regions.any badL := by simp only [szs, List.any_map]; rfl
theorem shp_eq (s : State) (h1 : s.regions.length ≤ 4) (h2 : s.threads.length ≤ 4) : shp s = !(s.regions.any badL) := by
  rw [← szs_any]
  cases h : (szs s).any badZ with
  | true =>
    unfold shp
    rw [chk_1'' (by rw [szs_len]; omega) (any_badZ' h)]; rfl
  | false =>
    unfold shp
    rw [chk_0 (by rw [szs_len]; omega) (by omega) (any_badZ h)]; rfl
theorem shp_no (s : State) (h : 4 < s.regions.length ∨ 4 < s.threads.length) : shp s = false := by
  unfold shp
  rw [chk_3 (by rw [szs_len]; omega)]; rfl
set_option maxHeartbeats 4000000 in
theorem shaped_fn (s : State) : Fnc Try.prog 57 [staV s] (fun x obs => x = .bool (shp s) ∧ obs = []) := by
  have fc := cor_fn s.regions
  by_cases c1 : s.regions.length ≤ 4
  · by_cases c2 : s.threads.length ≤ 4
    · rw [shp_eq s c1 c2]
      refine Fnc.intro m_shaped_ok (by simp) fun W S => ?_
      unfold m_shaped
      simp only [ents, Nat.zero_add, Nat.reduceAdd]
      refine zst ?_
      (first | refine callD (fc) ?_ | refine callDw (fc) ?_); simp only [go_sem]
      refine zst ?_
      refine ret m_shaped_ok [] ?_; (first | (simp only [go_sem]; done) | (simp only [go_sem]; ((try dsimp only); (repeat' (refine And.intro ?_ ?_)) <;> first | with_reducible rfl | (simp only [go_sem]; done) | (simp only [go_sem]; rfl) | (simp only []; (try simp only [go_sem]); first | done | rfl) | (simp only [go_sem]; simp []; done) | (simp []; done) | rfl)))
    · rw [shp_no s (by omega)]
      refine Fnc.intro m_shaped_ok (by simp) fun W S => ?_
      unfold m_shaped
      simp only [ents, Nat.zero_add, Nat.reduceAdd]
      refine zst ?_
      refine ret m_shaped_ok [] ?_; (first | (simp only [go_sem]; done) | (simp only [go_sem]; ((try dsimp only); (repeat' (refine And.intro ?_ ?_)) <;> first | with_reducible rfl | (simp only [go_sem]; done) | (simp only [go_sem]; rfl) | (simp only []; (try simp only [go_sem]); first | done | rfl) | (simp only [go_sem]; simp []; done) | (simp []; done) | rfl)))
  · rw [shp_no s (by omega)]
    refine Fnc.intro m_shaped_ok (by simp) fun W S => ?_
    unfold m_shaped
    simp only [ents, Nat.zero_add, Nat.reduceAdd]
    refine zst ?_
    refine ret m_shaped_ok [] ?_; (first | (simp only [go_sem]; done) | (simp only [go_sem]; ((try dsimp only); (repeat' (refine And.intro ?_ ?_)) <;> first | with_reducible rfl | (simp only [go_sem]; done) | (simp only [go_sem]; rfl) | (simp only []; (try simp only [go_sem]); first | done | rfl) | (simp only [go_sem]; simp []; done) | (simp []; done) | rfl)))
attribute [local irreducible] idsR idsL idsT pcn
set_option maxHeartbeats 8000000 in
theorem plist_fn (z : List Int) (n : Int) : Fnc Try.prog 39 [.sl false 1 (i64s z), .int .i64 n] (fun x obs => x = .tup [.sl false 2 ((sList z n).1.map pidV), .int .i64 (sList z n).2] ∧ obs = []) := by
  refine Fnc.low ?_
  refine Fnc.wf fun hw => ?_
  simp only [V.wfs, V.wf, wfs_map, List.length_map] at hw
  have hm := hw.1.2
  clear hw
  have fb := coi_fn z
  by_cases c1 : 4 < z.length
  · have hr : sList z n = ([], 3) := by unfold sList; rw [chk_3 (.inl c1)]; rfl
    refine Fnc.intro m_plist_ok (by simp) fun W S => ?_
    unfold m_plist
    simp only [ents, Nat.zero_add, Nat.reduceAdd]
    refine zst ?_
    refine ev_nil2 4 true 2 rfl ?_
    refine ret m_plist_ok [] ?_; (first | (simp only [go_sem]; done) | (simp only [go_sem]; ((try dsimp only); (repeat' (refine And.intro ?_ ?_)) <;> first | with_reducible rfl | (simp only [go_sem]; done) | (simp only [go_sem]; rfl) | (simp only [go_sem, hr]; done) | (simp only [hr]; (try simp only [go_sem]); first | done | rfl) | (simp only [go_sem]; simp [hr]; done) | (simp [hr]; done) | rfl)))
  by_cases c2 : 4 < n
  · have hr : sList z n = ([], 3) := by unfold sList; rw [chk_3 (.inr c2)]; rfl
    refine Fnc.intro m_plist_ok (by simp) fun W S => ?_
    unfold m_plist
    simp only [ents, Nat.zero_add, Nat.reduceAdd]
    refine zst ?_
    refine ev_nil2 4 true 2 rfl ?_
    refine ret m_plist_ok [] ?_; (first | (simp only [go_sem]; done) | (simp only [go_sem]; ((try dsimp only); (repeat' (refine And.intro ?_ ?_)) <;> first | with_reducible rfl | (simp only [go_sem]; done) | (simp only [go_sem]; rfl) | (simp only [go_sem, hr]; done) | (simp only [hr]; (try simp only [go_sem]); first | done | rfl) | (simp only [go_sem]; simp [hr]; done) | (simp [hr]; done) | rfl)))
  by_cases c3 : n < 0
  · have hr : sList z n = ([], 1) := by unfold sList; rw [chk_1 (by omega) c3]; rfl
    refine Fnc.intro m_plist_ok (by simp) fun W S => ?_
    unfold m_plist
    simp only [ents, Nat.zero_add, Nat.reduceAdd]
    refine zst ?_
    refine ev_nil2 4 true 2 rfl ?_
    refine ret m_plist_ok [] ?_; (first | (simp only [go_sem]; done) | (simp only [go_sem]; ((try dsimp only); (repeat' (refine And.intro ?_ ?_)) <;> first | with_reducible rfl | (simp only [go_sem]; done) | (simp only [go_sem]; rfl) | (simp only [go_sem, hr]; done) | (simp only [hr]; (try simp only [go_sem]); first | done | rfl) | (simp only [go_sem]; simp [hr]; done) | (simp [hr]; done) | rfl)))
  cases c4 : z.any badZ with
  | true =>
    have hr : sList z n = ([], 1) := by unfold sList; rw [chk_1'' (by omega) (any_badZ' c4)]; rfl
    rw [c4] at fb
    refine Fnc.intro m_plist_ok (by simp) fun W S => ?_
    unfold m_plist
    simp only [ents, Nat.zero_add, Nat.reduceAdd]
    refine zst ?_
    (first | refine callD (fb) ?_ | refine callDw (fb) ?_); simp only [go_sem]
    refine zst ?_
    refine ev_nil2 4 true 2 rfl ?_
    refine ret m_plist_ok [] ?_; (first | (simp only [go_sem]; done) | (simp only [go_sem]; ((try dsimp only); (repeat' (refine And.intro ?_ ?_)) <;> first | with_reducible rfl | (simp only [go_sem]; done) | (simp only [go_sem]; rfl) | (simp only [go_sem, hr]; done) | (simp only [hr]; (try simp only [go_sem]); first | done | rfl) | (simp only [go_sem]; simp [hr]; done) | (simp [hr]; done) | rfl)))
  | false =>
    have hz := any_badZ c4
    have hr : sList z n = (idsF z n, 0) := by unfold sList; rw [chk_0 (by omega) (by omega) hz]; rfl
    rw [c4] at fb
    refine Fnc.intro m_plist_ok (by simp) fun W S => ?_
    unfold m_plist
    simp only [ents, Nat.zero_add, Nat.reduceAdd]
    refine zst ?_
    (first | refine callD (fb) ?_ | refine callDw (fb) ?_); simp only [go_sem]
    refine zst ?_
    refine ev_adopt (i := 6) (e := 39) (s := 2) rfl (by decide) ?_
    refine ev_loopK [1, 24, 25] (fun p : {p : Nat // p ≤ z.length} => [(6, .own 0 (idsL z p.1).length), (26, .int .i64 p.1)]) (fun p => [⟨.row 39, true, (idsL z p.1).length, .arr 2 ((idsL z p.1).map pidV)⟩]) (fun p => z.length - p.1) (⟨0, by simp⟩) 1 (by simp only [go_sem]; rfl) ?_ (by first | rfl | (simp only [go_sem]; done) | (simp only [go_sem]; simp [idsL]; done)) (by simp) (by first | rfl | (simp only [go_sem]; done)) (by first | rfl | (simp only [go_sem]; done)) (by first | rfl | (simp only [go_sem]; done) | (simp only [idsL]; (try simp only [go_sem]); first | done | rfl)) ?_
    · (simp only [go_sem]; (try simp [idsL]); done)
    intro J hJ
    rintro ⟨p, hp⟩
    have hg := idsL_le (fun k hk => (hz k hk).2) hp
    have hJ0 := hJ
    by_cases hlt : p < z.length
    · have hzp := hz p hlt
      have hpc := pcn_le (hz p hlt).2
      have z1 : idsR p 0 = [] := idsR_zero p
      refine zst ?_
      refine ev_loopK [1, 7, 8, 24, 25, 26] (fun q : {q : Nat // q ≤ pcn z[p]!} => [(6, .own 0 ((idsL z p).length + q.1)), (9, .int .i64 q.1)]) (fun q => [⟨.row 39, true, (idsL z p).length + q.1, .arr 2 ((idsL z p ++ idsR p q.1).map pidV)⟩]) (fun q => pcn z[p]! - q.1) (⟨0, by simp⟩) 1 (by simp only [go_sem]; rfl) ?_ (by first | rfl | (simp only [go_sem]; done) | (simp only [go_sem]; simp [z1, List.append_nil]; done)) (by simp) (by first | rfl | (simp only [go_sem]; done)) (by first | rfl | (simp only [go_sem]; done)) (by first | rfl | (simp only [go_sem]; done) | (simp only [z1, List.append_nil]; (try simp only [go_sem]); first | done | rfl)) ?_
      · (simp only [go_sem]; (try simp [z1, List.append_nil]); done)
      intro J hJ
      rintro ⟨q, hq⟩
      have hq' := pcn_lt (n := z[p]!) (i := q)
      have hql := idsR_len p q
      by_cases hlq : q < pcn z[p]!
      · have hq' := hq'.1 hlq
        have hs : idsL z p ++ idsR p q ++ [(⟨p, q⟩ : PageID)] = idsL z p ++ idsR p (q + 1) := by rw [List.append_assoc, idsR_snoc]
        have hgn : (idsL z p).length + q ≤ 1000 := by omega
        refine zst ?_
        refine ev_next 1 (hJ _ (⟨q + 1, hlq⟩) (by first | omega | (dsimp only; omega) | (simp; omega))) rfl (by simp) ?_ (by first | rfl | (simp only [go_sem]; done)) (by first | rfl | (simp only [go_sem]; done) | (simp only [hs, Nat.add_assoc]; (try simp only [go_sem]); first | done | rfl)) ?_
        · (first | rfl | (simp only [go_sem]; done) | (simp only [go_sem]; simp only [hs, Nat.add_assoc]; done) | (simp only [hs, Nat.add_assoc]; done) | (simp only [go_sem]; simp [hs, Nat.add_assoc]; done) | (simp [hs, Nat.add_assoc]; done))
        · (simp only [go_sem]; (repeat' (refine And.intro ?_ ?_)) <;> first | exact trivial | with_reducible rfl | (simp only [hs, Nat.add_assoc]; done) | (simp only [hs, Nat.add_assoc]; with_reducible rfl) | (simp [hs, Nat.add_assoc]; done) | (simp [hs, Nat.add_assoc]; omega) | (simp only [hs, Nat.add_assoc]; rfl) | skip)
      · have hq' : ¬ 8 * (q : Int) < z[p]! := fun h => hlq (hq'.2 h)
        obtain rfl : q = pcn z[p]! := by omega
        have hJ := hJ0
        have hs := idsL_snoc z p
        have hpc4 : pcn z[p]! ≤ 4 := hpc
        have hgl : (idsL z p).length + pcn z[p]! = (idsL z (p + 1)).length := by rw [← hs, List.length_append, hql]
        dsimp only
        rw [hs, hgl]
        refine zst ?_
        refine ev_next 1 (hJ _ (⟨p + 1, hlt⟩) (by first | omega | (dsimp only; omega) | (simp; omega))) rfl (by simp) ?_ (by first | rfl | (simp only [go_sem]; done)) (by first | rfl | (simp only [go_sem]; done)) ?_
        · (first | rfl | (simp only [go_sem]; done) | (simp only [go_sem]; simp only []; done) | (simp only []; done) | (simp only [go_sem]; simp []; done) | (simp []; done))
        · (simp only [go_sem]; (repeat' (refine And.intro ?_ ?_)) <;> first | exact trivial | with_reducible rfl | (simp only []; done) | (simp only []; with_reducible rfl) | (simp []; done) | (simp []; omega) | (simp only []; rfl) | skip)
    · obtain rfl : p = z.length := by omega
      have z1 : idsT 0 = [] := idsT_zero
      refine zst ?_
      refine ev_loopK [44] (fun q : {q : Nat // (q : Int) ≤ n} => [(6, .own 0 ((idsL z z.length).length + q.1)), (45, .int .i64 q.1)]) (fun q => [⟨.row 39, true, (idsL z z.length).length + q.1, .arr 2 ((idsL z z.length ++ idsT q.1).map pidV)⟩]) (fun q => n.toNat - q.1) (⟨0, by omega⟩) 1 (by simp only [go_sem]; rfl) ?_ (by first | rfl | (simp only [go_sem]; done) | (simp only [go_sem]; simp [z1, List.append_nil]; done)) (by simp) (by first | rfl | (simp only [go_sem]; done)) (by first | rfl | (simp only [go_sem]; done)) (by first | rfl | (simp only [go_sem]; done) | (simp only [z1, List.append_nil]; (try simp only [go_sem]); first | done | rfl)) ?_
      · (simp only [go_sem]; (try simp [z1, List.append_nil]); done)
      intro J hJ
      rintro ⟨q, hq⟩
      have hql := idsT_len q
      by_cases hlq : (q : Int) < n
      · have hs : idsL z z.length ++ idsT q ++ [(⟨-1, q⟩ : PageID)] = idsL z z.length ++ idsT (q + 1) := by rw [List.append_assoc, idsT_snoc]
        have hgn : (idsL z z.length).length + q ≤ 1000 := by omega
        refine zst ?_
        refine ev_next 1 (hJ _ (⟨q + 1, by omega⟩) (by first | omega | (dsimp only; omega) | (simp; omega))) rfl (by simp) ?_ (by first | rfl | (simp only [go_sem]; done)) (by first | rfl | (simp only [go_sem]; done) | (simp only [hs, Nat.add_assoc]; (try simp only [go_sem]); first | done | rfl)) ?_
        · (first | rfl | (simp only [go_sem]; done) | (simp only [go_sem]; simp only [hs, Nat.add_assoc]; done) | (simp only [hs, Nat.add_assoc]; done) | (simp only [go_sem]; simp [hs, Nat.add_assoc]; done) | (simp [hs, Nat.add_assoc]; done))
        · (simp only [go_sem]; (repeat' (refine And.intro ?_ ?_)) <;> first | exact trivial | with_reducible rfl | (simp only [hs, Nat.add_assoc]; done) | (simp only [hs, Nat.add_assoc]; with_reducible rfl) | (simp [hs, Nat.add_assoc]; done) | (simp [hs, Nat.add_assoc]; omega) | (simp only [hs, Nat.add_assoc]; rfl) | skip)
      · obtain rfl : q = n.toNat := by omega
        have hF : idsL z z.length ++ idsT n.toNat = idsF z n := rfl
        dsimp only
        rw [hF]
        refine zst ?_
        refine ret m_plist_ok [] ?_; (first | (simp only [go_sem]; done) | (simp only [go_sem]; ((try dsimp only); (repeat' (refine And.intro ?_ ?_)) <;> first | with_reducible rfl | (simp only [go_sem]; done) | (simp only [go_sem]; rfl) | (simp only [go_sem, hr]; done) | (simp only [hr]; (try simp only [go_sem]); first | done | rfl) | (simp only [go_sem]; simp [hr]; done) | (simp [hr]; done) | rfl)))
end Go.Proofs.Ytcphobeommkgeaa
