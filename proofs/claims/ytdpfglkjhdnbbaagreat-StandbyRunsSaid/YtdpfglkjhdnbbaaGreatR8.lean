/- Standby: Rebuild of the reference. -/
import Derived.Test.YtdpfglkjhdnbbaaGreatR7
import Derived.Test.YtdpfglkjhdnbbaaGreatC5
namespace Go.Proofs.YtdpfglkjhdnbbaaGreat
open Go Go.RowKit Rdn Rdn.Dp
set_option linter.unusedVariables false
set_option linter.unusedSimpArgs false
theorem m_rreb_ok : compF Tryz.prog 50 = some (100, Qr ([Qw 2 (.alloc 31 (.agg [.int .i64 0, .int .i64 0, .int .i64 0, .nilS])), Qp 3 (.mov (Qi 0)), Qp 4 (.mov (Qi 0))])
 (Qr ([Qw 12 (.build none [.int .i64 0, .int .i64 0, .int .i64 0, .nilS] []), Qw 5 (.alloc 31 (.agg [.int .i64 0, .int .i64 0, .int .i64 0, .nilS])), Qs 4 5 12, Qp 6 (.mov (Qi 0))])
 (.seq (Qr ([Qp 7 (.mov (Qi 0))])
 (.block 0 (.loop (.seq (Qr ([Qm 13 7, Qm 14 0, Qn 15 14, Qb 16 .lss 13 15])
 (.cond (.t 16) (.skip) (.exit 0)))
 (.seq (.block 1 (Qr ([Qp 8 (.mov (Qi 0))])
 (.seq (Qr ([Qm 19 0, Qm 20 7, Qx 21 4 19 20, Qf 22 0 0 21, Ql 23 1 22])
 (.block 2 (Qr ([Qk 25 .eql 23 6, Qm 24 25])
 (.cond (.t 24) (Qr ([Qm 27 0, Qm 28 7, Qx 29 4 27 28, Qf 30 3 3 29, Ql 31 1 30, Qq 32 91 [(.t 31)], Qm 26 32, Qe 33 26 0, Qe 34 26 1, Qe 35 26 2, Qm 9 33, Qm 10 34, Qm 11 35])
 (.seq (Qr ([Qm 36 11, Qp 37 (.un .not (.t 36))])
 (.cond (.t 37) (Qr ([Qw 38 (.build none [.int .i64 0, .int .i64 0, .int .i64 0, .nilS] []), Qs 4 2 38, Qp 3 (.mov (Qi 0)), Qp 4 (.mov (Qi 5))])
 (.ret)) (.skip)))
 (.reg [QL 40 4 5, Qm 41 9, Qm 42 10, Qq 43 46 [(.t 40), (.t 41), (.t 42)], Qm 39 43, Qe 44 39 0, Qe 45 39 1, Qe 46 39 2, Qs 4 5 44, Qm 8 46]))) (Qr ([Qk 48 .eql 23 3, Qm 47 48])
 (.cond (.t 47) (.dreg [QL 50 4 5, Qm 51 0, Qm 52 7, Qx 53 4 51 52, Qf 54 1 1 53, Ql 55 1 54, Qq 56 92 [(.t 50), (.t 55)], Qm 49 56, Qe 57 49 0, Qe 58 49 1, Qs 4 5 57, Qm 8 58] [[], [], [], [1, 2], [1, 2, 3], [1, 2, 3, 4], [0, 1, 2, 3, 4, 5], [0, 1, 2, 3, 4, 5, 6], [0, 1, 2, 3, 4, 5, 6, 7], [0, 1, 2, 3, 4, 5, 6, 7], [0, 1, 2, 3, 4, 5, 6, 7, 8], [0, 1, 2, 3, 4, 5, 6, 7, 8, 9, 10]]) (Qr ([Qk 60 .eql 23 4, Qm 59 60])
 (.cond (.t 59) (.dreg [QL 62 4 5, Qm 63 0, Qm 64 7, Qx 65 4 63 64, Qf 66 1 1 65, Ql 67 1 66, Qq 68 93 [(.t 62), (.t 67)], Qm 61 68, Qe 69 61 0, Qe 70 61 1, Qs 4 5 69, Qm 8 70] [[], [], [], [1, 2], [1, 2, 3], [1, 2, 3, 4], [0, 1, 2, 3, 4, 5], [0, 1, 2, 3, 4, 5, 6], [0, 1, 2, 3, 4, 5, 6, 7], [0, 1, 2, 3, 4, 5, 6, 7], [0, 1, 2, 3, 4, 5, 6, 7, 8], [0, 1, 2, 3, 4, 5, 6, 7, 8, 9, 10]]) (Qr ([Qk 72 .eql 23 5, Qm 71 72])
 (.cond (.t 71) (.seq (Qr ([Qm 73 0, Qm 74 7, Qx 75 4 73 74, Qf 76 1 1 75, Ql 77 1 76, Qm 78 6, Qb 79 .leq 77 78, Qm 80 79, Q0 81 80 (.mov (.t 0)), Q0 82 80 (.mov (.t 7)), Q0 83 80 (.idxA 4 (.t 81) (.t 82)), Q0 84 80 (.fieldA 1 1 (.t 83)), Q0 85 80 (.load false 1 (.t 84)), Q0 86 80 (.bin 0 .gtr (.t 85) (Qi 1048576)), Qt 87 80 86])
 (.cond (.t 87) (Qr ([Qw 88 (.build none [.int .i64 0, .int .i64 0, .int .i64 0, .nilS] []), Qs 4 2 88, Qp 3 (.mov (Qi 0)), Qp 4 (.mov (Qi 5))])
 (.ret)) (.skip)))
 (.reg [Qm 89 0, Qm 90 7, Qx 91 4 89 90, Qf 92 1 1 91, Ql 93 1 92, Qm 6 93])) (.skip)))))))))))
 (Qr ([Qm 94 8, Qk 95 .neq 94 0])
 (.cond (.t 95) (Qr ([Qw 96 (.build none [.int .i64 0, .int .i64 0, .int .i64 0, .nilS] []), Qm 97 8, Qs 4 2 96, Qp 3 (.mov (Qi 0)), Qm 4 97])
 (.ret)) (.skip))))))
 (.reg [Qm 17 7, Qk 18 .add 17 1, Qm 7 18]))))))
 (Qr ([QL 98 4 5, Qm 99 6, Qs 4 2 98, Qm 3 99, Qp 4 (.mov (Qi 0))])
 (.ret)))), [.load true 4 (.t 2), .mov (.t 3), .mov (.t 4)]) := by kernel_rfl
theorem okB_outp {b : List Int} (h : okB b) : sOutp b = (b[0]!, cellsOf b b[1]!.toNat, true) := by
  unfold okB at h
  unfold sOutp
  rw [if_pos ⟨h.1, h.2.1⟩, decT h.2.2]
theorem okB_not {b : List Int} (h : ¬ okB b) : (sOutp b).2.2 = false := by
  unfold okB at h
  unfold sOutp
  split
  · rename_i c; exact decF fun k => h ⟨c.1, c.2, k⟩
  · rfl
set_option maxHeartbeats 8000000 in
theorem rreb_fn (l : List Note) : Fnc Tryz.prog 50 [.sl false 4 (l.map (noteV false))] (fun x obs => x = .tup [.agg (gwL false (sReb l).1), .int .i64 (sReb l).2.1, .int .i64 (sReb l).2.2] ∧ obs = []) := by
  refine Fnc.low ?_
  refine Fnc.wf fun hw => ?_
  simp only [V.wfs, V.wf, List.length_map] at hw
  have hm := hw.1.2
  clear hw
  unfold sReb
  obtain ⟨B, hB⟩ : ∃ B, rebF g0 0 l = B := ⟨_, rfl⟩
  rw [hB]
  refine zgo m_rreb_ok fun W S => ?_
  refine ev_obSub 1 _ rfl gw_sub rfl ?_
  refine ev_loopK [0, 2, 5] (fun p : {p : Nat × Gateway × Int // p.1 ≤ l.length ∧ B = rebF p.2.1 p.2.2 (l.drop p.1)} => [(6, .int .i64 p.1.2.2), (7, .int .i64 p.1.1)]) (fun p => [⟨.box false 31, true, 0, .agg [.int .i64 0, .int .i64 0, .int .i64 0, .nilS]⟩, ⟨.box false 31, true, 0, .agg (gwL false p.1.2.1)⟩]) (fun p => l.length - p.1.1) (⟨(0, g0, 0), by simp, hB.symm⟩) 2 (by simp only [go_sem]; rfl) ?_ (by first | rfl | (simp only [go_sem]; done)) (by simp) (by first | rfl | (simp only [go_sem]; done)) (by first | rfl | (simp only [go_sem]; done)) (by first | rfl | (simp only [go_sem]; done)) ?_
  · (simp only [go_sem]; (try simp []); done)
  intro J hJ
  rintro ⟨⟨k, g, e⟩, hk0, hb⟩
  dsimp only at hk0 hb
  dsimp only
  by_cases hlt : k < l.length
  · rw [List.drop_eq_getElem_cons hlt, rebF, ← getElem!_pos l k hlt] at hb
    by_cases c6 : l[k]!.kind = 6
    · have f1 := routp_fn l[k]!.bytes
      by_cases cb : okB l[k]!.bytes
      · rw [okB_outp cb] at f1
        have f2 := roff_fn g l[k]!.bytes[0]! (cellsOf l[k]!.bytes l[k]!.bytes[1]!.toNat)
        have he : effS g e l[k]! = ((sOff g l[k]!.bytes[0]! (cellsOf l[k]!.bytes l[k]!.bytes[1]!.toNat)).1, e, (sOff g l[k]!.bytes[0]! (cellsOf l[k]!.bytes l[k]!.bytes[1]!.toNat)).2.2) := by unfold effS; rw [if_pos c6, if_pos cb]
        rw [he] at hb
        generalize sOff g l[k]!.bytes[0]! (cellsOf l[k]!.bytes l[k]!.bytes[1]!.toNat) = q at f2 hb
        obtain ⟨g', n', z⟩ := q
        dsimp only at f2 hb
        by_cases hz : z = 0
        · subst hz
          rw [if_pos rfl] at hb
          refine zst ?_
          refine zcd (f1) ?_
          refine zcd (f2) ?_
          refine ev_next 2 (hJ _ (⟨(k + 1, g', e), hlt, hb⟩) (by first | omega | (dsimp only; omega) | (simp; omega))) rfl (by simp) ?_ (by first | rfl | (simp only [go_sem]; done)) (by first | rfl | (simp only [go_sem]; done)) ?_
          · (first | rfl | (simp only [go_sem]; done) | (simp only [go_sem]; simp only []; done) | (simp only []; done) | (simp only [go_sem]; simp []; done) | (simp []; done))
          · (simp only [go_sem]; (repeat' (refine And.intro ?_ ?_)) <;> first | exact trivial | with_reducible rfl | (simp only []; done) | (simp only []; with_reducible rfl) | (simp []; done) | (simp []; omega) | (simp only []; rfl) | skip)
        · rw [if_neg hz] at hb
          subst hb
          refine zst ?_
          refine zcd (f1) ?_
          refine zcd (f2) ?_
          refine ev_obSub 0 _ rfl gw_sub rfl ?_
          exact zrt m_rreb_ok
      · have hn := okB_not cb
        have he : effS g e l[k]! = (g, e, 5) := by unfold effS; rw [if_pos c6, if_neg cb]
        rw [he, if_neg (show ¬ (5 : Int) = 0 by decide)] at hb
        subst hb
        generalize sOutp l[k]!.bytes = q at f1 hn
        obtain ⟨q1, q2, q3⟩ := q
        dsimp only at f1 hn
        subst hn
        refine zst ?_
        refine zcd (f1) ?_
        refine ev_obSub 0 _ rfl gw_sub rfl ?_
        exact zrt m_rreb_ok
    by_cases c3 : l[k]!.kind = 3
    · have f2 := rfree_fn g l[k]!.number
      have he : effS g e l[k]! = ((sFree g l[k]!.number).1, e, (sFree g l[k]!.number).2) := by unfold effS; rw [if_neg c6, if_pos c3]
      rw [he] at hb
      generalize sFree g l[k]!.number = q at f2 hb
      obtain ⟨g', z⟩ := q
      dsimp only at f2 hb
      by_cases hz : z = 0
      · subst hz
        rw [if_pos rfl] at hb
        refine zst ?_
        refine zcd (f2) ?_
        refine ev_next 2 (hJ _ (⟨(k + 1, g', e), hlt, hb⟩) (by first | omega | (dsimp only; omega) | (simp; omega))) rfl (by simp) ?_ (by first | rfl | (simp only [go_sem]; done)) (by first | rfl | (simp only [go_sem]; done)) ?_
        · (first | rfl | (simp only [go_sem]; done) | (simp only [go_sem]; simp only []; done) | (simp only []; done) | (simp only [go_sem]; simp []; done) | (simp []; done))
        · (simp only [go_sem]; (repeat' (refine And.intro ?_ ?_)) <;> first | exact trivial | with_reducible rfl | (simp only []; done) | (simp only []; with_reducible rfl) | (simp []; done) | (simp []; omega) | (simp only []; rfl) | skip)
      · rw [if_neg hz] at hb
        subst hb
        refine zst ?_
        refine zcd (f2) ?_
        refine ev_obSub 0 _ rfl gw_sub rfl ?_
        exact zrt m_rreb_ok
    by_cases c4 : l[k]!.kind = 4
    · have f2 := rack_fn g l[k]!.number
      have he : effS g e l[k]! = ((sAck g l[k]!.number).1, e, (sAck g l[k]!.number).2) := by unfold effS; rw [if_neg c6, if_neg c3, if_pos c4]
      rw [he] at hb
      generalize sAck g l[k]!.number = q at f2 hb
      obtain ⟨g', z⟩ := q
      dsimp only at f2 hb
      by_cases hz : z = 0
      · subst hz
        rw [if_pos rfl] at hb
        refine zst ?_
        refine zcd (f2) ?_
        refine ev_next 2 (hJ _ (⟨(k + 1, g', e), hlt, hb⟩) (by first | omega | (dsimp only; omega) | (simp; omega))) rfl (by simp) ?_ (by first | rfl | (simp only [go_sem]; done)) (by first | rfl | (simp only [go_sem]; done)) ?_
        · (first | rfl | (simp only [go_sem]; done) | (simp only [go_sem]; simp only []; done) | (simp only []; done) | (simp only [go_sem]; simp []; done) | (simp []; done))
        · (simp only [go_sem]; (repeat' (refine And.intro ?_ ?_)) <;> first | exact trivial | with_reducible rfl | (simp only []; done) | (simp only []; with_reducible rfl) | (simp []; done) | (simp []; omega) | (simp only []; rfl) | skip)
      · rw [if_neg hz] at hb
        subst hb
        refine zst ?_
        refine zcd (f2) ?_
        refine ev_obSub 0 _ rfl gw_sub rfl ?_
        exact zrt m_rreb_ok
    by_cases c5 : l[k]!.kind = 5
    · by_cases cn : l[k]!.number ≤ e ∨ l[k]!.number > 1048576
      · have he : effS g e l[k]! = (g, e, 5) := by unfold effS; rw [if_neg c6, if_neg c3, if_neg c4, if_pos c5, if_pos cn]
        rw [he, if_neg (show ¬ (5 : Int) = 0 by decide)] at hb
        subst hb
        by_cases cm : l[k]!.number ≤ e
        · skip
          refine zst ?_
          refine ev_obSub 0 _ rfl gw_sub rfl ?_
          exact zrt m_rreb_ok
        · skip
          refine zst ?_
          refine ev_obSub 0 _ rfl gw_sub rfl ?_
          exact zrt m_rreb_ok
      · have he : effS g e l[k]! = (g, l[k]!.number, 0) := by unfold effS; rw [if_neg c6, if_neg c3, if_neg c4, if_pos c5, if_neg cn]
        rw [he, if_pos rfl] at hb
        refine zst ?_
        refine ev_next 2 (hJ _ (⟨(k + 1, g, l[k]!.number), hlt, hb⟩) (by first | omega | (dsimp only; omega) | (simp; omega))) rfl (by simp) ?_ (by first | rfl | (simp only [go_sem]; done)) (by first | rfl | (simp only [go_sem]; done)) ?_
        · (first | rfl | (simp only [go_sem]; done) | (simp only [go_sem]; simp only []; done) | (simp only []; done) | (simp only [go_sem]; simp []; done) | (simp []; done))
        · (simp only [go_sem]; (repeat' (refine And.intro ?_ ?_)) <;> first | exact trivial | with_reducible rfl | (simp only []; done) | (simp only []; with_reducible rfl) | (simp []; done) | (simp []; omega) | (simp only []; rfl) | skip)
    · have he : effS g e l[k]! = (g, e, 0) := by unfold effS; rw [if_neg c6, if_neg c3, if_neg c4, if_neg c5]
      rw [he, if_pos rfl] at hb
      refine zst ?_
      refine ev_next 2 (hJ _ (⟨(k + 1, g, e), hlt, hb⟩) (by first | omega | (dsimp only; omega) | (simp; omega))) rfl (by simp) ?_ (by first | rfl | (simp only [go_sem]; done)) (by first | rfl | (simp only [go_sem]; done)) ?_
      · (first | rfl | (simp only [go_sem]; done) | (simp only [go_sem]; simp only []; done) | (simp only []; done) | (simp only [go_sem]; simp []; done) | (simp []; done))
      · (simp only [go_sem]; (repeat' (refine And.intro ?_ ?_)) <;> first | exact trivial | with_reducible rfl | (simp only []; done) | (simp only []; with_reducible rfl) | (simp []; done) | (simp []; omega) | (simp only []; rfl) | skip)
  · obtain rfl : k = l.length := by omega
    rw [List.drop_of_length_le (Nat.le_refl _), rebF] at hb
    subst hb
    refine zst ?_
    exact zrt m_rreb_ok
end Go.Proofs.YtdpfglkjhdnbbaaGreat
