/- Standby: Send. -/
import Derived.Test.YtdpfglkjhdnbbaaGreatR15
import Derived.Test.YtdpfglkjhdnbbaaGreatC5
namespace Go.Proofs.YtdpfglkjhdnbbaaGreat
open Go Go.RowKit Rdn Rdn.Dp
set_option linter.unusedVariables false
set_option linter.unusedSimpArgs false
theorem m_psnd_ok : compF Tryz.prog 16 = some (57, Qr ([Qw 1 (.box 35 (.t 0)), Qw 2 (.alloc 35 (.agg [.int .i64 0, .int .i64 0, .int .i64 0, .nilS, .nilS, .nilS, .agg [.int .i64 0, .int .i64 0, .int .i64 0, .nilS], .int .i64 0, .agg [.int .i64 0, .int .i64 0, .nilS]])), Qp 3 (.mov (Qi 0)), Qp 4 (.mov (Qi 0))])
 (Qr ([QL 15 14 1, Qq 16 38 [(.t 15)], Qw 5 (.alloc 35 (.agg [.int .i64 0, .int .i64 0, .int .i64 0, .nilS, .nilS, .nilS, .agg [.int .i64 0, .int .i64 0, .int .i64 0, .nilS], .int .i64 0, .agg [.int .i64 0, .int .i64 0, .nilS]])), Qs 14 5 16])
 (.seq (Qr ([QL 17 14 1, Qq 18 17 [(.t 17)], Qm 6 18])
 (Qr ([Qm 19 6, Qk 20 .neq 19 0])
 (.cond (.t 20) (Qr ([QL 21 14 5, Qm 22 6, Qs 14 2 21, Qp 3 (.mov (Qi 0)), Qm 4 22])
 (.ret)) (.skip))))
 (.seq (Qr ([Qf 23 2 2 1, Ql 24 1 23, Qk 25 .lss 24 0])
 (.cond (.t 25) (Qr ([QL 26 14 5, Qs 14 2 26, Qp 3 (.mov (Qi 0)), Qp 4 (.mov (Qi 10))])
 (.ret)) (.skip)))
 (Qr ([Qf 28 6 6 1, QL 29 4 28, Qq 30 39 [(.t 29)], Qm 27 30, Qe 31 27 0, Qe 32 27 1, Qm 7 31, Qm 8 32])
 (Qr ([Qp 9 (.mov (Qi 0))])
 (.seq (Qr ([Qm 33 7, Qn 34 33, Qp 35 (.mov (Qi 0))])
 (.block 0 (.loop (Qr ([Qb 36 .lss 35 34])
 (.seq (.cond (.t 36) (.skip) (.exit 0))
 (.seq (.block 1 (Qr ([Qx 37 3 33 35, QL 38 3 37, Qw 11 (.alloc 75 (.agg [.int .i64 0, .int .i64 0, .nilS])), Qs 3 11 38])
 (Qr ([Qf 40 11 8 5, QL 41 3 40, Qf 42 10 7 1, Ql 43 1 42, QL 44 3 11, Qq 45 40 [(.t 41), (.t 43), (.t 44)], Qm 39 45, Qe 46 39 0, Qe 47 39 1, Qe 48 39 2, Qw 12 (.alloc 33 (.agg [.int .i64 0, .int .i64 0, .nilS])), Qs 3 12 46, Qm 13 47, Qm 14 48])
 (Qr ([QL 49 3 12, Qf 50 11 8 5, Qs 3 50 49])
 (Qr ([Qm 51 13])
 (.cond (.t 51) (.reg [Qm 52 9, Qk 53 .add 52 1, Qm 9 53]) (.skip)))))))
 (.reg [Qk 54 .add 35 1, Qm 35 54])))))))
 (Qr ([QL 55 14 5, Qm 56 9, Qs 14 2 55, Qm 3 56, Qp 4 (.mov (Qi 0))])
 (.ret)))))))), [.load true 14 (.t 2), .mov (.t 3), .mov (.t 4)]) := by kernel_rfl
theorem m_rsnd_ok : compF Tryz.prog 27 = some (55, Qr ([Qw 1 (.box 35 (.t 0)), Qw 2 (.alloc 35 (.agg [.int .i64 0, .int .i64 0, .int .i64 0, .nilS, .nilS, .nilS, .agg [.int .i64 0, .int .i64 0, .int .i64 0, .nilS], .int .i64 0, .agg [.int .i64 0, .int .i64 0, .nilS]])), Qp 3 (.mov (Qi 0)), Qp 4 (.mov (Qi 0))])
 (.seq (Qr ([QL 13 14 1, Qq 14 24 [(.t 13)], Qm 5 14])
 (Qr ([Qm 15 5, Qk 16 .neq 15 0])
 (.cond (.t 16) (Qr ([QL 17 14 1, Qm 18 5, Qs 14 2 17, Qp 3 (.mov (Qi 0)), Qm 4 18])
 (.ret)) (.skip))))
 (.seq (Qr ([Qf 19 2 2 1, Ql 20 1 19, Qk 21 .eql 20 (-1)])
 (.cond (.t 21) (Qr ([QL 22 14 1, Qs 14 2 22, Qp 3 (.mov (Qi 0)), Qp 4 (.mov (Qi 10))])
 (.ret)) (.skip)))
 (Qr ([Qf 24 6 6 1, QL 25 4 24, Qq 26 61 [(.t 25)], Qm 23 26, Qe 27 23 0, Qe 28 23 1, Qm 6 27, Qm 7 28])
 (Qr ([Qp 8 (.mov (Qi 0))])
 (.seq (Qr ([Qp 9 (.mov (Qi 0))])
 (.block 0 (.loop (.seq (Qr ([Qm 29 9, Qm 30 6, Qn 31 30, Qb 32 .lss 29 31])
 (.cond (.t 32) (.skip) (.exit 0)))
 (.seq (.block 1 (.seq (.dreg [Qf 36 11 8 1, QL 37 3 36, Qf 38 10 7 1, Ql 39 1 38, Qm 40 6, Qm 41 9, Qx 42 3 40 41, QL 43 3 42, Qq 44 62 [(.t 37), (.t 39), (.t 43)], Qm 35 44, Qe 45 35 0, Qe 46 35 1, Qe 47 35 2, Qw 10 (.alloc 33 (.agg [.int .i64 0, .int .i64 0, .nilS])), Qs 3 10 45, Qm 11 46, Qm 12 47] [[], [0], [], [2], [], [], [4, 5], [4, 5, 6], [0, 1, 2, 3, 4, 5, 6, 7], [0, 1, 2, 3, 4, 5, 6, 7, 8], [0, 1, 2, 3, 4, 5, 6, 7, 8, 9], [0, 1, 2, 3, 4, 5, 6, 7, 8, 9], [0, 1, 2, 3, 4, 5, 6, 7, 8, 9], [], [0, 1, 2, 3, 4, 5, 6, 7, 8, 9, 10, 13], [0, 1, 2, 3, 4, 5, 6, 7, 8, 9, 10, 11, 13, 14], [0, 1, 2, 3, 4, 5, 6, 7, 8, 9, 10, 11, 12, 13, 14, 15]])
 (Qr ([QL 48 3 10, Qf 49 11 8 1, Qs 3 49 48])
 (Qr ([Qm 50 11])
 (.cond (.t 50) (.reg [Qm 51 8, Qk 52 .add 51 1, Qm 8 52]) (.skip))))))
 (.reg [Qm 33 9, Qk 34 .add 33 1, Qm 9 34]))))))
 (Qr ([QL 53 14 1, Qm 54 8, Qs 14 2 53, Qm 3 54, Qp 4 (.mov (Qi 0))])
 (.ret))))))), [.load true 14 (.t 2), .mov (.t 3), .mov (.t 4)]) := by kernel_rfl
def tkF (e : Int) : Mailbox → Int → List Output → Mailbox × Int
  | m, t, [] => (m, t)
  | m, t, o :: l => tkF e (sTake m e o).1 (if (sTake m e o).2.1 then t + 1 else t) l
noncomputable def sndE (p : Pair) : Int := if chkP p ≠ 0 then chkP p else if p.active < 0 then 10 else 0
noncomputable def sSnd (p : Pair) : Pair × Int × Int := if sndE p ≠ 0 then (p, 0, sndE p) else ({ p with mailbox := (tkF p.epoch p.mailbox 0 (sSend p.gateway).1).1 }, (tkF p.epoch p.mailbox 0 (sSend p.gateway).1).2, 0)
theorem sSnd_e {p : Pair} {e : Int} (h : sndE p = e) (he : e ≠ 0) : sSnd p = (p, 0, e) := by unfold sSnd; rw [h, if_pos he]
theorem sSnd_0 {p : Pair} (h : sndE p = 0) : sSnd p = ({ p with mailbox := (tkF p.epoch p.mailbox 0 (sSend p.gateway).1).1 }, (tkF p.epoch p.mailbox 0 (sSend p.gateway).1).2, 0) := by unfold sSnd; rw [h, if_neg (by simp)]
theorem SubV.low (x : V) : SubV x x.low := fun _ _ _ h => lowE_rd h
theorem pr_low (p : Pair) : SubV (prV true p) (prV false p) := by
  have h := SubV.low (prV true p)
  have e : (prV true p).low = prV false p := by simp only [prV, gwL, mbL, boV, joV, V.low, V.lows, lows_lo]
  rwa [e] at h
theorem sTake_len (m : Mailbox) (e : Int) (o : Output) : (sTake m e o).1.taken.length ≤ m.taken.length + 1 := by
  unfold sTake
  repeat' split
  all_goals simp
theorem sTake_short {m : Mailbox} {e : Int} {o : Output} {b : Nat} (h : shortO b m.taken) (ho : o.data.length ≤ b) : shortO b (sTake m e o).1.taken := by
  unfold sTake
  repeat' split
  all_goals first | exact h | skip
  intro x hx
  rcases List.mem_append.1 hx with hx | hx
  · exact h x hx
  · rw [List.mem_singleton] at hx; subst hx; exact ho
theorem sSend_ok {g : Gateway} (h : chk g = 0) : (sSend g).1.length ≤ 64 ∧ ∀ o ∈ (sSend g).1, o.data.length ≤ 16 := by
  have hg : okG g := Classical.byContradiction fun c => by rw [chk_F c] at h; cases h
  unfold sSend
  rw [if_neg (by rw [h]; decide)]
  refine ⟨by have := hg.1.2.2.2.2.1; rw [List.length_take]; omega, fun o ho => ?_⟩
  obtain ⟨i, hi, rfl⟩ := List.mem_iff_getElem.1 (List.mem_of_mem_take ho)
  have := (hg.2 i hi).2.2.2
  rw [List.getElem!_eq_getElem?_getD, List.getElem?_eq_getElem hi] at this
  exact this
attribute [local irreducible] sSend sTake chkP
set_option maxHeartbeats 16000000 in
theorem psnd_fn (p : Pair) (F : FitP p) (hm : p.mailbox.taken.length ≤ 3518437208780) : Fnc Tryz.prog 16 [prV false p] (fun x obs => x = .tup [prV false (sSnd p).1, .int .i64 (sSnd p).2.1, .int .i64 (sSnd p).2.2] ∧ obs = []) := by
  refine Fnc.low ?_
  have fc := pchk_fn p
  by_cases c1 : chkP p = 0
  rotate_left
  · rw [sSnd_e (by unfold sndE; rw [if_pos c1]) c1]
    generalize chkP p = z at fc c1
    refine zgo m_psnd_ok fun W S => ?_
    refine zcd (pcop_fr p F) ?_
    refine zcd (fc) ?_
    exact zrt m_psnd_ok
  have hs := chkP_ok c1
  rw [c1] at fc
  by_cases c2 : p.active < 0
  · rw [sSnd_e (e := 10) (by unfold sndE; rw [if_neg (by simp [c1]), if_pos c2]) (by decide)]
    refine zgo m_psnd_ok fun W S => ?_
    refine zcd (pcop_fr p F) ?_
    refine zcd (fc) ?_
    exact zrt m_psnd_ok
  rw [sSnd_0 (by unfold sndE; rw [if_neg (by simp [c1]), if_neg c2])]
  obtain ⟨hl1, hl2⟩ := sSend_ok hs.2.2.1
  have f1 := wsend_fn p.gateway
  generalize sSend p.gateway = z at f1 hl1 hl2 ⊢
  obtain ⟨l, le⟩ := z
  dsimp only at f1 hl1 hl2 ⊢
  obtain ⟨B, hB⟩ : ∃ B, tkF p.epoch p.mailbox 0 l = B := ⟨_, rfl⟩
  rw [hB]
  refine zgo m_psnd_ok fun W S => ?_
  refine zcd (pcop_fr p F) ?_
  refine evr_obSub 2 _ rfl (pr_low p) ?_
  refine zcd (fc) ?_
  refine zcd (f1) ?_
  refine ev_loopK [1, 2, 5, 33, 34] (fun q : {q : Nat × Mailbox × Int // q.1 ≤ l.length ∧ tkF p.epoch q.2.1 q.2.2 (l.drop q.1) = B ∧ q.2.1.taken.length ≤ 3518437208780 + q.1 ∧ shortO 5864062014634 q.2.1.taken ∧ 0 ≤ q.2.2 ∧ q.2.2 ≤ q.1} => [(9, .int .i64 q.1.2.2), (35, .int .i64 q.1.1)]) (fun q => [⟨.box false 35, true, 0, prV false p⟩, ⟨.box false 35, true, 0, pr0V⟩, ⟨.box false 35, true, 0, prV false { p with mailbox := q.1.2.1 }⟩]) (fun q => l.length - q.1.1) (⟨(0, p.mailbox, 0), by simp, by simpa using hB, hm, F.m.2, by simp, by simp⟩) 3 (by simp only [go_sem]; rfl) ?_ (by first | rfl | (simp only [go_sem]; done)) (by simp) (by first | rfl | (simp only [go_sem]; done)) (by first | rfl | (simp only [go_sem]; done)) (by first | rfl | (simp only [go_sem]; done)) ?_
  · (simp only [go_sem]; (try simp []); done)
  intro J hJ
  rintro ⟨⟨k, m, t⟩, hk0, hb, hm1, hm2, ht0, ht1⟩
  dsimp only at hk0 hb hm1 hm2 ht0 ht1
  dsimp only
  by_cases hlt : k < l.length
  · have ho := hl2 _ (mem_at hlt)
    have ho' : l[k]!.data.length ≤ 5864062014634 := by omega
    have f2 := wtake_fn m p.epoch l[k]! ⟨by omega, hm2⟩ ho'
    have n1 := sTake_len m p.epoch l[k]!
    have n2 := sTake_short (e := p.epoch) hm2 ho'
    rw [List.drop_eq_getElem_cons hlt, tkF, ← getElem!_pos l k hlt] at hb
    generalize sTake m p.epoch l[k]! = y at f2 n1 n2 hb
    obtain ⟨m', b, z⟩ := y
    dsimp only at f2 n1 n2 hb
    cases b
    · rw [if_neg (by simp)] at hb
      refine zst ?_
      refine zcd (f2) ?_
      refine ev_next 3 (hJ _ (⟨(k + 1, m', t), hlt, hb, by dsimp only; omega, n2, ht0, by dsimp only; omega⟩) (by first | omega | (dsimp only; omega) | (simp; omega))) rfl (by simp) ?_ (by first | rfl | (simp only [go_sem]; done)) (by first | rfl | (simp only [go_sem]; done)) ?_
      · (first | rfl | (simp only [go_sem]; done) | (simp only [go_sem]; simp only []; done) | (simp only []; done) | (simp only [go_sem]; simp []; done) | (simp []; done))
      · (simp only [go_sem]; (repeat' (refine And.intro ?_ ?_)) <;> first | exact trivial | with_reducible rfl | (simp only []; done) | (simp only []; with_reducible rfl) | (simp []; done) | (simp []; omega) | (simp only []; rfl) | skip)
    · rw [if_pos rfl] at hb
      refine zst ?_
      refine zcd (f2) ?_
      refine ev_next 3 (hJ _ (⟨(k + 1, m', t + 1), hlt, hb, by dsimp only; omega, n2, by dsimp only; omega, by dsimp only; omega⟩) (by first | omega | (dsimp only; omega) | (simp; omega))) rfl (by simp) ?_ (by first | rfl | (simp only [go_sem]; done)) (by first | rfl | (simp only [go_sem]; done)) ?_
      · (first | rfl | (simp only [go_sem]; done) | (simp only [go_sem]; simp only []; done) | (simp only []; done) | (simp only [go_sem]; simp []; done) | (simp []; done))
      · (simp only [go_sem]; (repeat' (refine And.intro ?_ ?_)) <;> first | exact trivial | with_reducible rfl | (simp only []; done) | (simp only []; with_reducible rfl) | (simp []; done) | (simp []; omega) | (simp only []; rfl) | skip)
  · obtain rfl : k = l.length := by omega
    rw [List.drop_length, tkF] at hb
    subst hb
    refine zst ?_
    exact zrt m_psnd_ok
set_option maxHeartbeats 16000000 in
theorem rsnd_fn (p : Pair) (F : shortO 5864062014634 p.mailbox.taken) (hm : p.mailbox.taken.length ≤ 3518437208780) : Fnc Tryz.prog 27 [prV false p] (fun x obs => x = .tup [prV false (sSnd p).1, .int .i64 (sSnd p).2.1, .int .i64 (sSnd p).2.2] ∧ obs = []) := by
  refine Fnc.low ?_
  have fc := rpchk_fn p
  by_cases c1 : chkP p = 0
  rotate_left
  · rw [sSnd_e (by unfold sndE; rw [if_pos c1]) c1]
    generalize chkP p = z at fc c1
    refine zgo m_rsnd_ok fun W S => ?_
    refine zcd (fc) ?_
    exact zrt m_rsnd_ok
  have hs := chkP_ok c1
  have a0 : -1 ≤ p.active := hs.1.2.2.2.2.1
  rw [c1] at fc
  by_cases c2 : p.active < 0
  · rw [sSnd_e (e := 10) (by unfold sndE; rw [if_neg (by simp [c1]), if_pos c2]) (by decide)]
    have c2 : p.active = -1 := by omega
    refine zgo m_rsnd_ok fun W S => ?_
    refine zcd (fc) ?_
    exact zrt m_rsnd_ok
  rw [sSnd_0 (by unfold sndE; rw [if_neg (by simp [c1]), if_neg c2])]
  obtain ⟨hl1, hl2⟩ := sSend_ok hs.2.2.1
  have f1 := rsend_fn p.gateway
  generalize sSend p.gateway = z at f1 hl1 hl2 ⊢
  obtain ⟨l, le⟩ := z
  dsimp only at f1 hl1 hl2 ⊢
  obtain ⟨B, hB⟩ : ∃ B, tkF p.epoch p.mailbox 0 l = B := ⟨_, rfl⟩
  rw [hB]
  refine zgo m_rsnd_ok fun W S => ?_
  refine zcd (fc) ?_
  refine zcd (f1) ?_
  refine ev_loopK [1, 2, 6] (fun q : {q : Nat × Mailbox × Int // q.1 ≤ l.length ∧ tkF p.epoch q.2.1 q.2.2 (l.drop q.1) = B ∧ q.2.1.taken.length ≤ 3518437208780 + q.1 ∧ shortO 5864062014634 q.2.1.taken ∧ 0 ≤ q.2.2 ∧ q.2.2 ≤ q.1} => [(8, .int .i64 q.1.2.2), (9, .int .i64 q.1.1)]) (fun q => [⟨.box false 35, true, 0, prV false { p with mailbox := q.1.2.1 }⟩, ⟨.box false 35, true, 0, pr0V⟩]) (fun q => l.length - q.1.1) (⟨(0, p.mailbox, 0), by simp, by simpa using hB, hm, F, by simp, by simp⟩) 2 (by simp only [go_sem]; rfl) ?_ (by first | rfl | (simp only [go_sem]; done)) (by simp) (by first | rfl | (simp only [go_sem]; done)) (by first | rfl | (simp only [go_sem]; done)) (by first | rfl | (simp only [go_sem]; done)) ?_
  · (simp only [go_sem]; (try simp []); done)
  intro J hJ
  rintro ⟨⟨k, m, t⟩, hk0, hb, hm1, hm2, ht0, ht1⟩
  dsimp only at hk0 hb hm1 hm2 ht0 ht1
  dsimp only
  by_cases hlt : k < l.length
  · have ho := hl2 _ (mem_at hlt)
    have ho' : l[k]!.data.length ≤ 5864062014634 := by omega
    have f2 := rtake_fn m p.epoch l[k]! ⟨by omega, hm2⟩ ho'
    have n1 := sTake_len m p.epoch l[k]!
    have n2 := sTake_short (e := p.epoch) hm2 ho'
    rw [List.drop_eq_getElem_cons hlt, tkF, ← getElem!_pos l k hlt] at hb
    generalize sTake m p.epoch l[k]! = y at f2 n1 n2 hb
    obtain ⟨m', b, z⟩ := y
    dsimp only at f2 n1 n2 hb
    cases b
    · rw [if_neg (by simp)] at hb
      refine zst ?_
      refine zcd (f2) ?_
      refine ev_next 2 (hJ _ (⟨(k + 1, m', t), hlt, hb, by dsimp only; omega, n2, ht0, by dsimp only; omega⟩) (by first | omega | (dsimp only; omega) | (simp; omega))) rfl (by simp) ?_ (by first | rfl | (simp only [go_sem]; done)) (by first | rfl | (simp only [go_sem]; done)) ?_
      · (first | rfl | (simp only [go_sem]; done) | (simp only [go_sem]; simp only []; done) | (simp only []; done) | (simp only [go_sem]; simp []; done) | (simp []; done))
      · (simp only [go_sem]; (repeat' (refine And.intro ?_ ?_)) <;> first | exact trivial | with_reducible rfl | (simp only []; done) | (simp only []; with_reducible rfl) | (simp []; done) | (simp []; omega) | (simp only []; rfl) | skip)
    · rw [if_pos rfl] at hb
      refine zst ?_
      refine zcd (f2) ?_
      refine ev_next 2 (hJ _ (⟨(k + 1, m', t + 1), hlt, hb, by dsimp only; omega, n2, by dsimp only; omega, by dsimp only; omega⟩) (by first | omega | (dsimp only; omega) | (simp; omega))) rfl (by simp) ?_ (by first | rfl | (simp only [go_sem]; done)) (by first | rfl | (simp only [go_sem]; done)) ?_
      · (first | rfl | (simp only [go_sem]; done) | (simp only [go_sem]; simp only []; done) | (simp only []; done) | (simp only [go_sem]; simp []; done) | (simp []; done))
      · (simp only [go_sem]; (repeat' (refine And.intro ?_ ?_)) <;> first | exact trivial | with_reducible rfl | (simp only []; done) | (simp only []; with_reducible rfl) | (simp []; done) | (simp []; omega) | (simp only []; rfl) | skip)
  · obtain rfl : k = l.length := by omega
    rw [List.drop_length, tkF] at hb
    subst hb
    refine zst ?_
    exact zrt m_rsnd_ok
end Go.Proofs.YtdpfglkjhdnbbaaGreat
