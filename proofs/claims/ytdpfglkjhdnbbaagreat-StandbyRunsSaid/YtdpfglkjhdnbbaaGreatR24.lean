/- Standby: a monitor takes over, by the reference. -/
import Derived.Test.YtdpfglkjhdnbbaaGreatR23
import Derived.Test.YtdpfglkjhdnbbaaGreatC5
namespace Go.Proofs.YtdpfglkjhdnbbaaGreat
open Go Go.RowKit Rdn Rdn.Dp
set_option linter.unusedVariables false
set_option linter.unusedSimpArgs false
theorem m_rover_ok : compF Tryz.prog 66 = some (99, Qr ([Qw 2 (.box 35 (.t 0)), Qw 4 (.alloc 35 (.agg [.int .i64 0, .int .i64 0, .int .i64 0, .nilS, .nilS, .nilS, .agg [.int .i64 0, .int .i64 0, .int .i64 0, .nilS], .int .i64 0, .agg [.int .i64 0, .int .i64 0, .nilS]])), Qc 5 (.bool false)])
 (Qr ([Qf 15 5 5 2, Ql 16 1 15, Qm 17 1, Qx 18 1 16 17, Ql 19 1 18, Qq 20 49 [(.t 19)], Qm 14 20, Qe 21 14 0, Qe 22 14 1, Qm 6 21, Qm 7 22])
 (Qr ([Qm 24 6, Qq 25 50 [(.t 24)], Qm 23 25, Qe 26 23 0, Qe 27 23 1, Qe 28 23 2, Qw 8 (.alloc 31 (.agg [.int .i64 0, .int .i64 0, .int .i64 0, .nilS])), Qs 4 8 26, Qm 9 27, Qm 10 28])
 (.seq (Qr ([Qm 29 10, Qk 30 .neq 29 0, Qm 31 30, Q0 32 31 (.mov (.t 9)), Q0 33 31 (.bin 0 .eql (.t 32) (Qi 1048576)), Qt 34 31 33])
 (.cond (.t 34) (Qr ([QL 35 14 2, Qs 14 4 35, Qc 5 (.bool false)])
 (.ret)) (.skip)))
 (Qr ([Qm 36 9, Qk 37 .add 36 1, Qw 38 (.build none [.int .i64 0, .int .i64 0, .int .i64 0, .nilS] [(0, (Qi 5)), (1, (.t 37))]), Qw 11 (.alloc 42 (.agg [.int .i64 0, .int .i64 0, .int .i64 0, .nilS])), Qs 4 11 38])
 (.seq (.dreg [Qf 40 5 5 2, Ql 41 1 40, Qm 42 1, Qx 43 1 41 42, Ql 44 1 43, Qm 45 7, Qw 46 (.sl 1 (.t 44) none (some (.t 45)) none), QL 47 4 11, Qq 48 18 [(.t 46), (.t 47)], Qm 39 48, Qe 49 39 0, Qe 50 39 1, Qm 12 49, Qm 10 50] [[], [0], [], [0, 1, 2], [0, 1, 2, 3], [], [0, 1, 2, 3, 4, 5], [], [0, 1, 2, 3, 4, 5, 6, 7], [0, 1, 2, 3, 4, 5, 6, 7, 8], [0, 1, 2, 3, 4, 5, 6, 7, 8, 9], [0, 1, 2, 3, 4, 5, 6, 7, 8, 9], [0, 1, 2, 3, 4, 5, 6, 7, 8, 9, 10], [0, 1, 2, 3, 4, 5, 6, 7, 8, 9, 10, 11, 12]])
 (.seq (Qr ([Qm 51 10, Qk 52 .neq 51 0])
 (.cond (.t 52) (Qr ([QL 53 14 2, Qs 14 4 53, Qc 5 (.bool false)])
 (.ret)) (.skip)))
 (Qr ([QL 54 14 2, Qq 55 51 [(.t 54)], Qw 13 (.alloc 35 (.agg [.int .i64 0, .int .i64 0, .int .i64 0, .nilS, .nilS, .nilS, .agg [.int .i64 0, .int .i64 0, .int .i64 0, .nilS], .int .i64 0, .agg [.int .i64 0, .int .i64 0, .nilS]])), Qs 14 13 55])
 (Qr ([Qm 57 6, QL 58 4 11, Qw 59 (.buildS 42 4 (.agg [.int .i64 0, .int .i64 0, .int .i64 0, .nilS]) 1 [(0, (.t 58))]), Qw 60 (.app 42 4 48 (.t 57) (.t 59)), Qq 61 50 [(.t 60)], Qm 56 61, Qe 62 56 0, Qe 63 56 1, Qe 64 56 2, Qf 65 6 6 13, Qs 4 65 62, Qf 66 10 7 13, Qs 1 66 63])
 (Qr ([Qf 67 5 5 13, Ql 68 1 67, Qm 69 1, Qm 70 12, Qm 71 1, Qx 72 1 68 69, Qs 1 72 70, Qf 73 2 2 13, Qs 1 73 71, Qf 74 1 1 13, ⟨none, none, (.m (.store 1 (.t 74) (Qi 0)))⟩])
 (.seq (.dreg [Qf 75 4 4 13, Ql 76 1 75, Qm 77 1, Qp 78 (.bin 0 .sub (Qi 1) (.t 77)), Qf 79 3 3 2, Ql 80 1 79, Qm 81 1, Qp 82 (.bin 0 .sub (Qi 1) (.t 81)), Qx 83 1 80 82, Ql 84 1 83, Qx 85 1 76 78, Qs 1 85 84] [[], [0], [], [2], [], [4], [], [6], [4, 5, 6, 7], [4, 5, 6, 7, 8], [0, 1, 2, 3, 4, 5, 6, 7, 8, 9], [0, 1, 2, 3, 4, 5, 6, 7, 8, 9, 10]])
 (.seq (Qr ([Qf 86 3 3 2, Ql 87 1 86, Qm 88 1, Qp 89 (.bin 0 .sub (Qi 1) (.t 88)), Qx 90 1 87 89, Ql 91 1 90])
 (.cond (.t 91) (.reg [Qf 92 5 5 13, Ql 93 1 92, Qm 94 1, Qp 95 (.bin 0 .sub (Qi 1) (.t 94)), Qm 96 12, Qx 97 1 93 95, Qs 1 97 96]) (.skip)))
 (Qr ([QL 98 14 13, Qs 14 4 98, Qc 5 (.bool true)])
 (.ret))))))))))))), [.load true 14 (.t 4), .mov (.t 5)]) := by kernel_rfl
section
attribute [local go_sem] take_mapU drop_mapU List.take_length snoc_note
attribute [local irreducible] sEnc sDec
set_option maxHeartbeats 4000000 in
theorem rrecO_fn (j : List Int) (hj : j.length ≤ 1000000) : Fnc Tryz.prog 49 [.sl false 1 (u8s j)] (fun x obs => x = .tup [.own 0 0, .int .i64 (sRec j).2] ∧ obs = [⟨.row 42, true, 0, .arr 4 ((sRec j).1.map (noteV false))⟩]) := by
  obtain ⟨s, hs⟩ : ∃ s, sRec j = s := ⟨_, rfl⟩
  rw [hs]
  refine Fnc.low ?_
  refine zgo m_rrec_ok fun W S => ?_
  refine ev_adopt (i := 4) (e := 42) (s := 4) rfl (by decide) ?_
  refine ev_loopK [0] (fun p : {p : List Note × Nat × Nat × Nat // p.2.1 ≤ j.length ∧ j.length < p.2.1 + p.2.2.1 ∧ p.1.length ≤ p.2.1 ∧ recF j p.2.2.1 p.1 p.2.1 = s} => [(4, .own 0 p.1.2.2.2), (5, .int .i64 p.1.2.1)]) (fun p => [⟨.row 42, true, p.1.2.2.2, .arr 4 (p.1.1.map (noteV false))⟩]) (fun p => j.length - p.1.2.1) (⟨([], 0, j.length + 1, 0), by simp, by simp, by simp, hs⟩) 1 (by simp only [go_sem]; rfl) ?_ (by first | rfl | (simp only [go_sem]; done)) (by simp) (by first | rfl | (simp only [go_sem]; done)) (by first | rfl | (simp only [go_sem]; done)) (by first | rfl | (simp only [go_sem]; done)) ?_
  · (simp only [go_sem]; (try simp []); done)
  intro J hJ
  rintro ⟨⟨out, at_, fu, gr⟩, h1, h2, h3, h4⟩
  dsimp only at h1 h2 h3 h4 ⊢
  have hd := rdec_fn (j.drop at_)
  have hk := sDec_ok (j.drop at_)
  rw [List.length_drop] at hk
  obtain ⟨fu, rfl⟩ : ∃ f, fu = f + 1 := ⟨fu - 1, by omega⟩
  rw [recF] at h4
  generalize sDec (j.drop at_) = r at hd hk h4
  by_cases c : r.2.2 = 0
  · rw [if_neg (fun h => h c)] at h4
    obtain ⟨q, hq⟩ : ∃ q : Nat, r.2.1 = (q : Int) := ⟨r.2.1.toNat, by have := (hk c).1; omega⟩
    have hk := hk c
    rw [hq] at hk h4
    rw [hq] at hd
    rw [Int.toNat_natCast] at h4
    refine zst ?_
    refine zcd (hd) ?_
    refine ev_next 1 (hJ _ (⟨(out ++ [r.1], at_ + q, fu, gr + 1), by dsimp only; omega, by dsimp only; omega, by simp only [List.length_append, List.length_cons, List.length_nil]; omega, h4⟩) (by first | omega | (dsimp only; omega) | (simp; omega))) rfl (by simp) ?_ (by first | rfl | (simp only [go_sem]; done)) (by first | rfl | (simp only [go_sem]; done)) ?_
    · (first | rfl | (simp only [go_sem]; done) | (simp only [go_sem]; simp only []; done) | (simp only []; done) | (simp only [go_sem]; simp []; done) | (simp []; done))
    · (simp only [go_sem]; (repeat' (refine And.intro ?_ ?_)) <;> first | exact trivial | with_reducible rfl | (simp only []; done) | (simp only []; with_reducible rfl) | (simp []; done) | (simp []; omega) | (simp only []; rfl) | skip)
  · rw [if_pos c] at h4
    subst h4
    refine zst ?_
    refine zcd (hd) ?_
    refine ret m_rrec_ok [0] ?_; exact zfn
end
theorem reb_nt5k {l : List Note} {g : Gateway} {e : Int} (h : sReb l = (g, e, 0)) (h2 : e < 1048576) : sReb (l ++ [nt5k (e + 1)]) = (g, e + 1, 0) := by
  have he : effS g e (nt5k (e + 1)) = (g, e + 1, 0) := by
    unfold effS
    rw [if_neg (by dsimp only; omega), if_neg (by dsimp only; omega), if_neg (by dsimp only; omega), if_pos rfl, if_neg (by dsimp only; omega)]
  rw [sReb_snoc _ h, he, if_pos rfl]
theorem recF_len (j : List Int) : ∀ (f : Nat) (out : List Note) (p : Nat), (recF j f out p).1.length ≤ out.length + f
  | 0, out, p => Nat.le_refl _
  | f + 1, out, p => by
    rw [recF]
    split
    · dsimp only; omega
    · have := recF_len j f (out ++ [(sDec (j.drop p)).1]) (p + (sDec (j.drop p)).2.1.toNat)
      rw [List.length_append, List.length_singleton] at this
      omega
theorem sRec_len (j : List Int) : (sRec j).1.length ≤ j.length + 1 := by
  have := recF_len j (j.length + 1) [] 0
  unfold sRec
  simpa using this
attribute [local irreducible] sApp sRec sReb
set_option maxHeartbeats 16000000 in
theorem rover_fn (p : Pair) (i : Int) (hi : i = 0 ∨ i = 1) (h : shdP p) : Fnc Tryz.prog 66 [prV false p, .int .i64 i] (fun x obs => x = .tup [prV false (sOver p i).1, .bool (sOver p i).2] ∧ obs = []) := by
  refine Fnc.low ?_
  obtain ⟨h1, h2, h3, h4, h5⟩ := h
  have hji := two_le h3 h4 h5 (a := i.toNat) (by omega)
  have hjo := two_le h3 h4 h5 (a := (1 - i).toNat) (by omega)
  have fr := rrecO_fn p.journals[i.toNat]! (by omega)
  have fb := rreb_fn (sRec p.journals[i.toNat]!).1
  have hn := (rec_inv p.journals[i.toNat]!).2.2
  have hrl := sRec_len p.journals[i.toNat]!
  rcases hr : sRec p.journals[i.toNat]! with ⟨r1, r2⟩
  rw [hr] at fr fb hn hrl
  dsimp only at fr fb hn hrl
  have hep := sReb_epr r1
  rcases hq : sReb r1 with ⟨g, ep, er⟩
  rw [hq] at fb hep
  dsimp only at fb hep
  have hG : ovG p i = (g, ep, er) := by unfold ovG; rw [hr]; exact hq
  by_cases c1 : er = 0
  rotate_left
  · rw [sOver_no (fun h => c1 (by have := h.1; rwa [hG] at this))]
    refine zgo m_rover_ok fun W S => ?_
    (first | refine callX (fr) ?_ | refine callXw (fr) ?_); refine zev ?_
    refine zso ?_
    refine evr_regen 2 [6, 24] rfl rfl ⟨rfl, rfl, trivial⟩ ?_; simp only [go_sem]
    refine callS 2 0 fb ?_
    simp only [go_sem, List.mem_singleton, forall_eq, dp3Ok, dp2Ok, dp3, dp2, dp1_map]
    refine ⟨fun y hy => dp1Ok_map _ (noteV false) _ y hy, ?_⟩
    refine zst ?_
    exact zrt m_rover_ok
  by_cases c2 : ep < 1048576
  rotate_left
  · have c2' : ep = 1048576 := by omega
    rw [sOver_no (fun h => c2 (by have := h.2.1; rwa [hG] at this))]
    refine zgo m_rover_ok fun W S => ?_
    (first | refine callX (fr) ?_ | refine callXw (fr) ?_); refine zev ?_
    refine zso ?_
    refine evr_regen 2 [6, 24] rfl rfl ⟨rfl, rfl, trivial⟩ ?_; simp only [go_sem]
    refine callS 2 0 fb ?_
    simp only [go_sem, List.mem_singleton, forall_eq, dp3Ok, dp2Ok, dp3, dp2, dp1_map]
    refine ⟨fun y hy => dp1Ok_map _ (noteV false) _ y hy, ?_⟩
    refine zst ?_
    exact zrt m_rover_ok
  have ht := u8_take r2 p.journals[i.toNat]!
  have fa := rapp_fn (p.journals[i.toNat]!.take r2) (nt5k (ep + 1))
  have hbl := sApp_len (p.journals[i.toNat]!.take r2) (nt5k (ep + 1))
  rcases hs : sApp (p.journals[i.toNat]!.take r2) (nt5k (ep + 1)) with ⟨b, eb⟩
  rw [hs] at fa hbl
  dsimp only at fa hbl
  have hB : ovB p i = (b, eb) := by unfold ovB; rw [hG, hr]; exact hs
  by_cases c3 : eb = 0
  rotate_left
  · rw [sOver_no (fun h => c3 (by have := h.2.2; rwa [hB] at this))]
    refine zgo m_rover_ok fun W S => ?_
    (first | refine callX (fr) ?_ | refine callXw (fr) ?_); refine zev ?_
    refine zso ?_
    refine evr_regen 2 [6, 24] rfl rfl ⟨rfl, rfl, trivial⟩ ?_; simp only [go_sem]
    refine callS 2 0 fb ?_
    simp only [go_sem, List.mem_singleton, forall_eq, dp3Ok, dp2Ok, dp3, dp2, dp1_map]
    refine ⟨fun y hy => dp1Ok_map _ (noteV false) _ y hy, ?_⟩
    refine zsx ht ?_
    refine zcd (fa) ?_
    exact zrt m_rover_ok
  rw [sOver_ok ⟨by rw [hG]; exact c1, by rw [hG]; exact c2, by rw [hB]; exact c3⟩]
  unfold ovP
  rw [hG, hB]
  have hsz := fun x => set_sz false p.journals (i := i.toNat) (j := (1 - i).toNat) x (by omega) (by omega)
  have hln := fun x => (set_ln false p.journals i.toNat x).trans h3
  have fb2 := rreb_fn (r1 ++ [nt5k (ep + 1)])
  rw [reb_nt5k (hq.trans (by rw [c1])) c2] at fb2
  dsimp only at fb2
  have hsn : List.map (noteV false) r1 ++ [V.agg [.int .i64 5, .int .i64 (ep + 1), .int .i64 0, .sl false 1 []]] = List.map (noteV false) (r1 ++ [nt5k (ep + 1)]) := by simp
  by_cases c5 : p.up[(1 - i).toNat]! = true
  · rw [if_pos c5]
    refine zgo m_rover_ok fun W S => ?_
    (first | refine callX (fr) ?_ | refine callXw (fr) ?_); refine zev ?_
    refine zso ?_
    refine evr_regen 2 [6, 24] rfl rfl ⟨rfl, rfl, trivial⟩ ?_; simp only [go_sem]
    refine callS 2 0 fb ?_
    simp only [go_sem, List.mem_singleton, forall_eq, dp3Ok, dp2Ok, dp3, dp2, dp1_map]
    refine ⟨fun y hy => dp1Ok_map _ (noteV false) _ y hy, ?_⟩
    refine zso ?_
    refine ev_obSub 4 (.agg [.int .i64 5, .int .i64 (ep + 1), .int .i64 0, .sl false 1 (List.map (V.int .u8) [])]) rfl (SubV.agg ⟨SubV.refl _, SubV.refl _, SubV.refl _, SubV.nil _ _, trivial⟩) rfl ?_
    refine zsx ht ?_
    refine zcd (fa) ?_
    refine zcx (rcop_fn p (by omega)) ?_
    simp only [hsn]
    refine evr_calmA ?_; refine zev ?_
    refine zcd (fb2) ?_
    refine zsx (And.intro c5 (And.intro hln (hsz))) ?_
    refine ret m_rover_ok [] ?_; (first | (simp only [go_sem]; done) | (simp only [go_sem]; ((try dsimp only); (repeat' (refine And.intro ?_ ?_)) <;> first | with_reducible rfl | (simp only [go_sem]; done) | (simp only [go_sem]; rfl) | (simp only [go_sem, lows_set, set_bs, set_bo]; done) | (simp only [lows_set, set_bs, set_bo]; (try simp only [go_sem]); first | done | rfl) | (simp only [go_sem]; simp [lows_set, set_bs, set_bo]; done) | (simp [lows_set, set_bs, set_bo]; done) | rfl)))
  · rw [if_neg c5]
    have c5 : p.up[(1 - i).toNat]! = false := by simpa using c5
    refine zgo m_rover_ok fun W S => ?_
    (first | refine callX (fr) ?_ | refine callXw (fr) ?_); refine zev ?_
    refine zso ?_
    refine evr_regen 2 [6, 24] rfl rfl ⟨rfl, rfl, trivial⟩ ?_; simp only [go_sem]
    refine callS 2 0 fb ?_
    simp only [go_sem, List.mem_singleton, forall_eq, dp3Ok, dp2Ok, dp3, dp2, dp1_map]
    refine ⟨fun y hy => dp1Ok_map _ (noteV false) _ y hy, ?_⟩
    refine zso ?_
    refine ev_obSub 4 (.agg [.int .i64 5, .int .i64 (ep + 1), .int .i64 0, .sl false 1 (List.map (V.int .u8) [])]) rfl (SubV.agg ⟨SubV.refl _, SubV.refl _, SubV.refl _, SubV.nil _ _, trivial⟩) rfl ?_
    refine zsx ht ?_
    refine zcd (fa) ?_
    refine zcx (rcop_fn p (by omega)) ?_
    simp only [hsn]
    refine evr_calmA ?_; refine zev ?_
    refine zcd (fb2) ?_
    refine zsx (And.intro c5 (And.intro hln (hsz))) ?_
    refine ret m_rover_ok [] ?_; (first | (simp only [go_sem]; done) | (simp only [go_sem]; ((try dsimp only); (repeat' (refine And.intro ?_ ?_)) <;> first | with_reducible rfl | (simp only [go_sem]; done) | (simp only [go_sem]; rfl) | (simp only [go_sem, lows_set, set_bs, set_bo]; done) | (simp only [lows_set, set_bs, set_bo]; (try simp only [go_sem]); first | done | rfl) | (simp only [go_sem]; simp [lows_set, set_bs, set_bo]; done) | (simp [lows_set, set_bs, set_bo]; done) | rfl)))
end Go.Proofs.YtdpfglkjhdnbbaaGreat
