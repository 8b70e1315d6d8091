/- Journals: a note is read. -/
import Derived.Test.YtdjjhajkpfiagaaJ4
namespace Go.Proofs.Ytdjjhajkpfiagaa
open Go Go.RowKit Rdn Rdn.Dp
set_option linter.unusedVariables false
set_option linter.unusedSimpArgs false
def m_wdec : MC := .seq (.reg [⟨(some 2), none, (.m (.alloc 34 (.agg [.int .i64 0, .int .i64 0, .int .i64 0, .nilS])))⟩, ⟨(some 3), none, (.p (.mov (.c (.int .i64 0))))⟩, ⟨(some 4), none, (.p (.mov (.c (.int .i64 0))))⟩])
 (.seq (.seq (.reg [⟨(some 11), none, (.p (.mov (.t 0)))⟩, ⟨(some 12), none, (.p (.len (.t 11)))⟩, ⟨(some 13), none, (.p (.bin 0 .lss (.t 12) (.c (.int .i64 2))))⟩])
 (.cond (.t 13) (.seq (.reg [⟨(some 14), none, (.m (.build none [.int .i64 0, .int .i64 0, .int .i64 0, .nilS] []))⟩, ⟨none, none, (.m (.store 4 (.t 2) (.t 14)))⟩, ⟨(some 3), none, (.p (.mov (.c (.int .i64 0))))⟩, ⟨(some 4), none, (.p (.mov (.c (.int .i64 4))))⟩])
 (.ret)) (.skip)))
 (.seq (.dreg [⟨(some 15), none, (.p (.mov (.t 0)))⟩, ⟨(some 16), none, (.p (.idxA 1 (.t 15) (.c (.int .i64 0))))⟩, ⟨(some 17), none, (.p (.load false 1 (.t 16)))⟩, ⟨(some 18), none, (.p (.conv .i64 (.t 17)))⟩, ⟨(some 19), none, (.p (.mov (.t 0)))⟩, ⟨(some 20), none, (.p (.idxA 1 (.t 19) (.c (.int .i64 1))))⟩, ⟨(some 21), none, (.p (.load false 1 (.t 20)))⟩, ⟨(some 22), none, (.p (.conv .i64 (.t 21)))⟩, ⟨(some 23), none, (.p (.bin 0 .shl (.t 22) (.c (.int .u64 8))))⟩, ⟨(some 24), none, (.p (.bin 0 .or (.t 18) (.t 23)))⟩, ⟨(some 5), none, (.p (.mov (.t 24)))⟩] [[], [0], [0, 1], [0, 1, 2], [], [4], [4, 5], [4, 5, 6], [4, 5, 6, 7], [0, 1, 2, 3, 4, 5, 6, 7, 8], [0, 1, 2, 3, 4, 5, 6, 7, 8, 9]])
 (.seq (.reg [⟨(some 25), none, (.p (.mov (.t 5)))⟩, ⟨(some 26), none, (.p (.bin 0 .add (.c (.int .i64 2)) (.t 25)))⟩, ⟨(some 27), none, (.p (.bin 0 .add (.t 26) (.c (.int .i64 4))))⟩, ⟨(some 6), none, (.p (.mov (.t 27)))⟩])
 (.seq (.seq (.reg [⟨(some 28), none, (.p (.mov (.t 0)))⟩, ⟨(some 29), none, (.p (.len (.t 28)))⟩, ⟨(some 30), none, (.p (.mov (.t 6)))⟩, ⟨(some 31), none, (.p (.bin 0 .lss (.t 29) (.t 30)))⟩])
 (.cond (.t 31) (.seq (.reg [⟨(some 32), none, (.m (.build none [.int .i64 0, .int .i64 0, .int .i64 0, .nilS] []))⟩, ⟨none, none, (.m (.store 4 (.t 2) (.t 32)))⟩, ⟨(some 3), none, (.p (.mov (.c (.int .i64 0))))⟩, ⟨(some 4), none, (.p (.mov (.c (.int .i64 4))))⟩])
 (.ret)) (.skip)))
 (.seq (.seq (.reg [⟨(some 33), none, (.p (.mov (.t 5)))⟩, ⟨(some 34), none, (.p (.bin 0 .lss (.t 33) (.c (.int .i64 6))))⟩])
 (.cond (.t 34) (.seq (.reg [⟨(some 35), none, (.m (.build none [.int .i64 0, .int .i64 0, .int .i64 0, .nilS] []))⟩, ⟨none, none, (.m (.store 4 (.t 2) (.t 35)))⟩, ⟨(some 3), none, (.p (.mov (.c (.int .i64 0))))⟩, ⟨(some 4), none, (.p (.mov (.c (.int .i64 5))))⟩])
 (.ret)) (.skip)))
 (.seq (.reg [⟨(some 36), none, (.p (.mov (.t 0)))⟩, ⟨(some 37), none, (.p (.mov (.t 5)))⟩, ⟨(some 38), none, (.p (.bin 0 .add (.c (.int .i64 2)) (.t 37)))⟩, ⟨(some 39), none, (.m (.sl 1 (.t 36) (some (.c (.int .i64 2))) (some (.t 38)) none))⟩, ⟨(some 7), none, (.p (.mov (.t 39)))⟩])
 (.seq (.dreg [⟨(some 40), none, (.p (.mov (.t 7)))⟩, ⟨(some 41), none, (.p (.idxA 1 (.t 40) (.c (.int .i64 0))))⟩, ⟨(some 42), none, (.p (.load false 1 (.t 41)))⟩, ⟨(some 43), none, (.p (.conv .i64 (.t 42)))⟩, ⟨(some 44), none, (.p (.mov (.t 7)))⟩, ⟨(some 45), none, (.p (.idxA 1 (.t 44) (.c (.int .i64 1))))⟩, ⟨(some 46), none, (.p (.load false 1 (.t 45)))⟩, ⟨(some 47), none, (.p (.conv .i64 (.t 46)))⟩, ⟨(some 48), none, (.p (.mov (.t 7)))⟩, ⟨(some 49), none, (.m (.sl 1 (.t 48) (some (.c (.int .i64 2))) none none))⟩, ⟨(some 50), none, (.call 48 [(.t 49)])⟩, ⟨(some 51), none, (.p (.conv .i64 (.t 50)))⟩, ⟨(some 52), none, (.m (.build none [.int .i64 0, .int .i64 0, .int .i64 0, .nilS] [(0, (.t 43)), (2, (.t 47)), (1, (.t 51))]))⟩, ⟨(some 8), none, (.m (.alloc 34 (.agg [.int .i64 0, .int .i64 0, .int .i64 0, .nilS])))⟩, ⟨none, none, (.m (.store 4 (.t 8) (.t 52)))⟩] [[], [0], [0, 1], [0, 1, 2], [], [4], [4, 5], [4, 5, 6], [], [8], [8, 9], [8, 9, 10], [0, 1, 2, 3, 4, 5, 6, 7, 8, 9, 10, 11], [], [0, 1, 2, 3, 4, 5, 6, 7, 8, 9, 10, 11, 12, 13]])
 (.seq (.seq (.reg [⟨(some 53), none, (.p (.mov (.t 5)))⟩, ⟨(some 54), none, (.p (.bin 0 .gtr (.t 53) (.c (.int .i64 6))))⟩])
 (.cond (.t 54) (.reg [⟨(some 55), none, (.p (.mov (.t 7)))⟩, ⟨(some 56), none, (.m (.sl 1 (.t 55) (some (.c (.int .i64 6))) none none))⟩, ⟨(some 57), none, (.call 49 [(.t 56)])⟩, ⟨(some 58), none, (.p (.fieldA 3 3 (.t 8)))⟩, ⟨none, none, (.m (.store 1 (.t 58) (.t 57)))⟩]) (.skip)))
 (.seq (.seq (.reg [⟨(some 60), none, (.p (.load true 4 (.t 8)))⟩, ⟨(some 61), none, (.call 16 [(.t 60)])⟩, ⟨(some 59), none, (.p (.mov (.t 61)))⟩, ⟨(some 62), none, (.p (.ext (.t 59) 0))⟩, ⟨(some 63), none, (.p (.ext (.t 59) 1))⟩, ⟨(some 9), none, (.p (.mov (.t 62)))⟩, ⟨(some 10), none, (.p (.mov (.t 63)))⟩])
 (.seq (.reg [⟨(some 64), none, (.p (.mov (.t 10)))⟩, ⟨(some 65), none, (.p (.bin 0 .neq (.t 64) (.c (.int .i64 0))))⟩, ⟨(some 66), none, (.p (.mov (.t 65)))⟩, ⟨(some 67), (some (66, false)), (.p (.mov (.t 9)))⟩, ⟨(some 68), (some (66, false)), (.p (.mov (.t 0)))⟩, ⟨(some 69), (some (66, false)), (.p (.mov (.t 6)))⟩, ⟨(some 70), (some (66, false)), (.m (.sl 1 (.t 68) none (some (.t 69)) none))⟩, ⟨(some 71), (some (66, false)), (.call 50 [(.t 67), (.t 70)])⟩, ⟨(some 72), (some (66, false)), (.p (.un .not (.t 71)))⟩, ⟨(some 73), none, (.p (.pick (.t 66) (.c (.bool true)) (.t 72)))⟩])
 (.cond (.t 73) (.seq (.reg [⟨(some 74), none, (.m (.build none [.int .i64 0, .int .i64 0, .int .i64 0, .nilS] []))⟩, ⟨none, none, (.m (.store 4 (.t 2) (.t 74)))⟩, ⟨(some 3), none, (.p (.mov (.c (.int .i64 0))))⟩, ⟨(some 4), none, (.p (.mov (.c (.int .i64 5))))⟩])
 (.ret)) (.skip))))
 (.seq (.reg [⟨(some 75), none, (.p (.load true 4 (.t 8)))⟩, ⟨(some 76), none, (.p (.mov (.t 6)))⟩, ⟨none, none, (.m (.store 4 (.t 2) (.t 75)))⟩, ⟨(some 3), none, (.p (.mov (.t 76)))⟩, ⟨(some 4), none, (.p (.mov (.c (.int .i64 0))))⟩])
 (.ret)))))))))))
theorem m_wdec_ok : compF Try.prog 18 = some (77, m_wdec, [.load true 4 (.t 2), .mov (.t 3), .mov (.t 4)]) := by kernel_rfl
def n0 : Note := ⟨0, 0, 0, []⟩
def kOf (b : List Int) : Int := b[0]! + b[1]! * 256
def noteOf (b : List Int) : Note := ⟨b[2]!, num4 b[4]! b[5]! b[6]! b[7]!, b[3]!, (b.take (kOf b + 2).toNat).drop 8⟩
/-- What is read: the note, how many bytes, the error. -/
noncomputable def sDec (b : List Int) : Note × Int × Int :=
  if b.length < 2 then (n0, 0, 4) else if (b.length : Int) < kOf b + 6 then (n0, 0, 4) else if kOf b < 6 then (n0, 0, 5)
  else if (sEnc (noteOf b)).2 = 0 ∧ (sEnc (noteOf b)).1 = b.take (kOf b + 6).toNat then (noteOf b, kOf b + 6, 0) else (n0, 0, 5)
theorem dec_facts {b : List Int} (hb : ∀ x ∈ b, inK .u8 x) (h2 : 2 ≤ b.length) : ∃ K : Nat, bor .i64 b[0]! (b[1]! * 256) = K ∧ kOf b = K ∧ K ≤ 65535 := by
  have b0 := wfs_at hb (k := 0) (by omega)
  have b1 := wfs_at hb (k := 1) (by omega)
  have e : bor .i64 b[0]! (b[1]! * 256) = b[0]! + b[1]! * 256 := bor_sum (.inr rfl) 8 256 (by omega) rfl b0.1 (by omega) b1.1 (by omega)
  refine ⟨(kOf b).toNat, ?_, ?_, ?_⟩
  · rw [e]; unfold kOf; omega
  · unfold kOf; omega
  · unfold kOf; omega
theorem take_mapU (k : IntKind) (l : List Int) (n : Nat) : (l.map (V.int k)).take n = (l.take n).map (V.int k) := by rw [List.map_take]
theorem drop_mapU (k : IntKind) (l : List Int) (n : Nat) : (l.map (V.int k)).drop n = (l.drop n).map (V.int k) := by rw [List.map_drop]
theorem nt0 : SubV (.agg [.int .i64 0, .int .i64 0, .int .i64 0, .nilS]) (.agg (noteL false n0)) := SubV.agg ⟨SubV.refl _, SubV.refl _, SubV.refl _, SubV.nil _ _, trivial⟩
theorem nt1 (a b c : Int) : SubV (.agg [.int .i64 a, .int .i64 b, .int .i64 c, .nilS]) (.agg (noteL false ⟨a, b, c, []⟩)) := SubV.agg ⟨SubV.refl _, SubV.refl _, SubV.refl _, SubV.nil _ _, trivial⟩
/-- The part of the bytes that the length names. -/
theorem part_facts {b : List Int} {K : Nat} (hb : ∀ x ∈ b, inK .u8 x) (h1 : K + 6 ≤ b.length) (h2 : 6 ≤ K) (hk : kOf b = K) : ∃ X : List Int, List.drop 2 (List.take (2 + (K : Int)).toNat b) = X ∧ X.length = K ∧ (∀ x ∈ X, inK .u8 x) ∧ noteOf b = ⟨X[0]!, num4 (X.drop 2)[0]! (X.drop 2)[1]! (X.drop 2)[2]! (X.drop 2)[3]!, X[1]!, X.drop 6⟩ := by
  refine ⟨_, rfl, ?_, ?_, ?_⟩
  · simp only [List.length_drop, List.length_take]; omega
  · exact fun x hx => hb x (List.mem_of_mem_take (List.mem_of_mem_drop hx))
  · have e : (2 + (K : Int)).toNat = K + 2 := by omega
    have at2 : ∀ j, j < K → (List.drop 2 (List.take (K + 2) b))[j]! = b[j + 2]! := fun j hj => by
      simp [List.getElem?_take, show j + 2 < K + 2 by omega, Nat.add_comm]
    have at4 : ∀ j, j + 2 < K → (List.drop 2 (List.drop 2 (List.take (K + 2) b)))[j]! = b[j + 4]! := fun j hj => by
      rw [show (List.drop 2 (List.drop 2 (List.take (K + 2) b)))[j]! = (List.drop 2 (List.take (K + 2) b))[j + 2]! by simp [Nat.add_comm, Nat.add_left_comm], at2 _ hj]
    unfold noteOf
    rw [e, hk, show ((K : Int) + 2).toNat = K + 2 by omega, at2 0 (by omega), at2 1 (by omega), at4 0 (by omega), at4 1 (by omega), at4 2 (by omega), at4 3 (by omega), List.drop_drop]
theorem num4_b {a b c d : Int} (ha : 0 ≤ a ∧ a ≤ 255) (hb : 0 ≤ b ∧ b ≤ 255) (hc : 0 ≤ c ∧ c ≤ 255) (hd : 0 ≤ d ∧ d ≤ 255) : 0 ≤ num4 a b c d ∧ num4 a b c d ≤ 4294967295 := by unfold num4; omega
attribute [local go_sem] take_mapU drop_mapU List.take_length
attribute [local irreducible] num4 sEnc
set_option maxHeartbeats 8000000 in
theorem wdec_fn (b : List Int) : Fnc Try.prog 18 [.sl false 1 (u8s b)] (fun x obs => x = .tup [.agg (noteL false (sDec b).1), .int .i64 (sDec b).2.1, .int .i64 (sDec b).2.2] ∧ obs = []) := by
  refine Fnc.wf fun hw => ?_
  simp only [V.wfs, V.wf, wfs_map, List.length_map] at hw
  have hb := hw.1.1
  have hm := hw.1.2
  clear hw
  refine Fnc.low ?_
  by_cases c1 : b.length < 2
  · rw [show sDec b = (n0, 0, 4) by rw [sDec, if_pos c1]]
    refine Fnc.intro m_wdec_ok (by simp) fun W S => ?_
    unfold m_wdec
    simp only [ents, Nat.zero_add, Nat.reduceAdd]
    repeat (first | refine And.intro (by omega) ?_ | refine And.intro rfl ?_ | refine ev_ctl rfl rfl ?_ | refine evr_nil ?_ | refine evw_nil (by kernel_rfl) ?_ | (simp (disch := omega) only [takeAll, Nat.min_eq_left, Nat.min_eq_right, if_pos, if_neg, getD_map, wrapI64, modIn, fdivE, tmodE, tdivE, decT, decF, beqT, beqF, bneT, bneF, Int.toNat_natCast]; try simp only [go_sem]) | refine ev_condTb rfl (by simp <;> omega) ?_ | refine ev_condFb rfl (by simp <;> omega) ?_ | ((first | refine ev_region ?_ | refine evr_go rfl ?_ | refine evw_go rfl ?_ | refine ev_dr0 mixed rfl (by kernel_rfl) ?_ | refine ev_dr1 mixed rfl (by kernel_rfl) ?_ | refine ev_dr2 mixed rfl (by kernel_rfl) ?_); simp only [go_sem]))
    refine ev_obSub 0 _ rfl nt0 rfl ?_
    refine ret m_wdec_ok [] ?_; (first | (simp only [go_sem]; done) | (simp only [go_sem]; ((try dsimp only); (repeat' (refine And.intro ?_ ?_)) <;> first | with_reducible rfl | (simp only [go_sem]; done) | (simp only [go_sem]; rfl) | (simp only []; (try simp only [go_sem]); first | done | rfl) | (simp only [go_sem]; simp []; done) | (simp []; done) | rfl)))
  obtain ⟨K, hor, hk, hK⟩ := dec_facts hb (by omega)
  have b0 := wfs_at hb (k := 0) (by omega)
  have b1 := wfs_at hb (k := 1) (by omega)
  by_cases c2 : b.length < K + 6
  · rw [show sDec b = (n0, 0, 4) by rw [sDec, if_neg c1, if_pos (by omega)]]
    refine Fnc.intro m_wdec_ok (by simp) fun W S => ?_
    unfold m_wdec
    simp only [ents, Nat.zero_add, Nat.reduceAdd]
    repeat (first | simp only [hor] | refine And.intro (by omega) ?_ | refine And.intro rfl ?_ | refine ev_ctl rfl rfl ?_ | refine evr_nil ?_ | refine evw_nil (by kernel_rfl) ?_ | (simp (disch := omega) only [takeAll, Nat.min_eq_left, Nat.min_eq_right, if_pos, if_neg, getD_map, wrapI64, modIn, fdivE, tmodE, tdivE, decT, decF, beqT, beqF, bneT, bneF, Int.toNat_natCast]; try simp only [go_sem]) | refine ev_condTb rfl (by simp <;> omega) ?_ | refine ev_condFb rfl (by simp <;> omega) ?_ | ((first | refine ev_region ?_ | refine evr_go rfl ?_ | refine evw_go rfl ?_ | refine ev_dr0 mixed rfl (by kernel_rfl) ?_ | refine ev_dr1 mixed rfl (by kernel_rfl) ?_ | refine ev_dr2 mixed rfl (by kernel_rfl) ?_); simp only [go_sem]))
    refine ev_obSub 0 _ rfl nt0 rfl ?_
    refine ret m_wdec_ok [] ?_; (first | (simp only [go_sem]; done) | (simp only [go_sem]; ((try dsimp only); (repeat' (refine And.intro ?_ ?_)) <;> first | with_reducible rfl | (simp only [go_sem]; done) | (simp only [go_sem]; rfl) | (simp only []; (try simp only [go_sem]); first | done | rfl) | (simp only [go_sem]; simp []; done) | (simp []; done) | rfl)))
  by_cases c3 : K < 6
  · rw [show sDec b = (n0, 0, 5) by rw [sDec, if_neg c1, if_neg (by omega), if_pos (by omega)]]
    refine Fnc.intro m_wdec_ok (by simp) fun W S => ?_
    unfold m_wdec
    simp only [ents, Nat.zero_add, Nat.reduceAdd]
    repeat (first | simp only [hor] | refine And.intro (by omega) ?_ | refine And.intro rfl ?_ | refine ev_ctl rfl rfl ?_ | refine evr_nil ?_ | refine evw_nil (by kernel_rfl) ?_ | (simp (disch := omega) only [takeAll, Nat.min_eq_left, Nat.min_eq_right, if_pos, if_neg, getD_map, wrapI64, modIn, fdivE, tmodE, tdivE, decT, decF, beqT, beqF, bneT, bneF, Int.toNat_natCast]; try simp only [go_sem]) | refine ev_condTb rfl (by simp <;> omega) ?_ | refine ev_condFb rfl (by simp <;> omega) ?_ | ((first | refine ev_region ?_ | refine evr_go rfl ?_ | refine evw_go rfl ?_ | refine ev_dr0 mixed rfl (by kernel_rfl) ?_ | refine ev_dr1 mixed rfl (by kernel_rfl) ?_ | refine ev_dr2 mixed rfl (by kernel_rfl) ?_); simp only [go_sem]))
    refine ev_obSub 0 _ rfl nt0 rfl ?_
    refine ret m_wdec_ok [] ?_; (first | (simp only [go_sem]; done) | (simp only [go_sem]; ((try dsimp only); (repeat' (refine And.intro ?_ ?_)) <;> first | with_reducible rfl | (simp only [go_sem]; done) | (simp only [go_sem]; rfl) | (simp only []; (try simp only [go_sem]); first | done | rfl) | (simp only [go_sem]; simp []; done) | (simp []; done) | rfl)))
  obtain ⟨X, hX, hXl, hXb, hn⟩ := part_facts hb (by omega) (by omega) hk
  have x0 := wfs_at hXb (k := 0) (by omega)
  have x1 := wfs_at hXb (k := 1) (by omega)
  have hdb : ∀ x ∈ X.drop 2, inK .u8 x := fun x hx => hXb x (List.mem_of_mem_drop hx)
  have hdl : (X.drop 2).length = K - 2 := by rw [List.length_drop, hXl]
  have nb := num4_b (wfs_at hdb (k := 0) (by omega)) (wfs_at hdb (k := 1) (by omega)) (wfs_at hdb (k := 2) (by omega)) (wfs_at hdb (k := 3) (by omega))
  have nf := num_fn (X.drop 2) (by omega)
  generalize num4 (X.drop 2)[0]! (X.drop 2)[1]! (X.drop 2)[2]! (X.drop 2)[3]! = nm at nb nf hn
  have hall : List.take (2 + (K : Int) + 4).toNat b = b.take (kOf b + 6).toNat := by rw [hk]; congr 1; omega
  have hS : sDec b = if (sEnc (noteOf b)).2 = 0 ∧ (sEnc (noteOf b)).1 = b.take (kOf b + 6).toNat then (noteOf b, kOf b + 6, 0) else (n0, 0, 5) := by rw [sDec, if_neg c1, if_neg (by omega), if_neg (by omega)]
  rw [hn] at hS
  have hk6 : kOf b + 6 = 2 + (K : Int) + 4 := by omega
  generalize b.take (kOf b + 6).toNat = T at hall hS
  rw [hk6] at hS
  by_cases c4 : K = 6
  · have hd : X.drop 6 = [] := List.drop_of_length_le (by omega)
    rw [hd] at hS
    have ef := wenc_fn ⟨X[0]!, nm, X[1]!, []⟩
    have n1 := nt1 X[0]! nm X[1]!
    generalize sEnc ⟨X[0]!, nm, X[1]!, []⟩ = r at hS ef
    have be := bequal_fn r.1 T
    by_cases c5 : r.2 = 0
    · by_cases c6 : r.1 = T
      · rw [if_pos ⟨c5, c6⟩] at hS
        rw [hS]
        rw [decT c6] at be
        refine Fnc.intro m_wdec_ok (by simp) fun W S => ?_
        unfold m_wdec
        simp only [ents, Nat.zero_add, Nat.reduceAdd]
        repeat (first | simp only [hor, hX] | refine And.intro (by omega) ?_ | refine And.intro rfl ?_ | refine ev_ctl rfl rfl ?_ | refine evr_nil ?_ | refine evw_nil (by kernel_rfl) ?_ | (simp (disch := omega) only [takeAll, Nat.min_eq_left, Nat.min_eq_right, if_pos, if_neg, getD_map, wrapI64, modIn, fdivE, tmodE, tdivE, decT, decF, beqT, beqF, bneT, bneF, Int.toNat_natCast]; try simp only [go_sem]) | refine ev_condTb rfl (by simp <;> omega) ?_ | refine ev_condFb rfl (by simp <;> omega) ?_ | ((first | refine ev_region ?_ | refine evr_go rfl ?_ | refine evw_go rfl ?_ | refine ev_dr0 mixed rfl (by kernel_rfl) ?_ | refine ev_dr1 mixed rfl (by kernel_rfl) ?_ | refine ev_dr2 mixed rfl (by kernel_rfl) ?_); simp only [go_sem]))
        (first | refine callD (nf) ?_ | refine callDw (nf) ?_); simp only [go_sem]; repeat (first | refine And.intro (by omega) ?_ | refine And.intro rfl ?_ | (simp (disch := omega) only [takeAll, Nat.min_eq_left, Nat.min_eq_right, if_pos, if_neg, getD_map, wrapI64, modIn, fdivE, tmodE, tdivE, decT, decF, beqT, beqF, bneT, bneF, Int.toNat_natCast]; try simp only [go_sem]))
        repeat (first | simp only [hor, hX, hall] | refine And.intro (by omega) ?_ | refine And.intro rfl ?_ | refine ev_ctl rfl rfl ?_ | refine evr_nil ?_ | refine evw_nil (by kernel_rfl) ?_ | (simp (disch := omega) only [takeAll, Nat.min_eq_left, Nat.min_eq_right, if_pos, if_neg, getD_map, wrapI64, modIn, fdivE, tmodE, tdivE, decT, decF, beqT, beqF, bneT, bneF, Int.toNat_natCast]; try simp only [go_sem]) | refine ev_condTb rfl (by simp <;> omega) ?_ | refine ev_condFb rfl (by simp <;> omega) ?_ | ((first | refine ev_region ?_ | refine evr_go rfl ?_ | refine evw_go rfl ?_ | refine ev_dr0 mixed rfl (by kernel_rfl) ?_ | refine ev_dr1 mixed rfl (by kernel_rfl) ?_ | refine ev_dr2 mixed rfl (by kernel_rfl) ?_); simp only [go_sem]))
        refine evr_obSub 1 _ rfl n1 ?_
        (first | refine callD (ef) ?_ | refine callDw (ef) ?_); simp only [go_sem]; repeat (first | refine And.intro (by omega) ?_ | refine And.intro rfl ?_ | (simp (disch := omega) only [takeAll, Nat.min_eq_left, Nat.min_eq_right, if_pos, if_neg, getD_map, wrapI64, modIn, fdivE, tmodE, tdivE, decT, decF, beqT, beqF, bneT, bneF, Int.toNat_natCast]; try simp only [go_sem]))
        repeat (first | simp only [hall] | refine And.intro (by omega) ?_ | refine And.intro rfl ?_ | refine ev_ctl rfl rfl ?_ | refine evr_nil ?_ | refine evw_nil (by kernel_rfl) ?_ | (simp (disch := omega) only [takeAll, Nat.min_eq_left, Nat.min_eq_right, if_pos, if_neg, getD_map, wrapI64, modIn, fdivE, tmodE, tdivE, decT, decF, beqT, beqF, bneT, bneF, Int.toNat_natCast]; try simp only [go_sem]) | refine ev_condTb rfl (by simp <;> omega) ?_ | refine ev_condFb rfl (by simp <;> omega) ?_ | ((first | refine ev_region ?_ | refine evr_go rfl ?_ | refine evw_go rfl ?_ | refine ev_dr0 mixed rfl (by kernel_rfl) ?_ | refine ev_dr1 mixed rfl (by kernel_rfl) ?_ | refine ev_dr2 mixed rfl (by kernel_rfl) ?_); simp only [go_sem]))
        (first | refine callD (be) ?_ | refine callDw (be) ?_); simp only [go_sem]
        repeat (first | refine And.intro (by omega) ?_ | refine And.intro rfl ?_ | refine ev_ctl rfl rfl ?_ | refine evr_nil ?_ | refine evw_nil (by kernel_rfl) ?_ | (simp (disch := omega) only [takeAll, Nat.min_eq_left, Nat.min_eq_right, if_pos, if_neg, getD_map, wrapI64, modIn, fdivE, tmodE, tdivE, decT, decF, beqT, beqF, bneT, bneF, Int.toNat_natCast]; try simp only [go_sem]) | refine ev_condTb rfl (by simp <;> omega) ?_ | refine ev_condFb rfl (by simp <;> omega) ?_ | ((first | refine ev_region ?_ | refine evr_go rfl ?_ | refine evw_go rfl ?_ | refine ev_dr0 mixed rfl (by kernel_rfl) ?_ | refine ev_dr1 mixed rfl (by kernel_rfl) ?_ | refine ev_dr2 mixed rfl (by kernel_rfl) ?_); simp only [go_sem]))
        refine ret m_wdec_ok [] ?_; (first | (simp only [go_sem]; done) | (simp only [go_sem]; ((try dsimp only); (repeat' (refine And.intro ?_ ?_)) <;> first | with_reducible rfl | (simp only [go_sem]; done) | (simp only [go_sem]; rfl) | (simp only []; (try simp only [go_sem]); first | done | rfl) | (simp only [go_sem]; simp []; done) | (simp []; done) | rfl)))
      · rw [if_neg (fun h => c6 h.2)] at hS
        rw [hS]
        rw [decF c6] at be
        refine Fnc.intro m_wdec_ok (by simp) fun W S => ?_
        unfold m_wdec
        simp only [ents, Nat.zero_add, Nat.reduceAdd]
        repeat (first | simp only [hor, hX] | refine And.intro (by omega) ?_ | refine And.intro rfl ?_ | refine ev_ctl rfl rfl ?_ | refine evr_nil ?_ | refine evw_nil (by kernel_rfl) ?_ | (simp (disch := omega) only [takeAll, Nat.min_eq_left, Nat.min_eq_right, if_pos, if_neg, getD_map, wrapI64, modIn, fdivE, tmodE, tdivE, decT, decF, beqT, beqF, bneT, bneF, Int.toNat_natCast]; try simp only [go_sem]) | refine ev_condTb rfl (by simp <;> omega) ?_ | refine ev_condFb rfl (by simp <;> omega) ?_ | ((first | refine ev_region ?_ | refine evr_go rfl ?_ | refine evw_go rfl ?_ | refine ev_dr0 mixed rfl (by kernel_rfl) ?_ | refine ev_dr1 mixed rfl (by kernel_rfl) ?_ | refine ev_dr2 mixed rfl (by kernel_rfl) ?_); simp only [go_sem]))
        (first | refine callD (nf) ?_ | refine callDw (nf) ?_); simp only [go_sem]; repeat (first | refine And.intro (by omega) ?_ | refine And.intro rfl ?_ | (simp (disch := omega) only [takeAll, Nat.min_eq_left, Nat.min_eq_right, if_pos, if_neg, getD_map, wrapI64, modIn, fdivE, tmodE, tdivE, decT, decF, beqT, beqF, bneT, bneF, Int.toNat_natCast]; try simp only [go_sem]))
        repeat (first | simp only [hor, hX, hall] | refine And.intro (by omega) ?_ | refine And.intro rfl ?_ | refine ev_ctl rfl rfl ?_ | refine evr_nil ?_ | refine evw_nil (by kernel_rfl) ?_ | (simp (disch := omega) only [takeAll, Nat.min_eq_left, Nat.min_eq_right, if_pos, if_neg, getD_map, wrapI64, modIn, fdivE, tmodE, tdivE, decT, decF, beqT, beqF, bneT, bneF, Int.toNat_natCast]; try simp only [go_sem]) | refine ev_condTb rfl (by simp <;> omega) ?_ | refine ev_condFb rfl (by simp <;> omega) ?_ | ((first | refine ev_region ?_ | refine evr_go rfl ?_ | refine evw_go rfl ?_ | refine ev_dr0 mixed rfl (by kernel_rfl) ?_ | refine ev_dr1 mixed rfl (by kernel_rfl) ?_ | refine ev_dr2 mixed rfl (by kernel_rfl) ?_); simp only [go_sem]))
        refine evr_obSub 1 _ rfl n1 ?_
        (first | refine callD (ef) ?_ | refine callDw (ef) ?_); simp only [go_sem]; repeat (first | refine And.intro (by omega) ?_ | refine And.intro rfl ?_ | (simp (disch := omega) only [takeAll, Nat.min_eq_left, Nat.min_eq_right, if_pos, if_neg, getD_map, wrapI64, modIn, fdivE, tmodE, tdivE, decT, decF, beqT, beqF, bneT, bneF, Int.toNat_natCast]; try simp only [go_sem]))
        repeat (first | simp only [hall] | refine And.intro (by omega) ?_ | refine And.intro rfl ?_ | refine ev_ctl rfl rfl ?_ | refine evr_nil ?_ | refine evw_nil (by kernel_rfl) ?_ | (simp (disch := omega) only [takeAll, Nat.min_eq_left, Nat.min_eq_right, if_pos, if_neg, getD_map, wrapI64, modIn, fdivE, tmodE, tdivE, decT, decF, beqT, beqF, bneT, bneF, Int.toNat_natCast]; try simp only [go_sem]) | refine ev_condTb rfl (by simp <;> omega) ?_ | refine ev_condFb rfl (by simp <;> omega) ?_ | ((first | refine ev_region ?_ | refine evr_go rfl ?_ | refine evw_go rfl ?_ | refine ev_dr0 mixed rfl (by kernel_rfl) ?_ | refine ev_dr1 mixed rfl (by kernel_rfl) ?_ | refine ev_dr2 mixed rfl (by kernel_rfl) ?_); simp only [go_sem]))
        (first | refine callD (be) ?_ | refine callDw (be) ?_); simp only [go_sem]
        repeat (first | refine And.intro (by omega) ?_ | refine And.intro rfl ?_ | refine ev_ctl rfl rfl ?_ | refine evr_nil ?_ | refine evw_nil (by kernel_rfl) ?_ | (simp (disch := omega) only [takeAll, Nat.min_eq_left, Nat.min_eq_right, if_pos, if_neg, getD_map, wrapI64, modIn, fdivE, tmodE, tdivE, decT, decF, beqT, beqF, bneT, bneF, Int.toNat_natCast]; try simp only [go_sem]) | refine ev_condTb rfl (by simp <;> omega) ?_ | refine ev_condFb rfl (by simp <;> omega) ?_ | ((first | refine ev_region ?_ | refine evr_go rfl ?_ | refine evw_go rfl ?_ | refine ev_dr0 mixed rfl (by kernel_rfl) ?_ | refine ev_dr1 mixed rfl (by kernel_rfl) ?_ | refine ev_dr2 mixed rfl (by kernel_rfl) ?_); simp only [go_sem]))
        refine ev_obSub 0 _ rfl nt0 rfl ?_
        refine ret m_wdec_ok [] ?_; (first | (simp only [go_sem]; done) | (simp only [go_sem]; ((try dsimp only); (repeat' (refine And.intro ?_ ?_)) <;> first | with_reducible rfl | (simp only [go_sem]; done) | (simp only [go_sem]; rfl) | (simp only []; (try simp only [go_sem]); first | done | rfl) | (simp only [go_sem]; simp []; done) | (simp []; done) | rfl)))
    · rw [if_neg (fun h => c5 h.1)] at hS
      rw [hS]
      refine Fnc.intro m_wdec_ok (by simp) fun W S => ?_
      unfold m_wdec
      simp only [ents, Nat.zero_add, Nat.reduceAdd]
      repeat (first | simp only [hor, hX] | refine And.intro (by omega) ?_ | refine And.intro rfl ?_ | refine ev_ctl rfl rfl ?_ | refine evr_nil ?_ | refine evw_nil (by kernel_rfl) ?_ | (simp (disch := omega) only [takeAll, Nat.min_eq_left, Nat.min_eq_right, if_pos, if_neg, getD_map, wrapI64, modIn, fdivE, tmodE, tdivE, decT, decF, beqT, beqF, bneT, bneF, Int.toNat_natCast]; try simp only [go_sem]) | refine ev_condTb rfl (by simp <;> omega) ?_ | refine ev_condFb rfl (by simp <;> omega) ?_ | ((first | refine ev_region ?_ | refine evr_go rfl ?_ | refine evw_go rfl ?_ | refine ev_dr0 mixed rfl (by kernel_rfl) ?_ | refine ev_dr1 mixed rfl (by kernel_rfl) ?_ | refine ev_dr2 mixed rfl (by kernel_rfl) ?_); simp only [go_sem]))
      (first | refine callD (nf) ?_ | refine callDw (nf) ?_); simp only [go_sem]; repeat (first | refine And.intro (by omega) ?_ | refine And.intro rfl ?_ | (simp (disch := omega) only [takeAll, Nat.min_eq_left, Nat.min_eq_right, if_pos, if_neg, getD_map, wrapI64, modIn, fdivE, tmodE, tdivE, decT, decF, beqT, beqF, bneT, bneF, Int.toNat_natCast]; try simp only [go_sem]))
      repeat (first | simp only [hor, hX, hall] | refine And.intro (by omega) ?_ | refine And.intro rfl ?_ | refine ev_ctl rfl rfl ?_ | refine evr_nil ?_ | refine evw_nil (by kernel_rfl) ?_ | (simp (disch := omega) only [takeAll, Nat.min_eq_left, Nat.min_eq_right, if_pos, if_neg, getD_map, wrapI64, modIn, fdivE, tmodE, tdivE, decT, decF, beqT, beqF, bneT, bneF, Int.toNat_natCast]; try simp only [go_sem]) | refine ev_condTb rfl (by simp <;> omega) ?_ | refine ev_condFb rfl (by simp <;> omega) ?_ | ((first | refine ev_region ?_ | refine evr_go rfl ?_ | refine evw_go rfl ?_ | refine ev_dr0 mixed rfl (by kernel_rfl) ?_ | refine ev_dr1 mixed rfl (by kernel_rfl) ?_ | refine ev_dr2 mixed rfl (by kernel_rfl) ?_); simp only [go_sem]))
      refine evr_obSub 1 _ rfl n1 ?_
      (first | refine callD (ef) ?_ | refine callDw (ef) ?_); simp only [go_sem]; repeat (first | refine And.intro (by omega) ?_ | refine And.intro rfl ?_ | (simp (disch := omega) only [takeAll, Nat.min_eq_left, Nat.min_eq_right, if_pos, if_neg, getD_map, wrapI64, modIn, fdivE, tmodE, tdivE, decT, decF, beqT, beqF, bneT, bneF, Int.toNat_natCast]; try simp only [go_sem]))
      repeat (first | simp only [hall] | refine And.intro (by omega) ?_ | refine And.intro rfl ?_ | refine ev_ctl rfl rfl ?_ | refine evr_nil ?_ | refine evw_nil (by kernel_rfl) ?_ | (simp (disch := omega) only [takeAll, Nat.min_eq_left, Nat.min_eq_right, if_pos, if_neg, getD_map, wrapI64, modIn, fdivE, tmodE, tdivE, decT, decF, beqT, beqF, bneT, bneF, Int.toNat_natCast]; try simp only [go_sem]) | refine ev_condTb rfl (by simp <;> omega) ?_ | refine ev_condFb rfl (by simp <;> omega) ?_ | ((first | refine ev_region ?_ | refine evr_go rfl ?_ | refine evw_go rfl ?_ | refine ev_dr0 mixed rfl (by kernel_rfl) ?_ | refine ev_dr1 mixed rfl (by kernel_rfl) ?_ | refine ev_dr2 mixed rfl (by kernel_rfl) ?_); simp only [go_sem]))
      refine ev_obSub 0 _ rfl nt0 rfl ?_
      refine ret m_wdec_ok [] ?_; (first | (simp only [go_sem]; done) | (simp only [go_sem]; ((try dsimp only); (repeat' (refine And.intro ?_ ?_)) <;> first | with_reducible rfl | (simp only [go_sem]; done) | (simp only [go_sem]; rfl) | (simp only []; (try simp only [go_sem]); first | done | rfl) | (simp only [go_sem]; simp []; done) | (simp []; done) | rfl)))
  · have bc := bclone_fn (X.drop 6) (by rw [List.length_drop]; omega)
    have ef := wenc_fn ⟨X[0]!, nm, X[1]!, X.drop 6⟩
    generalize sEnc ⟨X[0]!, nm, X[1]!, X.drop 6⟩ = r at hS ef
    have be := bequal_fn r.1 T
    by_cases c5 : r.2 = 0
    · by_cases c6 : r.1 = T
      · rw [if_pos ⟨c5, c6⟩] at hS
        rw [hS]
        rw [decT c6] at be
        refine Fnc.intro m_wdec_ok (by simp) fun W S => ?_
        unfold m_wdec
        simp only [ents, Nat.zero_add, Nat.reduceAdd]
        repeat (first | simp only [hor, hX] | refine And.intro (by omega) ?_ | refine And.intro rfl ?_ | refine ev_ctl rfl rfl ?_ | refine evr_nil ?_ | refine evw_nil (by kernel_rfl) ?_ | (simp (disch := omega) only [takeAll, Nat.min_eq_left, Nat.min_eq_right, if_pos, if_neg, getD_map, wrapI64, modIn, fdivE, tmodE, tdivE, decT, decF, beqT, beqF, bneT, bneF, Int.toNat_natCast]; try simp only [go_sem]) | refine ev_condTb rfl (by simp <;> omega) ?_ | refine ev_condFb rfl (by simp <;> omega) ?_ | ((first | refine ev_region ?_ | refine evr_go rfl ?_ | refine evw_go rfl ?_ | refine ev_dr0 mixed rfl (by kernel_rfl) ?_ | refine ev_dr1 mixed rfl (by kernel_rfl) ?_ | refine ev_dr2 mixed rfl (by kernel_rfl) ?_); simp only [go_sem]))
        (first | refine callD (nf) ?_ | refine callDw (nf) ?_); simp only [go_sem]; repeat (first | refine And.intro (by omega) ?_ | refine And.intro rfl ?_ | (simp (disch := omega) only [takeAll, Nat.min_eq_left, Nat.min_eq_right, if_pos, if_neg, getD_map, wrapI64, modIn, fdivE, tmodE, tdivE, decT, decF, beqT, beqF, bneT, bneF, Int.toNat_natCast]; try simp only [go_sem]))
        repeat (first | simp only [hor, hX, hall] | refine And.intro (by omega) ?_ | refine And.intro rfl ?_ | refine ev_ctl rfl rfl ?_ | refine evr_nil ?_ | refine evw_nil (by kernel_rfl) ?_ | (simp (disch := omega) only [takeAll, Nat.min_eq_left, Nat.min_eq_right, if_pos, if_neg, getD_map, wrapI64, modIn, fdivE, tmodE, tdivE, decT, decF, beqT, beqF, bneT, bneF, Int.toNat_natCast]; try simp only [go_sem]) | refine ev_condTb rfl (by simp <;> omega) ?_ | refine ev_condFb rfl (by simp <;> omega) ?_ | ((first | refine ev_region ?_ | refine evr_go rfl ?_ | refine evw_go rfl ?_ | refine ev_dr0 mixed rfl (by kernel_rfl) ?_ | refine ev_dr1 mixed rfl (by kernel_rfl) ?_ | refine ev_dr2 mixed rfl (by kernel_rfl) ?_); simp only [go_sem]))
        (first | refine callD (bc) ?_ | refine callDw (bc) ?_); simp only [go_sem]; repeat (first | refine And.intro (by omega) ?_ | refine And.intro rfl ?_ | (simp (disch := omega) only [takeAll, Nat.min_eq_left, Nat.min_eq_right, if_pos, if_neg, getD_map, wrapI64, modIn, fdivE, tmodE, tdivE, decT, decF, beqT, beqF, bneT, bneF, Int.toNat_natCast]; try simp only [go_sem]))
        repeat (first | simp only [hall] | refine And.intro (by omega) ?_ | refine And.intro rfl ?_ | refine ev_ctl rfl rfl ?_ | refine evr_nil ?_ | refine evw_nil (by kernel_rfl) ?_ | (simp (disch := omega) only [takeAll, Nat.min_eq_left, Nat.min_eq_right, if_pos, if_neg, getD_map, wrapI64, modIn, fdivE, tmodE, tdivE, decT, decF, beqT, beqF, bneT, bneF, Int.toNat_natCast]; try simp only [go_sem]) | refine ev_condTb rfl (by simp <;> omega) ?_ | refine ev_condFb rfl (by simp <;> omega) ?_ | ((first | refine ev_region ?_ | refine evr_go rfl ?_ | refine evw_go rfl ?_ | refine ev_dr0 mixed rfl (by kernel_rfl) ?_ | refine ev_dr1 mixed rfl (by kernel_rfl) ?_ | refine ev_dr2 mixed rfl (by kernel_rfl) ?_); simp only [go_sem]))
        (first | refine callD (ef) ?_ | refine callDw (ef) ?_); simp only [go_sem]; repeat (first | refine And.intro (by omega) ?_ | refine And.intro rfl ?_ | (simp (disch := omega) only [takeAll, Nat.min_eq_left, Nat.min_eq_right, if_pos, if_neg, getD_map, wrapI64, modIn, fdivE, tmodE, tdivE, decT, decF, beqT, beqF, bneT, bneF, Int.toNat_natCast]; try simp only [go_sem]))
        repeat (first | simp only [hall] | refine And.intro (by omega) ?_ | refine And.intro rfl ?_ | refine ev_ctl rfl rfl ?_ | refine evr_nil ?_ | refine evw_nil (by kernel_rfl) ?_ | (simp (disch := omega) only [takeAll, Nat.min_eq_left, Nat.min_eq_right, if_pos, if_neg, getD_map, wrapI64, modIn, fdivE, tmodE, tdivE, decT, decF, beqT, beqF, bneT, bneF, Int.toNat_natCast]; try simp only [go_sem]) | refine ev_condTb rfl (by simp <;> omega) ?_ | refine ev_condFb rfl (by simp <;> omega) ?_ | ((first | refine ev_region ?_ | refine evr_go rfl ?_ | refine evw_go rfl ?_ | refine ev_dr0 mixed rfl (by kernel_rfl) ?_ | refine ev_dr1 mixed rfl (by kernel_rfl) ?_ | refine ev_dr2 mixed rfl (by kernel_rfl) ?_); simp only [go_sem]))
        (first | refine callD (be) ?_ | refine callDw (be) ?_); simp only [go_sem]
        repeat (first | refine And.intro (by omega) ?_ | refine And.intro rfl ?_ | refine ev_ctl rfl rfl ?_ | refine evr_nil ?_ | refine evw_nil (by kernel_rfl) ?_ | (simp (disch := omega) only [takeAll, Nat.min_eq_left, Nat.min_eq_right, if_pos, if_neg, getD_map, wrapI64, modIn, fdivE, tmodE, tdivE, decT, decF, beqT, beqF, bneT, bneF, Int.toNat_natCast]; try simp only [go_sem]) | refine ev_condTb rfl (by simp <;> omega) ?_ | refine ev_condFb rfl (by simp <;> omega) ?_ | ((first | refine ev_region ?_ | refine evr_go rfl ?_ | refine evw_go rfl ?_ | refine ev_dr0 mixed rfl (by kernel_rfl) ?_ | refine ev_dr1 mixed rfl (by kernel_rfl) ?_ | refine ev_dr2 mixed rfl (by kernel_rfl) ?_); simp only [go_sem]))
        refine ret m_wdec_ok [] ?_; (first | (simp only [go_sem]; done) | (simp only [go_sem]; ((try dsimp only); (repeat' (refine And.intro ?_ ?_)) <;> first | with_reducible rfl | (simp only [go_sem]; done) | (simp only [go_sem]; rfl) | (simp only []; (try simp only [go_sem]); first | done | rfl) | (simp only [go_sem]; simp []; done) | (simp []; done) | rfl)))
      · rw [if_neg (fun h => c6 h.2)] at hS
        rw [hS]
        rw [decF c6] at be
        refine Fnc.intro m_wdec_ok (by simp) fun W S => ?_
        unfold m_wdec
        simp only [ents, Nat.zero_add, Nat.reduceAdd]
        repeat (first | simp only [hor, hX] | refine And.intro (by omega) ?_ | refine And.intro rfl ?_ | refine ev_ctl rfl rfl ?_ | refine evr_nil ?_ | refine evw_nil (by kernel_rfl) ?_ | (simp (disch := omega) only [takeAll, Nat.min_eq_left, Nat.min_eq_right, if_pos, if_neg, getD_map, wrapI64, modIn, fdivE, tmodE, tdivE, decT, decF, beqT, beqF, bneT, bneF, Int.toNat_natCast]; try simp only [go_sem]) | refine ev_condTb rfl (by simp <;> omega) ?_ | refine ev_condFb rfl (by simp <;> omega) ?_ | ((first | refine ev_region ?_ | refine evr_go rfl ?_ | refine evw_go rfl ?_ | refine ev_dr0 mixed rfl (by kernel_rfl) ?_ | refine ev_dr1 mixed rfl (by kernel_rfl) ?_ | refine ev_dr2 mixed rfl (by kernel_rfl) ?_); simp only [go_sem]))
        (first | refine callD (nf) ?_ | refine callDw (nf) ?_); simp only [go_sem]; repeat (first | refine And.intro (by omega) ?_ | refine And.intro rfl ?_ | (simp (disch := omega) only [takeAll, Nat.min_eq_left, Nat.min_eq_right, if_pos, if_neg, getD_map, wrapI64, modIn, fdivE, tmodE, tdivE, decT, decF, beqT, beqF, bneT, bneF, Int.toNat_natCast]; try simp only [go_sem]))
        repeat (first | simp only [hor, hX, hall] | refine And.intro (by omega) ?_ | refine And.intro rfl ?_ | refine ev_ctl rfl rfl ?_ | refine evr_nil ?_ | refine evw_nil (by kernel_rfl) ?_ | (simp (disch := omega) only [takeAll, Nat.min_eq_left, Nat.min_eq_right, if_pos, if_neg, getD_map, wrapI64, modIn, fdivE, tmodE, tdivE, decT, decF, beqT, beqF, bneT, bneF, Int.toNat_natCast]; try simp only [go_sem]) | refine ev_condTb rfl (by simp <;> omega) ?_ | refine ev_condFb rfl (by simp <;> omega) ?_ | ((first | refine ev_region ?_ | refine evr_go rfl ?_ | refine evw_go rfl ?_ | refine ev_dr0 mixed rfl (by kernel_rfl) ?_ | refine ev_dr1 mixed rfl (by kernel_rfl) ?_ | refine ev_dr2 mixed rfl (by kernel_rfl) ?_); simp only [go_sem]))
        (first | refine callD (bc) ?_ | refine callDw (bc) ?_); simp only [go_sem]; repeat (first | refine And.intro (by omega) ?_ | refine And.intro rfl ?_ | (simp (disch := omega) only [takeAll, Nat.min_eq_left, Nat.min_eq_right, if_pos, if_neg, getD_map, wrapI64, modIn, fdivE, tmodE, tdivE, decT, decF, beqT, beqF, bneT, bneF, Int.toNat_natCast]; try simp only [go_sem]))
        repeat (first | simp only [hall] | refine And.intro (by omega) ?_ | refine And.intro rfl ?_ | refine ev_ctl rfl rfl ?_ | refine evr_nil ?_ | refine evw_nil (by kernel_rfl) ?_ | (simp (disch := omega) only [takeAll, Nat.min_eq_left, Nat.min_eq_right, if_pos, if_neg, getD_map, wrapI64, modIn, fdivE, tmodE, tdivE, decT, decF, beqT, beqF, bneT, bneF, Int.toNat_natCast]; try simp only [go_sem]) | refine ev_condTb rfl (by simp <;> omega) ?_ | refine ev_condFb rfl (by simp <;> omega) ?_ | ((first | refine ev_region ?_ | refine evr_go rfl ?_ | refine evw_go rfl ?_ | refine ev_dr0 mixed rfl (by kernel_rfl) ?_ | refine ev_dr1 mixed rfl (by kernel_rfl) ?_ | refine ev_dr2 mixed rfl (by kernel_rfl) ?_); simp only [go_sem]))
        (first | refine callD (ef) ?_ | refine callDw (ef) ?_); simp only [go_sem]; repeat (first | refine And.intro (by omega) ?_ | refine And.intro rfl ?_ | (simp (disch := omega) only [takeAll, Nat.min_eq_left, Nat.min_eq_right, if_pos, if_neg, getD_map, wrapI64, modIn, fdivE, tmodE, tdivE, decT, decF, beqT, beqF, bneT, bneF, Int.toNat_natCast]; try simp only [go_sem]))
        repeat (first | simp only [hall] | refine And.intro (by omega) ?_ | refine And.intro rfl ?_ | refine ev_ctl rfl rfl ?_ | refine evr_nil ?_ | refine evw_nil (by kernel_rfl) ?_ | (simp (disch := omega) only [takeAll, Nat.min_eq_left, Nat.min_eq_right, if_pos, if_neg, getD_map, wrapI64, modIn, fdivE, tmodE, tdivE, decT, decF, beqT, beqF, bneT, bneF, Int.toNat_natCast]; try simp only [go_sem]) | refine ev_condTb rfl (by simp <;> omega) ?_ | refine ev_condFb rfl (by simp <;> omega) ?_ | ((first | refine ev_region ?_ | refine evr_go rfl ?_ | refine evw_go rfl ?_ | refine ev_dr0 mixed rfl (by kernel_rfl) ?_ | refine ev_dr1 mixed rfl (by kernel_rfl) ?_ | refine ev_dr2 mixed rfl (by kernel_rfl) ?_); simp only [go_sem]))
        (first | refine callD (be) ?_ | refine callDw (be) ?_); simp only [go_sem]
        repeat (first | refine And.intro (by omega) ?_ | refine And.intro rfl ?_ | refine ev_ctl rfl rfl ?_ | refine evr_nil ?_ | refine evw_nil (by kernel_rfl) ?_ | (simp (disch := omega) only [takeAll, Nat.min_eq_left, Nat.min_eq_right, if_pos, if_neg, getD_map, wrapI64, modIn, fdivE, tmodE, tdivE, decT, decF, beqT, beqF, bneT, bneF, Int.toNat_natCast]; try simp only [go_sem]) | refine ev_condTb rfl (by simp <;> omega) ?_ | refine ev_condFb rfl (by simp <;> omega) ?_ | ((first | refine ev_region ?_ | refine evr_go rfl ?_ | refine evw_go rfl ?_ | refine ev_dr0 mixed rfl (by kernel_rfl) ?_ | refine ev_dr1 mixed rfl (by kernel_rfl) ?_ | refine ev_dr2 mixed rfl (by kernel_rfl) ?_); simp only [go_sem]))
        refine ev_obSub 0 _ rfl nt0 rfl ?_
        refine ret m_wdec_ok [] ?_; (first | (simp only [go_sem]; done) | (simp only [go_sem]; ((try dsimp only); (repeat' (refine And.intro ?_ ?_)) <;> first | with_reducible rfl | (simp only [go_sem]; done) | (simp only [go_sem]; rfl) | (simp only []; (try simp only [go_sem]); first | done | rfl) | (simp only [go_sem]; simp []; done) | (simp []; done) | rfl)))
    · rw [if_neg (fun h => c5 h.1)] at hS
      rw [hS]
      refine Fnc.intro m_wdec_ok (by simp) fun W S => ?_
      unfold m_wdec
      simp only [ents, Nat.zero_add, Nat.reduceAdd]
      repeat (first | simp only [hor, hX] | refine And.intro (by omega) ?_ | refine And.intro rfl ?_ | refine ev_ctl rfl rfl ?_ | refine evr_nil ?_ | refine evw_nil (by kernel_rfl) ?_ | (simp (disch := omega) only [takeAll, Nat.min_eq_left, Nat.min_eq_right, if_pos, if_neg, getD_map, wrapI64, modIn, fdivE, tmodE, tdivE, decT, decF, beqT, beqF, bneT, bneF, Int.toNat_natCast]; try simp only [go_sem]) | refine ev_condTb rfl (by simp <;> omega) ?_ | refine ev_condFb rfl (by simp <;> omega) ?_ | ((first | refine ev_region ?_ | refine evr_go rfl ?_ | refine evw_go rfl ?_ | refine ev_dr0 mixed rfl (by kernel_rfl) ?_ | refine ev_dr1 mixed rfl (by kernel_rfl) ?_ | refine ev_dr2 mixed rfl (by kernel_rfl) ?_); simp only [go_sem]))
      (first | refine callD (nf) ?_ | refine callDw (nf) ?_); simp only [go_sem]; repeat (first | refine And.intro (by omega) ?_ | refine And.intro rfl ?_ | (simp (disch := omega) only [takeAll, Nat.min_eq_left, Nat.min_eq_right, if_pos, if_neg, getD_map, wrapI64, modIn, fdivE, tmodE, tdivE, decT, decF, beqT, beqF, bneT, bneF, Int.toNat_natCast]; try simp only [go_sem]))
      repeat (first | simp only [hor, hX, hall] | refine And.intro (by omega) ?_ | refine And.intro rfl ?_ | refine ev_ctl rfl rfl ?_ | refine evr_nil ?_ | refine evw_nil (by kernel_rfl) ?_ | (simp (disch := omega) only [takeAll, Nat.min_eq_left, Nat.min_eq_right, if_pos, if_neg, getD_map, wrapI64, modIn, fdivE, tmodE, tdivE, decT, decF, beqT, beqF, bneT, bneF, Int.toNat_natCast]; try simp only [go_sem]) | refine ev_condTb rfl (by simp <;> omega) ?_ | refine ev_condFb rfl (by simp <;> omega) ?_ | ((first | refine ev_region ?_ | refine evr_go rfl ?_ | refine evw_go rfl ?_ | refine ev_dr0 mixed rfl (by kernel_rfl) ?_ | refine ev_dr1 mixed rfl (by kernel_rfl) ?_ | refine ev_dr2 mixed rfl (by kernel_rfl) ?_); simp only [go_sem]))
      (first | refine callD (bc) ?_ | refine callDw (bc) ?_); simp only [go_sem]; repeat (first | refine And.intro (by omega) ?_ | refine And.intro rfl ?_ | (simp (disch := omega) only [takeAll, Nat.min_eq_left, Nat.min_eq_right, if_pos, if_neg, getD_map, wrapI64, modIn, fdivE, tmodE, tdivE, decT, decF, beqT, beqF, bneT, bneF, Int.toNat_natCast]; try simp only [go_sem]))
      repeat (first | simp only [hall] | refine And.intro (by omega) ?_ | refine And.intro rfl ?_ | refine ev_ctl rfl rfl ?_ | refine evr_nil ?_ | refine evw_nil (by kernel_rfl) ?_ | (simp (disch := omega) only [takeAll, Nat.min_eq_left, Nat.min_eq_right, if_pos, if_neg, getD_map, wrapI64, modIn, fdivE, tmodE, tdivE, decT, decF, beqT, beqF, bneT, bneF, Int.toNat_natCast]; try simp only [go_sem]) | refine ev_condTb rfl (by simp <;> omega) ?_ | refine ev_condFb rfl (by simp <;> omega) ?_ | ((first | refine ev_region ?_ | refine evr_go rfl ?_ | refine evw_go rfl ?_ | refine ev_dr0 mixed rfl (by kernel_rfl) ?_ | refine ev_dr1 mixed rfl (by kernel_rfl) ?_ | refine ev_dr2 mixed rfl (by kernel_rfl) ?_); simp only [go_sem]))
      (first | refine callD (ef) ?_ | refine callDw (ef) ?_); simp only [go_sem]; repeat (first | refine And.intro (by omega) ?_ | refine And.intro rfl ?_ | (simp (disch := omega) only [takeAll, Nat.min_eq_left, Nat.min_eq_right, if_pos, if_neg, getD_map, wrapI64, modIn, fdivE, tmodE, tdivE, decT, decF, beqT, beqF, bneT, bneF, Int.toNat_natCast]; try simp only [go_sem]))
      repeat (first | simp only [hall] | refine And.intro (by omega) ?_ | refine And.intro rfl ?_ | refine ev_ctl rfl rfl ?_ | refine evr_nil ?_ | refine evw_nil (by kernel_rfl) ?_ | (simp (disch := omega) only [takeAll, Nat.min_eq_left, Nat.min_eq_right, if_pos, if_neg, getD_map, wrapI64, modIn, fdivE, tmodE, tdivE, decT, decF, beqT, beqF, bneT, bneF, Int.toNat_natCast]; try simp only [go_sem]) | refine ev_condTb rfl (by simp <;> omega) ?_ | refine ev_condFb rfl (by simp <;> omega) ?_ | ((first | refine ev_region ?_ | refine evr_go rfl ?_ | refine evw_go rfl ?_ | refine ev_dr0 mixed rfl (by kernel_rfl) ?_ | refine ev_dr1 mixed rfl (by kernel_rfl) ?_ | refine ev_dr2 mixed rfl (by kernel_rfl) ?_); simp only [go_sem]))
      refine ev_obSub 0 _ rfl nt0 rfl ?_
      refine ret m_wdec_ok [] ?_; (first | (simp only [go_sem]; done) | (simp only [go_sem]; ((try dsimp only); (repeat' (refine And.intro ?_ ?_)) <;> first | with_reducible rfl | (simp only [go_sem]; done) | (simp only [go_sem]; rfl) | (simp only []; (try simp only [go_sem]); first | done | rfl) | (simp only [go_sem]; simp []; done) | (simp []; done) | rfl)))
end Go.Proofs.Ytdjjhajkpfiagaa
