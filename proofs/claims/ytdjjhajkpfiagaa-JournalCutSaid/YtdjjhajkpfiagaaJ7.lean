/- Journals: notes one behind the other. -/
import Derived.Test.YtdjjhajkpfiagaaJ6
namespace Go.Proofs.Ytdjjhajkpfiagaa
open Go Go.RowKit Rdn Rdn.Dp
set_option linter.unusedVariables false
set_option linter.unusedSimpArgs false
def m_wapp : MC := .seq (.reg [⟨(some 3), none, (.m (.box 34 (.t 1)))⟩, ⟨(some 4), none, (.p (.mov (.c (.nilS))))⟩, ⟨(some 5), none, (.p (.mov (.c (.int .i64 0))))⟩])
 (.seq (.reg [⟨(some 9), none, (.p (.load true 4 (.t 3)))⟩, ⟨(some 10), none, (.call 16 [(.t 9)])⟩, ⟨(some 8), none, (.p (.mov (.t 10)))⟩, ⟨(some 11), none, (.p (.ext (.t 8) 0))⟩, ⟨(some 12), none, (.p (.ext (.t 8) 1))⟩, ⟨(some 6), none, (.p (.mov (.t 11)))⟩, ⟨(some 7), none, (.p (.mov (.t 12)))⟩])
 (.seq (.seq (.reg [⟨(some 13), none, (.p (.mov (.t 7)))⟩, ⟨(some 14), none, (.p (.bin 0 .neq (.t 13) (.c (.int .i64 0))))⟩])
 (.cond (.t 14) (.seq (.reg [⟨(some 15), none, (.p (.mov (.t 7)))⟩, ⟨(some 4), none, (.p (.mov (.c (.nilS))))⟩, ⟨(some 5), none, (.p (.mov (.t 15)))⟩])
 (.ret)) (.skip)))
 (.seq (.seq (.reg [⟨(some 16), none, (.p (.mov (.t 0)))⟩, ⟨(some 17), none, (.p (.len (.t 16)))⟩, ⟨(some 18), none, (.p (.mov (.t 6)))⟩, ⟨(some 19), none, (.p (.len (.t 18)))⟩, ⟨(some 20), none, (.p (.bin 0 .add (.t 17) (.t 19)))⟩, ⟨(some 21), none, (.p (.bin 0 .gtr (.t 20) (.c (.int .i64 262144))))⟩])
 (.cond (.t 21) (.seq (.reg [⟨(some 4), none, (.p (.mov (.c (.nilS))))⟩, ⟨(some 5), none, (.p (.mov (.c (.int .i64 3))))⟩])
 (.ret)) (.skip)))
 (.seq (.reg [⟨(some 22), none, (.p (.mov (.t 0)))⟩, ⟨(some 23), none, (.p (.mov (.t 6)))⟩, ⟨(some 24), none, (.m (.buildS 29 1 (.nilS) 2 [(0, (.t 22)), (1, (.t 23))]))⟩, ⟨(some 25), none, (.call 44 [(.t 24)])⟩, ⟨(some 4), none, (.p (.mov (.t 25)))⟩, ⟨(some 5), none, (.p (.mov (.c (.int .i64 0))))⟩])
 (.ret)))))
theorem m_wapp_ok : compF Try.prog 41 = some (26, m_wapp, [.mov (.t 4), .mov (.t 5)]) := by kernel_rfl
def m_rapp : MC := .seq (.reg [⟨(some 3), none, (.m (.box 34 (.t 1)))⟩, ⟨(some 4), none, (.p (.mov (.c (.nilS))))⟩, ⟨(some 5), none, (.p (.mov (.c (.int .i64 0))))⟩])
 (.seq (.reg [⟨(some 9), none, (.p (.load true 4 (.t 3)))⟩, ⟨(some 10), none, (.call 64 [(.t 9)])⟩, ⟨(some 8), none, (.p (.mov (.t 10)))⟩, ⟨(some 11), none, (.p (.ext (.t 8) 0))⟩, ⟨(some 12), none, (.p (.ext (.t 8) 1))⟩, ⟨(some 6), none, (.p (.mov (.t 11)))⟩, ⟨(some 7), none, (.p (.mov (.t 12)))⟩])
 (.seq (.seq (.reg [⟨(some 13), none, (.p (.mov (.t 7)))⟩, ⟨(some 14), none, (.p (.bin 0 .neq (.t 13) (.c (.int .i64 0))))⟩])
 (.cond (.t 14) (.seq (.reg [⟨(some 15), none, (.p (.mov (.t 7)))⟩, ⟨(some 4), none, (.p (.mov (.c (.nilS))))⟩, ⟨(some 5), none, (.p (.mov (.t 15)))⟩])
 (.ret)) (.skip)))
 (.seq (.seq (.reg [⟨(some 16), none, (.p (.mov (.t 0)))⟩, ⟨(some 17), none, (.p (.len (.t 16)))⟩, ⟨(some 18), none, (.p (.mov (.t 6)))⟩, ⟨(some 19), none, (.p (.len (.t 18)))⟩, ⟨(some 20), none, (.p (.bin 0 .add (.t 17) (.t 19)))⟩, ⟨(some 21), none, (.p (.bin 0 .gtr (.t 20) (.c (.int .i64 262144))))⟩])
 (.cond (.t 21) (.seq (.reg [⟨(some 4), none, (.p (.mov (.c (.nilS))))⟩, ⟨(some 5), none, (.p (.mov (.c (.int .i64 3))))⟩])
 (.ret)) (.skip)))
 (.seq (.reg [⟨(some 22), none, (.m (.buildS 5 1 (.int .u8 0) 0 []))⟩, ⟨(some 23), none, (.p (.mov (.t 0)))⟩, ⟨(some 24), none, (.m (.app 5 1 1 (.t 22) (.t 23)))⟩, ⟨(some 25), none, (.p (.mov (.t 6)))⟩, ⟨(some 26), none, (.m (.app 5 1 1 (.t 24) (.t 25)))⟩, ⟨(some 4), none, (.p (.mov (.t 26)))⟩, ⟨(some 5), none, (.p (.mov (.c (.int .i64 0))))⟩])
 (.ret)))))
theorem m_rapp_ok : compF Try.prog 66 = some (27, m_rapp, [.mov (.t 4), .mov (.t 5)]) := by kernel_rfl
def m_wrec : MC := .seq (.reg [⟨(some 2), none, (.p (.mov (.c (.nilS))))⟩, ⟨(some 3), none, (.p (.mov (.c (.int .i64 0))))⟩])
 (.seq (.reg [⟨(some 4), none, (.p (.mov (.c (.nilS))))⟩])
 (.seq (.reg [⟨(some 5), none, (.p (.mov (.c (.int .i64 0))))⟩])
 (.block 0 (.loop (.block 1 (.seq (.reg [⟨(some 10), none, (.p (.mov (.t 0)))⟩, ⟨(some 11), none, (.p (.mov (.t 5)))⟩, ⟨(some 12), none, (.m (.sl 1 (.t 10) (some (.t 11)) none none))⟩, ⟨(some 13), none, (.call 18 [(.t 12)])⟩, ⟨(some 9), none, (.p (.mov (.t 13)))⟩, ⟨(some 14), none, (.p (.ext (.t 9) 0))⟩, ⟨(some 15), none, (.p (.ext (.t 9) 1))⟩, ⟨(some 16), none, (.p (.ext (.t 9) 2))⟩, ⟨(some 6), none, (.m (.alloc 34 (.agg [.int .i64 0, .int .i64 0, .int .i64 0, .nilS])))⟩, ⟨none, none, (.m (.store 4 (.t 6) (.t 14)))⟩, ⟨(some 7), none, (.p (.mov (.t 15)))⟩, ⟨(some 8), none, (.p (.mov (.t 16)))⟩])
 (.seq (.seq (.reg [⟨(some 17), none, (.p (.mov (.t 8)))⟩, ⟨(some 18), none, (.p (.bin 0 .neq (.t 17) (.c (.int .i64 0))))⟩])
 (.cond (.t 18) (.seq (.reg [⟨(some 19), none, (.p (.mov (.t 4)))⟩, ⟨(some 20), none, (.p (.mov (.t 5)))⟩, ⟨(some 2), none, (.p (.mov (.t 19)))⟩, ⟨(some 3), none, (.p (.mov (.t 20)))⟩])
 (.ret)) (.skip)))
 (.reg [⟨(some 21), none, (.p (.mov (.t 4)))⟩, ⟨(some 22), none, (.p (.load true 4 (.t 6)))⟩, ⟨(some 23), none, (.m (.buildS 34 4 (.agg [.int .i64 0, .int .i64 0, .int .i64 0, .nilS]) 1 [(0, (.t 22))]))⟩, ⟨(some 24), none, (.m (.app 34 4 48 (.t 21) (.t 23)))⟩, ⟨(some 25), none, (.p (.mov (.t 5)))⟩, ⟨(some 26), none, (.p (.mov (.t 7)))⟩, ⟨(some 27), none, (.p (.bin 0 .add (.t 25) (.t 26)))⟩, ⟨(some 4), none, (.p (.mov (.t 24)))⟩, ⟨(some 5), none, (.p (.mov (.t 27)))⟩]))))))))
theorem m_wrec_ok : compF Try.prog 42 = some (28, m_wrec, [.mov (.t 2), .mov (.t 3)]) := by kernel_rfl
def m_rrec : MC := .seq (.reg [⟨(some 2), none, (.p (.mov (.c (.nilS))))⟩, ⟨(some 3), none, (.p (.mov (.c (.int .i64 0))))⟩])
 (.seq (.reg [⟨(some 4), none, (.p (.mov (.c (.nilS))))⟩])
 (.seq (.reg [⟨(some 5), none, (.p (.mov (.c (.int .i64 0))))⟩])
 (.block 0 (.loop (.block 1 (.seq (.reg [⟨(some 10), none, (.p (.mov (.t 0)))⟩, ⟨(some 11), none, (.p (.mov (.t 5)))⟩, ⟨(some 12), none, (.m (.sl 1 (.t 10) (some (.t 11)) none none))⟩, ⟨(some 13), none, (.call 65 [(.t 12)])⟩, ⟨(some 9), none, (.p (.mov (.t 13)))⟩, ⟨(some 14), none, (.p (.ext (.t 9) 0))⟩, ⟨(some 15), none, (.p (.ext (.t 9) 1))⟩, ⟨(some 16), none, (.p (.ext (.t 9) 2))⟩, ⟨(some 6), none, (.m (.alloc 34 (.agg [.int .i64 0, .int .i64 0, .int .i64 0, .nilS])))⟩, ⟨none, none, (.m (.store 4 (.t 6) (.t 14)))⟩, ⟨(some 7), none, (.p (.mov (.t 15)))⟩, ⟨(some 8), none, (.p (.mov (.t 16)))⟩])
 (.seq (.seq (.reg [⟨(some 17), none, (.p (.mov (.t 8)))⟩, ⟨(some 18), none, (.p (.bin 0 .neq (.t 17) (.c (.int .i64 0))))⟩])
 (.cond (.t 18) (.seq (.reg [⟨(some 19), none, (.p (.mov (.t 4)))⟩, ⟨(some 20), none, (.p (.mov (.t 5)))⟩, ⟨(some 2), none, (.p (.mov (.t 19)))⟩, ⟨(some 3), none, (.p (.mov (.t 20)))⟩])
 (.ret)) (.skip)))
 (.seq (.reg [⟨(some 21), none, (.p (.mov (.t 4)))⟩, ⟨(some 22), none, (.p (.load true 4 (.t 6)))⟩, ⟨(some 23), none, (.m (.buildS 34 4 (.agg [.int .i64 0, .int .i64 0, .int .i64 0, .nilS]) 1 [(0, (.t 22))]))⟩, ⟨(some 24), none, (.m (.app 34 4 48 (.t 21) (.t 23)))⟩, ⟨(some 4), none, (.p (.mov (.t 24)))⟩])
 (.reg [⟨(some 25), none, (.p (.mov (.t 5)))⟩, ⟨(some 26), none, (.p (.mov (.t 7)))⟩, ⟨(some 27), none, (.p (.bin 0 .add (.t 25) (.t 26)))⟩, ⟨(some 5), none, (.p (.mov (.t 27)))⟩])))))))))
theorem m_rrec_ok : compF Try.prog 67 = some (28, m_rrec, [.mov (.t 2), .mov (.t 3)]) := by kernel_rfl
def sApp (j : List Int) (n : Note) : List Int × Int := if (sEnc n).2 ≠ 0 then ([], (sEnc n).2) else if j.length + (sEnc n).1.length > 262144 then ([], 3) else (j ++ (sEnc n).1, 0)
theorem sEnc_len (n : Note) : (sEnc n).1.length ≤ 4012 := by
  unfold sEnc
  split
  · rename_i ok
    have := (chkN_0 ok).2.2.2.2.2.2
    rw [encB_len]; omega
  · simp
theorem flat2 (a b : List Int) : [a, b].flatten = a ++ b := by simp
/-- Notes, read from a place on. -/
noncomputable def recF (j : List Int) : Nat → List Note → Nat → List Note × Nat
  | 0, out, at_ => (out, at_)
  | f + 1, out, at_ => if (sDec (j.drop at_)).2.2 ≠ 0 then (out, at_) else recF j f (out ++ [(sDec (j.drop at_)).1]) (at_ + (sDec (j.drop at_)).2.1.toNat)
noncomputable def sRec (j : List Int) : List Note × Nat := recF j (j.length + 1) [] 0
theorem sDec_ok (b : List Int) : (sDec b).2.2 = 0 → 12 ≤ (sDec b).2.1 ∧ (sDec b).2.1 ≤ ((b.length : Nat) : Int) := by
  unfold sDec
  split
  · intro h; simp at h
  · split
    · intro h; simp at h
    · split
      · intro h; simp at h
      · split
        · intro _; dsimp only; omega
        · intro h; simp at h
abbrev noteV (t : Bool) (n : Note) : V := .agg (noteL t n)
instance : Inhabited Note := ⟨⟨0, 0, 0, []⟩⟩
instance (t : Bool) : Lo (noteV t) (noteV false) := ⟨fun _ => rfl, fun o => by simp only [noteV, noteL, V.low, V.lows, lows_lo]⟩
theorem snoc_note (t : Bool) (l : List Note) (n : Note) (r : List V) : l.map (noteV t) ++ (V.agg (noteL t n) :: r) = (l ++ [n]).map (noteV t) ++ r := by simp
attribute [local go_sem] take_mapU drop_mapU List.take_length snoc_note
attribute [local irreducible] sEnc sDec
set_option maxHeartbeats 4000000 in
theorem wapp_fn (j : List Int) (n : Note) : Fnc Try.prog 41 [.sl false 1 (u8s j), .agg (noteL false n)] (fun x obs => x = .tup [.sl false 1 (u8s (sApp j n).1), .int .i64 (sApp j n).2] ∧ obs = []) := by
  refine Fnc.wf fun hw => ?_
  simp only [V.wfs, V.wf, List.length_map] at hw
  have hm := hw.1.2
  clear hw
  refine Fnc.low ?_
  have ef := wenc_fn n
  have hl := sEnc_len n
  have hA : sApp j n = if (sEnc n).2 ≠ 0 then ([], (sEnc n).2) else if j.length + (sEnc n).1.length > 262144 then ([], 3) else (j ++ (sEnc n).1, 0) := rfl
  generalize sEnc n = r at ef hl hA
  by_cases c1 : r.2 = 0
  · by_cases c2 : j.length + r.1.length > 262144
    · rw [if_neg (fun h => h c1), if_pos c2] at hA
      rw [hA]
      refine Fnc.intro m_wapp_ok (by simp) fun W S => ?_
      unfold m_wapp
      simp only [ents, Nat.zero_add, Nat.reduceAdd]
      repeat (first | refine And.intro (by omega) ?_ | refine And.intro rfl ?_ | refine ev_ctl rfl rfl ?_ | refine evr_nil ?_ | refine evw_nil (by kernel_rfl) ?_ | (simp (disch := omega) only [takeAll, Nat.min_eq_left, Nat.min_eq_right, if_pos, if_neg, getD_map, wrapI64, modIn, fdivE, tmodE, tdivE, decT, decF, beqT, beqF, bneT, bneF, Int.toNat_natCast]; try simp only [go_sem]) | refine ev_condTb rfl (by simp <;> omega) ?_ | refine ev_condFb rfl (by simp <;> omega) ?_ | ((first | refine ev_region ?_ | refine evr_go rfl ?_ | refine evw_go rfl ?_ | refine ev_dr0 mixed rfl (by kernel_rfl) ?_ | refine ev_dr1 mixed rfl (by kernel_rfl) ?_ | refine ev_dr2 mixed rfl (by kernel_rfl) ?_); simp only [go_sem]))
      (first | refine callD (ef) ?_ | refine callDw (ef) ?_); simp only [go_sem]
      repeat (first | refine And.intro (by omega) ?_ | refine And.intro rfl ?_ | refine ev_ctl rfl rfl ?_ | refine evr_nil ?_ | refine evw_nil (by kernel_rfl) ?_ | (simp (disch := omega) only [takeAll, Nat.min_eq_left, Nat.min_eq_right, if_pos, if_neg, getD_map, wrapI64, modIn, fdivE, tmodE, tdivE, decT, decF, beqT, beqF, bneT, bneF, Int.toNat_natCast]; try simp only [go_sem]) | refine ev_condTb rfl (by simp <;> omega) ?_ | refine ev_condFb rfl (by simp <;> omega) ?_ | ((first | refine ev_region ?_ | refine evr_go rfl ?_ | refine evw_go rfl ?_ | refine ev_dr0 mixed rfl (by kernel_rfl) ?_ | refine ev_dr1 mixed rfl (by kernel_rfl) ?_ | refine ev_dr2 mixed rfl (by kernel_rfl) ?_); simp only [go_sem]))
      refine ev_nil2 4 false 1 rfl ?_
      refine ret m_wapp_ok [] ?_; (first | (simp only [go_sem]; done) | (simp only [go_sem]; ((try dsimp only); (repeat' (refine And.intro ?_ ?_)) <;> first | with_reducible rfl | (simp only [go_sem]; done) | (simp only [go_sem]; rfl) | (simp only []; (try simp only [go_sem]); first | done | rfl) | (simp only [go_sem]; simp []; done) | (simp []; done) | rfl)))
    · rw [if_neg (fun h => h c1), if_neg c2] at hA
      rw [hA]
      refine Fnc.intro m_wapp_ok (by simp) fun W S => ?_
      unfold m_wapp
      simp only [ents, Nat.zero_add, Nat.reduceAdd]
      repeat (first | refine And.intro (by omega) ?_ | refine And.intro rfl ?_ | refine ev_ctl rfl rfl ?_ | refine evr_nil ?_ | refine evw_nil (by kernel_rfl) ?_ | (simp (disch := omega) only [takeAll, Nat.min_eq_left, Nat.min_eq_right, if_pos, if_neg, getD_map, wrapI64, modIn, fdivE, tmodE, tdivE, decT, decF, beqT, beqF, bneT, bneF, Int.toNat_natCast]; try simp only [go_sem]) | refine ev_condTb rfl (by simp <;> omega) ?_ | refine ev_condFb rfl (by simp <;> omega) ?_ | ((first | refine ev_region ?_ | refine evr_go rfl ?_ | refine evw_go rfl ?_ | refine ev_dr0 mixed rfl (by kernel_rfl) ?_ | refine ev_dr1 mixed rfl (by kernel_rfl) ?_ | refine ev_dr2 mixed rfl (by kernel_rfl) ?_); simp only [go_sem]))
      (first | refine callD (ef) ?_ | refine callDw (ef) ?_); simp only [go_sem]
      repeat (first | refine And.intro (by omega) ?_ | refine And.intro rfl ?_ | refine ev_ctl rfl rfl ?_ | refine evr_nil ?_ | refine evw_nil (by kernel_rfl) ?_ | (simp (disch := omega) only [takeAll, Nat.min_eq_left, Nat.min_eq_right, if_pos, if_neg, getD_map, wrapI64, modIn, fdivE, tmodE, tdivE, decT, decF, beqT, beqF, bneT, bneF, Int.toNat_natCast]; try simp only [go_sem]) | refine ev_condTb rfl (by simp <;> omega) ?_ | refine ev_condFb rfl (by simp <;> omega) ?_ | ((first | refine ev_region ?_ | refine evr_go rfl ?_ | refine evw_go rfl ?_ | refine ev_dr0 mixed rfl (by kernel_rfl) ?_ | refine ev_dr1 mixed rfl (by kernel_rfl) ?_ | refine ev_dr2 mixed rfl (by kernel_rfl) ?_); simp only [go_sem]))
      have j1 := join_fn [j, r.1] (by rw [flat2, List.length_append]; omega)
      rw [flat2] at j1
      (first | refine callD (j1) ?_ | refine callDw (j1) ?_); simp only [go_sem, bsV]
      repeat (first | refine And.intro (by omega) ?_ | refine And.intro rfl ?_ | refine ev_ctl rfl rfl ?_ | refine evr_nil ?_ | refine evw_nil (by kernel_rfl) ?_ | (simp (disch := omega) only [takeAll, Nat.min_eq_left, Nat.min_eq_right, if_pos, if_neg, getD_map, wrapI64, modIn, fdivE, tmodE, tdivE, decT, decF, beqT, beqF, bneT, bneF, Int.toNat_natCast]; try simp only [go_sem]) | refine ev_condTb rfl (by simp <;> omega) ?_ | refine ev_condFb rfl (by simp <;> omega) ?_ | ((first | refine ev_region ?_ | refine evr_go rfl ?_ | refine evw_go rfl ?_ | refine ev_dr0 mixed rfl (by kernel_rfl) ?_ | refine ev_dr1 mixed rfl (by kernel_rfl) ?_ | refine ev_dr2 mixed rfl (by kernel_rfl) ?_); simp only [go_sem]))
      refine ret m_wapp_ok [] ?_; (first | (simp only [go_sem]; done) | (simp only [go_sem]; ((try dsimp only); (repeat' (refine And.intro ?_ ?_)) <;> first | with_reducible rfl | (simp only [go_sem]; done) | (simp only [go_sem]; rfl) | (simp only []; (try simp only [go_sem]); first | done | rfl) | (simp only [go_sem]; simp []; done) | (simp []; done) | rfl)))
  · rw [if_pos c1] at hA
    rw [hA]
    refine Fnc.intro m_wapp_ok (by simp) fun W S => ?_
    unfold m_wapp
    simp only [ents, Nat.zero_add, Nat.reduceAdd]
    repeat (first | refine And.intro (by omega) ?_ | refine And.intro rfl ?_ | refine ev_ctl rfl rfl ?_ | refine evr_nil ?_ | refine evw_nil (by kernel_rfl) ?_ | (simp (disch := omega) only [takeAll, Nat.min_eq_left, Nat.min_eq_right, if_pos, if_neg, getD_map, wrapI64, modIn, fdivE, tmodE, tdivE, decT, decF, beqT, beqF, bneT, bneF, Int.toNat_natCast]; try simp only [go_sem]) | refine ev_condTb rfl (by simp <;> omega) ?_ | refine ev_condFb rfl (by simp <;> omega) ?_ | ((first | refine ev_region ?_ | refine evr_go rfl ?_ | refine evw_go rfl ?_ | refine ev_dr0 mixed rfl (by kernel_rfl) ?_ | refine ev_dr1 mixed rfl (by kernel_rfl) ?_ | refine ev_dr2 mixed rfl (by kernel_rfl) ?_); simp only [go_sem]))
    (first | refine callD (ef) ?_ | refine callDw (ef) ?_); simp only [go_sem]
    repeat (first | refine And.intro (by omega) ?_ | refine And.intro rfl ?_ | refine ev_ctl rfl rfl ?_ | refine evr_nil ?_ | refine evw_nil (by kernel_rfl) ?_ | (simp (disch := omega) only [takeAll, Nat.min_eq_left, Nat.min_eq_right, if_pos, if_neg, getD_map, wrapI64, modIn, fdivE, tmodE, tdivE, decT, decF, beqT, beqF, bneT, bneF, Int.toNat_natCast]; try simp only [go_sem]) | refine ev_condTb rfl (by simp <;> omega) ?_ | refine ev_condFb rfl (by simp <;> omega) ?_ | ((first | refine ev_region ?_ | refine evr_go rfl ?_ | refine evw_go rfl ?_ | refine ev_dr0 mixed rfl (by kernel_rfl) ?_ | refine ev_dr1 mixed rfl (by kernel_rfl) ?_ | refine ev_dr2 mixed rfl (by kernel_rfl) ?_); simp only [go_sem]))
    refine ev_nil2 4 false 1 rfl ?_
    refine ret m_wapp_ok [] ?_; (first | (simp only [go_sem]; done) | (simp only [go_sem]; ((try dsimp only); (repeat' (refine And.intro ?_ ?_)) <;> first | with_reducible rfl | (simp only [go_sem]; done) | (simp only [go_sem]; rfl) | (simp only []; (try simp only [go_sem]); first | done | rfl) | (simp only [go_sem]; simp []; done) | (simp []; done) | rfl)))
set_option maxHeartbeats 4000000 in
theorem rapp_fn (j : List Int) (n : Note) : Fnc Try.prog 66 [.sl false 1 (u8s j), .agg (noteL false n)] (fun x obs => x = .tup [.sl false 1 (u8s (sApp j n).1), .int .i64 (sApp j n).2] ∧ obs = []) := by
  refine Fnc.wf fun hw => ?_
  simp only [V.wfs, V.wf, List.length_map] at hw
  have hm := hw.1.2
  clear hw
  refine Fnc.low ?_
  have ef := renc_fn n
  have hl := sEnc_len n
  have hA : sApp j n = if (sEnc n).2 ≠ 0 then ([], (sEnc n).2) else if j.length + (sEnc n).1.length > 262144 then ([], 3) else (j ++ (sEnc n).1, 0) := rfl
  generalize sEnc n = r at ef hl hA
  by_cases c1 : r.2 = 0
  · by_cases c2 : j.length + r.1.length > 262144
    · rw [if_neg (fun h => h c1), if_pos c2] at hA
      rw [hA]
      refine Fnc.intro m_rapp_ok (by simp) fun W S => ?_
      unfold m_rapp
      simp only [ents, Nat.zero_add, Nat.reduceAdd]
      repeat (first | refine And.intro (by omega) ?_ | refine And.intro rfl ?_ | refine ev_ctl rfl rfl ?_ | refine evr_nil ?_ | refine evw_nil (by kernel_rfl) ?_ | (simp (disch := omega) only [takeAll, Nat.min_eq_left, Nat.min_eq_right, if_pos, if_neg, getD_map, wrapI64, modIn, fdivE, tmodE, tdivE, decT, decF, beqT, beqF, bneT, bneF, Int.toNat_natCast]; try simp only [go_sem]) | refine ev_condTb rfl (by simp <;> omega) ?_ | refine ev_condFb rfl (by simp <;> omega) ?_ | ((first | refine ev_region ?_ | refine evr_go rfl ?_ | refine evw_go rfl ?_ | refine ev_dr0 mixed rfl (by kernel_rfl) ?_ | refine ev_dr1 mixed rfl (by kernel_rfl) ?_ | refine ev_dr2 mixed rfl (by kernel_rfl) ?_); simp only [go_sem]))
      (first | refine callD (ef) ?_ | refine callDw (ef) ?_); simp only [go_sem]
      repeat (first | refine And.intro (by omega) ?_ | refine And.intro rfl ?_ | refine ev_ctl rfl rfl ?_ | refine evr_nil ?_ | refine evw_nil (by kernel_rfl) ?_ | (simp (disch := omega) only [takeAll, Nat.min_eq_left, Nat.min_eq_right, if_pos, if_neg, getD_map, wrapI64, modIn, fdivE, tmodE, tdivE, decT, decF, beqT, beqF, bneT, bneF, Int.toNat_natCast]; try simp only [go_sem]) | refine ev_condTb rfl (by simp <;> omega) ?_ | refine ev_condFb rfl (by simp <;> omega) ?_ | ((first | refine ev_region ?_ | refine evr_go rfl ?_ | refine evw_go rfl ?_ | refine ev_dr0 mixed rfl (by kernel_rfl) ?_ | refine ev_dr1 mixed rfl (by kernel_rfl) ?_ | refine ev_dr2 mixed rfl (by kernel_rfl) ?_); simp only [go_sem]))
      refine ev_nil2 4 false 1 rfl ?_
      refine ret m_rapp_ok [] ?_; (first | (simp only [go_sem]; done) | (simp only [go_sem]; ((try dsimp only); (repeat' (refine And.intro ?_ ?_)) <;> first | with_reducible rfl | (simp only [go_sem]; done) | (simp only [go_sem]; rfl) | (simp only []; (try simp only [go_sem]); first | done | rfl) | (simp only [go_sem]; simp []; done) | (simp []; done) | rfl)))
    · rw [if_neg (fun h => h c1), if_neg c2] at hA
      rw [hA]
      refine Fnc.intro m_rapp_ok (by simp) fun W S => ?_
      unfold m_rapp
      simp only [ents, Nat.zero_add, Nat.reduceAdd]
      repeat (first | refine And.intro (by omega) ?_ | refine And.intro rfl ?_ | refine ev_ctl rfl rfl ?_ | refine evr_nil ?_ | refine evw_nil (by kernel_rfl) ?_ | (simp (disch := omega) only [takeAll, Nat.min_eq_left, Nat.min_eq_right, if_pos, if_neg, getD_map, wrapI64, modIn, fdivE, tmodE, tdivE, decT, decF, beqT, beqF, bneT, bneF, Int.toNat_natCast]; try simp only [go_sem]) | refine ev_condTb rfl (by simp <;> omega) ?_ | refine ev_condFb rfl (by simp <;> omega) ?_ | ((first | refine ev_region ?_ | refine evr_go rfl ?_ | refine evw_go rfl ?_ | refine ev_dr0 mixed rfl (by kernel_rfl) ?_ | refine ev_dr1 mixed rfl (by kernel_rfl) ?_ | refine ev_dr2 mixed rfl (by kernel_rfl) ?_); simp only [go_sem]))
      (first | refine callD (ef) ?_ | refine callDw (ef) ?_); simp only [go_sem]
      repeat (first | refine And.intro (by omega) ?_ | refine And.intro rfl ?_ | refine ev_ctl rfl rfl ?_ | refine evr_nil ?_ | refine evw_nil (by kernel_rfl) ?_ | (simp (disch := omega) only [takeAll, Nat.min_eq_left, Nat.min_eq_right, if_pos, if_neg, getD_map, wrapI64, modIn, fdivE, tmodE, tdivE, decT, decF, beqT, beqF, bneT, bneF, Int.toNat_natCast]; try simp only [go_sem]) | refine ev_condTb rfl (by simp <;> omega) ?_ | refine ev_condFb rfl (by simp <;> omega) ?_ | ((first | refine ev_region ?_ | refine evr_go rfl ?_ | refine evw_go rfl ?_ | refine ev_dr0 mixed rfl (by kernel_rfl) ?_ | refine ev_dr1 mixed rfl (by kernel_rfl) ?_ | refine ev_dr2 mixed rfl (by kernel_rfl) ?_); simp only [go_sem]))
      refine ret m_rapp_ok [] ?_; (first | (simp only [go_sem]; done) | (simp only [go_sem]; ((try dsimp only); (repeat' (refine And.intro ?_ ?_)) <;> first | with_reducible rfl | (simp only [go_sem]; done) | (simp only [go_sem]; rfl) | (simp only []; (try simp only [go_sem]); first | done | rfl) | (simp only [go_sem]; simp []; done) | (simp []; done) | rfl)))
  · rw [if_pos c1] at hA
    rw [hA]
    refine Fnc.intro m_rapp_ok (by simp) fun W S => ?_
    unfold m_rapp
    simp only [ents, Nat.zero_add, Nat.reduceAdd]
    repeat (first | refine And.intro (by omega) ?_ | refine And.intro rfl ?_ | refine ev_ctl rfl rfl ?_ | refine evr_nil ?_ | refine evw_nil (by kernel_rfl) ?_ | (simp (disch := omega) only [takeAll, Nat.min_eq_left, Nat.min_eq_right, if_pos, if_neg, getD_map, wrapI64, modIn, fdivE, tmodE, tdivE, decT, decF, beqT, beqF, bneT, bneF, Int.toNat_natCast]; try simp only [go_sem]) | refine ev_condTb rfl (by simp <;> omega) ?_ | refine ev_condFb rfl (by simp <;> omega) ?_ | ((first | refine ev_region ?_ | refine evr_go rfl ?_ | refine evw_go rfl ?_ | refine ev_dr0 mixed rfl (by kernel_rfl) ?_ | refine ev_dr1 mixed rfl (by kernel_rfl) ?_ | refine ev_dr2 mixed rfl (by kernel_rfl) ?_); simp only [go_sem]))
    (first | refine callD (ef) ?_ | refine callDw (ef) ?_); simp only [go_sem]
    repeat (first | refine And.intro (by omega) ?_ | refine And.intro rfl ?_ | refine ev_ctl rfl rfl ?_ | refine evr_nil ?_ | refine evw_nil (by kernel_rfl) ?_ | (simp (disch := omega) only [takeAll, Nat.min_eq_left, Nat.min_eq_right, if_pos, if_neg, getD_map, wrapI64, modIn, fdivE, tmodE, tdivE, decT, decF, beqT, beqF, bneT, bneF, Int.toNat_natCast]; try simp only [go_sem]) | refine ev_condTb rfl (by simp <;> omega) ?_ | refine ev_condFb rfl (by simp <;> omega) ?_ | ((first | refine ev_region ?_ | refine evr_go rfl ?_ | refine evw_go rfl ?_ | refine ev_dr0 mixed rfl (by kernel_rfl) ?_ | refine ev_dr1 mixed rfl (by kernel_rfl) ?_ | refine ev_dr2 mixed rfl (by kernel_rfl) ?_); simp only [go_sem]))
    refine ev_nil2 4 false 1 rfl ?_
    refine ret m_rapp_ok [] ?_; (first | (simp only [go_sem]; done) | (simp only [go_sem]; ((try dsimp only); (repeat' (refine And.intro ?_ ?_)) <;> first | with_reducible rfl | (simp only [go_sem]; done) | (simp only [go_sem]; rfl) | (simp only []; (try simp only [go_sem]); first | done | rfl) | (simp only [go_sem]; simp []; done) | (simp []; done) | rfl)))
set_option maxHeartbeats 4000000 in
theorem wrec_fn (j : List Int) (hj : j.length ≤ 1000000) : Fnc Try.prog 42 [.sl false 1 (u8s j)] (fun x obs => x = .tup [.sl false 4 ((sRec j).1.map (noteV false)), .int .i64 (sRec j).2] ∧ obs = []) := by
  obtain ⟨s, hs⟩ : ∃ s, sRec j = s := ⟨_, rfl⟩
  rw [hs]
  refine Fnc.low ?_
  refine Fnc.intro m_wrec_ok (by simp) fun W S => ?_
  unfold m_wrec
  simp only [ents, Nat.zero_add, Nat.reduceAdd]
  repeat (first | refine And.intro (by omega) ?_ | refine And.intro rfl ?_ | refine ev_ctl rfl rfl ?_ | refine evr_nil ?_ | refine evw_nil (by kernel_rfl) ?_ | (simp (disch := omega) only [takeAll, Nat.min_eq_left, Nat.min_eq_right, if_pos, if_neg, getD_map, wrapI64, modIn, fdivE, tmodE, tdivE, decT, decF, beqT, beqF, bneT, bneF, Int.toNat_natCast]; try simp only [go_sem]) | refine ev_condTb rfl (by simp <;> omega) ?_ | refine ev_condFb rfl (by simp <;> omega) ?_ | ((first | refine ev_region ?_ | refine evr_go rfl ?_ | refine evw_go rfl ?_ | refine ev_dr0 mixed rfl (by kernel_rfl) ?_ | refine ev_dr1 mixed rfl (by kernel_rfl) ?_ | refine ev_dr2 mixed rfl (by kernel_rfl) ?_); simp only [go_sem]))
  refine ev_adopt (i := 4) (e := 34) (s := 4) rfl (by decide) ?_
  refine ev_loopK [0] (fun p : {p : List Note × Nat × Nat × Nat // p.2.1 ≤ j.length ∧ j.length < p.2.1 + p.2.2.1 ∧ p.1.length ≤ p.2.1 ∧ recF j p.2.2.1 p.1 p.2.1 = s} => [(4, .own 0 p.1.2.2.2), (5, .int .i64 p.1.2.1)]) (fun p => [⟨.row 34, true, p.1.2.2.2, .arr 4 (p.1.1.map (noteV false))⟩]) (fun p => j.length - p.1.2.1) (⟨([], 0, j.length + 1, 0), by simp, by simp, by simp, hs⟩) 1 (by simp only [go_sem]; rfl) ?_ (by first | rfl | (simp only [go_sem]; done)) (by simp) (by first | rfl | (simp only [go_sem]; done)) (by first | rfl | (simp only [go_sem]; done)) (by first | rfl | (simp only [go_sem]; done)) ?_
  · (simp only [go_sem]; (try simp []); done)
  intro J hJ
  rintro ⟨⟨out, at_, fu, gr⟩, h1, h2, h3, h4⟩
  dsimp only at h1 h2 h3 h4 ⊢
  have hd := wdec_fn (j.drop at_)
  have hk := sDec_ok (j.drop at_)
  rw [List.length_drop] at hk
  obtain ⟨fu, rfl⟩ : ∃ f, fu = f + 1 := ⟨fu - 1, by omega⟩
  rw [recF] at h4
  generalize sDec (j.drop at_) = r at hd hk h4
  by_cases c : r.2.2 = 0
  · rw [if_neg (fun h => h c)] at h4
    obtain ⟨q, hq⟩ : ∃ q : Nat, r.2.1 = (q : Int) := ⟨r.2.1.toNat, by have := (hk c).1; omega⟩
    have hk := hk c
    rw [hq] at hk h4
    rw [hq] at hd
    rw [Int.toNat_natCast] at h4
    repeat (first | refine And.intro (by omega) ?_ | refine And.intro rfl ?_ | refine ev_ctl rfl rfl ?_ | refine evr_nil ?_ | refine evw_nil (by kernel_rfl) ?_ | (simp (disch := omega) only [takeAll, Nat.min_eq_left, Nat.min_eq_right, if_pos, if_neg, getD_map, wrapI64, modIn, fdivE, tmodE, tdivE, decT, decF, beqT, beqF, bneT, bneF, Int.toNat_natCast]; try simp only [go_sem]) | refine ev_condTb rfl (by simp <;> omega) ?_ | refine ev_condFb rfl (by simp <;> omega) ?_ | ((first | refine ev_region ?_ | refine evr_go rfl ?_ | refine evw_go rfl ?_ | refine ev_dr0 mixed rfl (by kernel_rfl) ?_ | refine ev_dr1 mixed rfl (by kernel_rfl) ?_ | refine ev_dr2 mixed rfl (by kernel_rfl) ?_); simp only [go_sem]))
    (first | refine callD (hd) ?_ | refine callDw (hd) ?_); simp only [go_sem]
    repeat (first | refine And.intro (by omega) ?_ | refine And.intro rfl ?_ | refine ev_ctl rfl rfl ?_ | refine evr_nil ?_ | refine evw_nil (by kernel_rfl) ?_ | (simp (disch := omega) only [takeAll, Nat.min_eq_left, Nat.min_eq_right, if_pos, if_neg, getD_map, wrapI64, modIn, fdivE, tmodE, tdivE, decT, decF, beqT, beqF, bneT, bneF, Int.toNat_natCast]; try simp only [go_sem]) | refine ev_condTb rfl (by simp <;> omega) ?_ | refine ev_condFb rfl (by simp <;> omega) ?_ | ((first | refine ev_region ?_ | refine evr_go rfl ?_ | refine evw_go rfl ?_ | refine ev_dr0 mixed rfl (by kernel_rfl) ?_ | refine ev_dr1 mixed rfl (by kernel_rfl) ?_ | refine ev_dr2 mixed rfl (by kernel_rfl) ?_); simp only [go_sem]))
    refine ev_next 1 (hJ _ (⟨(out ++ [r.1], at_ + q, fu, gr + 1), by dsimp only; omega, by dsimp only; omega, by simp only [List.length_append, List.length_cons, List.length_nil]; omega, h4⟩) (by first | omega | (dsimp only; omega) | (simp; omega))) rfl (by simp) ?_ (by first | rfl | (simp only [go_sem]; done)) (by first | rfl | (simp only [go_sem]; done)) ?_
    · (first | rfl | (simp only [go_sem]; done) | (simp only [go_sem]; simp only []; done) | (simp only [go_sem]; simp []; done) | (simp []; done))
    · (simp only [go_sem]; (repeat' (refine And.intro ?_ ?_)) <;> first | exact trivial | with_reducible rfl | (simp only []; done) | (simp only []; with_reducible rfl) | (simp []; done) | (simp []; omega) | (simp only []; rfl) | skip)
  · rw [if_pos c] at h4
    subst h4
    repeat (first | refine And.intro (by omega) ?_ | refine And.intro rfl ?_ | refine ev_ctl rfl rfl ?_ | refine evr_nil ?_ | refine evw_nil (by kernel_rfl) ?_ | (simp (disch := omega) only [takeAll, Nat.min_eq_left, Nat.min_eq_right, if_pos, if_neg, getD_map, wrapI64, modIn, fdivE, tmodE, tdivE, decT, decF, beqT, beqF, bneT, bneF, Int.toNat_natCast]; try simp only [go_sem]) | refine ev_condTb rfl (by simp <;> omega) ?_ | refine ev_condFb rfl (by simp <;> omega) ?_ | ((first | refine ev_region ?_ | refine evr_go rfl ?_ | refine evw_go rfl ?_ | refine ev_dr0 mixed rfl (by kernel_rfl) ?_ | refine ev_dr1 mixed rfl (by kernel_rfl) ?_ | refine ev_dr2 mixed rfl (by kernel_rfl) ?_); simp only [go_sem]))
    (first | refine callD (hd) ?_ | refine callDw (hd) ?_); simp only [go_sem]
    repeat (first | refine And.intro (by omega) ?_ | refine And.intro rfl ?_ | refine ev_ctl rfl rfl ?_ | refine evr_nil ?_ | refine evw_nil (by kernel_rfl) ?_ | (simp (disch := omega) only [takeAll, Nat.min_eq_left, Nat.min_eq_right, if_pos, if_neg, getD_map, wrapI64, modIn, fdivE, tmodE, tdivE, decT, decF, beqT, beqF, bneT, bneF, Int.toNat_natCast]; try simp only [go_sem]) | refine ev_condTb rfl (by simp <;> omega) ?_ | refine ev_condFb rfl (by simp <;> omega) ?_ | ((first | refine ev_region ?_ | refine evr_go rfl ?_ | refine evw_go rfl ?_ | refine ev_dr0 mixed rfl (by kernel_rfl) ?_ | refine ev_dr1 mixed rfl (by kernel_rfl) ?_ | refine ev_dr2 mixed rfl (by kernel_rfl) ?_); simp only [go_sem]))
    refine ret m_wrec_ok [] ?_; (first | (simp only [go_sem]; done) | (simp only [go_sem]; ((try dsimp only); (repeat' (refine And.intro ?_ ?_)) <;> first | with_reducible rfl | (simp only [go_sem]; done) | (simp only [go_sem]; rfl) | (simp only []; (try simp only [go_sem]); first | done | rfl) | (simp only [go_sem]; simp []; done) | (simp []; done) | rfl)))
set_option maxHeartbeats 4000000 in
theorem rrec_fn (j : List Int) (hj : j.length ≤ 1000000) : Fnc Try.prog 67 [.sl false 1 (u8s j)] (fun x obs => x = .tup [.sl false 4 ((sRec j).1.map (noteV false)), .int .i64 (sRec j).2] ∧ obs = []) := by
  obtain ⟨s, hs⟩ : ∃ s, sRec j = s := ⟨_, rfl⟩
  rw [hs]
  refine Fnc.low ?_
  refine Fnc.intro m_rrec_ok (by simp) fun W S => ?_
  unfold m_rrec
  simp only [ents, Nat.zero_add, Nat.reduceAdd]
  repeat (first | refine And.intro (by omega) ?_ | refine And.intro rfl ?_ | refine ev_ctl rfl rfl ?_ | refine evr_nil ?_ | refine evw_nil (by kernel_rfl) ?_ | (simp (disch := omega) only [takeAll, Nat.min_eq_left, Nat.min_eq_right, if_pos, if_neg, getD_map, wrapI64, modIn, fdivE, tmodE, tdivE, decT, decF, beqT, beqF, bneT, bneF, Int.toNat_natCast]; try simp only [go_sem]) | refine ev_condTb rfl (by simp <;> omega) ?_ | refine ev_condFb rfl (by simp <;> omega) ?_ | ((first | refine ev_region ?_ | refine evr_go rfl ?_ | refine evw_go rfl ?_ | refine ev_dr0 mixed rfl (by kernel_rfl) ?_ | refine ev_dr1 mixed rfl (by kernel_rfl) ?_ | refine ev_dr2 mixed rfl (by kernel_rfl) ?_); simp only [go_sem]))
  refine ev_adopt (i := 4) (e := 34) (s := 4) rfl (by decide) ?_
  refine ev_loopK [0] (fun p : {p : List Note × Nat × Nat × Nat // p.2.1 ≤ j.length ∧ j.length < p.2.1 + p.2.2.1 ∧ p.1.length ≤ p.2.1 ∧ recF j p.2.2.1 p.1 p.2.1 = s} => [(4, .own 0 p.1.2.2.2), (5, .int .i64 p.1.2.1)]) (fun p => [⟨.row 34, true, p.1.2.2.2, .arr 4 (p.1.1.map (noteV false))⟩]) (fun p => j.length - p.1.2.1) (⟨([], 0, j.length + 1, 0), by simp, by simp, by simp, hs⟩) 1 (by simp only [go_sem]; rfl) ?_ (by first | rfl | (simp only [go_sem]; done)) (by simp) (by first | rfl | (simp only [go_sem]; done)) (by first | rfl | (simp only [go_sem]; done)) (by first | rfl | (simp only [go_sem]; done)) ?_
  · (simp only [go_sem]; (try simp []); done)
  intro J hJ
  rintro ⟨⟨out, at_, fu, gr⟩, h1, h2, h3, h4⟩
  dsimp only at h1 h2 h3 h4 ⊢
  have hd := rdec_fn (j.drop at_)
  have hk := sDec_ok (j.drop at_)
  rw [List.length_drop] at hk
  obtain ⟨fu, rfl⟩ : ∃ f, fu = f + 1 := ⟨fu - 1, by omega⟩
  rw [recF] at h4
  generalize sDec (j.drop at_) = r at hd hk h4
  by_cases c : r.2.2 = 0
  · rw [if_neg (fun h => h c)] at h4
    obtain ⟨q, hq⟩ : ∃ q : Nat, r.2.1 = (q : Int) := ⟨r.2.1.toNat, by have := (hk c).1; omega⟩
    have hk := hk c
    rw [hq] at hk h4
    rw [hq] at hd
    rw [Int.toNat_natCast] at h4
    repeat (first | refine And.intro (by omega) ?_ | refine And.intro rfl ?_ | refine ev_ctl rfl rfl ?_ | refine evr_nil ?_ | refine evw_nil (by kernel_rfl) ?_ | (simp (disch := omega) only [takeAll, Nat.min_eq_left, Nat.min_eq_right, if_pos, if_neg, getD_map, wrapI64, modIn, fdivE, tmodE, tdivE, decT, decF, beqT, beqF, bneT, bneF, Int.toNat_natCast]; try simp only [go_sem]) | refine ev_condTb rfl (by simp <;> omega) ?_ | refine ev_condFb rfl (by simp <;> omega) ?_ | ((first | refine ev_region ?_ | refine evr_go rfl ?_ | refine evw_go rfl ?_ | refine ev_dr0 mixed rfl (by kernel_rfl) ?_ | refine ev_dr1 mixed rfl (by kernel_rfl) ?_ | refine ev_dr2 mixed rfl (by kernel_rfl) ?_); simp only [go_sem]))
    (first | refine callD (hd) ?_ | refine callDw (hd) ?_); simp only [go_sem]
    repeat (first | refine And.intro (by omega) ?_ | refine And.intro rfl ?_ | refine ev_ctl rfl rfl ?_ | refine evr_nil ?_ | refine evw_nil (by kernel_rfl) ?_ | (simp (disch := omega) only [takeAll, Nat.min_eq_left, Nat.min_eq_right, if_pos, if_neg, getD_map, wrapI64, modIn, fdivE, tmodE, tdivE, decT, decF, beqT, beqF, bneT, bneF, Int.toNat_natCast]; try simp only [go_sem]) | refine ev_condTb rfl (by simp <;> omega) ?_ | refine ev_condFb rfl (by simp <;> omega) ?_ | ((first | refine ev_region ?_ | refine evr_go rfl ?_ | refine evw_go rfl ?_ | refine ev_dr0 mixed rfl (by kernel_rfl) ?_ | refine ev_dr1 mixed rfl (by kernel_rfl) ?_ | refine ev_dr2 mixed rfl (by kernel_rfl) ?_); simp only [go_sem]))
    refine ev_next 1 (hJ _ (⟨(out ++ [r.1], at_ + q, fu, gr + 1), by dsimp only; omega, by dsimp only; omega, by simp only [List.length_append, List.length_cons, List.length_nil]; omega, h4⟩) (by first | omega | (dsimp only; omega) | (simp; omega))) rfl (by simp) ?_ (by first | rfl | (simp only [go_sem]; done)) (by first | rfl | (simp only [go_sem]; done)) ?_
    · (first | rfl | (simp only [go_sem]; done) | (simp only [go_sem]; simp only []; done) | (simp only [go_sem]; simp []; done) | (simp []; done))
    · (simp only [go_sem]; (repeat' (refine And.intro ?_ ?_)) <;> first | exact trivial | with_reducible rfl | (simp only []; done) | (simp only []; with_reducible rfl) | (simp []; done) | (simp []; omega) | (simp only []; rfl) | skip)
  · rw [if_pos c] at h4
    subst h4
    repeat (first | refine And.intro (by omega) ?_ | refine And.intro rfl ?_ | refine ev_ctl rfl rfl ?_ | refine evr_nil ?_ | refine evw_nil (by kernel_rfl) ?_ | (simp (disch := omega) only [takeAll, Nat.min_eq_left, Nat.min_eq_right, if_pos, if_neg, getD_map, wrapI64, modIn, fdivE, tmodE, tdivE, decT, decF, beqT, beqF, bneT, bneF, Int.toNat_natCast]; try simp only [go_sem]) | refine ev_condTb rfl (by simp <;> omega) ?_ | refine ev_condFb rfl (by simp <;> omega) ?_ | ((first | refine ev_region ?_ | refine evr_go rfl ?_ | refine evw_go rfl ?_ | refine ev_dr0 mixed rfl (by kernel_rfl) ?_ | refine ev_dr1 mixed rfl (by kernel_rfl) ?_ | refine ev_dr2 mixed rfl (by kernel_rfl) ?_); simp only [go_sem]))
    (first | refine callD (hd) ?_ | refine callDw (hd) ?_); simp only [go_sem]
    repeat (first | refine And.intro (by omega) ?_ | refine And.intro rfl ?_ | refine ev_ctl rfl rfl ?_ | refine evr_nil ?_ | refine evw_nil (by kernel_rfl) ?_ | (simp (disch := omega) only [takeAll, Nat.min_eq_left, Nat.min_eq_right, if_pos, if_neg, getD_map, wrapI64, modIn, fdivE, tmodE, tdivE, decT, decF, beqT, beqF, bneT, bneF, Int.toNat_natCast]; try simp only [go_sem]) | refine ev_condTb rfl (by simp <;> omega) ?_ | refine ev_condFb rfl (by simp <;> omega) ?_ | ((first | refine ev_region ?_ | refine evr_go rfl ?_ | refine evw_go rfl ?_ | refine ev_dr0 mixed rfl (by kernel_rfl) ?_ | refine ev_dr1 mixed rfl (by kernel_rfl) ?_ | refine ev_dr2 mixed rfl (by kernel_rfl) ?_); simp only [go_sem]))
    refine ret m_rrec_ok [] ?_; (first | (simp only [go_sem]; done) | (simp only [go_sem]; ((try dsimp only); (repeat' (refine And.intro ?_ ?_)) <;> first | with_reducible rfl | (simp only [go_sem]; done) | (simp only [go_sem]; rfl) | (simp only []; (try simp only [go_sem]); first | done | rfl) | (simp only [go_sem]; simp []; done) | (simp []; done) | rfl)))
end Go.Proofs.Ytdjjhajkpfiagaa
